/- What the law ProofCodes needs: the engine, the walks of what it reaches, plain laws; part 3. -/
import Derived.Test.YtnicmjipbnhciaaDoorProofCodesM2
import Derived.LaidMore
import Derived.LaidHandle
import Derived.Stop.Joined
import Derived.Test.YtnicmjipbnhciaaDoorProg
set_option linter.unnecessarySimpa false
set_option linter.deprecated false
set_option linter.unusedVariables false
set_option linter.unusedSimpArgs false
namespace Go.Proofs.YtnicmjipbnhciaaDoor.X
open Go Go.RowKit Go.Proofs.YtnicmjipbnhciaaDoor.E
variable {G : Tys}
/-- The operation that comes next, if it is wanted: itself, what is protected. -/
def curOp (c : Cfg G) : Option (Oper × List Nat) :=
  match c.top with
  | .ops ops i => (ops[i]?).bind fun o => match guardS ops c.st.l o with | some true => some (o, []) | _ => none
  | .plan ops (.o i _) prot => (ops[i]?).bind fun o => match guardS ops c.st.l o with | some true => some (o, prot) | _ => none
  | _ => none
def nextTop (c : Cfg G) : Top :=
  match c.top with
  | .ops ops i => .ops ops (i + 1)
  | .plan ops (.f _ r) prot => .plan ops r prot
  | .plan ops (.o _ r) prot => .plan ops r prot
  | t => t
def callArgs (l : SSl) (op : Op) : Option (FuncId × List SV) :=
  match op with
  | .call ⟨.value x, args, _⟩ => (evS l x).bind fun sx => match sx with
    | .f f first cap => (evL l args.toList).map fun az => (f, first ++ az ++ cap)
    | _ => none
  | _ => none
def evCall (X : Cx G) (c : Cfg G) (S : Spec G) (ns : List Nat) : Option (FuncId × Prop) :=
  (curOp (nxt X c)).bind fun q => (callArgs (nxt X c).st.l q.1.op).bind fun fa =>
    if dOk X.nt q.1.dst && preOk S ns (nxt X c).st.H && q.2.all (fun k => decide (k < (nxt X c).st.H.length)) && (ownNames ns S.H).all (fun k => !q.2.contains k) then
      (eqL (nlOf (nxt X c).st.H) fa.2 (renL (preN ns) S.args)).bind fun v1 => (mtE (preN ns) (nxt X c).st.H ns S.H).map fun v2 => (fa.1, conj ((runTo X c).2 ++ (v1 ++ v2)))
    else none
def callCfg (S : Spec G) (ns : List Nat) (g : S.γ) (c : Cfg G) : Cfg G :=
  ⟨nextTop c, c.k, ⟨putL ((curOp c).bind (·.1.dst)) (ren (postN S.H.length c.st.H.length ns) (S.post g).2) c.st.l, heapOf S ns g c.st.H⟩⟩
section
variable {X : Cx G} {c : Cfg G}
theorem denL_append (ν : NV) : ∀ x y : List SV, denL ν (x ++ y) = denL ν x ++ denL ν y
  | [], y => by simp [denL]
  | a :: x, y => by simp [denL, denL_append ν x y]
theorem run_enter {ν : NV} {l : SSl} {ρ : Operand → Value} (hρ : Rho ν l ρ) {P : Program} {w : World} {o : Oper} {f : FuncId} {args : List SV} (h : callArgs l o.op = some (f, args)) (hf : callable P f = true) :
    (execOp ρ o).run P w = .ok (.enter f (denL ν args).toArray) w := by
  unfold callArgs at h
  split at h
  · rename_i x az tys ho
    obtain ⟨sx, hx, h⟩ := Option.bind_eq_some_iff.1 h
    split at h
    · rename_i f' first cap
      obtain ⟨bs, h1, h2⟩ := Option.map_eq_some_iff.1 h
      injection h2 with h2 h3
      subst h2; subst h3
      have e1 : az.map ρ = (denL ν bs).toArray := by rw [← evL_ok hρ h1]; apply Array.ext'; simp
      have e2 : (denL ν first).toArray ++ (denL ν bs).toArray ++ (denL ν cap).toArray = (denL ν (first ++ bs ++ cap)).toArray := by
        rw [denL_append, denL_append]; simp
      have hx' := hρ x _ hx
      simp only [den] at hx'
      simp only [execOp, ho, resolve, hx', Deferred.ofValue, Sem.run_bind, Sem.run_pure, Result.andThen_ok, invoke]
      have e3 : (fun z => ρ z) = ρ := rfl
      rw [e1, e2, run_callFunc hf]
    · simp at h
  · simp at h
theorem v_call {f : FuncId} (S : Spec G) (ns : List Nat) (ok : FOk X.En f S) (V : Prop) (hV : V) (K : ∀ g, S.prop g → VC X (callCfg S ns g (nxt X c))) (h : evCall X c S ns = some (f, V) := by kernel_rfl) : VC X c := by
  unfold evCall at h
  obtain ⟨q, hq, h⟩ := Option.bind_eq_some_iff.1 h
  obtain ⟨fa, hfa, h⟩ := Option.bind_eq_some_iff.1 h
  split at h
  · rename_i hc
    simp only [Bool.and_eq_true, List.all_eq_true, decide_eq_true_eq, Bool.not_eq_true', List.contains_eq_mem, decide_eq_false_iff_not] at hc
    obtain ⟨⟨⟨c1, c2⟩, c3⟩, c4⟩ := hc
    obtain ⟨v1, h1, h⟩ := Option.bind_eq_some_iff.1 h
    obtain ⟨v2, h2, h3⟩ := Option.map_eq_some_iff.1 h
    injection h3 with h3 h4
    subst h4
    obtain ⟨p1, p2⟩ := conj_append hV
    obtain ⟨p3, p4⟩ := conj_append p2
    obtain ⟨o, prot⟩ := q
    obtain ⟨f', args⟩ := fa
    simp only at h3 c1 c3 c4 h1 hfa
    subst h3
    refine run_ok p1 ⟨fun ν F σ a w hs => ?_⟩
    have hpre := pre_sat hs.S c2 h2 (conj_all p4)
    have hargs : denL ν args = denL (fun n => ν (preN ns n)) S.args := by rw [(eqL_ok ν (nlOf_ok hs.S) _ _ h1 (conj_all p3)).1, denL_ren]
    have hcall := ok.2 _ _ σ w hpre
    rw [← hargs] at hcall
    have henter := run_enter hs.rho (P := X.En.P) (w := w) hfa ok.1
    have hcur : (curOp (nxt X c)).bind (·.1.dst) = o.dst := by rw [hq]; rfl
    have main : ∀ e w', RetOk S (fun n => ν (preN ns n)) (fun m b => ∃ e, S.H[m]? = some e ∧ e.stays = false ∧ F (preN ns m) b) σ w e w' →
        ∃ v ν2 F2 σ' g, e = .returned v ∧ S.prop g ∧ SatSt X ν2 F2 σ' (a.put o.dst v) w' (callCfg S ns g (nxt X c)).st ∧ (∀ M, MOk prot F w M → Stp M σ w σ' w' ∧ MOk prot F2 w' M) := by
      rintro e w' ⟨g, νc, Fc, σ', rfl, hP⟩
      obtain ⟨ν2, F2, k1, k2, k3, k4⟩ := post_sat hs c2 h2 (conj_all p4) hP
      refine ⟨_, ν2, F2, σ', g, rfl, hP.p, ?_, fun M hM => k4 prot M hM c3 c4⟩
      have := k1.put (d := o.dst) c1 k3
      rw [k2] at this
      simp only [callCfg, hcur]
      exact this
    unfold curOp at hq
    cases ht : (nxt X c).top with
    | ops ops i =>
      rw [ht] at hq
      simp only at hq
      obtain ⟨o', hi, hq⟩ := Option.bind_eq_some_iff.1 hq
      split at hq
      · rename_i hg
        injection hq with hq; injection hq with hq1 hq2
        subst hq1; subst hq2
        show wpAt X.En.P ops _ i a w
        refine r_at (wpOp_on hi (guardS_ok hs hg) ?_)
        unfold Oper.wp
        rw [henter, Oper.upon_enter]
        refine Calls.mono hcall fun e w' hR => ?_
        obtain ⟨v, ν2, F2, σ', g, rfl, hp, hs2, _⟩ := main e w' hR
        have := (K g hp).h ν2 F2 σ' _ w' hs2
        have e1 : (callCfg S ns g (nxt X c)).top = .ops ops (i + 1) := by simp only [callCfg, nextTop, ht]
        rw [e1] at this
        exact this
      · simp at hq
    | plan ops π prot' =>
      rw [ht] at hq
      cases π with
      | e => simp at hq
      | f i r => simp at hq
      | c i r alt => simp at hq
      | o i r =>
        simp only at hq
        obtain ⟨o', hi, hq⟩ := Option.bind_eq_some_iff.1 hq
        split at hq
        · rename_i hg
          injection hq with hq; injection hq with hq1 hq2
          subst hq1; subst hq2
          intro M hM
          refine wpOp_on hi (guardS_ok hs hg) ?_
          unfold Oper.wp
          rw [henter, Oper.upon_enter]
          refine Calls.mono hcall fun e w' hR => ?_
          obtain ⟨v, ν2, F2, σ', g, rfl, hp, hs2, hM2⟩ := main e w' hR
          obtain ⟨m1, m2⟩ := hM2 M hM
          have := (K g hp).h ν2 F2 σ' _ w' hs2
          have e1 : (callCfg S ns g (nxt X c)).top = .plan ops r prot' := by simp only [callCfg, nextTop, ht]
          rw [e1] at this
          exact ⟨σ', m1, this M m2⟩
        · simp at hq
    | code _ => rw [ht] at hq; simp at hq
    | exit _ => rw [ht] at hq; simp at hq
  · simp at h
def noPlan : Top → Bool | .plan _ _ _ => false | _ => true
def isEnd : Ex → Bool | .nm | .rt => true | _ => false
def markCfg (e : Nat) (c : Cfg G) : Cfg G := ⟨c.top, c.k, ⟨c.st.l, c.st.H ++ [.mu e []]⟩⟩
theorem v_mark (e : Nat) (K : VC X (markCfg e c)) (h : noPlan c.top = true := by kernel_rfl) : VC X c := by
  refine ⟨fun ν F σ a w hs => ?_⟩
  have hD : DoOk ν F σ w c.st.H (c.st.H ++ [.mu e []]) [] fun _ σ' w' => σ' = σ ∧ w' = w :=
    do_add hs.S (Stp.refl noM σ w) (.slice none 0 0) rfl (.mu e []) (fun _ => False) (fun b hb => hb.elim) ⟨⟨[], ⟨by simp, .inl ⟨rfl, rfl⟩⟩, rfl, by simp, fun g hg => by simp [Value.ownBlock] at hg⟩, fun b hb => by simp [Value.ownBlock] at hb⟩ rfl ⟨rfl, rfl⟩
  obtain ⟨ν', F', σ', w', h1, h2, h3, h4, h5, rfl, rfl⟩ := hD
  have g := hs.grow h4 h1 h2 h3 (fun b ⟨m, _, hb⟩ => ⟨m, hb⟩) (fun k b hk => by
    rcases h5 k b hk with ⟨_, c⟩ | ⟨_, ⟨m, _, c⟩ | c⟩
    · exact .inl ⟨k, c⟩
    · exact .inl ⟨m, c⟩
    · exact .inr c)
  have := K.h _ _ _ a _ g
  unfold markCfg at this
  cases hq : c.top with
  | plan _ _ _ => rw [hq] at h; simp [noPlan] at h
  | code cd => rw [hq] at this; exact this
  | ops o i => rw [hq] at this; exact this
  | exit e => rw [hq] at this; exact this
theorem mu_rd {α : Type} {T : Ty α} {e : TypeId} {F : Nat → Prop} {σ : Nat → Nat} {w : World} {v : Value} {xs : List α} (h : Mu T e σ w v xs) (hF : ∀ b, v.ownBlock = some b → F b) : ∃ σ', Stp F σ w σ' w ∧ Rd T σ' w v xs := by
  obtain ⟨cs, ho, hr, hb, hs⟩ := h
  refine ⟨fun b => if v.ownBlock = some b then xs.length * T.sz else σ b, ?_⟩
  have st : Stp F σ w (fun b => if v.ownBlock = some b then xs.length * T.sz else σ b) w := by
    refine ⟨rfl, rfl, rfl, Nat.le_refl _, fun _ _ _ => rfl, fun b _ hn => if_neg fun h => hn (hF b h), fun _ _ _ _ => rfl, fun b _ => ?_⟩
    show σ b ≤ (if v.ownBlock = some b then _ else σ b)
    split
    · rename_i h; rw [hs b h]; exact Nat.zero_le _
    · exact Nat.le_refl _
  refine ⟨st, ?_⟩
  rcases ho.2 with ⟨rfl, h0⟩ | ⟨g, cap, cur, rfl, hg, h1, h2, h3, h4⟩
  · rw [List.eq_nil_of_length_eq_zero h0]; exact Rd.nil _ _ _ _ _
  · refine ⟨_, cap, rfl, h1, hb, .inr ⟨g, 0, cs, rfl, ⟨.inr (Array.getElem?_eq_some_iff.1 hg).1, fun j u hj => ⟨?_, by rw [Nat.zero_add]; exact ho.cells j u hj⟩⟩, Reps.mono (fun x c hx => T.step st hx) _ _ hr⟩⟩
    have hlt : j < cs.length := (List.getElem?_eq_some_iff.1 hj).1
    have := ho.1
    show 0 + j < (if (Value.slice (some ⟨g, 0, none⟩) xs.length cap).ownBlock = some g then xs.length * T.sz else σ g)
    rw [if_pos (show (Value.slice (some ⟨g, 0, none⟩) xs.length cap).ownBlock = some g from rfl)]; omega
def isMu : Option (Ent G) → Bool | some (.mu _ _) => true | _ => false
def stopCfg (n : Nat) (c : Cfg G) : Cfg G := match c.st.H[n]? with
  | some (.mu e xs) => ⟨c.top, c.k, ⟨c.st.l, c.st.H.set n (.rd e xs)⟩⟩
  | _ => c
def evStop (X : Cx G) (c : Cfg G) (n : Nat) : Option Prop := if noPlan (nxt X c).top && isMu ((nxt X c).st.H[n]?) then some (conj (runTo X c).2) else none
theorem v_stop (n : Nat) (V : Prop) (hV : V) (K : VC X (stopCfg n (nxt X c))) (h : evStop X c n = some V := by kernel_rfl) : VC X c := by
  unfold evStop at h
  split at h
  · rename_i hc
    simp only [Bool.and_eq_true] at hc
    injection h with h; subst h
    refine run_ok hV ⟨fun ν F σ a w hs => ?_⟩
    cases hn : (nxt X c).st.H[n]? with
    | none => rw [hn] at hc; simp [isMu] at hc
    | some en =>
      cases en <;> first
        | (rw [hn] at hc; simp [isMu] at hc; done)
        | skip
      rename_i e xs
      obtain ⟨hM, hF⟩ := hs.S.ent n _ hn
      obtain ⟨σ1, st, hO⟩ := mu_rd hM hF
      have hlt := (List.getElem?_eq_some_iff.1 hn).1
      have hD : DoOk ν F σ w (nxt X c).st.H ((nxt X c).st.H.set n (.rd e xs)) [n] fun _ _ w' => w' = w := do_set hs.S hlt st (.rd e xs) hO rfl rfl
      obtain ⟨ν', F', σ', w', h1, h2, h3, h4, h5, rfl⟩ := hD
      have g := hs.grow h4 h1 h2 h3 (fun b ⟨m, _, hb⟩ => ⟨m, hb⟩) (fun k b hk => by
        rcases h5 k b hk with ⟨_, c⟩ | ⟨_, ⟨m, _, c⟩ | c⟩
        · exact .inl ⟨k, c⟩
        · exact .inl ⟨m, c⟩
        · exact .inr c)
      have e1 : stopCfg n (nxt X c) = ⟨(nxt X c).top, (nxt X c).k, ⟨(nxt X c).st.l, (nxt X c).st.H.set n (.rd e xs)⟩⟩ := by unfold stopCfg; rw [hn]
      rw [e1] at K
      have := K.h _ _ _ a _ g
      cases hq : (nxt X c).top with
      | plan _ _ _ => rw [hq] at hc; simp [noPlan] at hc
      | code cd => rw [hq] at this; exact this
      | ops o i => rw [hq] at this; exact this
      | exit e => rw [hq] at this; exact this
  · simp at h
/-- From here on pieces of such slices are told as pieces. -/
def cutMark (e : Nat) (c : Cfg G) : Cfg G := ⟨c.top, c.k, ⟨c.st.l, c.st.H ++ [.tb 999999 e []]⟩⟩
theorem v_cut (e : Nat) (K : VC X (cutMark e c)) (h : noPlan c.top = true := by kernel_rfl) : VC X c := by
  refine ⟨fun ν F σ a w hs => ?_⟩
  have g := hs.grow (H' := c.st.H ++ [.tb 999999 e []]) (hs.S.more (f := fun _ => .pointer (some ⟨999999, 0, none⟩)) (fun _ => rfl) rfl rfl (fun i en hi => by
    cases i with
    | succ i => simp at hi
    | zero => simp only [List.getElem?_cons_zero, Option.some.injEq] at hi; subst hi; exact ⟨rfl, [], ⟨.inl rfl, fun j v hj => by simp at hj⟩, rfl⟩)) (fun n hn => extν_lt ν _ hn) (by simp) (Stp.refl noM σ w) (fun b e => e.elim) (fun k b hk => .inl ⟨k, hk⟩)
  have := K.h _ F σ a w g
  unfold cutMark at this
  cases hq : c.top with
  | plan _ _ _ => rw [hq] at h; simp [noPlan] at h
  | code cd => rw [hq] at this; exact this
  | ops o i => rw [hq] at this; exact this
  | exit e => rw [hq] at this; exact this
def nlCfg (c : Cfg G) : Cfg G := ⟨c.top, c.k, ⟨c.st.l, c.st.H ++ [.nl]⟩⟩
theorem v_nl (K : VC X (nlCfg c)) (h : noPlan c.top = true := by kernel_rfl) : VC X c := by
  refine ⟨fun ν F σ a w hs => ?_⟩
  have g := hs.grow (H' := c.st.H ++ [.nl]) (hs.S.more (f := fun _ => .slice none 0 0) (fun _ => rfl) rfl rfl (fun i en hi => by
    cases i with
    | succ i => simp at hi
    | zero => simp only [List.getElem?_cons_zero, Option.some.injEq] at hi; subst hi; rfl)) (fun n hn => extν_lt ν _ hn) (by simp) (Stp.refl noM σ w) (fun b e => e.elim) (fun k b hk => .inl ⟨k, hk⟩)
  have := K.h _ F σ a w g
  unfold nlCfg at this
  cases hq : c.top with
  | plan _ _ _ => rw [hq] at h; simp [noPlan] at h
  | code cd => rw [hq] at this; exact this
  | ops o i => rw [hq] at this; exact this
  | exit e => rw [hq] at this; exact this
def fnCx (En : Env G) (fn : Func) (S : Spec G) (ν : NV) (F : Nat → Nat → Prop) (σ : Nat → Nat) (w : World) (mx : En.P.follows .mixedOrders = true) : Cx G where
  En := En
  nt := fn.ntmps
  w0 := w
  σ0 := σ
  M0 := fun b => ∃ i, F i b
  np := S.H.length
  ν0 := ν
  Q := bodyPost En.P fn (RetOk S ν F σ w)
  pn := fun c a d v w h => by
    obtain ⟨h1, h2⟩ := h
    refine ⟨?_, h2⟩
    cases d <;> exact h1
  mx := mx
def zipL : Nat → List SV → SSl
  | _, [] => []
  | k, x :: xs => (k, x) :: zipL (k + 1) xs
theorem zipL_lookup : ∀ (xs : List SV) (k t : Nat) (x : SV), (zipL k xs).lookup t = some x → k ≤ t ∧ xs[t - k]? = some x
  | [], k, t, x, h => by simp [zipL] at h
  | y :: xs, k, t, x, h => by
    simp only [zipL, List.lookup_cons] at h
    by_cases e : t = k
    · subst e; simp at h; subst h; simp
    · have : (t == k) = false := by simpa using e
      rw [this] at h
      obtain ⟨h1, h2⟩ := zipL_lookup xs (k + 1) t x h
      refine ⟨by omega, ?_⟩
      rw [show t - k = (t - (k + 1)) + 1 by omega, List.getElem?_cons_succ]
      exact h2
def bdAll (k : Nat) (l : List SV) : Bool := l.all (bd k)
theorem v_fun {En : Env G} {f : FuncId} {S : Spec G} (fn : Func) (cd : Code) (mx : En.P.follows .mixedOrders = true)
    (K : ∀ ν F σ w, VC (fnCx En fn S ν F σ w mx) ⟨.code cd, [], ⟨zipL 0 S.args, S.H⟩⟩)
    (hf : En.P.funcs[f]? = some fn := by kernel_rfl) (hb : fn.body = some cd := by kernel_rfl) (hc : callable En.P f = true := by kernel_rfl)
    (hl : (decide (S.args.length ≤ fn.ntmps) && bdAll S.H.length S.args) = true := by kernel_rfl) : FOk En f S := by
  refine ⟨hc, fun ν F σ w hS => ?_⟩
  simp only [Bool.and_eq_true, decide_eq_true_eq, bdAll, List.all_eq_true] at hl
  refine calls_of_wp hf hb ?_
  refine (K ν F σ w).h ν F σ _ w ⟨hS, rfl, ?_, fun t x hx => ?_, Stp.refl _ _ _, fun k b hk => .inl ⟨k, hk⟩, Nat.le_refl _, fun _ _ => rfl⟩
  · show (_ ++ _ : Array Value).size = fn.ntmps
    simp [denL_map]; omega
  · obtain ⟨_, h2⟩ := zipL_lookup S.args 0 t x hx
    simp only [Nat.sub_zero] at h2
    refine ⟨?_, hl.2 x (List.mem_of_getElem? h2)⟩
    have hlt : t < S.args.length := (List.getElem?_eq_some_iff.1 h2).1
    simp only [Array.getD_eq_getD_getElem?]
    rw [Array.getElem?_append_left (by simpa [denL_map] using hlt)]
    simp [denL_map, h2]
def resS (En : Env G) (s : St G) : List ResultVar → Option (List SV)
  | [] => some []
  | .tmp t :: r => (s.l.lookup t).bind fun x => (resS En s r).map (x :: ·)
  | .cell t ty :: r => (s.l.lookup t).bind fun x => match x with
    | .p n o => (loadS En (fun _ => true) s.H ty n o).bind fun y => (resS En s r).map (y :: ·)
    | _ => none
def oneOrT : List SV → SV | [x] => x | xs => .t xs
def evRet (En : Env G) (fn : Func) (S : Spec G) (X : Cx G) (c : Cfg G) (ρ : List Nat) (po : List (Ent G) × SV) : Option Prop :=
  match (nxt X c).top, (nxt X c).k with
  | .exit e, [] =>
    if isEnd e && decide (po.1.length = S.H.length + ρ.length) && (List.range S.H.length ++ ρ).all (fun n => decide (n < (nxt X c).st.H.length)) && nodup (ownNames (List.range S.H.length ++ ρ) po.1)
        && po.1.all (fun e => e.bd po.1.length && e.cok) && bd po.1.length po.2 then
      (resS En (nxt X c).st fn.results.toList).bind fun rs => (eqS (nlOf (nxt X c).st.H) (oneOrT rs) (ren (fun n => (List.range S.H.length ++ ρ).getD n 0) po.2)).bind fun v1 =>
        (mtE (fun n => (List.range S.H.length ++ ρ).getD n 0) (nxt X c).st.H (List.range S.H.length ++ ρ) po.1).map fun v2 => conj ((runTo X c).2 ++ (v1 ++ v2))
    else none
  | _, _ => none
theorem oneOrT_ok (ν : NV) : ∀ rs : List SV, (if h : (denL ν rs).toArray.size = 1 then (denL ν rs).toArray[0] else .tuple (denL ν rs).toArray) = den ν (oneOrT rs)
  | [] => by simp [denL, oneOrT, den]
  | [x] => by simp [denL, oneOrT]
  | x :: y :: r => by simp [denL, oneOrT, den]
theorem resS_ok {En : Env G} {s : St G} {X : Cx G} {ν : NV} {F : Nat → Nat → Prop} {σ : Nat → Nat} {a : Act} {w : World} (hE : X.En = En) (hs : SatSt X ν F σ a w s) : ∀ {rs : List ResultVar} {xs : List SV}, resS En s rs = some xs → RVs En.P a w rs (denL ν xs)
  | [], xs, h => by simp only [resS, Option.some.injEq] at h; subst h; exact .nil
  | .tmp t :: r, xs, h => by
    simp only [resS] at h
    obtain ⟨x, h1, h2⟩ := Option.bind_eq_some_iff.1 h
    obtain ⟨ys, h3, rfl⟩ := Option.map_eq_some_iff.1 h2
    exact .tmp (hs.sl t x h1).1 (resS_ok hE hs h3)
  | .cell t ty :: r, xs, h => by
    simp only [resS] at h
    obtain ⟨x, h1, h2⟩ := Option.bind_eq_some_iff.1 h
    cases x <;> simp only [reduceCtorEq] at h2
    rename_i n o
    obtain ⟨y, h3, h4⟩ := Option.bind_eq_some_iff.1 h2
    obtain ⟨ys, h5, rfl⟩ := Option.map_eq_some_iff.1 h4
    have hload := loadS_ok (M := noM) En hs.S (Stp.refl noM σ w) (fun _ _ _ _ e => e) h3
    have hv := (hs.sl t _ h1).1
    -- the address
    have hp : ∃ b o', ν n = .pointer (some ⟨b, o', none⟩) := by
      unfold loadS at h3
      obtain ⟨i, _, h3⟩ := Option.bind_eq_some_iff.1 h3
      split at h3
      · rename_i hn; exact ptr_of hs.S (.inl ⟨_, _, hn⟩)
      · rename_i hn; exact ptr_of hs.S (.inr ⟨_, _, hn⟩)
      · simp at h3
    obtain ⟨b, o', e⟩ := hp
    simp only [den, e, padd] at hv hload
    refine .cell hv ?_ (resS_ok hE hs h5)
    unfold Instr.loadAt at hload
    simp only [Instr.sureAddr, Sem.run_bind, Sem.run_pure, Result.andThen_ok] at hload
    exact hload
theorem v_ret {En : Env G} {fn : Func} {S : Spec G} {ν0 : NV} {F0 : Nat → Nat → Prop} {σ0 : Nat → Nat} {w0 : World} {mx : En.P.follows .mixedOrders = true} (g : S.γ) (ρ : List Nat) (V : Prop) (hV : V) (hg : S.prop g)
    (h : evRet En fn S (fnCx En fn S ν0 F0 σ0 w0 mx) c ρ (S.post g) = some V := by kernel_rfl) : VC (fnCx En fn S ν0 F0 σ0 w0 mx) c := by
  unfold evRet at h
  split at h
  · rename_i e ht hk
    split at h
    · rename_i hc
      simp only [Bool.and_eq_true, decide_eq_true_eq, List.all_eq_true] at hc
      obtain ⟨⟨⟨⟨⟨c0, c1⟩, c2⟩, c3⟩, c4⟩, c5⟩ := hc
      obtain ⟨rs, h1, h⟩ := Option.bind_eq_some_iff.1 h
      obtain ⟨v1, h2, h⟩ := Option.bind_eq_some_iff.1 h
      obtain ⟨v2, h3, h4⟩ := Option.map_eq_some_iff.1 h
      subst h4
      obtain ⟨p1, p2⟩ := conj_append hV
      obtain ⟨p3, p4⟩ := conj_append p2
      refine run_ok p1 ⟨fun ν F σ a w hs => ?_⟩
      rw [ht, hk]
      obtain ⟨hl, hE⟩ := mtE_ok h3 (conj_all p4)
      have hr : ∀ i n, (List.range S.H.length ++ ρ)[i]? = some n → (List.range S.H.length ++ ρ).getD i 0 = n := fun i n hn => by rw [List.getD_eq_getElem?_getD, hn]; rfl
      have hSat := hs.S.remap (H' := (S.post g).1) (fun n => (List.range S.H.length ++ ρ).getD n 0) (fun m e hm => by
        obtain ⟨n, cur, q, e1, e2, e3, e4⟩ := hE m e hm
        have hmem := c4 e (List.mem_of_getElem? hm)
        refine ⟨hmem.1, ?_⟩
        rw [hr m n e1]
        exact (Ent.holds_ren e).1 (eqE_ok (nlOf_ok hs.S) e3 e4 (hs.S.ent n cur e2) (by rw [Ent.cok_ren]; exact hmem.2))) (fun m m' e e' hm hm' hse hse' hrr => by
        obtain ⟨n, cur, q, e1, e2, e3, e4⟩ := hE m e hm
        obtain ⟨n', cur', q', e1', e2', e3', e4'⟩ := hE m' e' hm'
        rw [hr m n e1, hr m' n' e1'] at hrr
        subst hrr
        exact ownNames_inj (nodup_ok c3) hm hm' e1 e1' hse hse')
      have hres := resS_ok (En := En) rfl hs h1
      have hval : (results fn a.tmps).run En.P w = .ok (den ν (oneOrT rs)) w := by
        refine results_of (rs := fn.results.toList) (by simp) hres _ ?_
        exact oneOrT_ok ν rs
      have hfin : RetOk S ν0 F0 σ0 w0 (.returned (den ν (oneOrT rs))) w := by
        refine ⟨g, _, _, σ, ?_, ⟨hg, fun i hi => ?_, hs.st, hSat, by omega, fun k b ⟨e, _, _, hF⟩ => hs.pm _ b hF, c5⟩⟩
        · rw [(eqS_ok ν (nlOf_ok hs.S) _ _ h2 (conj_all p3)).1, den_ren]
        · have : (List.range S.H.length ++ ρ).getD i 0 = i := hr i i (by rw [List.getElem?_append_left (by simpa using hi), List.getElem?_range hi])
          show ν ((List.range S.H.length ++ ρ).getD i 0) = ν0 i
          rw [this]
          exact hs.ag i hi
      cases e with
      | nm => exact ⟨hs.d, _, hval, hfin⟩
      | rt => exact ⟨hs.d, _, hval, hfin⟩
      | ex i => simp [isEnd] at c0
    · simp at h
  · simp at h
end
end Go.Proofs.YtnicmjipbnhciaaDoor.X
set_option linter.unusedVariables false
set_option linter.unusedSimpArgs false
namespace Go.Proofs.YtnicmjipbnhciaaDoor.X
open Go Go.RowKit Go.Proofs.YtnicmjipbnhciaaDoor.E
def tBy {α : Type} (T : Ty α) (n : Nat) : Ty α := { T with by_ := n }
def tProd {α β : Type} (T : Ty α) (U : Ty β) : Ty (α × β) where
  sz := T.sz + U.sz
  by_ := T.by_ + U.by_
  rep := fun σ w x cs => ∃ c d, cs = c ++ d ∧ T.rep σ w x.1 c ∧ U.rep σ w x.2 d
  len := fun ⟨c, d, e, h1, h2⟩ => by rw [e, List.length_append, T.len h1, U.len h2]
  one := fun ⟨c, d, e, h1, h2⟩ v hv => by
    rw [e] at hv
    rcases List.mem_append.1 hv with h | h
    · exact T.one h1 v h
    · exact U.one h2 v h
  step := fun s ⟨c, d, e, h1, h2⟩ => ⟨c, d, e, T.step s h1, U.step s h2⟩
def tIso {α β : Type} (f : α → β) (T : Ty β) : Ty α where
  sz := T.sz
  by_ := T.by_
  rep := fun σ w x cs => T.rep σ w (f x) cs
  len := fun h => T.len h
  one := fun h => T.one h
  step := fun s h => T.step s h
def tUnit : Ty Unit := Ty.flat (fun _ => []) 0 0 (fun _ => rfl) (fun _ v hv => by simp at hv)
/-- A sum. -/
structure Sum32 where
  l : List UInt8
  h : l.length = 32
instance : DecidableEq Sum32 := fun a b => if e : a.l = b.l then .isTrue (by cases a; cases b; simp_all) else .isFalse (fun q => e (by rw [q]))
theorem Sum32.ext' {a b : Sum32} (h : a.l = b.l) : a = b := by cases a; cases b; simp_all
def zero32 : Sum32 := ⟨List.replicate 32 0, rfl⟩
/-- 32 bytes, whatever they are made of. -/
def mk32 (l : List UInt8) : Sum32 := ⟨(List.range 32).map fun i => l.getD i 0, by simp⟩
theorem mk32_of {l : List UInt8} (h : l.length = 32) : (mk32 l).l = l := by
  apply List.ext_getElem
  · simp [mk32, h]
  · intro i h1 h2
    simp [mk32, List.getD_eq_getElem?_getD, h2]
theorem mk32_l (x : Sum32) : mk32 x.l = x := Sum32.ext' (mk32_of x.h)
theorem mk32_hk (l : List UInt8) : hk 32 (mk32 l).l = hk 32 l := by
  unfold hk
  apply List.map_congr_left
  intro i hi
  have : i < 32 := by simpa using hi
  simp [mk32, List.getD_eq_getElem?_getD, this]
def tHash : Ty Sum32 := Ty.flat (fun x => hk 32 x.l) 32 32 (fun _ => hk_len _ _) (fun x v hv => hk_one _ _ v hv)
structure OI (G : Tys) {α : Type} (T : Ty α) where
  out : Nat → α → Option (List (Ent G) × List SV)
  outOk : ∀ (base : Nat) (x : α) (r : List (Ent G) × List SV), out base x = some r → ∀ (σ : Nat → Nat) (w : World) (cs : List Value), T.rep σ w x cs →
    ∃ f : NV, (∀ n, (f n).oneCell' = true) ∧ ∀ ν : NV, (∀ i, i < r.1.length → ν (base + i) = f i) →
      (∀ (i : Nat) (en : Ent G), r.1[i]? = some en → en.holds ν (fun _ => False) σ w (f i)) ∧ cs = denC ν r.2
  outS : ∀ (base : Nat) (x : α) (r : List (Ent G) × List SV), out base x = some r → r.1.all (·.stays) = true ∧ cellsOk r.2 = true
  inn : (Nat → Option (Ent G)) → List SV → Option α
  innOk : ∀ (look : Nat → Option (Ent G)) (cs : List SV) (x : α), inn look cs = some x → ∀ (ν : NV) (σ : Nat → Nat) (w : World), (∀ (n : Nat) (en : Ent G), look n = some en → ∃ F, en.holds ν F σ w (ν n)) → T.rep σ w x (denC ν cs)
variable {G : Tys}
theorem cellsOk_append : ∀ {a b : List SV}, cellsOk a = true → cellsOk b = true → cellsOk (a ++ b) = true
  | [], b, _, h => h
  | x :: a, b, ha, hb => by
    have h2 : cellsOk a = true := by cases x <;> simp [cellsOk] at ha <;> first | exact ha | exact ha.2
    have := cellsOk_append h2 hb
    cases x <;> simp [cellsOk] at ha ⊢ <;> first | exact this | exact ⟨ha.1, this⟩
/-- Of plain cells. -/
def oiFlat {α : Type} {enc : α → List Value} {sz by_ : Nat} {hl : ∀ x, (enc x).length = sz} {h1 : ∀ x, ∀ v ∈ enc x, v.oneCell' = true} (e : α → List SV) (he : ∀ ν x, denC ν (e x) = enc x) (hc : ∀ x, cellsOk (e x) = true) (d : List SV → Option α) (hd : ∀ cs x, d cs = some x → cs = e x) : OI G (Ty.flat enc sz by_ hl h1) where
  out := fun _ x => some ([], e x)
  outOk := fun base x r h σ w cs hr => by
    injection h with h; subst h
    exact ⟨fun _ => .bool true, fun _ => rfl, fun ν _ => ⟨fun i en hi => by simp at hi, by rw [he]; exact hr⟩⟩
  outS := fun base x r h => by
    injection h with h; subst h
    exact ⟨rfl, hc x⟩
  inn := fun _ cs => d cs
  innOk := fun look cs x h ν σ w _ => by rw [hd cs x h]; exact he ν x
def oiU8 : OI G tU8 := oiFlat (fun x => [.c x]) (fun _ _ => rfl) (fun _ => rfl) (fun cs => match cs with | [.c x] => some x | _ => none) (fun cs x h => by split at h <;> simp_all)
def oiU64 : OI G tU64 := oiFlat (fun x => [.u x]) (fun _ _ => rfl) (fun _ => rfl) (fun cs => match cs with | [.u x] => some x | _ => none) (fun cs x h => by split at h <;> simp_all)
def tU32 : Ty UInt32 := Ty.flat (fun b => [wv b]) 1 4 (fun _ => rfl) (fun _ v hv => by simp at hv; subst hv; rfl)
def oiU32 : OI G tU32 := oiFlat (fun x => [.w x]) (fun _ _ => rfl) (fun _ => rfl) (fun cs => match cs with | [.w x] => some x | _ => none) (fun cs x h => by split at h <;> simp_all)
def oiI64 : OI G tI64 := oiFlat (fun x => [.i x]) (fun _ _ => rfl) (fun _ => rfl) (fun cs => match cs with | [.i x] => some x | _ => none) (fun cs x h => by split at h <;> simp_all)
def boolOf : List SV → Option Bool | [.b x] => some x | [.v (.bool x)] => some x | _ => none
def oiBool : OI G tBool where
  out := fun _ x => some ([], [.b x])
  outOk := fun base x r h σ w cs hr => by
    injection h with h; subst h
    exact ⟨fun _ => .bool true, fun _ => rfl, fun ν _ => ⟨fun i en hi => by simp at hi, hr⟩⟩
  outS := fun base x r h => by injection h with h; subst h; exact ⟨rfl, rfl⟩
  inn := fun _ cs => boolOf cs
  innOk := fun look cs x h ν σ w _ => by
    unfold boolOf at h
    split at h <;> first | (injection h with h; subst h; rfl) | simp at h
def oiStr : OI G tStr := oiFlat (fun x => [.s x]) (fun _ _ => rfl) (fun _ => rfl) (fun cs => match cs with | [.s x] => some x | _ => none) (fun cs x h => by split at h <;> simp_all)
def oiHash : OI G tHash where
  out := fun _ x => some ([], [.h 32 x.l])
  outOk := fun base x r h σ w cs hr => by
    injection h with h; subst h
    exact ⟨fun _ => .bool true, fun _ => rfl, fun ν _ => ⟨fun i en hi => by simp at hi, by rw [show denC ν [SV.h 32 x.l] = hk 32 x.l by simp [denC]]; exact hr⟩⟩
  outS := fun base x r h => by
    injection h with h; subst h
    exact ⟨rfl, rfl⟩
  inn := fun _ cs => match cs with | [.h 32 l] => some (mk32 l) | _ => none
  innOk := fun look cs x h ν σ w _ => by
    split at h
    · injection h with h; subst h
      show denC ν _ = hk 32 _
      rw [mk32_hk]; simp [denC]
    · simp at h
def tPtr {α : Type} (T : Ty α) : Ty (Option α) where
  sz := 1
  by_ := 8
  rep := fun σ w o cs => ∃ v, cs = [v] ∧ Pt T σ w v o
  len := fun ⟨v, e, _⟩ => by rw [e]; rfl
  one := fun {σ w o cs} ⟨v, e, h⟩ u hu => by
    rw [e] at hu; simp at hu; subst hu
    cases o with
    | none => rw [show u = .pointer none from h]; rfl
    | some x => obtain ⟨b, i, cs, e1, _⟩ := h; rw [e1]; rfl
  step := fun s ⟨v, e, h⟩ => ⟨v, e, h.step s⟩
def ptOf (e : Nat) (f : (Nat → Option (Ent G)) → List SV → Option (G.Γ e).α) (look : Nat → Option (Ent G)) : List SV → Option (Option (G.Γ e).α)
  | [.v (.pointer none)] => some none
  | [.n k] => match look k with
    | some (.pt e' x) => if h : e' = e then some (h ▸ x) else none
    | some (.sg cs _) => (f look cs).map some
    | _ => none
  | [.p k 0] => match look k with
    | some (.sg cs _) => (f look cs).map some
    | _ => none
  | _ => none
def oiPt (e : Nat) (o : OI G (G.Γ e).T) : OI G (tPtr (G.Γ e).T) where
  out := fun base x => some ([.pt e x], [.n base])
  outOk := fun base x r h σ w cs ⟨v, e1, hr⟩ => by
    injection h with h; subst h
    have hv1 : v.oneCell' = true := by
      cases x with
      | none => rw [show v = .pointer none from hr]; rfl
      | some x => obtain ⟨b, i, cs, e1, _⟩ := hr; rw [e1]; rfl
    refine ⟨fun _ => v, fun _ => hv1, fun ν hν => ⟨fun i en hi => ?_, ?_⟩⟩
    · cases i with
      | succ i => simp at hi
      | zero => simp only [List.getElem?_cons_zero, Option.some.injEq] at hi; subst hi; exact hr
    · have := hν 0 (by simp)
      simp only [Nat.add_zero] at this
      rw [e1]; simp only [denC, den, this]
  outS := fun base x r h => by injection h with h; subst h; exact ⟨rfl, rfl⟩
  inn := ptOf e o.inn
  innOk := fun look cs x h ν σ w hl => by
    unfold ptOf at h
    split at h
    · injection h with h; subst h; exact ⟨_, rfl, rfl⟩
    · rename_i k
      split at h
      · rename_i e' xs hk
        split at h
        · rename_i q; subst q
          injection h with h; subst h
          obtain ⟨F, hF⟩ := hl k _ hk
          exact ⟨_, rfl, hF⟩
        · simp at h
      · rename_i cs p hk
        obtain ⟨y, h1, rfl⟩ := Option.map_eq_some_iff.1 h
        obtain ⟨F, b, i, e1, hs, _, _⟩ := hl k _ hk
        exact ⟨_, by simp only [denC, den], b, i, _, e1, hs, o.innOk look cs y h1 ν σ w hl⟩
      · simp at h
    · rename_i k
      split at h
      · rename_i cs p hk
        obtain ⟨y, h1, rfl⟩ := Option.map_eq_some_iff.1 h
        obtain ⟨F, b, i, e1, hs, _, _⟩ := hl k _ hk
        exact ⟨_, by simp only [denC, den, e1, padd, Nat.add_zero], b, i, _, rfl, hs, o.innOk look cs y h1 ν σ w hl⟩
      · simp at h
    · simp at h
def oiProd {α β : Type} {T : Ty α} {U : Ty β} (o : OI G T) (p : OI G U) : OI G (tProd T U) where
  out := fun base x => (o.out base x.1).bind fun r => (p.out (base + r.1.length) x.2).map fun q => (r.1 ++ q.1, r.2 ++ q.2)
  outOk := fun base x r h σ w cs ⟨c, d, e, h1, h2⟩ => by
    obtain ⟨r1, k1, h⟩ := Option.bind_eq_some_iff.1 h
    obtain ⟨r2, k2, rfl⟩ := Option.map_eq_some_iff.1 h
    obtain ⟨f, f1, f2⟩ := o.outOk base x.1 r1 k1 σ w c h1
    obtain ⟨g, g1, g2⟩ := p.outOk _ x.2 r2 k2 σ w d h2
    refine ⟨fun i => if i < r1.1.length then f i else g (i - r1.1.length), fun n => ?_, fun ν hν => ?_⟩
    · show (if n < r1.1.length then f n else _).oneCell' = true
      split
      · exact f1 n
      · exact g1 _
    · have a1 := f2 ν (fun i hi => by
        have := hν i (by rw [List.length_append]; omega)
        rw [this]; exact if_pos hi)
      have a2 := g2 ν (fun i hi => by
        have := hν (r1.1.length + i) (by rw [List.length_append]; omega)
        rw [← Nat.add_assoc] at this
        rw [this]
        show (if r1.1.length + i < r1.1.length then _ else g (r1.1.length + i - r1.1.length)) = g i
        rw [if_neg (by omega)]; congr 1; omega)
      refine ⟨fun i en hi => ?_, by rw [e, denC_append, ← a1.2, ← a2.2]⟩
      rcases Nat.lt_or_ge i r1.1.length with c | c
      · rw [List.getElem?_append_left c] at hi
        show en.holds ν _ σ w (if i < r1.1.length then f i else _)
        rw [if_pos c]; exact a1.1 i en hi
      · rw [List.getElem?_append_right c] at hi
        show en.holds ν _ σ w (if i < r1.1.length then f i else _)
        rw [if_neg (by omega)]; exact a2.1 _ en hi
  outS := fun base x r h => by
    obtain ⟨r1, k1, h⟩ := Option.bind_eq_some_iff.1 h
    obtain ⟨r2, k2, rfl⟩ := Option.map_eq_some_iff.1 h
    have a := o.outS _ _ _ k1
    have b := p.outS _ _ _ k2
    exact ⟨by rw [List.all_append, a.1, b.1]; rfl, cellsOk_append a.2 b.2⟩
  inn := fun look cs => (takeW cs T.sz).bind fun c => (dropW cs T.sz).bind fun d => (o.inn look c).bind fun x => (p.inn look d).map fun y => (x, y)
  innOk := fun look cs x h ν σ w hl => by
    obtain ⟨c, h1, h⟩ := Option.bind_eq_some_iff.1 h
    obtain ⟨d, h2, h⟩ := Option.bind_eq_some_iff.1 h
    obtain ⟨y, h3, h⟩ := Option.bind_eq_some_iff.1 h
    obtain ⟨z, h4, rfl⟩ := Option.map_eq_some_iff.1 h
    refine ⟨denC ν c, denC ν d, ?_, o.innOk look c y h3 ν σ w hl, p.innOk look d z h4 ν σ w hl⟩
    rw [(takeW_ok ν _ _ _ h1).1, (dropW_ok ν _ _ _ h2).1, List.take_append_drop]
def oiIso {α β : Type} {T : Ty β} (f : α → β) (g : β → α) (hfg : ∀ y, f (g y) = y) (o : OI G T) : OI G (tIso f T) where
  out := fun base x => o.out base (f x)
  outOk := fun base x r h σ w cs hr => o.outOk base (f x) r h σ w cs hr
  outS := fun base x r h => o.outS base (f x) r h
  inn := fun look cs => (o.inn look cs).map g
  innOk := fun look cs x h ν σ w hl => by
    obtain ⟨y, h1, rfl⟩ := Option.map_eq_some_iff.1 h
    show T.rep σ w (f (g y)) _
    rw [hfg]
    exact o.innOk look cs y h1 ν σ w hl
def oiBy {α : Type} {T : Ty α} (n : Nat) (o : OI G T) : OI G (tBy T n) where
  out := o.out
  outOk := fun base x r h σ w cs hr => o.outOk base x r h σ w cs hr
  outS := o.outS
  inn := o.inn
  innOk := fun look cs x h ν σ w hl => o.innOk look cs x h ν σ w hl
def slOf (e : Nat) (look : Nat → Option (Ent G)) : List SV → Option (List (G.Γ e).α)
  | [.n k] => match look k with
    | some (.rd e' xs) => if h : e' = e then some (h ▸ xs) else none
    | some (.ow e' xs) => if h : e' = e then some (h ▸ xs) else none
    | _ => none
  | [.v (.slice none 0 0)] => some []
  | _ => none
def oiSl (e : Nat) : OI G (tSl (G.Γ e).T) where
  out := fun base x => some ([.rd e x], [.n base])
  outOk := fun base x r h σ w cs ⟨v, e1, hr⟩ => by
    injection h with h; subst h
    have hv1 : v.oneCell' = true := by obtain ⟨a, c, e, _⟩ := hr.form; rw [e]; rfl
    refine ⟨fun _ => v, fun _ => hv1, fun ν hν => ⟨fun i en hi => ?_, ?_⟩⟩
    · cases i with
      | succ i => simp at hi
      | zero => simp only [List.getElem?_cons_zero, Option.some.injEq] at hi; subst hi; exact hr
    · have := hν 0 (by simp)
      simp only [Nat.add_zero] at this
      rw [e1]; simp only [denC, den, this]
  outS := fun base x r h => by injection h with h; subst h; exact ⟨rfl, rfl⟩
  inn := slOf e
  innOk := fun look cs x h ν σ w hl => by
    unfold slOf at h
    split at h
    · rename_i k
      split at h
      · rename_i e' xs hk
        split at h
        · rename_i q; subst q
          injection h with h; subst h
          obtain ⟨F, hh⟩ := hl k _ hk
          exact ⟨ν k, rfl, hh⟩
        · simp at h
      · rename_i e' xs hk
        split at h
        · rename_i q; subst q
          injection h with h; subst h
          obtain ⟨F, hh⟩ := hl k _ hk
          exact ⟨ν k, rfl, hh.1.rd⟩
        · simp at h
      · simp at h
    · injection h with h; subst h
      exact ⟨_, rfl, Rd.nil _ _ _ _ _⟩
    · simp at h
abbrev OT (G : Tys) := List ((e : Nat) × OI G (G.Γ e).T)
def oiFind (e : Nat) : OT G → Option (OI G (G.Γ e).T)
  | [] => none
  | p :: r => if h : p.1 = e then some (h ▸ p.2) else oiFind e r
def opnT (tb : OT G) (e base : Nat) (x : (G.Γ e).α) : Option (List (Ent G) × List SV) := (oiFind e tb).bind fun o => o.out base x
def innT (tb : OT G) (e : Nat) (look : Nat → Option (Ent G)) (cs : List SV) : Option (G.Γ e).α := (oiFind e tb).bind fun o => o.inn look cs
abbrev TT := List (Nat × TI)
theorem lookup_all {P : Program} : ∀ {tb : TT}, (∀ p ∈ tb, TIok P p.1 p.2) → ∀ t i, tb.lookup t = some i → TIok P t i
  | [], _, t, i, h => by simp at h
  | (u, j) :: tb, H, t, i, h => by
    rw [List.lookup_cons] at h
    by_cases e : t = u
    · subst e; simp at h; subst h; exact H _ (List.mem_cons_self ..)
    · have : (t == u) = false := by simpa using e
      rw [this] at h
      exact lookup_all (fun p hp => H p (List.mem_cons_of_mem _ hp)) t i h
def unB (P : Program) (t : Nat) (u : Un) : Bool :=
  match u, P.underlying t with
  | .bool, some .bool => true
  | .int k, some (.int k') => decide (k = k')
  | .str, some .string => true
  | .sl e, some (.slice e') => e == e'
  | .ptr e, some (.pointer e') => e == e'
  | .arr n e, some (.array n' e') => n == n' && e == e'
  | .st fs, some (.struct f) => f.toList.map (fun x => (x.type, x.offset)) == fs
  | .mp k e, some (.map k' e') => k == k' && e == e'
  | .fn, some (.func _ _ _) => true
  | .ifc m, some (.interface ms) => ms.isEmpty == !m
  | _, _ => false
theorem unB_ok {P : Program} {t : Nat} {u : Un} (h : unB P t u = true) : unOk P t u := by
  unfold unB at h
  split at h
  · rename_i hu; exact hu
  · rename_i hu; have h := of_decide_eq_true h; subst h; exact hu
  · rename_i hu; exact hu
  · rename_i hu; rw [beq_iff_eq] at h; subst h; exact hu
  · rename_i hu; rw [beq_iff_eq] at h; subst h; exact hu
  · rename_i hu; rw [Bool.and_eq_true, beq_iff_eq, beq_iff_eq] at h; obtain ⟨h1, h2⟩ := h; subst h1; subst h2; exact hu
  · rename_i hu; rw [beq_iff_eq] at h; exact ⟨_, hu, h⟩
  · rename_i hu; rw [Bool.and_eq_true, beq_iff_eq, beq_iff_eq] at h; obtain ⟨h1, h2⟩ := h; subst h1; subst h2; exact hu
  · rename_i hu; exact ⟨_, _, _, hu⟩
  · rename_i hu; rw [beq_iff_eq] at h; exact ⟨_, hu, h⟩
  · simp at h
def tiCk (P : Program) (t : Nat) (i : TI) : Bool :=
  unB P t i.u && (match P.info? t with | some x => (match x.zero with | some z => z.cells.size == i.sz && x.size == i.sz && x.bytes == i.by_ | none => false) | none => false) &&
  cellsOk i.z && bdL 0 i.z && W i.z == i.sz && (i.ag || i.sz == 1) && (i.ag || (match i.z with | [x] => cell1 x | _ => false))
theorem tiok {P : Program} {t : Nat} {i : TI} (ck : tiCk P t i = true := by kernel_rfl) (a : ∀ w, (isAgg t).run P w = .ok i.ag w := by intro _; kernel_rfl) (s : ∀ w, (sizeOf t).run P w = .ok i.sz w := by intro _; kernel_rfl)
    (z : ∀ w, (zeroValue t).run P w = .ok (den (fun _ => undef) (vOfS i.ag i.z)) w := by intro _; kernel_rfl) : TIok P t i := by
  simp only [tiCk, Bool.and_eq_true, beq_iff_eq, Bool.or_eq_true] at ck
  obtain ⟨⟨⟨⟨⟨⟨c1, c2⟩, c3⟩, c4⟩, c5⟩, c6⟩, c7⟩ := ck
  refine ⟨unB_ok c1, ⟨a, s⟩, z, ?_, ⟨c3, c4, c5, c6⟩, ?_⟩
  · split at c2
    · rename_i x hx
      split at c2
      · rename_i z hz
        simp only [Bool.and_eq_true, beq_iff_eq] at c2
        exact ⟨z, by rw [hx]; simp [hz, c2.1.2, c2.2], c2.1.1⟩
      · simp at c2
    · simp at c2
  · rcases c7 with c7 | c7
    · exact .inl c7
    · right
      split at c7
      · rename_i x hx; exact ⟨x, hx, c7⟩
      · simp at c7
def allTi' (P : Program) : TT → Prop
  | [] => True
  | p :: r => TIok P p.1 p.2 ∧ allTi' P r
theorem allTi'_ok {P : Program} : ∀ {tb : TT}, allTi' P tb → ∀ p ∈ tb, TIok P p.1 p.2
  | [], _, p, hp => by cases hp
  | q :: tb, h, p, hp => by
    rcases List.mem_cons.1 hp with rfl | hp
    · exact h.1
    · exact allTi'_ok h.2 p hp
/-- From the facts of a seat. -/
def mkEnv (P : Program) (tb : TT) (H : ∀ p ∈ tb, TIok P p.1 p.2) (u8 : Nat) (hu8 : G.Γ u8 = ⟨UInt8, tU8, 0⟩) (ob : OT G) : Env G where
  P := P
  ti := fun t => tb.lookup t
  tok := fun t i h => lookup_all H t i h
  u8 := u8
  hu8 := hu8
  opn := opnT ob
  opnOk := fun e base x r h => by
    obtain ⟨o, h1, h2⟩ := Option.bind_eq_some_iff.1 h
    exact o.outOk base x r h2
  opnS := fun e base x r h => by
    obtain ⟨o, h1, h2⟩ := Option.bind_eq_some_iff.1 h
    exact o.outS base x r h2
  inn := innT ob
  innOk := fun e look cs x h => by
    obtain ⟨o, h1, h2⟩ := Option.bind_eq_some_iff.1 h
    exact o.innOk look cs x h2
def gam (d : TyI) (l : List (Nat × TyI)) (e : Nat) : TyI := (l.lookup e).getD d
def dflt : TyI := ⟨Unit, tUnit, ()⟩
def dfltM : MpI := ⟨Unit, Unit, inferInstance, fun _ => undef, fun _ _ _ _ => True, fun _ h => h⟩
end Go.Proofs.YtnicmjipbnhciaaDoor.X
set_option linter.unusedVariables false
set_option linter.unusedSimpArgs false
namespace Go.Proofs.YtnicmjipbnhciaaDoor.X
open Go Go.RowKit Go.Proofs.YtnicmjipbnhciaaDoor.E
variable {G : Tys}
def Opens (p : PP) (es : Nat → List (Ent G)) (cs : Nat → List SV) : Prop :=
  ∀ (base : Nat) (σ : Nat → Nat) (w : World) (v : Value), p.h σ w v → ∃ f : NV, (∀ n, (f n).oneCell' = true) ∧ ∀ ν : NV, (∀ i, i < (es base).length → ν (base + i) = f i) →
    (∀ (i : Nat) (en : Ent G), (es base)[i]? = some en → en.holds ν (fun _ => False) σ w (f i)) ∧ ∃ b o, v = .pointer (some ⟨b, o, none⟩) ∧ Seg σ w b o (denC ν (cs base))
def openOk (n : Nat) (es : Nat → List (Ent G)) (cs : Nat → List SV) (c : Cfg G) : Bool :=
  noPlan c.top && (es c.st.H.length).all (fun e => e.stays && e.bd (c.st.H.length + (es c.st.H.length).length)) && bdL (c.st.H.length + (es c.st.H.length).length) (cs c.st.H.length) && cellsOk (cs c.st.H.length)
def evOpen (X : Cx G) (c : Cfg G) (n : Nat) (p : PP) (es : Nat → List (Ent G)) (cs : Nat → List SV) : Option Prop :=
  if openOk n es cs (nxt X c) then match (nxt X c).st.H[n]? with
    | some (.pr q) => some (conj ((runTo X c).2 ++ [q = p]))
    | some (.pn q _ _) => some (conj ((runTo X c).2 ++ [q = p]))
    | some (.pt e o) => some (conj ((runTo X c).2 ++ [PPt G e o = p]))
    | _ => none
  else none
def openCfg (n : Nat) (p : PP) (es : Nat → List (Ent G)) (cs : Nat → List SV) (c : Cfg G) : Cfg G := ⟨c.top, c.k, ⟨c.st.l, c.st.H.set n (.sg (cs c.st.H.length) p) ++ es c.st.H.length⟩⟩
theorem open_sat {X : Cx G} {ν : NV} {F : Nat → Nat → Prop} {σ : Nat → Nat} {a : Act} {w : World} {s : St G} (hs : SatSt X ν F σ a w s) {n : Nat} {p : PP} {es : List (Ent G)} {cs : List SV}
    (h1 : es.all (fun e => e.stays && e.bd (s.H.length + es.length)) = true) (h2 : bdL (s.H.length + es.length) cs = true) (h3 : cellsOk cs = true) (hlt : n < s.H.length) (hp : p.h σ w (ν n))
    (ho : ∃ f : NV, (∀ n, (f n).oneCell' = true) ∧ ∀ ν' : NV, (∀ i, i < es.length → ν' (s.H.length + i) = f i) → (∀ (i : Nat) (en : Ent G), es[i]? = some en → en.holds ν' (fun _ => False) σ w (f i)) ∧ ∃ b o, ν n = .pointer (some ⟨b, o, none⟩) ∧ Seg σ w b o (denC ν' cs)) :
    ∃ ν', SatSt X ν' F σ a w ⟨s.l, s.H.set n (.sg cs p) ++ es⟩ := by
  obtain ⟨f, f1, f2⟩ := ho
  have hν : ∀ m, m < s.H.length → extν ν s.H.length f m = ν m := fun m hm => extν_lt ν f hm
  obtain ⟨g1, b, o, g2, g3⟩ := f2 (extν ν s.H.length f) (fun i _ => extν_ge ν _ f i)
  have hlen : (s.H.set n (.sg cs p) ++ es).length = s.H.length + es.length := by simp
  simp only [List.all_eq_true, Bool.and_eq_true] at h1
  refine ⟨extν ν s.H.length f, hs.grow (N := noM) (H' := s.H.set n (.sg cs p) ++ es) ?_ hν (by rw [hlen]; omega) (Stp.refl noM σ w) (fun b e => e.elim) (fun k b hk => .inl ⟨k, hk⟩)⟩
  refine hs.S.gen (Stp.refl noM σ w) (fun k => k = n) hν (extν_one _ hs.S.one f1) (by rw [hlen]; omega) (fun k b _ e => e.elim) (fun k hk hn => ⟨?_, rfl⟩) (fun k e hk he => ?_) (fun k b hk hb => ?_) (fun k m b _ _ e1 e2 => hs.S.dis k m b e1 e2)
  · rw [List.getElem?_append_left (by simpa using hk), List.getElem?_set_ne (Ne.symm hn)]
  · rw [hlen]
    rcases hk with rfl | hk
    · rw [List.getElem?_append_left (by simpa using hlt), List.getElem?_set_self hlt] at he
      injection he with he; subst he
      exact ⟨⟨b, o, by rw [hν _ hlt]; exact g2, g3, h3, by rw [hν _ hlt]; exact hp⟩, h2⟩
    · rw [List.getElem?_append_right (by simpa using hk)] at he
      simp only [List.length_set] at he
      have hm := h1 e (List.mem_of_getElem? he)
      have := g1 _ _ he
      refine ⟨?_, hm.2⟩
      rw [show k = s.H.length + (k - s.H.length) by omega, extν_ge]
      exact Ent.holds_free hm.1 this
  · have := hs.S.lt k b hb
    rcases hk with rfl | hk
    · exact ⟨by rw [hlen]; omega, this.2, .inl ⟨k, rfl, hb⟩⟩
    · omega
theorem v_open {X : Cx G} {c : Cfg G} (n : Nat) {p : PP} {es : Nat → List (Ent G)} {cs : Nat → List SV} (ho : Opens p es cs) (V : Prop) (hV : V) (K : VC X (openCfg n p es cs (nxt X c))) (h : evOpen X c n p es cs = some V := by kernel_rfl) : VC X c := by
  unfold evOpen at h
  split at h
  · rename_i hc
    unfold openOk at hc
    simp only [Bool.and_eq_true] at hc
    obtain ⟨⟨⟨c1, c2⟩, c3⟩, c4⟩ := hc
    have fin : ∀ {q : PP} (hq : ∀ {ν : NV} {F : Nat → Nat → Prop} {σ : Nat → Nat} {a : Act} {w : World}, SatSt X ν F σ a w (nxt X c).st → q.h σ w (ν n)) (hlt : n < (nxt X c).st.H.length), conj ((runTo X c).2 ++ [q = p]) → VC X c := by
      intro q hq hlt hV
      obtain ⟨p1, p2⟩ := conj_append hV
      have p2 : q = p := p2
      subst p2
      refine run_ok p1 ⟨fun ν F σ a w hs => ?_⟩
      obtain ⟨ν', hs'⟩ := open_sat hs c2 c3 c4 hlt (hq hs) (ho _ σ w _ (hq hs))
      have := K.h ν' F σ a w hs'
      have ht : (openCfg n q es cs (nxt X c)).top = (nxt X c).top := rfl
      cases hq : (nxt X c).top with
      | plan _ _ _ => rw [hq] at c1; simp [noPlan] at c1
      | code cd => rw [ht, hq] at this; exact this
      | ops o i => rw [ht, hq] at this; exact this
      | exit e => rw [ht, hq] at this; exact this
    split at h
    · rename_i q hq
      injection h with h; subst h
      exact fin (fun hs => hs.S.ent n _ hq) (List.getElem?_eq_some_iff.1 hq).1 hV
    · rename_i q _ _ hq
      injection h with h; subst h
      exact fin (fun hs => (hs.S.ent n _ hq).1) (List.getElem?_eq_some_iff.1 hq).1 hV
    · rename_i e o hq
      injection h with h; subst h
      exact fin (q := PPt G e o) (fun hs => hs.S.ent n _ hq) (List.getElem?_eq_some_iff.1 hq).1 hV
    · simp at h
  · simp at h
/-- Behind a pointer. -/
theorem opens_pt {En : Env G} {e : Nat} {o : Option (G.Γ e).α} {x : (G.Γ e).α} (ho : o = some x) (es : Nat → List (Ent G)) (cs : Nat → List SV) (h : ∀ base, En.opn e base x = some (es base, cs base)) : Opens (PPt G e o) es cs := by
  subst ho
  rintro base σ w v ⟨b, i, ds, e1, hs, hr⟩
  obtain ⟨f, f1, f2⟩ := En.opnOk e base x _ (h base) σ w ds hr
  refine ⟨f, f1, fun ν hν => ?_⟩
  obtain ⟨g1, g2⟩ := f2 ν hν
  exact ⟨g1, b, i, e1, by rw [← g2]; exact hs⟩
end Go.Proofs.YtnicmjipbnhciaaDoor.X
set_option linter.unusedVariables false
set_option linter.unusedSimpArgs false
namespace Go.Proofs.YtnicmjipbnhciaaDoor.X
open Go Go.RowKit Go.Proofs.YtnicmjipbnhciaaDoor.E
variable {G : Tys}
def Closes (p : PP) (es : List (Ent G)) (cs : List SV) : Prop :=
  ∀ (ν : NV) (σ : Nat → Nat) (w : World) (v : Value) (b : Nat), (∀ (i : Nat) (en : Ent G), es[i]? = some en → en.holds ν (fun _ => False) σ w (ν i)) → v = .pointer (some ⟨b, 0, none⟩) → Seg σ w b 0 (denC ν cs) → p.h σ w v
theorem closes_pt {En : Env G} {e : Nat} {x : (G.Γ e).α} (es : List (Ent G)) (cs : List SV) (h : En.inn e (fun n => es[n]?) cs = some x) : Closes (PPt G e (some x)) es cs := by
  intro ν σ w v b hE e1 hS
  exact ⟨b, 0, _, e1, hS, En.innOk e _ cs x h ν σ w (fun n en h => ⟨_, hE n en h⟩)⟩
theorem close_top (es : List (Ent G)) (cs : List SV) : Closes pTop es cs := fun _ _ _ _ _ _ _ _ => trivial
def evClose (X : Cx G) (c : Cfg G) (n : Nat) (p : PP) (es : List (Ent G)) (cs : List SV) (ns : List Nat) : Option Prop :=
  if noPlan (nxt X c).top && es.all (·.stays) && preOk ⟨es, [], Unit, fun _ => ([], .v undef), fun _ => True⟩ ns (nxt X c).st.H then
    match (nxt X c).st.H[n]? with
    | some (.bx _ cur) => (eqL (nlOf (nxt X c).st.H) cur (renL (preN ns) cs)).bind fun v1 => (mtE (preN ns) (nxt X c).st.H ns es).map fun v2 => conj ((runTo X c).2 ++ (v1 ++ v2))
    | _ => none
  else none
def closeCfg (n : Nat) (p : PP) (c : Cfg G) : Cfg G := match c.st.H[n]? with
  | some (.bx _ cur) => ⟨c.top, c.k, ⟨c.st.l, c.st.H.set n (.sg cur p)⟩⟩
  | _ => c
theorem v_close {X : Cx G} {c : Cfg G} (n : Nat) (ns : List Nat) {p : PP} {es : List (Ent G)} {cs : List SV} (hc : Closes p es cs) (V : Prop) (hV : V) (K : VC X (closeCfg n p (nxt X c))) (h : evClose X c n p es cs ns = some V := by kernel_rfl) : VC X c := by
  unfold evClose at h
  split at h
  · rename_i hq
    simp only [Bool.and_eq_true] at hq
    obtain ⟨⟨q1, q2⟩, q3⟩ := hq
    split at h
    · rename_i t cur hn
      obtain ⟨v1, h1, h⟩ := Option.bind_eq_some_iff.1 h
      obtain ⟨v2, h2, h3⟩ := Option.map_eq_some_iff.1 h
      subst h3
      obtain ⟨p1, p2⟩ := conj_append hV
      obtain ⟨p2, p3⟩ := conj_append p2
      refine run_ok p1 ⟨fun ν F σ a w hs => ?_⟩
      have hlt : n < (nxt X c).st.H.length := (List.getElem?_eq_some_iff.1 hn).1
      have hE := pre_sat (S := ⟨es, [], Unit, fun _ => ([], .v undef), fun _ => True⟩) hs.S q3 h2 (conj_all p3)
      obtain ⟨b, hb1, hb2, hb3, hb4⟩ := hs.S.ent n _ hn
      obtain ⟨s1, s2⟩ := hb2.publish
      have hp : p.h (upd σ b (denC ν cur).length) w (ν n) := by
        refine hc (fun m => ν (preN ns m)) _ w (ν n) b (fun i en hi => ?_) hb1 ?_
        · have hst : en.stays = true := List.all_eq_true.1 q2 _ (List.mem_of_getElem? hi)
          exact Ent.step (Ent.holds_free (F' := fun _ => False) hst (hE.ent i en hi)) s1 (fun b hb => hb.elim)
        · have e := (eqL_ok ν (nlOf_ok hs.S) _ _ h1 (conj_all p2)).2
          rw [denC_ren] at e
          rw [← e]; exact s2
      have hbd := hs.S.bdd n _ hn
      have hS : Sat ν F (upd σ b (denC ν cur).length) w ((nxt X c).st.H.set n (.sg cur p)) := by
        refine hs.S.gen s1 (· = n) (fun _ _ => rfl) hs.S.one (by simp) (fun k b' hk e => by subst e; exact hs.S.dis k n b' hk hb3) (fun k hk hne => ⟨List.getElem?_set_ne (Ne.symm hne), rfl⟩) (fun k e hk he => ?_) (fun k b' hk hb' => ?_) (fun k m b' _ _ e1 e2 => hs.S.dis k m b' e1 e2)
        · rcases hk with rfl | hk
          · rw [List.getElem?_set_self hlt] at he
            injection he with he; subst he
            exact ⟨⟨b, 0, hb1, s2, hb4, hp⟩, by rw [List.length_set]; exact hbd⟩
          · have := (List.getElem?_eq_some_iff.1 he).1
            simp at this; omega
        · rcases hk with rfl | hk
          · exact ⟨by simpa using hlt, (hs.S.lt _ b' hb').2, .inl ⟨_, rfl, hb'⟩⟩
          · have := (hs.S.lt k b' hb').1; omega
      have hg := hs.grow hS (fun _ _ => rfl) (by simp) s1 (fun b' e => by subst e; exact ⟨n, hb3⟩) (fun k b' hk => .inl ⟨k, hk⟩)
      have hcl : closeCfg n p (nxt X c) = ⟨(nxt X c).top, (nxt X c).k, ⟨(nxt X c).st.l, (nxt X c).st.H.set n (.sg cur p)⟩⟩ := by unfold closeCfg; rw [hn]
      rw [hcl] at K
      have := K.h ν F _ a w hg
      cases ht : (nxt X c).top with
      | plan _ _ _ => rw [ht] at q1; simp [noPlan] at q1
      | code cd => simp only [ht] at this; exact this
      | ops o i => simp only [ht] at this; exact this
      | exit e => simp only [ht] at this; exact this
    · simp at h
  · simp at h
def AlOk (p : PP) (i n : Bool) (es : List (Ent G)) (x : SV) : Prop :=
  ∀ (ν : NV) (σ : Nat → Nat) (w : World), (∀ (k : Nat) (en : Ent G), es[k]? = some en → en.holds ν (fun _ => False) σ w (ν k)) → p.h σ w (den ν x) ∧ (n = true → den ν x = nilOf i) ∧ (n = false → Shape i (den ν x))
def evAl (X : Cx G) (c : Cfg G) (es : List (Ent G)) (x : SV) (ns : List Nat) : Option Prop :=
  if noPlan (nxt X c).top && es.all (·.stays) && preOk ⟨es, [], Unit, fun _ => ([], .v undef), fun _ => True⟩ ns (nxt X c).st.H && cell1 x && bd (nxt X c).st.H.length (ren (preN ns) x) then
    (mtE (preN ns) (nxt X c).st.H ns es).map fun v2 => conj ((runTo X c).2 ++ v2)
  else none
def alCfg (p : PP) (i n : Bool) (x : SV) (ns : List Nat) (c : Cfg G) : Cfg G := ⟨c.top, c.k, ⟨c.st.l, c.st.H ++ [.al (ren (preN ns) x) p i n]⟩⟩
theorem v_al {X : Cx G} {c : Cfg G} (ns : List Nat) {p : PP} {i n : Bool} {es : List (Ent G)} {x : SV} (hc : AlOk p i n es x) (V : Prop) (hV : V) (K : VC X (alCfg p i n x ns (nxt X c))) (h : evAl X c es x ns = some V := by kernel_rfl) : VC X c := by
  unfold evAl at h
  split at h
  · rename_i hq
    simp only [Bool.and_eq_true] at hq
    obtain ⟨⟨⟨⟨q1, q2⟩, q3⟩, q4⟩, q5⟩ := hq
    obtain ⟨v2, h2, h3⟩ := Option.map_eq_some_iff.1 h
    subst h3
    obtain ⟨p1, p2⟩ := conj_append hV
    refine run_ok p1 ⟨fun ν F σ a w hs => ?_⟩
    have hE := pre_sat (S := ⟨es, [], Unit, fun _ => ([], .v undef), fun _ => True⟩) hs.S q3 h2 (conj_all p2)
    have key := hc (fun m => ν (preN ns m)) σ w (fun k en hi => by
      have hst : en.stays = true := List.all_eq_true.1 q2 _ (List.mem_of_getElem? hi)
      exact Ent.holds_free (F' := fun _ => False) hst (hE.ent k en hi))
    rw [← den_ren] at key
    have h1 : (den ν (ren (preN ns) x)).oneCell' = true := by
      rw [den_ren]; exact (cell1_ok (ν := fun m => ν (preN ns m)) (fun _ => hs.S.one _) q4).1
    have g := hs.grow (H' := (nxt X c).st.H ++ [.al (ren (preN ns) x) p i n]) (hs.S.more (f := fun _ => den ν (ren (preN ns) x)) (fun _ => h1) rfl (by simp [Ent.bd, bd_mono (Nat.le_succ _) _ q5]) (fun k en hi => by
      cases k with
      | succ k => simp at hi
      | zero =>
        simp only [List.getElem?_cons_zero, Option.some.injEq] at hi; subst hi
        exact ⟨(den_ext (k := (nxt X c).st.H.length) (fun n hn => extν_lt ν _ hn) _ q5).symm, key⟩)) (fun n hn => extν_lt ν _ hn) (by simp) (Stp.refl noM σ w) (fun b e => e.elim) (fun k b hk => .inl ⟨k, hk⟩)
    have := K.h _ F σ a w g
    unfold alCfg at this
    cases ht : (nxt X c).top with
    | plan _ _ _ => rw [ht] at q1; simp [noPlan] at q1
    | code cd => simp only [ht] at this; exact this
    | ops o i => simp only [ht] at this; exact this
    | exit e => simp only [ht] at this; exact this
  · simp at h
theorem al_pt0 (e : Nat) : AlOk (G := G) (PPt G e none) false true [] (.v (.pointer none)) := fun ν σ w _ => ⟨rfl, fun _ => rfl, fun h => by simp at h⟩
/-- nil, of which p holds -/
theorem al_nil {p : PP} {i : Bool} (h : ∀ σ w, p.h σ w (nilOf i)) : AlOk (G := G) p i true [] (.v (nilOf i)) := fun ν σ w _ => ⟨h σ w, fun _ => rfl, fun h => by simp at h⟩
end Go.Proofs.YtnicmjipbnhciaaDoor.X
set_option linter.unusedVariables false
set_option linter.unusedSimpArgs false
namespace Go.Proofs.YtnicmjipbnhciaaDoor.X
open Go Go.RowKit Go.Proofs.YtnicmjipbnhciaaDoor.E
variable {G : Tys}
/-- The result is a value. -/
theorem fok_val {En : Env G} {f : FuncId} {H : List (Ent G)} {args : List SV} {r : SV} (hc : callable En.P f = true) (hr : bd H.length r = true)
    (h : ∀ ν F σ w, Sat ν F σ w H → Ctr En.P f (denL ν args) noM σ w (fun _ _ v => v = den ν r)) : FOk En f ⟨H, args, Unit, fun _ => (H, r), fun _ => True⟩ := by
  refine ⟨hc, fun ν F σ w S => Calls.mono (h ν F σ w S) ?_⟩
  rintro e w' ⟨σ', v, e1, st, e2⟩
  subst e2
  exact ⟨(), ν, F, σ', e1, trivial, fun _ _ => rfl, st.mono (fun b _ e => e.elim), S.step st (fun _ _ _ e => e), Nat.le_refl _, fun i b hb => .inl ⟨i, hb⟩, hr⟩
/-- The result is a slice of one's own. -/
theorem fok_own {En : Env G} {f : FuncId} {H : List (Ent G)} {args : List SV} {e : Nat} {xs : List (G.Γ e).α} (hc : callable En.P f = true)
    (h : ∀ ν F σ w, Sat ν F σ w H → Ctr En.P f (denL ν args) noM σ w (fun σ' w' v => Own (G.Γ e).T e w.heap.size σ' w' v xs)) : FOk En f ⟨H, args, Unit, fun _ => (H ++ [.ow e xs], .n H.length), fun _ => True⟩ := by
  refine ⟨hc, fun ν F σ w S => Calls.mono (h ν F σ w S) ?_⟩
  rintro en w' ⟨σ', v, e1, st, hO⟩
  subst e1
  have hO' : Own (G.Γ e).T e 0 σ' w' v xs ∧ ∀ b, v.ownBlock = some b → w.heap.size ≤ b ∧ b < w'.heap.size := by
    obtain ⟨cs, ⟨q1, q2⟩, k1, k2, k3⟩ := hO
    rcases q2 with ⟨rfl, q2⟩ | ⟨g, cap, cur, rfl, q3, q4, q5⟩
    · exact ⟨⟨cs, ⟨q1, .inl ⟨rfl, q2⟩⟩, k1, k2, k3⟩, fun b hb => by simp [Value.ownBlock] at hb⟩
    · refine ⟨⟨cs, ⟨q1, .inr ⟨g, cap, cur, rfl, Nat.zero_le _, q4, q5⟩⟩, k1, k2, k3⟩, fun b hb => ?_⟩
      simp only [Value.ownBlock, Option.some.injEq] at hb
      subst hb
      exact ⟨q3, (Array.getElem?_eq_some_iff.1 q4).1⟩
  have h1 : v.oneCell' = true := by obtain ⟨a, c, e, _⟩ := hO.form; subst e; rfl
  obtain ⟨ν', F', σ2, w2, r1, r2, r3, r4, r5, r6⟩ := do_add S st v h1 (.ow e xs) (fun b => v.ownBlock = some b) (fun b hb => hO'.2 b hb) ⟨hO'.1, fun b hb => hb⟩ rfl (run := fun ν' σ2 w2 => ν' = extν ν H.length (fun _ => v) ∧ σ2 = σ' ∧ w2 = w') ⟨rfl, rfl, rfl⟩
  obtain ⟨r6, r7, r8⟩ := r6
  subst r6; subst r7; subst r8
  refine ⟨(), _, F', _, ?_, trivial, fun i hi => r1 i hi, st.mono (fun b _ e => e.elim), r4, by simp, fun i b hb => ?_, by simp [bd]⟩
  · have := extν_ge ν H.length (fun _ => v) 0
    simp only [Nat.add_zero] at this
    simp only [den, this]
  · rcases r5 i b hb with ⟨_, q⟩ | ⟨_, ⟨m, hm, _⟩ | q⟩
    · exact .inl ⟨i, q⟩
    · cases hm
    · exact .inr q
end Go.Proofs.YtnicmjipbnhciaaDoor.X
set_option linter.unusedVariables false
set_option linter.unusedSimpArgs false
namespace Go.Proofs.YtnicmjipbnhciaaDoor.X
open Go Go.RowKit Go.Proofs.YtnicmjipbnhciaaDoor.E
variable {G : Tys}
/-- What is there at a call's begin. -/
theorem sat0 {ν : NV} {σ : Nat → Nat} {w : World} {H : List (Ent G)} (one : ∀ n, (ν n).oneCell' = true) (ent : ∀ (k : Nat) (e : Ent G), H[k]? = some e → e.holds ν (fun _ => False) σ w (ν k)) (bdd : (H.all fun e => e.bd H.length) = true) : Sat ν (fun _ _ => False) σ w H :=
  ⟨one, ent, fun k e h => List.all_eq_true.1 bdd e (List.mem_of_getElem? h), fun _ _ _ h _ => h.elim, fun _ _ h => h.elim⟩
def nuOf (l : List Value) : NV := fun n => l.getD n (.bool false)
theorem nuOf_one {l : List Value} (h : ∀ v ∈ l, v.oneCell' = true) : ∀ n, (nuOf l n).oneCell' = true := fun n => by
  unfold nuOf
  rw [List.getD_eq_getElem?_getD]
  cases e : l[n]? with
  | none => rfl
  | some v => exact h v (List.mem_of_getElem? e)
theorem law_calls {En : Env G} {f : FuncId} {H H' : List (Ent G)} {args : List SV} (ok : FOk En f ⟨H, args, Unit, fun _ => (H', .b true), fun _ => True⟩) {ν : NV} {σ : Nat → Nat} {w : World} (S : Sat ν (fun _ _ => False) σ w H) :
    Calls En.P f (denL ν args).toArray w fun e w' => ∃ σ' v, e = .returned v ∧ Stp noM σ w σ' w' ∧ v = .bool true := by
  refine Calls.mono (ok.2 ν (fun _ _ => False) σ w S) ?_
  rintro e w' ⟨g, ν', F', σ', e1, hP⟩
  exact ⟨σ', _, e1, hP.st.mono fun b _ ⟨i, hi⟩ => hi.elim, rfl⟩
/-- A table of u32 that lies where the row says. -/
theorem seg_of_laid {P : Program} {W : World} {g t n e fuel : Nat} {cs : Array Value} {nm : String} {ks : List Int} {p : List MemPlace} (hg : P.globalNamed nm = some g) (hv : W.var? P nm = some cs)
    (hd : DataW.trod (fun _ => ()) P W 0 (fun _ => true) false fuel t cs.toList = some (.agg (ks.map fun k => .lit (.int .u32 k)), p)) (U : P.underlying t = some (.array n e)) (Ue : P.underlying e = some (.int .u32)) (hn : ks.length = n) (hc : P.cellsOf e = 1) (hct : P.cellsOf t = n) :
    Seg (sig0 W) W g 0 (ks.map fun k => .int .u32 k) := by
  obtain ⟨xs, m, rfl, hx, hlen, hxl, hel⟩ := DataW.trod_array U hd
  have cell : ∀ j v, (ks.map fun k => Value.int .u32 k)[j]? = some v → W.cell? ⟨g, 0 + j, none⟩ = some v := by
    intro j v hj
    rw [List.getElem?_map] at hj
    obtain ⟨k, hk, rfl⟩ := Option.map_eq_some_iff.1 hj
    have hjn : j < n := by rw [← hn]; exact (List.getElem?_eq_some_iff.1 hk).1
    have h1 := hel j hjn
    rw [hc] at h1
    have hxj : j < xs.length := by omega
    rw [List.getElem?_eq_getElem hxj] at h1
    have hcs : j < cs.toList.length := by rw [hlen, hct]; exact hjn
    have h2 : (cs.toList.drop (j * 1)).take 1 = [cs.toList[j]] := by
      rw [Nat.mul_one, List.drop_eq_getElem_cons hcs]; rfl
    rw [h2] at h1
    obtain ⟨k', e1, e2, _⟩ := DataW.trod_int Ue h1
    have hx' : (ks.map fun k => (DataW.lit (.int .u32 k) : DataW Unit)) = xs.map (·.1) := by
      have := congrArg Prod.fst hx; simpa using this
    have h3 : (xs.map (·.1))[j]? = some (DataW.lit (.int .u32 k)) := by rw [← hx', List.getElem?_map, hk]; rfl
    rw [List.getElem?_map, List.getElem?_eq_getElem hxj] at h3
    simp only [Option.map_some, Option.some.injEq] at h3
    have h4 : (DataW.lit (.int .u32 k') : DataW Unit) = .lit (.int .u32 k) := by
      rw [← h3]; have := congrArg Prod.fst e2; simpa using this.symm
    have h5 : k' = k := by injection h4 with h4; injection h4
    subst h5
    rw [World.var?_cell hg hv, Nat.zero_add]
    have h6 : cs.toList[j] = .int .u32 k' := by simpa using e1
    rw [← h6, Array.getElem_toList]
    have : j < cs.size := by simpa using hcs
    rw [Array.getElem?_eq_getElem this]
  refine ⟨?_, fun j v hj => ⟨sig0_lt (cell j v hj), cell j v hj⟩⟩
  cases ks with
  | nil => exact .inl rfl
  | cons k r =>
    right
    have := cell 0 _ rfl
    rcases Nat.lt_or_ge g W.heap.size with q | q
    · exact q
    · simp [World.cell?, Array.getElem?_eq_none q] at this
end Go.Proofs.YtnicmjipbnhciaaDoor.X
set_option linter.unusedVariables false
set_option maxRecDepth 100000
namespace Go.Proofs.YtnicmjipbnhciaaDoor.X
open Go Go.RowKit Go.Proofs Go.Proofs.YtnicmjipbnhciaaDoor.E
structure Pair where
  key : (List UInt8)
  value : (List UInt8)
  deriving DecidableEq
def tPair : Ty Pair := tBy (tIso (fun x => ((x.key, x.value) : (List UInt8) × (List UInt8))) (tProd (tSl tU8) (tSl tU8))) 48
structure Turn where
  height : Int
  size : UInt64
  right : Bool
  other : Sum32
  deriving DecidableEq
def tTurn : Ty Turn := tBy (tIso (fun x => ((x.height, x.size, x.right, x.other) : Int × UInt64 × Bool × Sum32)) (tProd tI64 (tProd tU64 (tProd tBool tHash)))) 56
structure Proof where
  key : (List UInt8)
  value : (List UInt8)
  turns : (List Turn)
  deriving DecidableEq
def tProof : Ty Proof := tBy (tIso (fun x => ((x.key, x.value, x.turns) : (List UInt8) × (List UInt8) × (List Turn))) (tProd (tSl tU8) (tProd (tSl tU8) (tSl tTurn)))) 72
structure Token where
  kind : UInt8
  hash : Sum32
  key : (List UInt8)
  value : (List UInt8)
  height : Int
  size : UInt64
  deriving DecidableEq
def tToken : Ty Token := tBy (tIso (fun x => ((x.kind, x.hash, x.key, x.value, x.height, x.size) : UInt8 × Sum32 × (List UInt8) × (List UInt8) × Int × UInt64)) (tProd tU8 (tProd tHash (tProd (tSl tU8) (tProd (tSl tU8) (tProd tI64 tU64)))))) 104
structure Field where
  tag : UInt8
  value : (List UInt8)
  deriving DecidableEq
def tField : Ty Field := tBy (tIso (fun x => ((x.tag, x.value) : UInt8 × (List UInt8))) (tProd tU8 (tSl tU8))) 32
structure Act where
  kind : UInt8
  k : UInt8
  raw : (List UInt8)
  value : (List UInt8)
  deriving DecidableEq
def tAct : Ty Act := tBy (tIso (fun x => ((x.kind, x.k, x.raw, x.value) : UInt8 × UInt8 × (List UInt8) × (List UInt8))) (tProd tU8 (tProd tU8 (tProd (tSl tU8) (tSl tU8))))) 56
structure Item where
  hidden : Bool
  key : (List UInt8)
  value : (List UInt8)
  deriving DecidableEq
def tItem : Ty Item := tBy (tIso (fun x => ((x.hidden, x.key, x.value) : Bool × (List UInt8) × (List UInt8))) (tProd tBool (tProd (tSl tU8) (tSl tU8)))) 56
structure Node where
  key : (List UInt8)
  value : (List UInt8)
  height : Int
  size : UInt64
  left : Sum32
  right : Sum32
  deriving DecidableEq
def tNode : Ty Node := tBy (tIso (fun x => ((x.key, x.value, x.height, x.size, x.left, x.right) : (List UInt8) × (List UInt8) × Int × UInt64 × Sum32 × Sum32)) (tProd (tSl tU8) (tProd (tSl tU8) (tProd tI64 (tProd tU64 (tProd tHash tHash)))))) 128
def tis : TT := [
  (1, ⟨.fn, 1, false, [.v .nilFunc], 8⟩),
  (2, ⟨.int .i64, 1, false, [.i 0], 8⟩),
  (3, ⟨.int .i64, 1, false, [.i 0], 8⟩),
  (4, ⟨.bool, 1, false, [.v (.bool false)], 1⟩),
  (5, ⟨.int .u8, 1, false, [.c 0], 1⟩),
  (9, ⟨.str, 1, false, [.s []], 16⟩),
  (12, ⟨.int .u64, 1, false, [.u 0], 8⟩),
  (13, ⟨.st [(9, 0), (12, 1)], 2, true, [.s [], .u 0], 24⟩),
  (20, ⟨.ifc false, 1, false, [.v .nilIface], 16⟩),
  (21, ⟨.int .i32, 1, false, [.v (.int .i32 0)], 4⟩),
  (22, ⟨.sl 5, 1, false, [.v (.slice none 0 0)], 24⟩),
  (23, ⟨.fn, 1, false, [.v .nilFunc], 8⟩),
  (24, ⟨.sl 121, 1, false, [.v (.slice none 0 0)], 24⟩),
  (25, ⟨.st [(22, 0), (22, 1), (24, 2)], 3, true, [.v (.slice none 0 0), .v (.slice none 0 0), .v (.slice none 0 0)], 72⟩),
  (26, ⟨.st [(22, 0), (22, 1), (24, 2)], 3, true, [.v (.slice none 0 0), .v (.slice none 0 0), .v (.slice none 0 0)], 72⟩),
  (28, ⟨.fn, 1, false, [.v .nilFunc], 8⟩),
  (29, ⟨.ptr 26, 1, false, [.v (.pointer none)], 8⟩),
  (30, ⟨.st [(29, 0), (29, 1)], 2, true, [.v (.pointer none), .v (.pointer none)], 16⟩),
  (31, ⟨.st [(29, 0), (29, 1)], 2, true, [.v (.pointer none), .v (.pointer none)], 16⟩),
  (33, ⟨.fn, 1, false, [.v .nilFunc], 8⟩),
  (34, ⟨.ptr 131, 1, false, [.v (.pointer none)], 8⟩),
  (35, ⟨.fn, 1, false, [.v .nilFunc], 8⟩),
  (36, ⟨.fn, 1, false, [.v .nilFunc], 8⟩),
  (37, ⟨.fn, 1, false, [.v .nilFunc], 8⟩),
  (38, ⟨.fn, 1, false, [.v .nilFunc], 8⟩),
  (39, ⟨.sl 133, 1, false, [.v (.slice none 0 0)], 24⟩),
  (40, ⟨.sl 46, 1, false, [.v (.slice none 0 0)], 24⟩),
  (42, ⟨.fn, 1, false, [.v .nilFunc], 8⟩),
  (43, ⟨.ptr 144, 1, false, [.v (.pointer none)], 8⟩),
  (44, ⟨.fn, 1, false, [.v .nilFunc], 8⟩),
  (45, ⟨.st [(22, 0), (22, 1)], 2, true, [.v (.slice none 0 0), .v (.slice none 0 0)], 48⟩),
  (46, ⟨.st [(22, 0), (22, 1)], 2, true, [.v (.slice none 0 0), .v (.slice none 0 0)], 48⟩),
  (47, ⟨.fn, 1, false, [.v .nilFunc], 8⟩),
  (48, ⟨.ifc true, 1, false, [.v .nilIface], 16⟩),
  (49, ⟨.ifc true, 1, false, [.v .nilIface], 16⟩),
  (50, ⟨.fn, 1, false, [.v .nilFunc], 8⟩),
  (51, ⟨.arr 32 5, 32, true, [.h 32 (List.replicate 32 0)], 32⟩),
  (52, ⟨.arr 32 5, 32, true, [.h 32 (List.replicate 32 0)], 32⟩),
  (53, ⟨.fn, 1, false, [.v .nilFunc], 8⟩),
  (54, ⟨.fn, 1, false, [.v .nilFunc], 8⟩),
  (55, ⟨.fn, 1, false, [.v .nilFunc], 8⟩),
  (56, ⟨.sl 22, 1, false, [.v (.slice none 0 0)], 24⟩),
  (58, ⟨.fn, 1, false, [.v .nilFunc], 8⟩),
  (59, ⟨.fn, 1, false, [.v .nilFunc], 8⟩),
  (60, ⟨.fn, 1, false, [.v .nilFunc], 8⟩),
  (61, ⟨.int .i64, 1, false, [.i 0], 8⟩),
  (62, ⟨.fn, 1, false, [.v .nilFunc], 8⟩),
  (63, ⟨.fn, 1, false, [.v .nilFunc], 8⟩),
  (64, ⟨.fn, 1, false, [.v .nilFunc], 8⟩),
  (65, ⟨.fn, 1, false, [.v .nilFunc], 8⟩),
  (66, ⟨.sl 29, 1, false, [.v (.slice none 0 0)], 24⟩),
  (67, ⟨.fn, 1, false, [.v .nilFunc], 8⟩),
  (68, ⟨.fn, 1, false, [.v .nilFunc], 8⟩),
  (69, ⟨.sl 3, 1, false, [.v (.slice none 0 0)], 24⟩),
  (70, ⟨.sl 26, 1, false, [.v (.slice none 0 0)], 24⟩),
  (72, ⟨.fn, 1, false, [.v .nilFunc], 8⟩),
  (74, ⟨.fn, 1, false, [.v .nilFunc], 8⟩),
  (75, ⟨.fn, 1, false, [.v .nilFunc], 8⟩),
  (77, ⟨.fn, 1, false, [.v .nilFunc], 8⟩),
  (79, ⟨.fn, 1, false, [.v .nilFunc], 8⟩),
  (80, ⟨.fn, 1, false, [.v .nilFunc], 8⟩),
  (81, ⟨.sl 31, 1, false, [.v (.slice none 0 0)], 24⟩),
  (82, ⟨.fn, 1, false, [.v .nilFunc], 8⟩),
  (83, ⟨.fn, 1, false, [.v .nilFunc], 8⟩),
  (85, ⟨.fn, 1, false, [.v .nilFunc], 8⟩),
  (87, ⟨.fn, 1, false, [.v .nilFunc], 8⟩),
  (88, ⟨.fn, 1, false, [.v .nilFunc], 8⟩),
  (89, ⟨.fn, 1, false, [.v .nilFunc], 8⟩),
  (90, ⟨.sl 100, 1, false, [.v (.slice none 0 0)], 24⟩),
  (91, ⟨.fn, 1, false, [.v .nilFunc], 8⟩),
  (92, ⟨.fn, 1, false, [.v .nilFunc], 8⟩),
  (93, ⟨.fn, 1, false, [.v .nilFunc], 8⟩),
  (94, ⟨.sl 4, 1, false, [.v (.slice none 0 0)], 24⟩),
  (95, ⟨.fn, 1, false, [.v .nilFunc], 8⟩),
  (96, ⟨.fn, 1, false, [.v .nilFunc], 8⟩),
  (97, ⟨.int .u8, 1, false, [.c 0], 1⟩),
  (98, ⟨.int .u64, 1, false, [.u 0], 8⟩),
  (99, ⟨.st [(97, 0), (52, 1), (22, 33), (22, 34), (3, 35), (98, 36)], 37, true, [.c 0, .h 32 (List.replicate 32 0), .v (.slice none 0 0), .v (.slice none 0 0), .i 0, .u 0], 104⟩),
  (100, ⟨.st [(97, 0), (52, 1), (22, 33), (22, 34), (3, 35), (98, 36)], 37, true, [.c 0, .h 32 (List.replicate 32 0), .v (.slice none 0 0), .v (.slice none 0 0), .i 0, .u 0], 104⟩),
  (101, ⟨.fn, 1, false, [.v .nilFunc], 8⟩),
  (102, ⟨.fn, 1, false, [.v .nilFunc], 8⟩),
  (103, ⟨.ptr 184, 1, false, [.v (.pointer none)], 8⟩),
  (105, ⟨.fn, 1, false, [.v .nilFunc], 8⟩),
  (107, ⟨.fn, 1, false, [.v .nilFunc], 8⟩),
  (109, ⟨.fn, 1, false, [.v .nilFunc], 8⟩),
  (110, ⟨.fn, 1, false, [.v .nilFunc], 8⟩),
  (111, ⟨.fn, 1, false, [.v .nilFunc], 8⟩),
  (112, ⟨.sl 90, 1, false, [.v (.slice none 0 0)], 24⟩),
  (113, ⟨.sl 198, 1, false, [.v (.slice none 0 0)], 24⟩),
  (115, ⟨.fn, 1, false, [.v .nilFunc], 8⟩),
  (116, ⟨.fn, 1, false, [.v .nilFunc], 8⟩),
  (117, ⟨.fn, 1, false, [.v .nilFunc], 8⟩),
  (119, ⟨.fn, 1, false, [.v .nilFunc], 8⟩),
  (120, ⟨.st [(3, 0), (98, 1), (4, 2), (52, 3)], 35, true, [.i 0, .u 0, .v (.bool false), .h 32 (List.replicate 32 0)], 56⟩),
  (121, ⟨.st [(3, 0), (98, 1), (4, 2), (52, 3)], 35, true, [.i 0, .u 0, .v (.bool false), .h 32 (List.replicate 32 0)], 56⟩),
  (122, ⟨.fn, 1, false, [.v .nilFunc], 8⟩),
  (123, ⟨.st [(22, 0), (22, 1), (3, 2), (98, 3), (52, 4), (52, 36)], 68, true, [.v (.slice none 0 0), .v (.slice none 0 0), .i 0, .u 0, .h 32 (List.replicate 32 0), .h 32 (List.replicate 32 0)], 128⟩),
  (124, ⟨.st [(22, 0), (22, 1), (3, 2), (98, 3), (52, 4), (52, 36)], 68, true, [.v (.slice none 0 0), .v (.slice none 0 0), .i 0, .u 0, .h 32 (List.replicate 32 0), .h 32 (List.replicate 32 0)], 128⟩),
  (125, ⟨.fn, 1, false, [.v .nilFunc], 8⟩),
  (126, ⟨.fn, 1, false, [.v .nilFunc], 8⟩),
  (127, ⟨.fn, 1, false, [.v .nilFunc], 8⟩),
  (128, ⟨.fn, 1, false, [.v .nilFunc], 8⟩),
  (129, ⟨.ptr 149, 1, false, [.v (.pointer none)], 8⟩),
  (130, ⟨.st [(129, 0)], 1, true, [.v (.pointer none)], 8⟩),
  (131, ⟨.st [(129, 0)], 1, true, [.v (.pointer none)], 8⟩),
  (132, ⟨.st [(5, 0), (5, 1), (22, 2), (22, 3)], 4, true, [.c 0, .c 0, .v (.slice none 0 0), .v (.slice none 0 0)], 56⟩),
  (133, ⟨.st [(5, 0), (5, 1), (22, 2), (22, 3)], 4, true, [.c 0, .c 0, .v (.slice none 0 0), .v (.slice none 0 0)], 56⟩),
  (134, ⟨.fn, 1, false, [.v .nilFunc], 8⟩),
  (135, ⟨.fn, 1, false, [.v .nilFunc], 8⟩),
  (137, ⟨.fn, 1, false, [.v .nilFunc], 8⟩),
  (138, ⟨.fn, 1, false, [.v .nilFunc], 8⟩),
  (139, ⟨.fn, 1, false, [.v .nilFunc], 8⟩),
  (140, ⟨.fn, 1, false, [.v .nilFunc], 8⟩),
  (141, ⟨.fn, 1, false, [.v .nilFunc], 8⟩),
  (142, ⟨.fn, 1, false, [.v .nilFunc], 8⟩),
  (143, ⟨.st [(22, 0), (22, 1), (3, 2), (98, 3), (43, 4), (43, 5)], 6, true, [.v (.slice none 0 0), .v (.slice none 0 0), .i 0, .u 0, .v (.pointer none), .v (.pointer none)], 80⟩),
  (144, ⟨.st [(22, 0), (22, 1), (3, 2), (98, 3), (43, 4), (43, 5)], 6, true, [.v (.slice none 0 0), .v (.slice none 0 0), .i 0, .u 0, .v (.pointer none), .v (.pointer none)], 80⟩),
  (146, ⟨.fn, 1, false, [.v .nilFunc], 8⟩),
  (147, ⟨.fn, 1, false, [.v .nilFunc], 8⟩),
  (148, ⟨.st [(124, 0), (52, 68), (129, 100), (129, 101)], 102, true, [.v (.slice none 0 0), .v (.slice none 0 0), .i 0, .u 0, .h 32 (List.replicate 32 0), .h 32 (List.replicate 32 0), .h 32 (List.replicate 32 0), .v (.pointer none), .v (.pointer none)], 176⟩),
  (149, ⟨.st [(124, 0), (52, 68), (129, 100), (129, 101)], 102, true, [.v (.slice none 0 0), .v (.slice none 0 0), .i 0, .u 0, .h 32 (List.replicate 32 0), .h 32 (List.replicate 32 0), .h 32 (List.replicate 32 0), .v (.pointer none), .v (.pointer none)], 176⟩),
  (150, ⟨.fn, 1, false, [.v .nilFunc], 8⟩),
  (151, ⟨.fn, 1, false, [.v .nilFunc], 8⟩),
  (152, ⟨.fn, 1, false, [.v .nilFunc], 8⟩),
  (153, ⟨.ptr 61, 1, false, [.v (.pointer none)], 8⟩),
  (154, ⟨.fn, 1, false, [.v .nilFunc], 8⟩),
  (155, ⟨.fn, 1, false, [.v .nilFunc], 8⟩),
  (156, ⟨.fn, 1, false, [.v .nilFunc], 8⟩),
  (157, ⟨.fn, 1, false, [.v .nilFunc], 8⟩),
  (158, ⟨.fn, 1, false, [.v .nilFunc], 8⟩),
  (159, ⟨.fn, 1, false, [.v .nilFunc], 8⟩),
  (160, ⟨.fn, 1, false, [.v .nilFunc], 8⟩),
  (161, ⟨.fn, 1, false, [.v .nilFunc], 8⟩),
  (162, ⟨.int .u64, 1, false, [.u 0], 8⟩),
  (163, ⟨.sl 167, 1, false, [.v (.slice none 0 0)], 24⟩),
  (165, ⟨.fn, 1, false, [.v .nilFunc], 8⟩),
  (166, ⟨.st [(5, 0), (22, 1)], 2, true, [.c 0, .v (.slice none 0 0)], 32⟩),
  (167, ⟨.st [(5, 0), (22, 1)], 2, true, [.c 0, .v (.slice none 0 0)], 32⟩),
  (169, ⟨.fn, 1, false, [.v .nilFunc], 8⟩),
  (171, ⟨.fn, 1, false, [.v .nilFunc], 8⟩),
  (173, ⟨.fn, 1, false, [.v .nilFunc], 8⟩),
  (175, ⟨.fn, 1, false, [.v .nilFunc], 8⟩),
  (177, ⟨.fn, 1, false, [.v .nilFunc], 8⟩),
  (178, ⟨.sl 9, 1, false, [.v (.slice none 0 0)], 24⟩),
  (179, ⟨.fn, 1, false, [.v .nilFunc], 8⟩),
  (180, ⟨.fn, 1, false, [.v .nilFunc], 8⟩),
  (181, ⟨.fn, 1, false, [.v .nilFunc], 8⟩),
  (182, ⟨.sl 190, 1, false, [.v (.slice none 0 0)], 24⟩),
  (183, ⟨.st [(182, 0)], 1, true, [.v (.slice none 0 0)], 24⟩),
  (184, ⟨.st [(182, 0)], 1, true, [.v (.slice none 0 0)], 24⟩),
  (185, ⟨.ptr 187, 1, false, [.v (.pointer none)], 8⟩),
  (186, ⟨.st [(90, 0), (3, 1), (182, 2)], 3, true, [.v (.slice none 0 0), .i 0, .v (.slice none 0 0)], 56⟩),
  (187, ⟨.st [(90, 0), (3, 1), (182, 2)], 3, true, [.v (.slice none 0 0), .i 0, .v (.slice none 0 0)], 56⟩),
  (188, ⟨.fn, 1, false, [.v .nilFunc], 8⟩),
  (189, ⟨.st [(4, 0), (22, 1), (22, 2)], 3, true, [.v (.bool false), .v (.slice none 0 0), .v (.slice none 0 0)], 56⟩),
  (190, ⟨.st [(4, 0), (22, 1), (22, 2)], 3, true, [.v (.bool false), .v (.slice none 0 0), .v (.slice none 0 0)], 56⟩),
  (191, ⟨.fn, 1, false, [.v .nilFunc], 8⟩),
  (192, ⟨.fn, 1, false, [.v .nilFunc], 8⟩),
  (193, ⟨.ptr 195, 1, false, [.v (.pointer none)], 8⟩),
  (194, ⟨.st [(90, 0), (3, 1), (3, 2), (113, 3)], 4, true, [.v (.slice none 0 0), .i 0, .i 0, .v (.slice none 0 0)], 64⟩),
  (195, ⟨.st [(90, 0), (3, 1), (3, 2), (113, 3)], 4, true, [.v (.slice none 0 0), .i 0, .i 0, .v (.slice none 0 0)], 64⟩),
  (196, ⟨.fn, 1, false, [.v .nilFunc], 8⟩),
  (197, ⟨.st [(4, 0), (22, 1), (22, 2)], 3, true, [.v (.bool false), .v (.slice none 0 0), .v (.slice none 0 0)], 56⟩),
  (198, ⟨.st [(4, 0), (22, 1), (22, 2)], 3, true, [.v (.bool false), .v (.slice none 0 0), .v (.slice none 0 0)], 56⟩),
  (199, ⟨.fn, 1, false, [.v .nilFunc], 8⟩),
  (200, ⟨.fn, 1, false, [.v .nilFunc], 8⟩),
  (202, ⟨.fn, 1, false, [.v .nilFunc], 8⟩),
  (203, ⟨.fn, 1, false, [.v .nilFunc], 8⟩),
  (205, ⟨.fn, 1, false, [.v .nilFunc], 8⟩),
  (206, ⟨.fn, 1, false, [.v .nilFunc], 8⟩),
  (207, ⟨.fn, 1, false, [.v .nilFunc], 8⟩),
  (208, ⟨.ptr 210, 1, false, [.v (.pointer none)], 8⟩),
  (209, ⟨.st [(9, 0), (3, 1), (49, 2)], 3, true, [.s [], .i 0, .v .nilIface], 40⟩),
  (210, ⟨.st [(9, 0), (3, 1), (49, 2)], 3, true, [.s [], .i 0, .v .nilIface], 40⟩),
  (223, ⟨.int .u32, 1, false, [.w 0], 4⟩),
  (224, ⟨.sl 223, 1, false, [.v (.slice none 0 0)], 24⟩),
  (225, ⟨.fn, 1, false, [.v .nilFunc], 8⟩),
  (226, ⟨.arr 64 223, 64, true, [.w 0, .w 0, .w 0, .w 0, .w 0, .w 0, .w 0, .w 0, .w 0, .w 0, .w 0, .w 0, .w 0, .w 0, .w 0, .w 0, .w 0, .w 0, .w 0, .w 0, .w 0, .w 0, .w 0, .w 0, .w 0, .w 0, .w 0, .w 0, .w 0, .w 0, .w 0, .w 0, .w 0, .w 0, .w 0, .w 0, .w 0, .w 0, .w 0, .w 0, .w 0, .w 0, .w 0, .w 0, .w 0, .w 0, .w 0, .w 0, .w 0, .w 0, .w 0, .w 0, .w 0, .w 0, .w 0, .w 0, .w 0, .w 0, .w 0, .w 0, .w 0, .w 0, .w 0, .w 0], 256⟩),
  (228, ⟨.fn, 1, false, [.v .nilFunc], 8⟩),
  (230, ⟨.fn, 1, false, [.v .nilFunc], 8⟩),
  (232, ⟨.fn, 1, false, [.v .nilFunc], 8⟩),
  (234, ⟨.fn, 1, false, [.v .nilFunc], 8⟩),
  (236, ⟨.fn, 1, false, [.v .nilFunc], 8⟩),
  (238, ⟨.fn, 1, false, [.v .nilFunc], 8⟩),
  (239, ⟨.fn, 1, false, [.v .nilFunc], 8⟩),
  (240, ⟨.fn, 1, false, [.v .nilFunc], 8⟩),
  (241, ⟨.fn, 1, false, [.v .nilFunc], 8⟩),
  (242, ⟨.fn, 1, false, [.v .nilFunc], 8⟩),
  (243, ⟨.fn, 1, false, [.v .nilFunc], 8⟩),
  (244, ⟨.arr 8 223, 8, true, [.w 0, .w 0, .w 0, .w 0, .w 0, .w 0, .w 0, .w 0], 32⟩),
  (245, ⟨.fn, 1, false, [.v .nilFunc], 8⟩),
  (246, ⟨.ptr 244, 1, false, [.v (.pointer none)], 8⟩),
  (247, ⟨.fn, 1, false, [.v .nilFunc], 8⟩),
  (248, ⟨.fn, 1, false, [.v .nilFunc], 8⟩),
  (249, ⟨.fn, 1, false, [.v .nilFunc], 8⟩),
  (258, ⟨.fn, 1, false, [.v .nilFunc], 8⟩),
  (260, ⟨.fn, 1, false, [.v .nilFunc], 8⟩),
  (262, ⟨.sl 49, 1, false, [.v (.slice none 0 0)], 24⟩),
  (263, ⟨.fn, 1, false, [.v .nilFunc], 8⟩),
  (264, ⟨.fn, 1, false, [.v .nilFunc], 8⟩),
  (265, ⟨.fn, 1, false, [.v .nilFunc], 8⟩),
  (266, ⟨.arr 8 5, 8, true, [.h 8 (List.replicate 8 0)], 8⟩),
  (267, ⟨.fn, 1, false, [.v .nilFunc], 8⟩),
  (268, ⟨.int .i64, 1, false, [.i 0], 8⟩),
  (270, ⟨.fn, 1, false, [.v .nilFunc], 8⟩),
  (271, ⟨.fn, 1, false, [.v .nilFunc], 8⟩),
  (272, ⟨.fn, 1, false, [.v .nilFunc], 8⟩),
  (273, ⟨.fn, 1, false, [.v .nilFunc], 8⟩),
  (274, ⟨.fn, 1, false, [.v .nilFunc], 8⟩),
  (275, ⟨.fn, 1, false, [.v .nilFunc], 8⟩),
  (276, ⟨.int .u64, 1, false, [.u 0], 8⟩),
  (277, ⟨.fn, 1, false, [.v .nilFunc], 8⟩),
  (278, ⟨.fn, 1, false, [.v .nilFunc], 8⟩),
  (279, ⟨.fn, 1, false, [.v .nilFunc], 8⟩),
  (280, ⟨.ptr 3, 1, false, [.v (.pointer none)], 8⟩),
  (281, ⟨.fn, 1, false, [.v .nilFunc], 8⟩),
  (282, ⟨.ptr 276, 1, false, [.v (.pointer none)], 8⟩),
  (283, ⟨.fn, 1, false, [.v .nilFunc], 8⟩),
  (284, ⟨.fn, 1, false, [.v .nilFunc], 8⟩),
  (293, ⟨.ptr 5, 1, false, [.v (.pointer none)], 8⟩),
  (298, ⟨.fn, 1, false, [.v .nilFunc], 8⟩),
  (304, ⟨.int .u16, 1, false, [.v (.int .u16 0)], 2⟩),
  (311, ⟨.ptr 49, 1, false, [.v (.pointer none)], 8⟩)]
theorem tis_ok : allTi' Tryd.prog tis := ⟨tiok, tiok, tiok, tiok, tiok, tiok, tiok, tiok, tiok, tiok, tiok, tiok, tiok, tiok, tiok, tiok, tiok, tiok, tiok, tiok, tiok, tiok, tiok, tiok, tiok, tiok, tiok, tiok, tiok, tiok, tiok, tiok, tiok, tiok, tiok, tiok, tiok, tiok, tiok, tiok, tiok, tiok, tiok, tiok, tiok, tiok, tiok, tiok, tiok, tiok, tiok, tiok, tiok, tiok, tiok, tiok, tiok, tiok, tiok, tiok, tiok, tiok, tiok, tiok, tiok, tiok, tiok, tiok, tiok, tiok, tiok, tiok, tiok, tiok, tiok, tiok, tiok, tiok, tiok, tiok, tiok, tiok, tiok, tiok, tiok, tiok, tiok, tiok, tiok, tiok, tiok, tiok, tiok, tiok, tiok, tiok, tiok, tiok, tiok, tiok, tiok, tiok, tiok, tiok, tiok, tiok, tiok, tiok, tiok, tiok, tiok, tiok, tiok, tiok, tiok, tiok, tiok, tiok, tiok, tiok, tiok, tiok, tiok, tiok, tiok, tiok, tiok, tiok, tiok, tiok, tiok, tiok, tiok, tiok, tiok, tiok, tiok, tiok, tiok, tiok, tiok, tiok, tiok, tiok, tiok, tiok, tiok, tiok, tiok, tiok, tiok, tiok, tiok, tiok, tiok, tiok, tiok, tiok, tiok, tiok, tiok, tiok, tiok, tiok, tiok, tiok, tiok, tiok, tiok, tiok, tiok, tiok, tiok, tiok, tiok, tiok, tiok, tiok, tiok, tiok, tiok, tiok, tiok, tiok, tiok, tiok, tiok, tiok, tiok, tiok, tiok, tiok, tiok, tiok, tiok, tiok, tiok, tiok, tiok, tiok, tiok, tiok, tiok, tiok, tiok, tiok, tiok, tiok, tiok, tiok, tiok, tiok, tiok, tiok, tiok, tiok, tiok, tiok, tiok, tiok, tiok, tiok, tiok, trivial⟩
def GT : Tys := ⟨gam dflt [(5, ⟨UInt8, tU8, 0⟩), (223, ⟨UInt32, tU32, 0⟩), (3, ⟨Int, tI64, 0⟩), (4, ⟨Bool, tBool, false⟩), (9, ⟨(List UInt8), tStr, []⟩), (22, ⟨(List UInt8), (tSl tU8), []⟩), (46, ⟨Pair, tPair, ⟨[], []⟩⟩), (121, ⟨Turn, tTurn, ⟨0, 0, false, zero32⟩⟩), (26, ⟨Proof, tProof, ⟨[], [], []⟩⟩), (100, ⟨Token, tToken, ⟨0, zero32, [], [], 0, 0⟩⟩), (167, ⟨Field, tField, ⟨0, []⟩⟩), (133, ⟨Act, tAct, ⟨0, 0, [], []⟩⟩), (190, ⟨Item, tItem, ⟨false, [], []⟩⟩), (198, ⟨Item, tItem, ⟨false, [], []⟩⟩), (124, ⟨Node, tNode, ⟨[], [], 0, 0, zero32, zero32⟩⟩), (29, ⟨(Option Proof), (tPtr tProof), none⟩)], fun _ => dfltM⟩
noncomputable def OB : OT GT := [⟨5, oiU8⟩,
  ⟨223, oiU32⟩,
  ⟨3, oiI64⟩,
  ⟨4, oiBool⟩,
  ⟨9, oiStr⟩,
  ⟨22, (oiSl 5)⟩,
  ⟨46, (oiBy 48 (oiIso _ (fun y => ⟨y.1, y.2⟩) (fun _ => rfl) (oiProd (oiSl 5) (oiSl 5))))⟩,
  ⟨121, (oiBy 56 (oiIso _ (fun y => ⟨y.1, y.2.1, y.2.2.1, y.2.2.2⟩) (fun _ => rfl) (oiProd oiI64 (oiProd oiU64 (oiProd oiBool oiHash)))))⟩,
  ⟨26, (oiBy 72 (oiIso _ (fun y => ⟨y.1, y.2.1, y.2.2⟩) (fun _ => rfl) (oiProd (oiSl 5) (oiProd (oiSl 5) (oiSl 121)))))⟩,
  ⟨100, (oiBy 104 (oiIso _ (fun y => ⟨y.1, y.2.1, y.2.2.1, y.2.2.2.1, y.2.2.2.2.1, y.2.2.2.2.2⟩) (fun _ => rfl) (oiProd oiU8 (oiProd oiHash (oiProd (oiSl 5) (oiProd (oiSl 5) (oiProd oiI64 oiU64)))))))⟩,
  ⟨167, (oiBy 32 (oiIso _ (fun y => ⟨y.1, y.2⟩) (fun _ => rfl) (oiProd oiU8 (oiSl 5))))⟩,
  ⟨133, (oiBy 56 (oiIso _ (fun y => ⟨y.1, y.2.1, y.2.2.1, y.2.2.2⟩) (fun _ => rfl) (oiProd oiU8 (oiProd oiU8 (oiProd (oiSl 5) (oiSl 5))))))⟩,
  ⟨190, (oiBy 56 (oiIso _ (fun y => ⟨y.1, y.2.1, y.2.2⟩) (fun _ => rfl) (oiProd oiBool (oiProd (oiSl 5) (oiSl 5)))))⟩,
  ⟨198, (oiBy 56 (oiIso _ (fun y => ⟨y.1, y.2.1, y.2.2⟩) (fun _ => rfl) (oiProd oiBool (oiProd (oiSl 5) (oiSl 5)))))⟩,
  ⟨124, (oiBy 128 (oiIso _ (fun y => ⟨y.1, y.2.1, y.2.2.1, y.2.2.2.1, y.2.2.2.2.1, y.2.2.2.2.2⟩) (fun _ => rfl) (oiProd (oiSl 5) (oiProd (oiSl 5) (oiProd oiI64 (oiProd oiU64 (oiProd oiHash oiHash)))))))⟩,
  ⟨29, (oiPt 26 (oiBy 72 (oiIso _ (fun y => ⟨y.1, y.2.1, y.2.2⟩) (fun _ => rfl) (oiProd (oiSl 5) (oiProd (oiSl 5) (oiSl 121))))))⟩]
noncomputable def EN : Env GT := mkEnv Tryd.prog tis (allTi'_ok tis_ok) 5 rfl OB
theorem MX : EN.P.follows .mixedOrders = true := by kernel_rfl
end Go.Proofs.YtnicmjipbnhciaaDoor.X
set_option linter.unusedVariables false
set_option linter.unusedSimpArgs false
namespace Go.Proofs.YtnicmjipbnhciaaDoor.E
open Go
/-- The byte of n that stands k places behind the greatest. -/
def byteAt (n : UInt64) (k : Nat) : UInt8 := (n >>> (56 - 8 * k).toUInt64).toUInt8
def eight (n : UInt64) : List UInt8 := (List.range 8).map (byteAt n)
theorem eight_len (n : UInt64) : (eight n).length = 8 := by simp [eight]
def eightTo (n : UInt64) (k : Nat) : List UInt8 := (List.range k).map (byteAt n)
theorem eightTo_succ (n : UInt64) (k : Nat) : eightTo n k ++ [byteAt n k] = eightTo n (k + 1) := by simp [eightTo, List.range_succ]
theorem eightTo_len (n : UInt64) (k : Nat) : (eightTo n k).length = k := by simp [eightTo]
def numTo (b : List UInt8) (k : Nat) : UInt64 := (b.take k).foldl (fun n c => n <<< (8 : Nat).toUInt64 ||| c.toUInt64) 0
def rotr (x n : UInt32) : UInt32 := x >>> n ||| x <<< (32 - n)
def be4 (a b c d : UInt8) : UInt32 := a.toUInt32 <<< 24 ||| b.toUInt32 <<< 16 ||| c.toUInt32 <<< 8 ||| d.toUInt32
def sm0 (x : UInt32) : UInt32 := rotr x 7 ^^^ rotr x 18 ^^^ x >>> 3
def sm1 (x : UInt32) : UInt32 := rotr x 17 ^^^ rotr x 19 ^^^ x >>> 10
def bg0 (a : UInt32) : UInt32 := rotr a 2 ^^^ rotr a 13 ^^^ rotr a 22
def bg1 (e : UInt32) : UInt32 := rotr e 6 ^^^ rotr e 11 ^^^ rotr e 25
def chW (e f g : UInt32) : UInt32 := e &&& f ^^^ ~~~e &&& g
def majW (a b c : UInt32) : UInt32 := a &&& b ^^^ a &&& c ^^^ b &&& c
theorem bits_ext {x y : UInt32} (h : ∀ i, x.toBitVec.getLsbD i = y.toBitVec.getLsbD i) : x = y := by
  apply UInt32.toBitVec_inj.1
  exact BitVec.eq_of_getLsbD_eq fun i _ => h i
theorem or_comm32 (a b : UInt32) : (a ||| b) = (b ||| a) := by
  refine bits_ext fun i => ?_
  simp only [UInt32.toBitVec_or, BitVec.getLsbD_or, Bool.or_comm]
theorem e8 (a b c : Nat) : (a * 65536 + b * 256 + c) * 2 ^ 8 = a * 16777216 + b * 65536 + c * 256 := by
  rw [show (2 : Nat) ^ 8 = 256 from rfl]; omega
def kTab : List UInt32 := [
  0x428a2f98, 0x71374491, 0xb5c0fbcf, 0xe9b5dba5, 0x3956c25b, 0x59f111f1, 0x923f82a4, 0xab1c5ed5,
  0xd807aa98, 0x12835b01, 0x243185be, 0x550c7dc3, 0x72be5d74, 0x80deb1fe, 0x9bdc06a7, 0xc19bf174,
  0xe49b69c1, 0xefbe4786, 0x0fc19dc6, 0x240ca1cc, 0x2de92c6f, 0x4a7484aa, 0x5cb0a9dc, 0x76f988da,
  0x983e5152, 0xa831c66d, 0xb00327c8, 0xbf597fc7, 0xc6e00bf3, 0xd5a79147, 0x06ca6351, 0x14292967,
  0x27b70a85, 0x2e1b2138, 0x4d2c6dfc, 0x53380d13, 0x650a7354, 0x766a0abb, 0x81c2c92e, 0x92722c85,
  0xa2bfe8a1, 0xa81a664b, 0xc24b8b70, 0xc76c51a3, 0xd192e819, 0xd6990624, 0xf40e3585, 0x106aa070,
  0x19a4c116, 0x1e376c08, 0x2748774c, 0x34b0bcb5, 0x391c0cb3, 0x4ed8aa4a, 0x5b9cca4f, 0x682e6ff3,
  0x748f82ee, 0x78a5636f, 0x84c87814, 0x8cc70208, 0x90befffa, 0xa4506ceb, 0xbef9a3f7, 0xc67178f2]
def wAt (w : List UInt32) (i : Nat) : UInt32 := w.getD i 0
def bAt (b : List UInt8) (i : Nat) : UInt8 := b.getD i 0
def wordAt (b : List UInt8) (i : Nat) : UInt32 := be4 (bAt b (4 * i)) (bAt b (4 * i + 1)) (bAt b (4 * i + 2)) (bAt b (4 * i + 3))
def wextAt (w : List UInt32) (i : Nat) : UInt32 := wAt w (i - 16) + sm0 (wAt w (i - 15)) + wAt w (i - 7) + sm1 (wAt w (i - 2))
def schedTo (b : List UInt8) : Nat → List UInt32
  | 0 => List.replicate 64 0
  | i + 1 => (schedTo b i).set i (if i < 16 then wordAt b i else wextAt (schedTo b i) i)
theorem schedTo_len (b : List UInt8) : ∀ k, (schedTo b k).length = 64
  | 0 => by simp [schedTo]
  | k + 1 => by simp [schedTo, schedTo_len b k]
structure St where
  a : UInt32
  b : UInt32
  c : UInt32
  d : UInt32
  e : UInt32
  f : UInt32
  g : UInt32
  h : UInt32
  deriving DecidableEq
def rnd (s : St) (k w : UInt32) : St :=
  let x := s.h + bg1 s.e + chW s.e s.f s.g + k + w
  let y := bg0 s.a + majW s.a s.b s.c
  ⟨x + y, s.a, s.b, s.c, s.d + x, s.e, s.f, s.g⟩
def rndTo (w : List UInt32) (s : St) : Nat → St
  | 0 => s
  | i + 1 => rnd (rndTo w s i) (wAt kTab i) (wAt w i)
def addSt (s t : St) : St := ⟨s.a + t.a, s.b + t.b, s.c + t.c, s.d + t.d, s.e + t.e, s.f + t.f, s.g + t.g, s.h + t.h⟩
def compress (s : St) (b : List UInt8) : St := addSt s (rndTo (schedTo b 64) s 64)
def st0 : St := ⟨0x6a09e667, 0xbb67ae85, 0x3c6ef372, 0xa54ff53a, 0x510e527f, 0x9b05688c, 0x1f83d9ab, 0x5be0cd19⟩
def padN (n : Nat) : Nat := (119 - n % 64) % 64
def padded (b : List UInt8) : List UInt8 := b ++ [0x80] ++ List.replicate (padN b.length) 0 ++ eight (UInt64.ofNat b.length * 8)
def blocksTo (m : List UInt8) : Nat → St
  | 0 => st0
  | i + 1 => compress (blocksTo m i) (m.drop (64 * i))
def four (x : UInt32) : List UInt8 := [(x >>> (24 : Nat).toUInt32).toUInt8, (x >>> (16 : Nat).toUInt32).toUInt8, (x >>> (8 : Nat).toUInt32).toUInt8, (x >>> (0 : Nat).toUInt32).toUInt8]
def bytesSt (s : St) : List UInt8 := four s.a ++ four s.b ++ four s.c ++ four s.d ++ four s.e ++ four s.f ++ four s.g ++ four s.h
def sum256 (b : List UInt8) : List UInt8 := bytesSt (blocksTo (padded b) ((padded b).length / 64))
theorem sum256_len (b : List UInt8) : (sum256 b).length = 32 := by simp [sum256, bytesSt, four]
theorem padded_len (b : List UInt8) : (padded b).length % 64 = 0 := by
  unfold padded padN
  simp only [List.length_append, List.length_cons, List.length_nil, List.length_replicate, eight_len]
  omega
end Go.Proofs.YtnicmjipbnhciaaDoor.E
set_option linter.unusedVariables false
set_option linter.unusedSimpArgs false
set_option maxRecDepth 100000
namespace Go.Proofs.YtnicmjipbnhciaaDoor.X
open Go Go.RowKit Go.Proofs Go.Proofs.YtnicmjipbnhciaaDoor.E
def tabP (g : Nat) : PP := ⟨fun σ w _ => Seg σ w g 0 (kTab.map wv), fun st h => h.step st⟩
def wordsP : PP := tabP 3
end Go.Proofs.YtnicmjipbnhciaaDoor.X
set_option linter.unusedVariables false
set_option linter.unusedSimpArgs false
namespace Go.Proofs.YtnicmjipbnhciaaDoor.E
open Go
theorem rl (x : UInt32) (k : Int) (a b : UInt32) (h1 : (ofI k &&& 31).toNat.toUInt32 = 32 - a) (h2 : (32 - (ofI k &&& 31)).toNat.toUInt32 = a) : rotl x k = rotr x a := by
  unfold rotl rotr
  rw [h1, h2, or_comm32]
theorem rotl7 (x : UInt32) : rotl x (-7) = rotr x 7 := rl x _ _ 0 (by decide) (by decide)
theorem rotl18 (x : UInt32) : rotl x (-18) = rotr x 18 := rl x _ _ 0 (by decide) (by decide)
theorem rotl17 (x : UInt32) : rotl x (-17) = rotr x 17 := rl x _ _ 0 (by decide) (by decide)
theorem rotl19 (x : UInt32) : rotl x (-19) = rotr x 19 := rl x _ _ 0 (by decide) (by decide)
theorem rotl6 (x : UInt32) : rotl x (-6) = rotr x 6 := rl x _ _ 0 (by decide) (by decide)
theorem rotl11 (x : UInt32) : rotl x (-11) = rotr x 11 := rl x _ _ 0 (by decide) (by decide)
theorem rotl25 (x : UInt32) : rotl x (-25) = rotr x 25 := rl x _ _ 0 (by decide) (by decide)
theorem rotl2 (x : UInt32) : rotl x (-2) = rotr x 2 := rl x _ _ 0 (by decide) (by decide)
theorem rotl13 (x : UInt32) : rotl x (-13) = rotr x 13 := rl x _ _ 0 (by decide) (by decide)
theorem rotl22 (x : UInt32) : rotl x (-22) = rotr x 22 := rl x _ _ 0 (by decide) (by decide)
theorem schedTo_lo {b : List UInt8} {k : Nat} (hk : k < 16) (hb : 64 ≤ b.length) : schedTo b (k + 1) = (schedTo b k).set k (be4 (b[4 * k]'(by omega)) (b[4 * k + 1]'(by omega)) (b[4 * k + 2]'(by omega)) (b[4 * k + 3]'(by omega))) := by
  have e : schedTo b (k + 1) = (schedTo b k).set k (if k < 16 then wordAt b k else wextAt (schedTo b k) k) := rfl
  rw [e, if_pos hk]
  unfold wordAt bAt
  rw [getD_of b 0 (show 4 * k < b.length by omega), getD_of b 0 (show 4 * k + 1 < b.length by omega), getD_of b 0 (show 4 * k + 2 < b.length by omega), getD_of b 0 (show 4 * k + 3 < b.length by omega)]
theorem schedTo_hi {b : List UInt8} {k : Nat} (hk : ¬ k < 16) : schedTo b (k + 1) = (schedTo b k).set k (wextAt (schedTo b k) k) := by
  have e : schedTo b (k + 1) = (schedTo b k).set k (if k < 16 then wordAt b k else wextAt (schedTo b k) k) := rfl
  rw [e, if_neg hk]
def addTo (h v : List UInt32) : Nat → List UInt32
  | 0 => h
  | i + 1 => (addTo h v i).set i ((addTo h v i).getD i 0 + v.getD i 0)
theorem addTo_len (h v : List UInt32) : ∀ k, (addTo h v k).length = h.length
  | 0 => rfl
  | k + 1 => by simp [addTo, addTo_len h v k]
theorem f_retN {P : Program} {fn : Func} {a : Act} {n : Nat} {l : Sl} {M : Nat → Prop} {σ0 : Nat → Nat} {w0 w : World} {Post : (Nat → Nat) → World → Value → Prop} (hF : Fr a n l) (rs : List ResultVar) (hr : fn.results = rs.toArray) (vs : List Value) (h : RVs P a w rs vs) (v : Value) (hv : (if h : vs.toArray.size = 1 then vs.toArray[0] else .tuple vs.toArray) = v)
    (σ : Nat → Nat) (hs : Stp M σ0 w0 σ w) (hp : Post σ w v) : bodyPost P fn (fun e w' => ∃ σ' v, e = .returned v ∧ Stp M σ0 w0 σ' w' ∧ Post σ' w' v) .normal a w :=
  ⟨hF.d, v, results_of hr h v hv, σ, v, rfl, hs, hp⟩
theorem kTab_len : kTab.length = 64 := rfl
theorem i64_remN (a b : Nat) : Int.tmod (a : Int) (b : Int) = ((a % b : Nat) : Int) := (Int.ofNat_tmod a b).symm
theorem i64_quoN (a b : Nat) (h : a < 9223372036854775808) : IntKind.i64.wrap (Int.tdiv (a : Int) (b : Int)) = ((a / b : Nat) : Int) := by
  have e : Int.tdiv (a : Int) (b : Int) = ((a / b : Nat) : Int) := (Int.ofNat_tdiv a b).symm
  have h2 : a / b ≤ a := Nat.div_le_self _ _
  rw [e]
  generalize a / b = q at *
  exact i64_eq (by omega) (by omega) rfl
theorem flat_step {l : List (List UInt8)} {k : Nat} (hk : k < l.length) : (l.take k).flatten ++ l[k] = (l.take (k + 1)).flatten := by
  rw [List.take_succ_eq_append_getElem hk, List.flatten_append]
  simp
theorem flat_len (l : List (List UInt8)) (k : Nat) : ((l.take k).flatten).length ≤ l.flatten.length := by
  have h : l.flatten = (l.take k).flatten ++ (l.drop k).flatten := by rw [← List.flatten_append, List.take_append_drop]
  rw [h, List.length_append]; omega
theorem flat_len2 {l : List (List UInt8)} {k : Nat} (hk : k < l.length) : ((l.take k).flatten).length + (l[k]).length ≤ l.flatten.length := by
  have h := flat_len l (k + 1)
  rw [← flat_step hk, List.length_append] at h
  exact h
theorem rep_step (P : List UInt8) (k : Nat) : (P ++ List.replicate k 0) ++ [0] = P ++ List.replicate (k + 1) 0 := by
  rw [List.append_assoc, List.replicate_succ']
theorem pad_end (n : Nat) : (n + 1 + padN n) % 64 = 56 := by unfold padN; omega
theorem pad_lt {n k : Nat} (h : k ≤ padN n) (h2 : ¬ (n + 1 + k) % 64 = 56) : k < padN n := by
  rcases Nat.lt_or_ge k (padN n) with h3 | h3
  · exact h3
  · have : k = padN n := by omega
    subst this
    exact absurd (pad_end n) h2
theorem pad_eq {n k : Nat} (h : k ≤ padN n) (h2 : (n + 1 + k) % 64 = 56) : k = padN n := by
  have h3 : padN n < 64 := by unfold padN; omega
  have h4 := pad_end n
  omega
def outTo (h : List UInt32) : Nat → List UInt8
  | 0 => List.replicate 32 0
  | j + 1 => (outTo h j).set j ((h.getD (j / 4) 0) >>> (24 - j % 4 * 8).toUInt32).toUInt8
theorem outTo_len (h : List UInt32) : ∀ k, (outTo h k).length = 32
  | 0 => by simp [outTo]
  | k + 1 => by simp [outTo, outTo_len h k]
theorem outTo_all (s : St) : outTo [s.a, s.b, s.c, s.d, s.e, s.f, s.g, s.h] 32 = bytesSt s := by kernel_rfl
theorem drop_step (m : List UInt8) (g n : Nat) (hn : n = m.length - 64 * g) : (((m.drop (64 * g)).take n).drop 64) = m.drop (64 * (g + 1)) := by
  subst hn
  rw [List.take_of_length_le (by simp), List.drop_drop]
  congr 1
section
variable {P : Program} {ops : Array Oper} {Q : Exit → Act → World → Prop} {Kp : Act → World → Prop} {n i : Nat} {l l' : Sl} {a : Act} {w w' : World} {C : Code} {M : Nat → Prop} {σ : Nat → Nat}
theorem q_storeAll {α : Type} (f : α → Value) {t : TypeId} (x y : Operand) (hF : Fr a n l) {b : Nat} {old : List Value} {e : TypeId} (hB : Bx σ w b old e) (ys : List α) (k : Nat) (L : Lay P t true k) (hl : ys.length = k) (ho' : old.length = k) (h1 : ∀ z, (f z).oneCell' = true)
    (K : ∀ a' w', Stp (· = b) σ w σ w' → Bx σ w' b (ys.map f) e → Fr a' n l → Kp a' w')
    (ho : (ops[i]?).map (fun o => (o.dst, o.op)) = some (none, .store t x y) := by kernel_rfl) (hk : okAt ops i n l = true := by kernel_rfl)
    (hx : evl l x = .pointer (some ⟨b, 0, none⟩) := by kernel_rfl) (hy : (evl l y).cells.toList = ys.map f := by kernel_rfl) : wpOp P ops Q i Kp a w :=
  r_store hF ho hk hB 0 (ys.map f) _ hx hy k true L (by simpa using hl) (by simp [h1]) (by simp; omega) (by
    rw [List.take_zero, List.nil_append, List.drop_of_length_le (by simp; omega), List.append_nil]) K
end
theorem padN_lt (n : Nat) : padN n < 64 := by unfold padN; omega
theorem s2_len (B : List UInt8) (k : Nat) : ((B ++ [128]) ++ List.replicate k 0).length = B.length + 1 + k := by simp; omega
theorem s2_lt {B : List UInt8} {k m : Nat} (hk : k ≤ padN B.length) (hln : ((B ++ [128]) ++ List.replicate k 0).length = m) (h : ¬ m % 64 = 56) : k < padN B.length := by
  rw [s2_len] at hln
  subst hln
  exact pad_lt hk h
theorem s2_eq {B : List UInt8} {k m : Nat} (hk : k ≤ padN B.length) (hln : ((B ++ [128]) ++ List.replicate k 0).length = m) (h : m % 64 = 56) : k = padN B.length := by
  rw [s2_len] at hln
  subst hln
  exact pad_eq hk h
theorem e3_step (P : List UInt8) (n : UInt64) (k : Nat) : (P ++ eightTo n k) ++ [byteAt n k] = P ++ eightTo n (k + 1) := by rw [List.append_assoc, eightTo_succ]
theorem ofI_nat (m : Nat) (h : m < 18446744073709551616) : ofI ((m : Nat) : Int) = UInt64.ofNat m := by
  unfold ofI
  congr 1
  omega
theorem msg_eq {B : List UInt8} {N : UInt64} {k2 k3 : Nat} (h2 : k2 = padN B.length) (h3 : k3 = 8) (hN : N = UInt64.ofNat B.length * 8) : ((B ++ [128]) ++ List.replicate k2 0) ++ eightTo N k3 = padded B := by
  subst h2 h3 hN
  rfl
theorem sum_end {B : List UInt8} {N : UInt64} {k2 k3 k4 k5 : Nat} (h2 : k2 = padN B.length) (h3 : k3 = 8) (hN : N = UInt64.ofNat B.length * 8) (h4 : (((B ++ [128]) ++ List.replicate k2 0) ++ eightTo N k3).length - 64 * k4 = 0) (h4' : 64 * k4 ≤ (((B ++ [128]) ++ List.replicate k2 0) ++ eightTo N k3).length) (h5 : k5 = 32) (S : St) (hS : S = blocksTo (((B ++ [128]) ++ List.replicate k2 0) ++ eightTo N k3) k4) :
    outTo [S.a, S.b, S.c, S.d, S.e, S.f, S.g, S.h] k5 = sum256 B := by
  subst h5 hS
  rw [outTo_all]
  rw [msg_eq h2 h3 hN] at *
  unfold sum256
  have : k4 = (padded B).length / 64 := by omega
  rw [this]
end Go.Proofs.YtnicmjipbnhciaaDoor.E
set_option linter.unusedVariables false
set_option linter.unusedSimpArgs false
set_option maxRecDepth 100000
namespace Go.Proofs.YtnicmjipbnhciaaDoor.X
open Go Go.RowKit Go.Proofs Go.Proofs.YtnicmjipbnhciaaDoor.E
def PB (B : List UInt8) (k : Nat) : List UInt8 := (B ++ [128]) ++ List.replicate k 0
theorem PB_len (B : List UInt8) (k : Nat) : (PB B k).length = B.length + 1 + k := s2_len B k
def MG (B : List UInt8) (k : Nat) (j : Nat) : List UInt8 := PB B k ++ E.eightTo (ofI (B.length : Int) * 8) j
theorem MG_len (B : List UInt8) (k j : Nat) : (MG B k j).length = B.length + 1 + k + j := by unfold MG; rw [List.length_append, PB_len, E.eightTo_len]
def ZI (M B : List UInt8) (g : Nat) : Prop := M = padded B ∧ 64 * g ≤ M.length ∧ M.length % 64 = 0 ∧ M.length ≤ 200000
theorem ZI.start {B : List UInt8} {k j : Nat} (hl : B.length ≤ 100000) (h1 : k ≤ padN B.length) (h2 : ¬ ((PB B k).length : Int) % 64 ≠ 56) (h3 : j ≤ 8) (h4 : ¬ (j : Int) < 8) : ZI (MG B k j) B 0 := by
  have hk := s2_eq (k := k) (m := (PB B k).length) h1 rfl (by omega)
  have hj : j = 8 := by omega
  have e : MG B k j = padded B := msg_eq hk hj (by rw [ofI_nat _ (by omega)])
  have := padN_lt B.length
  refine ⟨e, by omega, ?_, by rw [MG_len]; omega⟩
  rw [e]; exact padded_len B
theorem ZI.next {M B : List UInt8} {g : Nat} (h : ZI M B g) (hg : (64 * (g : Int)) < M.length) : 64 * g + 64 ≤ M.length := by have := h.2.2.1; omega
theorem ZI.go {M B : List UInt8} {g : Nat} (h : ZI M B g) (hg : (64 * (g : Int)) < M.length) : ZI M B (g + 1) ∧ M.length - 64 * (g + 1) < M.length - 64 * g := by
  have := h.next hg
  exact ⟨⟨h.1, by omega, h.2.2⟩, by omega⟩
end Go.Proofs.YtnicmjipbnhciaaDoor.X
set_option linter.unusedVariables false
namespace Go.Proofs.YtnicmjipbnhciaaDoor.E
open Go Go.RowKit
open Go.Proofs
theorem C127 : callable Tryd.prog 127 = true := by kernel_rfl
theorem C139 : callable Tryd.prog 139 = true := by kernel_rfl
noncomputable def c3 : Code := (Tryd.f3.body).getD .skip
noncomputable def c4 : Code := (Tryd.f4.body).getD .skip
noncomputable def c5 : Code := (Tryd.f5.body).getD .skip
noncomputable def c6 : Code := (Tryd.f6.body).getD .skip
noncomputable def c7 : Code := (Tryd.f7.body).getD .skip
noncomputable def c8 : Code := (Tryd.f8.body).getD .skip
noncomputable def c9 : Code := (Tryd.f9.body).getD .skip
noncomputable def c35 : Code := (Tryd.f35.body).getD .skip
noncomputable def c37 : Code := (Tryd.f37.body).getD .skip
noncomputable def c45 : Code := (Tryd.f45.body).getD .skip
noncomputable def c46 : Code := (Tryd.f46.body).getD .skip
noncomputable def c60 : Code := (Tryd.f60.body).getD .skip
noncomputable def c61 : Code := (Tryd.f61.body).getD .skip
noncomputable def c71 : Code := (Tryd.f71.body).getD .skip
noncomputable def c75 : Code := (Tryd.f75.body).getD .skip
noncomputable def c81 : Code := (Tryd.f81.body).getD .skip
noncomputable def c82 : Code := (Tryd.f82.body).getD .skip
noncomputable def c84 : Code := (Tryd.f84.body).getD .skip
noncomputable def c85 : Code := (Tryd.f85.body).getD .skip
noncomputable def c87 : Code := (Tryd.f87.body).getD .skip
noncomputable def c97 : Code := (Tryd.f97.body).getD .skip
noncomputable def c98 : Code := (Tryd.f98.body).getD .skip
noncomputable def c101 : Code := (Tryd.f101.body).getD .skip
noncomputable def c104 : Code := (Tryd.f104.body).getD .skip
noncomputable def c105 : Code := (Tryd.f105.body).getD .skip
noncomputable def c108 : Code := (Tryd.f108.body).getD .skip
noncomputable def c109 : Code := (Tryd.f109.body).getD .skip
noncomputable def c114 : Code := (Tryd.f114.body).getD .skip
noncomputable def c116 : Code := (Tryd.f116.body).getD .skip
noncomputable def c117 : Code := (Tryd.f117.body).getD .skip
noncomputable def c118 : Code := (Tryd.f118.body).getD .skip
noncomputable def c119 : Code := (Tryd.f119.body).getD .skip
noncomputable def c124 : Code := (Tryd.f124.body).getD .skip
noncomputable def c127 : Code := (Tryd.f127.body).getD .skip
noncomputable def c128 : Code := (Tryd.f128.body).getD .skip
noncomputable def c129 : Code := (Tryd.f129.body).getD .skip
noncomputable def c130 : Code := (Tryd.f130.body).getD .skip
noncomputable def c133 : Code := (Tryd.f133.body).getD .skip
noncomputable def c139 : Code := (Tryd.f139.body).getD .skip
noncomputable def c140 : Code := (Tryd.f140.body).getD .skip
noncomputable def c141 : Code := (Tryd.f141.body).getD .skip
theorem L5 : Lay Tryd.prog 5 false 1 := ⟨fun _ => by kernel_rfl, fun _ => by kernel_rfl⟩
theorem L22 : Lay Tryd.prog 22 false 1 := ⟨fun _ => by kernel_rfl, fun _ => by kernel_rfl⟩
theorem L52 : Lay Tryd.prog 52 true 32 := ⟨fun _ => by kernel_rfl, fun _ => by kernel_rfl⟩
theorem L223 : Lay Tryd.prog 223 false 1 := ⟨fun _ => by kernel_rfl, fun _ => by kernel_rfl⟩
theorem L226 : Lay Tryd.prog 226 true 64 := ⟨fun _ => by kernel_rfl, fun _ => by kernel_rfl⟩
theorem L244 : Lay Tryd.prog 244 true 8 := ⟨fun _ => by kernel_rfl, fun _ => by kernel_rfl⟩
theorem U2 : Tryd.prog.underlying 2 = some (.int .i64) := by kernel_rfl
theorem U3 : Tryd.prog.underlying 3 = some (.int .i64) := by kernel_rfl
theorem U5 : Tryd.prog.underlying 5 = some (.int .u8) := by kernel_rfl
theorem U9 : Tryd.prog.underlying 9 = some .string := by kernel_rfl
theorem U22 : Tryd.prog.underlying 22 = some (.slice 5) := by kernel_rfl
theorem U52 : Tryd.prog.underlying 52 = some (.array 32 5) := by kernel_rfl
theorem U56 : Tryd.prog.underlying 56 = some (.slice 22) := by kernel_rfl
theorem U226 : Tryd.prog.underlying 226 = some (.array 64 223) := by kernel_rfl
theorem U244 : Tryd.prog.underlying 244 = some (.array 8 223) := by kernel_rfl
theorem S22 : SlT Tryd.prog 22 5 1 1 (Value.int .u8 0) := ⟨U22, by kernel_rfl, rfl, by decide⟩
end Go.Proofs.YtnicmjipbnhciaaDoor.E
set_option linter.unusedVariables false
set_option linter.unusedSimpArgs false
set_option maxRecDepth 100000
set_option maxHeartbeats 2000000
namespace Go.Proofs.YtnicmjipbnhciaaDoor.E
open Go Go.RowKit
open Go.Proofs
theorem and31 (x : UInt64) : (x &&& 31).toNat < 32 := by
  rw [UInt64.toNat_and]
  have : (31 : UInt64).toNat = 31 := rfl
  rw [this]
  exact Nat.lt_succ_of_le Nat.and_le_right
theorem rot_lt {k : Int} (hk : (ofI k &&& 31).toNat ≠ 0) : (32 - (ofI k &&& 31)).toNat < 32 := by
  have h := and31 (ofI k)
  generalize ofI k &&& 31 = s at *
  rw [UInt64.toNat_sub]
  have h32 : (32 : UInt64).toNat = 32 := rfl
  have h64 : (2 ^ 64 : Nat) = 18446744073709551616 := by decide
  rw [h32, h64]
  omega
theorem rotl_calls (σ : Nat → Nat) (w : World) (x : UInt32) (k : Int) (hk : (ofI k &&& 31).toNat ≠ 0) :
  Ctr Tryd.prog 139 [(wv x), (Value.int .i64 (k))] noM σ w (fun σ' w' v => v = wv (rotl x k)) := by
 have hk2 : (32 - (ofI k &&& 31)).toNat < 32 := rot_lt hk
 have hk1 : (ofI k &&& 31).toNat < 32 := and31 _
 refine ctr_enter Tryd.func139 c139 (by kernel_rfl) 17 (by kernel_rfl) (Nat.le_of_ble_eq_true (by kernel_rfl)) [(0, (wv x)), (1, (Value.int .i64 (k)))] (by kernel_rfl) ?_
 intro a hF1
 have hS2 := Stp.refl noM σ w
 refine q_seq ?_
 refine q_reg ?_
 refine q_run 1 [(4, (wv 0))] hF1 fun a3 hF4 => ?_
 refine q_end ?_
 refine q_seq ?_
 refine q_reg ?_
 refine q_run 1 [(6, (Value.int .i64 (k)))] hF4 fun a5 hF6 => ?_
 refine q_one 7 (congrArg (Value.int .u64) (i64_u64 (k : Int))) hF6 fun a7 hF8 => ?_
 refine q_one 8 (congrArg (Value.int .u64) (u64_and (ofI (k : Int)) (31 : UInt64))) hF8 fun a9 hF10 => ?_
 refine q_run 1 [(5, (uv ((ofI (k : Int)) &&& 31)))] hF10 fun a11 hF12 => ?_
 refine q_end ?_
 refine q_seq ?_
 refine q_reg ?_
 refine q_run 2 [(10, (uv ((ofI (k : Int)) &&& 31))), (9, (wv x))] hF12 fun a13 hF14 => ?_
 refine r_at (q_val 11 (Op.binOp BinOp.shl 223 (Operand.tmp 9) (Operand.tmp 10) 162) hF14 (wv (x <<< (((ofI (k : Int)) &&& 31).toNat).toUInt32)) (exec_shl32 (n := x) (k := .u64) (s := (((ofI (k : Int)) &&& 31).toNat : Int)) (by kernel_rfl) (by kernel_rfl) (by omega) (by omega) (((ofI (k : Int)) &&& 31).toNat) rfl) ?_)
 intro a15 hF16
 refine q_run 2 [(13, (uv ((ofI (k : Int)) &&& 31))), (12, (wv x))] hF16 fun a17 hF18 => ?_
 refine q_one 14 (v0 := (Value.int .u64 (IntKind.u64.wrap (((32 : UInt64).toNat : Int) - (((ofI (k : Int)) &&& 31).toNat : Int))))) (v := (uv ((32 : UInt64) - ((ofI (k : Int)) &&& 31)))) (congrArg (Value.int .u64) (u64_sub _ _)) hF18 fun a19 hF20 => ?_
 refine r_at (q_val 15 (Op.binOp BinOp.shr 223 (Operand.tmp 12) (Operand.tmp 14) 162) hF20 (wv (x >>> (((32 : UInt64) - ((ofI (k : Int)) &&& 31)).toNat).toUInt32)) (exec_shr32 (n := x) (k := .u64) (s := (((32 : UInt64) - ((ofI (k : Int)) &&& 31)).toNat : Int)) (by kernel_rfl) (by kernel_rfl) (by omega) (by omega) (((32 : UInt64) - ((ofI (k : Int)) &&& 31)).toNat) rfl) ?_)
 intro a21 hF22
 refine q_one 16 (congrArg (Value.int .u32) (u32_or (x <<< (((ofI (k : Int)) &&& 31).toNat).toUInt32) (x >>> (((32 : UInt64) - ((ofI (k : Int)) &&& 31)).toNat).toUInt32))) hF22 fun a23 hF24 => ?_
 refine q_run 1 [(4, (wv ((x <<< (((ofI (k : Int)) &&& 31).toNat).toUInt32) ||| (x >>> (((32 : UInt64) - ((ofI (k : Int)) &&& 31)).toNat).toUInt32))))] hF24 fun a25 hF26 => ?_
 refine q_end ?_
 refine q_ret ?_
 try dsimp only [Exit.then, Exit.inBlock]
 refine f_ret1 hF26 4 (by kernel_rfl) (wv ((x <<< (((ofI (k : Int)) &&& 31).toNat).toUInt32) ||| (x >>> (((32 : UInt64) - ((ofI (k : Int)) &&& 31)).toNat).toUInt32))) (by kernel_rfl) σ hS2 ?_
 rfl
end Go.Proofs.YtnicmjipbnhciaaDoor.E
set_option linter.unusedVariables false
set_option linter.unusedSimpArgs false
set_option maxRecDepth 100000
set_option maxHeartbeats 2000000
namespace Go.Proofs.YtnicmjipbnhciaaDoor.E
open Go Go.RowKit
open Go.Proofs
abbrev rS (b : List UInt8) (s : St) (k m : Nat) := rndTo (schedTo b k) s m
theorem block_calls (σ : Nat → Nat) (w : World) {bh : Nat} {s : St} (hh : Bx σ w bh (([s.a, s.b, s.c, s.d, s.e, s.f, s.g, s.h] : List UInt32).map wv) 244) {v1 : Value} {b : List UInt8} (h1 : Rd tU8 σ w v1 b) (hb : 64 ≤ b.length) (hg : Seg σ w 3 0 (kTab.map wv)) :
  Ctr Tryd.prog 127 [(Value.pointer (some ⟨bh, 0, none⟩)), v1] (· = bh) σ w (fun σ' w' v => v = .tuple #[] ∧ Bx σ' w' bh (([(compress s b).a, (compress s b).b, (compress s b).c, (compress s b).d, (compress s b).e, (compress s b).f, (compress s b).g, (compress s b).h] : List UInt32).map wv) 244) := by
 obtain ⟨A0, c0, rfl, hl0⟩ := h1.form
 have hbd : b.length ≤ 140737488355328 := Nat.le_trans (Nat.le_mul_of_pos_right _ (by decide)) h1.bd
 have hbhl := hh.lt
 refine ctr_enter Tryd.func127 c127 (by kernel_rfl) 201 (by kernel_rfl) (Nat.le_of_ble_eq_true (by kernel_rfl)) [(0, (Value.pointer (some ⟨bh, 0, none⟩))), (1, (Value.slice A0 b.length c0))] (by kernel_rfl) ?_
 intro a hF1
 have hS2 := Stp.refl (· = bh) σ w
 refine q_seq ?_
 refine q_reg ?_
 refine r_at (q_new 4 (Op.alloc 226) hF1 σ ((List.replicate 64 (0 : UInt32)).map wv) 226 (exec_alloc ((List.replicate 64 (0 : UInt32)).map wv) (fun _ => .inl (by kernel_rfl))) ?_)
 intro a3 s4 w5 b6 hb7 st8 hB9 hF10
 have hz11 := hS2.size
 have ne12 := hh.nl hb7
 have hS13 := hS2.then st8
 refine q_end ?_
 refine q_seq ?_
 refine q_seq ?_
 refine q_reg ?_
 refine q_run 1 [(19, (Value.int .i64 ((0 : Nat) : Int)))] hF10 fun a14 hF15 => ?_
 refine q_end ?_
 refine q_block 0 ?_
 have h21 := (hh.step' st8)
 refine q_loop (fun (k1 : Nat) a16 w17 => ∃ (s18 : Nat → Nat), Fr a16 201 [(0, (Value.pointer (some ⟨bh, 0, none⟩))), (1, (Value.slice A0 b.length c0)), (4, (Value.pointer (some ⟨b6, 0, none⟩))), (19, (Value.int .i64 ((k1 : Nat) : Int)))] ∧ Stp (· = bh) σ w s18 w17 ∧ Bx s18 w17 bh (([s.a, s.b, s.c, s.d, s.e, s.f, s.g, s.h] : List UInt32).map wv) 244 ∧ Bx s18 w17 b6 ((schedTo b (k1)).map wv) 226 ∧ k1 ≤ 16) (fun k1 => 16 - k1) 0 ?_ ?_
 ·skip
  have hF22 := hF15.keep [0, 1, 4, 19] [(0, (Value.pointer (some ⟨bh, 0, none⟩))), (1, (Value.slice A0 b.length c0)), (4, (Value.pointer (some ⟨b6, 0, none⟩))), (19, (Value.int .i64 ((0 : Nat) : Int)))] (by kernel_rfl)
  exact ⟨s4, hF22, hS13, h21, hB9, (by omega)⟩
 ·rintro k1 a16 w17 ⟨s18, hF19, hS20, h23, h24, hk1⟩
  refine q_seq ?_
  refine q_reg ?_
  refine q_one 20 (congrArg Value.bool (cmp_nat_lss (k1) (16))) hF19 fun a25 hF26 => ?_
  refine q_end ?_
  refine q_seq ?_
  refine q_cond 20 hF26 (decide ((k1 : Nat) < 16)) (fun hc27 => ?_) (fun hc27 => ?_)
  ·skip
   have hc27 := of_decide_eq_true hc27
   refine q_skip ?_
   refine q_seq ?_
   refine q_block 1 ?_
   refine q_seq ?_
   refine q_reg ?_
   refine q_run 2 [(5, (Value.int .i64 ((k1 : Nat) : Int))), (21, (Value.int .i64 ((k1 : Nat) : Int)))] hF26 fun a28 hF29 => ?_
   refine q_end ?_
   refine c_planL 4 35 1 (by kernel_rfl) (by kernel_rfl) s18 (fun b => b ≠ bh ∧ b ≠ b6 ∧ True) [(0, true), (1, true), (2, true), (3, true), (4, true), (5, true), (6, true), (7, true), (8, true), (9, true), (10, true), (11, true), (12, true), (13, true), (14, true), (15, true), (16, true), (17, true), (18, true), (19, true), (20, true), (21, true), (22, true), (23, true), (24, true), (25, true), (26, true), (27, true), (28, true), (29, true), (30, true), (31, true), (32, true), (33, true), (34, true)] [(0, 4194304, 32), (0, 8388608, 2), (0, 16777216, 32), (4, 33554432, 16777216), (10, 67108864, 41943040), (16, 134217728, 67108864), (32, 268435456, 134217728), (64, 536870912, 268435456), (0, 1073741824, 2), (0, 2147483648, 32), (512, 4294967296, 2147483648), (1024, 8589934592, 4294967296), (2304, 17179869184, 9663676416), (4096, 34359738368, 17179869184), (8192, 68719476736, 34359738368), (16384, 137438953472, 68719476736), (32896, 274877906944, 137975824384), (0, 549755813888, 2), (0, 1099511627776, 32), (262144, 2199023255552, 1099511627776), (524288, 4398046511104, 2199023255552), (1179648, 8796093022208, 4947802324992), (2097152, 17592186044416, 8796093022208), (4194304, 35184372088832, 17592186044416), (8388608, 70368744177664, 35184372088832), (16842752, 140737488355328, 70643622084608), (0, 281474976710656, 2), (0, 562949953421312, 32), (134217728, 1125899906842624, 562949953421312), (268435456, 2251799813685248, 1125899906842624), (603979776, 4503599627370496, 2533274790395904), (1073741824, 9007199254740992, 4503599627370496), (2147483648, 18014398509481984, 9007199254740992), (4328521728, 36028797018963968, 18155135997837312), (17179869183, 72057594037927936, 4194320), (34359738367, 0, 108086391056891904)] (by kernel_rfl) (by kernel_rfl) (by kernel_rfl) (by kernel_rfl) ?_
   intro w30 st31
   have hS32 := hS20.then st31
   refine q_lrun (d := 22) (Value.int .i64 ((k1 : Nat) : Int)) hF29 ?_
   intro a33 hF34
   refine q_lrun (d := 23) (Value.slice A0 b.length c0) hF34 ?_
   intro a35 hF36
   refine q_lrun (d := 24) (Value.int .i64 ((k1 : Nat) : Int)) hF36 ?_
   intro a37 hF38
   refine q_lrun (d := 25) (Value.int .i64 (IntKind.i64.wrap (((4 : Nat) : Int) * ((k1 : Nat) : Int)))) hF38 ?_
   intro a39 hF40
   have hF41 := hF40.set 25 (Value.int .i64 (IntKind.i64.wrap (((4 : Nat) : Int) * ((k1 : Nat) : Int)))) (Value.int .i64 ((4 * k1 : Nat) : Int)) (by kernel_rfl) (congrArg (Value.int .i64) (i64_eq (by omega) (by omega) (by omega)))
   have h42 := h1.step hS32
   have hi49 : (4 * k1) < (b).length := (by have hq := h42.ln; first | omega | (simp only [List.length_append, List.length_cons, List.length_nil, List.length_map, schedTo_len, addTo_len, kTab_len, List.length_set, List.length_replicate] at *; omega))
   obtain ⟨b43, o44, c45, he46, hs47, hr48⟩ := (h42).at (4 * k1) hi49
   obtain ⟨o50, ho50⟩ : ∃ o, o = o44 + (4 * k1) * 1 := ⟨_, rfl⟩
   obtain ⟨x51, hx52⟩ : ∃ x, x = (b[4 * k1]'hi49) := ⟨_, rfl⟩
   rw [← hx52] at hr48
   have hr48 : c45 = [(bv x51)] := hr48
   subst hr48
   have hs47 : Seg s18 w30 b43 o50 [(bv x51)] := by rw [ho50]; exact hs47
   refine q_lval 26 (Op.indexAddr 22 (Operand.tmp 23) (Operand.tmp 25)) (Value.pointer (some ⟨b43, o50, none⟩)) hF41 (fun w9 ⟨s9, hw9⟩ => (by rw [ho50]; exact exec_index (len := b.length) (cap := c0) he46 (by kernel_rfl) (kd := .i64) (4 * k1) (by kernel_rfl) (by have := h42.ln; omega) 1 U22 L5.s)) ?_
   intro a53 hF54
   refine q_lval 27 (Op.load 5 (Operand.tmp 26)) (bv x51) hF54 (fun w9 ⟨s9, hw9⟩ => (exec_load L5 (.inr rfl) (by kernel_rfl) (hs47.step hw9).cell)) ?_
   intro a55 hF56
   refine q_lrun (d := 28) (Value.int .u32 (IntKind.u32.wrap ((x51).toNat : Int))) hF56 ?_
   intro a57 hF58
   have hF59 := hF58.set 28 (Value.int .u32 (IntKind.u32.wrap ((x51).toNat : Int))) (wv ((x51).toUInt32)) (by kernel_rfl) (congrArg (Value.int .u32) (u8_u32 x51))
   refine q_lrun (d := 29) (Value.int .u32 (IntKind.u32.wrap ((((x51).toUInt32).toNat : Int) * (2 ^ (min (Int.toNat ((24 : Nat) : Int)) 32))))) hF59 ?_
   intro a60 hF61
   have hF62 := hF61.set 29 (Value.int .u32 (IntKind.u32.wrap ((((x51).toUInt32).toNat : Int) * (2 ^ (min (Int.toNat ((24 : Nat) : Int)) 32))))) (wv (((x51).toUInt32) <<< (24 : Nat).toUInt32)) (by kernel_rfl) (congrArg (Value.int .u32) (u32_shl ((x51).toUInt32) 24 (by decide)))
   refine q_lrun (d := 30) (Value.slice A0 b.length c0) hF62 ?_
   intro a63 hF64
   refine q_lrun (d := 31) (Value.int .i64 ((k1 : Nat) : Int)) hF64 ?_
   intro a65 hF66
   refine q_lrun (d := 32) (Value.int .i64 (IntKind.i64.wrap (((4 : Nat) : Int) * ((k1 : Nat) : Int)))) hF66 ?_
   intro a67 hF68
   have hF69 := hF68.set 32 (Value.int .i64 (IntKind.i64.wrap (((4 : Nat) : Int) * ((k1 : Nat) : Int)))) (Value.int .i64 ((4 * k1 : Nat) : Int)) (by kernel_rfl) (congrArg (Value.int .i64) (i64_eq (by omega) (by omega) (by omega)))
   refine q_lrun (d := 33) (Value.int .i64 (IntKind.i64.wrap (((4 * k1 : Nat) : Int) + ((1 : Nat) : Int)))) hF69 ?_
   intro a70 hF71
   have hF72 := hF71.set 33 (Value.int .i64 (IntKind.i64.wrap (((4 * k1 : Nat) : Int) + ((1 : Nat) : Int)))) (Value.int .i64 (((4 * k1) + 1 : Nat) : Int)) (by kernel_rfl) (congrArg (Value.int .i64) (i64_eq (by omega) (by omega) (by omega)))
   have hi79 : ((4 * k1) + 1) < (b).length := (by have hq := h42.ln; first | omega | (simp only [List.length_append, List.length_cons, List.length_nil, List.length_map, schedTo_len, addTo_len, kTab_len, List.length_set, List.length_replicate] at *; omega))
   obtain ⟨b73, o74, c75, he76, hs77, hr78⟩ := (h42).at ((4 * k1) + 1) hi79
   obtain ⟨o80, ho80⟩ : ∃ o, o = o74 + ((4 * k1) + 1) * 1 := ⟨_, rfl⟩
   obtain ⟨x81, hx82⟩ : ∃ x, x = (b[(4 * k1) + 1]'hi79) := ⟨_, rfl⟩
   rw [← hx82] at hr78
   have hr78 : c75 = [(bv x81)] := hr78
   subst hr78
   have hs77 : Seg s18 w30 b73 o80 [(bv x81)] := by rw [ho80]; exact hs77
   refine q_lval 34 (Op.indexAddr 22 (Operand.tmp 30) (Operand.tmp 33)) (Value.pointer (some ⟨b73, o80, none⟩)) hF72 (fun w9 ⟨s9, hw9⟩ => (by rw [ho80]; exact exec_index (len := b.length) (cap := c0) he76 (by kernel_rfl) (kd := .i64) ((4 * k1) + 1) (by kernel_rfl) (by have := h42.ln; omega) 1 U22 L5.s)) ?_
   intro a83 hF84
   refine q_lval 35 (Op.load 5 (Operand.tmp 34)) (bv x81) hF84 (fun w9 ⟨s9, hw9⟩ => (exec_load L5 (.inr rfl) (by kernel_rfl) (hs77.step hw9).cell)) ?_
   intro a85 hF86
   refine q_lrun (d := 36) (Value.int .u32 (IntKind.u32.wrap ((x81).toNat : Int))) hF86 ?_
   intro a87 hF88
   have hF89 := hF88.set 36 (Value.int .u32 (IntKind.u32.wrap ((x81).toNat : Int))) (wv ((x81).toUInt32)) (by kernel_rfl) (congrArg (Value.int .u32) (u8_u32 x81))
   refine q_lrun (d := 37) (Value.int .u32 (IntKind.u32.wrap ((((x81).toUInt32).toNat : Int) * (2 ^ (min (Int.toNat ((16 : Nat) : Int)) 32))))) hF89 ?_
   intro a90 hF91
   have hF92 := hF91.set 37 (Value.int .u32 (IntKind.u32.wrap ((((x81).toUInt32).toNat : Int) * (2 ^ (min (Int.toNat ((16 : Nat) : Int)) 32))))) (wv (((x81).toUInt32) <<< (16 : Nat).toUInt32)) (by kernel_rfl) (congrArg (Value.int .u32) (u32_shl ((x81).toUInt32) 16 (by decide)))
   refine q_lrun (d := 38) (Value.int .u32 (IntKind.u32.wrap ((BitVec.ofInt 32 ((((x51).toUInt32) <<< (24 : Nat).toUInt32).toNat : Int) ||| BitVec.ofInt 32 ((((x81).toUInt32) <<< (16 : Nat).toUInt32).toNat : Int)).toNat : Int))) hF92 ?_
   intro a93 hF94
   have hF95 := hF94.set 38 (Value.int .u32 (IntKind.u32.wrap ((BitVec.ofInt 32 ((((x51).toUInt32) <<< (24 : Nat).toUInt32).toNat : Int) ||| BitVec.ofInt 32 ((((x81).toUInt32) <<< (16 : Nat).toUInt32).toNat : Int)).toNat : Int))) (wv ((((x51).toUInt32) <<< (24 : Nat).toUInt32) ||| (((x81).toUInt32) <<< (16 : Nat).toUInt32))) (by kernel_rfl) (congrArg (Value.int .u32) (u32_or (((x51).toUInt32) <<< (24 : Nat).toUInt32) (((x81).toUInt32) <<< (16 : Nat).toUInt32)))
   refine q_lrun (d := 39) (Value.slice A0 b.length c0) hF95 ?_
   intro a96 hF97
   refine q_lrun (d := 40) (Value.int .i64 ((k1 : Nat) : Int)) hF97 ?_
   intro a98 hF99
   refine q_lrun (d := 41) (Value.int .i64 (IntKind.i64.wrap (((4 : Nat) : Int) * ((k1 : Nat) : Int)))) hF99 ?_
   intro a100 hF101
   have hF102 := hF101.set 41 (Value.int .i64 (IntKind.i64.wrap (((4 : Nat) : Int) * ((k1 : Nat) : Int)))) (Value.int .i64 ((4 * k1 : Nat) : Int)) (by kernel_rfl) (congrArg (Value.int .i64) (i64_eq (by omega) (by omega) (by omega)))
   refine q_lrun (d := 42) (Value.int .i64 (IntKind.i64.wrap (((4 * k1 : Nat) : Int) + ((2 : Nat) : Int)))) hF102 ?_
   intro a103 hF104
   have hF105 := hF104.set 42 (Value.int .i64 (IntKind.i64.wrap (((4 * k1 : Nat) : Int) + ((2 : Nat) : Int)))) (Value.int .i64 (((4 * k1) + 2 : Nat) : Int)) (by kernel_rfl) (congrArg (Value.int .i64) (i64_eq (by omega) (by omega) (by omega)))
   have hi112 : ((4 * k1) + 2) < (b).length := (by have hq := h42.ln; first | omega | (simp only [List.length_append, List.length_cons, List.length_nil, List.length_map, schedTo_len, addTo_len, kTab_len, List.length_set, List.length_replicate] at *; omega))
   obtain ⟨b106, o107, c108, he109, hs110, hr111⟩ := (h42).at ((4 * k1) + 2) hi112
   obtain ⟨o113, ho113⟩ : ∃ o, o = o107 + ((4 * k1) + 2) * 1 := ⟨_, rfl⟩
   obtain ⟨x114, hx115⟩ : ∃ x, x = (b[(4 * k1) + 2]'hi112) := ⟨_, rfl⟩
   rw [← hx115] at hr111
   have hr111 : c108 = [(bv x114)] := hr111
   subst hr111
   have hs110 : Seg s18 w30 b106 o113 [(bv x114)] := by rw [ho113]; exact hs110
   refine q_lval 43 (Op.indexAddr 22 (Operand.tmp 39) (Operand.tmp 42)) (Value.pointer (some ⟨b106, o113, none⟩)) hF105 (fun w9 ⟨s9, hw9⟩ => (by rw [ho113]; exact exec_index (len := b.length) (cap := c0) he109 (by kernel_rfl) (kd := .i64) ((4 * k1) + 2) (by kernel_rfl) (by have := h42.ln; omega) 1 U22 L5.s)) ?_
   intro a116 hF117
   refine q_lval 44 (Op.load 5 (Operand.tmp 43)) (bv x114) hF117 (fun w9 ⟨s9, hw9⟩ => (exec_load L5 (.inr rfl) (by kernel_rfl) (hs110.step hw9).cell)) ?_
   intro a118 hF119
   refine q_lrun (d := 45) (Value.int .u32 (IntKind.u32.wrap ((x114).toNat : Int))) hF119 ?_
   intro a120 hF121
   have hF122 := hF121.set 45 (Value.int .u32 (IntKind.u32.wrap ((x114).toNat : Int))) (wv ((x114).toUInt32)) (by kernel_rfl) (congrArg (Value.int .u32) (u8_u32 x114))
   refine q_lrun (d := 46) (Value.int .u32 (IntKind.u32.wrap ((((x114).toUInt32).toNat : Int) * (2 ^ (min (Int.toNat ((8 : Nat) : Int)) 32))))) hF122 ?_
   intro a123 hF124
   have hF125 := hF124.set 46 (Value.int .u32 (IntKind.u32.wrap ((((x114).toUInt32).toNat : Int) * (2 ^ (min (Int.toNat ((8 : Nat) : Int)) 32))))) (wv (((x114).toUInt32) <<< (8 : Nat).toUInt32)) (by kernel_rfl) (congrArg (Value.int .u32) (u32_shl ((x114).toUInt32) 8 (by decide)))
   refine q_lrun (d := 47) (Value.int .u32 (IntKind.u32.wrap ((BitVec.ofInt 32 (((((x51).toUInt32) <<< (24 : Nat).toUInt32) ||| (((x81).toUInt32) <<< (16 : Nat).toUInt32)).toNat : Int) ||| BitVec.ofInt 32 ((((x114).toUInt32) <<< (8 : Nat).toUInt32).toNat : Int)).toNat : Int))) hF125 ?_
   intro a126 hF127
   have hF128 := hF127.set 47 (Value.int .u32 (IntKind.u32.wrap ((BitVec.ofInt 32 (((((x51).toUInt32) <<< (24 : Nat).toUInt32) ||| (((x81).toUInt32) <<< (16 : Nat).toUInt32)).toNat : Int) ||| BitVec.ofInt 32 ((((x114).toUInt32) <<< (8 : Nat).toUInt32).toNat : Int)).toNat : Int))) (wv (((((x51).toUInt32) <<< (24 : Nat).toUInt32) ||| (((x81).toUInt32) <<< (16 : Nat).toUInt32)) ||| (((x114).toUInt32) <<< (8 : Nat).toUInt32))) (by kernel_rfl) (congrArg (Value.int .u32) (u32_or ((((x51).toUInt32) <<< (24 : Nat).toUInt32) ||| (((x81).toUInt32) <<< (16 : Nat).toUInt32)) (((x114).toUInt32) <<< (8 : Nat).toUInt32)))
   refine q_lrun (d := 48) (Value.slice A0 b.length c0) hF128 ?_
   intro a129 hF130
   refine q_lrun (d := 49) (Value.int .i64 ((k1 : Nat) : Int)) hF130 ?_
   intro a131 hF132
   refine q_lrun (d := 50) (Value.int .i64 (IntKind.i64.wrap (((4 : Nat) : Int) * ((k1 : Nat) : Int)))) hF132 ?_
   intro a133 hF134
   have hF135 := hF134.set 50 (Value.int .i64 (IntKind.i64.wrap (((4 : Nat) : Int) * ((k1 : Nat) : Int)))) (Value.int .i64 ((4 * k1 : Nat) : Int)) (by kernel_rfl) (congrArg (Value.int .i64) (i64_eq (by omega) (by omega) (by omega)))
   refine q_lrun (d := 51) (Value.int .i64 (IntKind.i64.wrap (((4 * k1 : Nat) : Int) + ((3 : Nat) : Int)))) hF135 ?_
   intro a136 hF137
   have hF138 := hF137.set 51 (Value.int .i64 (IntKind.i64.wrap (((4 * k1 : Nat) : Int) + ((3 : Nat) : Int)))) (Value.int .i64 (((4 * k1) + 3 : Nat) : Int)) (by kernel_rfl) (congrArg (Value.int .i64) (i64_eq (by omega) (by omega) (by omega)))
   have hi145 : ((4 * k1) + 3) < (b).length := (by have hq := h42.ln; first | omega | (simp only [List.length_append, List.length_cons, List.length_nil, List.length_map, schedTo_len, addTo_len, kTab_len, List.length_set, List.length_replicate] at *; omega))
   obtain ⟨b139, o140, c141, he142, hs143, hr144⟩ := (h42).at ((4 * k1) + 3) hi145
   obtain ⟨o146, ho146⟩ : ∃ o, o = o140 + ((4 * k1) + 3) * 1 := ⟨_, rfl⟩
   obtain ⟨x147, hx148⟩ : ∃ x, x = (b[(4 * k1) + 3]'hi145) := ⟨_, rfl⟩
   rw [← hx148] at hr144
   have hr144 : c141 = [(bv x147)] := hr144
   subst hr144
   have hs143 : Seg s18 w30 b139 o146 [(bv x147)] := by rw [ho146]; exact hs143
   refine q_lval 52 (Op.indexAddr 22 (Operand.tmp 48) (Operand.tmp 51)) (Value.pointer (some ⟨b139, o146, none⟩)) hF138 (fun w9 ⟨s9, hw9⟩ => (by rw [ho146]; exact exec_index (len := b.length) (cap := c0) he142 (by kernel_rfl) (kd := .i64) ((4 * k1) + 3) (by kernel_rfl) (by have := h42.ln; omega) 1 U22 L5.s)) ?_
   intro a149 hF150
   refine q_lval 53 (Op.load 5 (Operand.tmp 52)) (bv x147) hF150 (fun w9 ⟨s9, hw9⟩ => (exec_load L5 (.inr rfl) (by kernel_rfl) (hs143.step hw9).cell)) ?_
   intro a151 hF152
   refine q_lrun (d := 54) (Value.int .u32 (IntKind.u32.wrap ((x147).toNat : Int))) hF152 ?_
   intro a153 hF154
   have hF155 := hF154.set 54 (Value.int .u32 (IntKind.u32.wrap ((x147).toNat : Int))) (wv ((x147).toUInt32)) (by kernel_rfl) (congrArg (Value.int .u32) (u8_u32 x147))
   refine q_lrun (d := 55) (Value.int .u32 (IntKind.u32.wrap ((BitVec.ofInt 32 ((((((x51).toUInt32) <<< (24 : Nat).toUInt32) ||| (((x81).toUInt32) <<< (16 : Nat).toUInt32)) ||| (((x114).toUInt32) <<< (8 : Nat).toUInt32)).toNat : Int) ||| BitVec.ofInt 32 (((x147).toUInt32).toNat : Int)).toNat : Int))) hF155 ?_
   intro a156 hF157
   have hF158 := hF157.set 55 (Value.int .u32 (IntKind.u32.wrap ((BitVec.ofInt 32 ((((((x51).toUInt32) <<< (24 : Nat).toUInt32) ||| (((x81).toUInt32) <<< (16 : Nat).toUInt32)) ||| (((x114).toUInt32) <<< (8 : Nat).toUInt32)).toNat : Int) ||| BitVec.ofInt 32 (((x147).toUInt32).toNat : Int)).toNat : Int))) (wv ((((((x51).toUInt32) <<< (24 : Nat).toUInt32) ||| (((x81).toUInt32) <<< (16 : Nat).toUInt32)) ||| (((x114).toUInt32) <<< (8 : Nat).toUInt32)) ||| ((x147).toUInt32))) (by kernel_rfl) (congrArg (Value.int .u32) (u32_or (((((x51).toUInt32) <<< (24 : Nat).toUInt32) ||| (((x81).toUInt32) <<< (16 : Nat).toUInt32)) ||| (((x114).toUInt32) <<< (8 : Nat).toUInt32)) ((x147).toUInt32)))
   refine q_lval 56 (Op.indexAddr 226 (Operand.tmp 4) (Operand.tmp 22)) (Value.pointer (some ⟨b6, k1, none⟩)) hF158 (fun w9 ⟨s9, hw9⟩ => (exec_indexP1 (N := 64) (by kernel_rfl) (kd := .i64) k1 (by kernel_rfl) (by omega) U226 L223.s)) ?_
   intro a159 hF160
   have h161 := (h24.step' st31)
   have hj167 : k1 < (schedTo b (k1)).length := (by first | omega | (simp only [List.length_append, List.length_cons, List.length_nil, List.length_map, schedTo_len, addTo_len, kTab_len, List.length_set, List.length_replicate]; omega) | simp)
   refine l_last (q_storeA wv (Operand.tmp 56) (Operand.tmp 55) hF160 h161 k1 hj167 ((((((x51).toUInt32) <<< (24 : Nat).toUInt32) ||| (((x81).toUInt32) <<< (16 : Nat).toUInt32)) ||| (((x114).toUInt32) <<< (8 : Nat).toUInt32)) ||| ((x147).toUInt32)) L223 ?_)
   intro a162 w163 st164 hB165 hF166
   have hS168 := hS32.and st164 (fun b e => by subst e; omega)
   refine q_reg ?_
   refine q_one 57 (v0 := (Value.int .i64 (IntKind.i64.wrap (((k1 : Nat) : Int) + ((1 : Nat) : Int))))) (v := (Value.int .i64 ((k1 + 1 : Nat) : Int))) (congrArg (Value.int .i64) (i64_eq (by omega) (by omega) (by omega))) hF166 fun a169 hF170 => ?_
   refine q_run 1 [(19, (Value.int .i64 ((k1 + 1 : Nat) : Int)))] hF170 fun a171 hF172 => ?_
   refine q_end ?_
   have h173 := ((h23.step' st31).step st164 (fun e => absurd e (by omega)))
   have hF174 := hF172.keep [0, 1, 4, 19] [(0, (Value.pointer (some ⟨bh, 0, none⟩))), (1, (Value.slice A0 b.length c0)), (4, (Value.pointer (some ⟨b6, 0, none⟩))), (19, (Value.int .i64 ((k1 + 1 : Nat) : Int)))] (by kernel_rfl)
   exact ⟨k1 + 1, ⟨s18, hF174, hS168, h173, (by subst hx52 hx82 hx115 hx148; rw [schedTo_lo (by omega) (by omega)]; exact hB165), (by omega)⟩, by omega⟩
  ·skip
   have hc27 := of_decide_eq_false hc27
   refine q_exit 0 ?_
   refine q_seq ?_
   refine q_seq ?_
   refine q_reg ?_
   refine q_run 1 [(6, (Value.int .i64 ((16 : Nat) : Int)))] hF26 fun a175 hF176 => ?_
   refine q_end ?_
   refine q_block 2 ?_
   refine q_loop (fun (k2 : Nat) a177 w178 => ∃ (s179 : Nat → Nat), Fr a177 201 [(0, (Value.pointer (some ⟨bh, 0, none⟩))), (4, (Value.pointer (some ⟨b6, 0, none⟩))), (6, (Value.int .i64 ((k2 : Nat) : Int)))] ∧ Stp (· = bh) σ w s179 w178 ∧ Bx s179 w178 bh (([s.a, s.b, s.c, s.d, s.e, s.f, s.g, s.h] : List UInt32).map wv) 244 ∧ Bx s179 w178 b6 ((schedTo b (k2)).map wv) 226 ∧ k2 ≤ 64 ∧ 16 ≤ k2) (fun k2 => 64 - k2) 16 ?_ ?_
   ·skip
    have hF182 := hF176.keep [0, 4, 6] [(0, (Value.pointer (some ⟨bh, 0, none⟩))), (4, (Value.pointer (some ⟨b6, 0, none⟩))), (6, (Value.int .i64 ((16 : Nat) : Int)))] (by kernel_rfl)
    exact ⟨s18, hF182, hS20, h23, (by have h9 := h24; have e : k1 = 16 := (by omega); rw [e] at h9; exact h9), (by omega), (by omega)⟩
   ·rintro k2 a177 w178 ⟨s179, hF180, hS181, h183, h184, hk2, hk2l⟩
    refine q_seq ?_
    refine q_seq ?_
    refine q_reg ?_
    refine q_run 1 [(58, (Value.int .i64 ((k2 : Nat) : Int)))] hF180 fun a185 hF186 => ?_
    refine q_one 59 (congrArg Value.bool (cmp_nat_lss (k2) (64))) hF186 fun a187 hF188 => ?_
    refine q_end ?_
    refine q_cond 59 hF188 (decide ((k2 : Nat) < 64)) (fun hc189 => ?_) (fun hc189 => ?_)
    ·skip
     have hc189 := of_decide_eq_true hc189
     refine q_skip ?_
     refine q_seq ?_
     refine q_block 3 ?_
     refine q_seq ?_
     refine c_plan 9 (by kernel_rfl) (by kernel_rfl) s179 (fun b => b ≠ bh ∧ b ≠ b6 ∧ True) [(0, true), (1, true), (2, true), (3, true), (4, true), (5, true), (6, true), (7, true), (8, true), (9, true)] [(0, 4611686018427387904, 64), (1, 9223372036854775808, 4611686018427387904), (2, 18446744073709551616, 9223372036854775824), (4, 36893488147419103232, 18446744073709551616), (0, 73786976294838206464, 64), (16, 147573952589676412928, 73786976294838206464), (32, 295147905179352825856, 147573952589676412944), (64, 590295810358705651712, 295147905179352825856), (15, 128, 36893488147419103232), (511, 256, 590295810358705651712)] (by kernel_rfl) (by kernel_rfl) (by kernel_rfl) (by kernel_rfl) ?_
     intro w190 st191
     have hS192 := hS181.then st191
     refine q_prun (d := 62) (Value.int .i64 ((k2 : Nat) : Int)) hF188 ?_
     intro a193 hF194
     refine q_prun (d := 63) (Value.int .i64 (IntKind.i64.wrap (((k2 : Nat) : Int) - ((15 : Nat) : Int)))) hF194 ?_
     intro a195 hF196
     have hF197 := hF196.set 63 (Value.int .i64 (IntKind.i64.wrap (((k2 : Nat) : Int) - ((15 : Nat) : Int)))) (Value.int .i64 ((k2 - 15 : Nat) : Int)) (by kernel_rfl) (congrArg (Value.int .i64) (i64_eq (by omega) (by omega) (by omega)))
     refine q_pval 64 (Op.indexAddr 226 (Operand.tmp 4) (Operand.tmp 63)) (Value.pointer (some ⟨b6, k2 - 15, none⟩)) hF197 (fun w9 ⟨s9, hw9⟩ => (exec_indexP1 (N := 64) (by kernel_rfl) (kd := .i64) (k2 - 15) (by kernel_rfl) (by omega) U226 L223.s)) ?_
     intro a198 hF199
     have h200 := (h184.step' st191)
     have hj201 : k2 - 15 < (schedTo b (k2)).length := (by first | omega | (simp only [List.length_append, List.length_cons, List.length_nil, List.length_map, schedTo_len, addTo_len, kTab_len, List.length_set, List.length_replicate]; omega) | simp)
     refine q_pval 65 (Op.load 223 (Operand.tmp 64)) (wv ((schedTo b (k2)).getD (k2 - 15) 0)) hF199 (fun w9 ⟨s9, hw9⟩ => (exec_load (cs := [wv ((schedTo b (k2)).getD (k2 - 15) 0)]) L223 (.inr rfl) (by kernel_rfl) (Bx.elemG (h200.step hw9 (fun h => h.2.1 rfl)) (0 : UInt32) (k2 - 15) hj201))) ?_
     intro a202 hF203
     refine q_prun (d := 66) (Value.int .i64 ((k2 : Nat) : Int)) hF203 ?_
     intro a204 hF205
     refine q_prun (d := 67) (Value.int .i64 (IntKind.i64.wrap (((k2 : Nat) : Int) - ((2 : Nat) : Int)))) hF205 ?_
     intro a206 hF207
     have hF208 := hF207.set 67 (Value.int .i64 (IntKind.i64.wrap (((k2 : Nat) : Int) - ((2 : Nat) : Int)))) (Value.int .i64 ((k2 - 2 : Nat) : Int)) (by kernel_rfl) (congrArg (Value.int .i64) (i64_eq (by omega) (by omega) (by omega)))
     refine q_pval 68 (Op.indexAddr 226 (Operand.tmp 4) (Operand.tmp 67)) (Value.pointer (some ⟨b6, k2 - 2, none⟩)) hF208 (fun w9 ⟨s9, hw9⟩ => (exec_indexP1 (N := 64) (by kernel_rfl) (kd := .i64) (k2 - 2) (by kernel_rfl) (by omega) U226 L223.s)) ?_
     intro a209 hF210
     have hj211 : k2 - 2 < (schedTo b (k2)).length := (by first | omega | (simp only [List.length_append, List.length_cons, List.length_nil, List.length_map, schedTo_len, addTo_len, kTab_len, List.length_set, List.length_replicate]; omega) | simp)
     refine q_pval 69 (Op.load 223 (Operand.tmp 68)) (wv ((schedTo b (k2)).getD (k2 - 2) 0)) hF210 (fun w9 ⟨s9, hw9⟩ => (exec_load (cs := [wv ((schedTo b (k2)).getD (k2 - 2) 0)]) L223 (.inr rfl) (by kernel_rfl) (Bx.elemG (h200.step hw9 (fun h => h.2.1 rfl)) (0 : UInt32) (k2 - 2) hj211))) ?_
     intro a212 hF213
     refine q_prun (d := 7) (wv ((schedTo b (k2)).getD (k2 - 15) 0)) hF213 ?_
     intro a214 hF215
     refine q_prun (d := 8) (wv ((schedTo b (k2)).getD (k2 - 2) 0)) hF215 ?_
     intro a216 hF217
     refine p_end ?_
     refine q_seq ?_
     refine q_reg ?_
     refine q_run 1 [(70, (wv ((schedTo b (k2)).getD (k2 - 15) 0)))] hF217 fun a218 hF219 => ?_
     have h220 := (h183.step' st191)
     refine r_at (q_call (some 71) (#[(Operand.tmp 70), (Operand.const (Value.int IntKind.i64 (-7)))]) (#[223, 3]) hF219 C139 [(wv ((schedTo b (k2)).getD (k2 - 15) 0)), (Value.int .i64 (-7))] (rotl_calls s179 w190 ((schedTo b (k2)).getD (k2 - 15) 0) (-7 : Int) (by decide)) ?_)
     intro a221 s222 w223 v224 st225 hP226 hF227
     have hz228 := hS192.size
     have hS229 := hS192.then st225
     subst hP226
     refine q_run 1 [(72, (wv ((schedTo b (k2)).getD (k2 - 15) 0)))] hF227 fun a230 hF231 => ?_
     have h232 := (h220.step' st225)
     have h233 := (h200.step' st225)
     refine r_at (q_call (some 73) (#[(Operand.tmp 72), (Operand.const (Value.int IntKind.i64 (-18)))]) (#[223, 3]) hF231 C139 [(wv ((schedTo b (k2)).getD (k2 - 15) 0)), (Value.int .i64 (-18))] (rotl_calls s222 w223 ((schedTo b (k2)).getD (k2 - 15) 0) (-18 : Int) (by decide)) ?_)
     intro a234 s235 w236 v237 st238 hP239 hF240
     have hz241 := hS229.size
     have hS242 := hS229.then st238
     subst hP239
     refine q_one 74 (congrArg (Value.int .u32) (u32_xor (rotl ((schedTo b (k2)).getD (k2 - 15) 0) (-7 : Int)) (rotl ((schedTo b (k2)).getD (k2 - 15) 0) (-18 : Int)))) hF240 fun a243 hF244 => ?_
     refine q_run 1 [(75, (wv ((schedTo b (k2)).getD (k2 - 15) 0)))] hF244 fun a245 hF246 => ?_
     refine q_one 76 (congrArg (Value.int .u32) (u32_shr ((schedTo b (k2)).getD (k2 - 15) 0) 3 (by decide))) hF246 fun a247 hF248 => ?_
     refine q_one 77 (congrArg (Value.int .u32) (u32_xor ((rotl ((schedTo b (k2)).getD (k2 - 15) 0) (-7 : Int)) ^^^ (rotl ((schedTo b (k2)).getD (k2 - 15) 0) (-18 : Int))) (((schedTo b (k2)).getD (k2 - 15) 0) >>> (3 : Nat).toUInt32))) hF248 fun a249 hF250 => ?_
     refine q_run 1 [(9, (wv (((rotl ((schedTo b (k2)).getD (k2 - 15) 0) (-7 : Int)) ^^^ (rotl ((schedTo b (k2)).getD (k2 - 15) 0) (-18 : Int))) ^^^ (((schedTo b (k2)).getD (k2 - 15) 0) >>> (3 : Nat).toUInt32))))] hF250 fun a251 hF252 => ?_
     refine q_end ?_
     refine q_seq ?_
     refine q_reg ?_
     refine q_run 1 [(78, (wv ((schedTo b (k2)).getD (k2 - 2) 0)))] hF252 fun a253 hF254 => ?_
     have h255 := (h232.step' st238)
     have h256 := (h233.step' st238)
     refine r_at (q_call (some 79) (#[(Operand.tmp 78), (Operand.const (Value.int IntKind.i64 (-17)))]) (#[223, 3]) hF254 C139 [(wv ((schedTo b (k2)).getD (k2 - 2) 0)), (Value.int .i64 (-17))] (rotl_calls s235 w236 ((schedTo b (k2)).getD (k2 - 2) 0) (-17 : Int) (by decide)) ?_)
     intro a257 s258 w259 v260 st261 hP262 hF263
     have hz264 := hS242.size
     have hS265 := hS242.then st261
     subst hP262
     refine q_run 1 [(80, (wv ((schedTo b (k2)).getD (k2 - 2) 0)))] hF263 fun a266 hF267 => ?_
     have h268 := (h255.step' st261)
     have h269 := (h256.step' st261)
     refine r_at (q_call (some 81) (#[(Operand.tmp 80), (Operand.const (Value.int IntKind.i64 (-19)))]) (#[223, 3]) hF267 C139 [(wv ((schedTo b (k2)).getD (k2 - 2) 0)), (Value.int .i64 (-19))] (rotl_calls s258 w259 ((schedTo b (k2)).getD (k2 - 2) 0) (-19 : Int) (by decide)) ?_)
     intro a270 s271 w272 v273 st274 hP275 hF276
     have hz277 := hS265.size
     have hS278 := hS265.then st274
     subst hP275
     refine q_one 82 (congrArg (Value.int .u32) (u32_xor (rotl ((schedTo b (k2)).getD (k2 - 2) 0) (-17 : Int)) (rotl ((schedTo b (k2)).getD (k2 - 2) 0) (-19 : Int)))) hF276 fun a279 hF280 => ?_
     refine q_run 1 [(83, (wv ((schedTo b (k2)).getD (k2 - 2) 0)))] hF280 fun a281 hF282 => ?_
     refine q_one 84 (congrArg (Value.int .u32) (u32_shr ((schedTo b (k2)).getD (k2 - 2) 0) 10 (by decide))) hF282 fun a283 hF284 => ?_
     refine q_one 85 (congrArg (Value.int .u32) (u32_xor ((rotl ((schedTo b (k2)).getD (k2 - 2) 0) (-17 : Int)) ^^^ (rotl ((schedTo b (k2)).getD (k2 - 2) 0) (-19 : Int))) (((schedTo b (k2)).getD (k2 - 2) 0) >>> (10 : Nat).toUInt32))) hF284 fun a285 hF286 => ?_
     refine q_run 1 [(10, (wv (((rotl ((schedTo b (k2)).getD (k2 - 2) 0) (-17 : Int)) ^^^ (rotl ((schedTo b (k2)).getD (k2 - 2) 0) (-19 : Int))) ^^^ (((schedTo b (k2)).getD (k2 - 2) 0) >>> (10 : Nat).toUInt32))))] hF286 fun a287 hF288 => ?_
     refine q_end ?_
     refine c_planL 12 15 1 (by kernel_rfl) (by kernel_rfl) s271 (fun b => b ≠ bh ∧ b ≠ b6 ∧ True) [(0, true), (1, true), (2, true), (3, true), (4, true), (5, true), (6, true), (7, true), (8, true), (9, true), (10, true), (11, true), (12, true), (13, true), (14, true)] [(0, 77371252455336267181195264, 64), (0, 154742504910672534362390528, 64), (2, 309485009821345068724781056, 154742504910672534362390528), (4, 618970019642690137449562112, 309485009821345068724781072), (8, 1237940039285380274899124224, 618970019642690137449562112), (0, 2475880078570760549798248448, 512), (48, 4951760157141521099596496896, 3713820117856140824697372672), (0, 9903520314283042199192993792, 64), (128, 19807040628566084398385987584, 9903520314283042199192993792), (256, 39614081257132168796771975168, 19807040628566084398385987600), (512, 79228162514264337593543950336, 39614081257132168796771975168), (1088, 158456325028528675187087900672, 84179922671405858693140447232), (0, 316912650057057350374175801344, 1024), (6144, 633825300114114700748351602688, 475368975085586025561263702016), (16383, 1267650600228229401496703205376, 77371252455336267181195280), (32767, 0, 1901475900342344102245054808064)] (by kernel_rfl) (by kernel_rfl) (by kernel_rfl) (by kernel_rfl) ?_
     intro w289 st290
     have hS291 := hS278.then st290
     refine q_lrun (d := 86) (Value.int .i64 ((k2 : Nat) : Int)) hF288 ?_
     intro a292 hF293
     refine q_lrun (d := 87) (Value.int .i64 ((k2 : Nat) : Int)) hF293 ?_
     intro a294 hF295
     refine q_lrun (d := 88) (Value.int .i64 (IntKind.i64.wrap (((k2 : Nat) : Int) - ((16 : Nat) : Int)))) hF295 ?_
     intro a296 hF297
     have hF298 := hF297.set 88 (Value.int .i64 (IntKind.i64.wrap (((k2 : Nat) : Int) - ((16 : Nat) : Int)))) (Value.int .i64 ((k2 - 16 : Nat) : Int)) (by kernel_rfl) (congrArg (Value.int .i64) (i64_eq (by omega) (by omega) (by omega)))
     refine q_lval 89 (Op.indexAddr 226 (Operand.tmp 4) (Operand.tmp 88)) (Value.pointer (some ⟨b6, k2 - 16, none⟩)) hF298 (fun w9 ⟨s9, hw9⟩ => (exec_indexP1 (N := 64) (by kernel_rfl) (kd := .i64) (k2 - 16) (by kernel_rfl) (by omega) U226 L223.s)) ?_
     intro a299 hF300
     have h301 := ((h269.step' st274).step' st290)
     have hj302 : k2 - 16 < (schedTo b (k2)).length := (by first | omega | (simp only [List.length_append, List.length_cons, List.length_nil, List.length_map, schedTo_len, addTo_len, kTab_len, List.length_set, List.length_replicate]; omega) | simp)
     refine q_lval 90 (Op.load 223 (Operand.tmp 89)) (wv ((schedTo b (k2)).getD (k2 - 16) 0)) hF300 (fun w9 ⟨s9, hw9⟩ => (exec_load (cs := [wv ((schedTo b (k2)).getD (k2 - 16) 0)]) L223 (.inr rfl) (by kernel_rfl) (Bx.elemG (h301.step hw9 (fun h => h.2.1 rfl)) (0 : UInt32) (k2 - 16) hj302))) ?_
     intro a303 hF304
     refine q_lrun (d := 91) (wv (((rotl ((schedTo b (k2)).getD (k2 - 15) 0) (-7 : Int)) ^^^ (rotl ((schedTo b (k2)).getD (k2 - 15) 0) (-18 : Int))) ^^^ (((schedTo b (k2)).getD (k2 - 15) 0) >>> (3 : Nat).toUInt32))) hF304 ?_
     intro a305 hF306
     refine q_lrun (d := 92) (Value.int .u32 (IntKind.u32.wrap ((((schedTo b (k2)).getD (k2 - 16) 0).toNat : Int) + ((((rotl ((schedTo b (k2)).getD (k2 - 15) 0) (-7 : Int)) ^^^ (rotl ((schedTo b (k2)).getD (k2 - 15) 0) (-18 : Int))) ^^^ (((schedTo b (k2)).getD (k2 - 15) 0) >>> (3 : Nat).toUInt32)).toNat : Int)))) hF306 ?_
     intro a307 hF308
     have hF309 := hF308.set 92 (Value.int .u32 (IntKind.u32.wrap ((((schedTo b (k2)).getD (k2 - 16) 0).toNat : Int) + ((((rotl ((schedTo b (k2)).getD (k2 - 15) 0) (-7 : Int)) ^^^ (rotl ((schedTo b (k2)).getD (k2 - 15) 0) (-18 : Int))) ^^^ (((schedTo b (k2)).getD (k2 - 15) 0) >>> (3 : Nat).toUInt32)).toNat : Int)))) (wv (((schedTo b (k2)).getD (k2 - 16) 0) + (((rotl ((schedTo b (k2)).getD (k2 - 15) 0) (-7 : Int)) ^^^ (rotl ((schedTo b (k2)).getD (k2 - 15) 0) (-18 : Int))) ^^^ (((schedTo b (k2)).getD (k2 - 15) 0) >>> (3 : Nat).toUInt32)))) (by kernel_rfl) (congrArg (Value.int .u32) (u32_add _ _))
     refine q_lrun (d := 93) (Value.int .i64 ((k2 : Nat) : Int)) hF309 ?_
     intro a310 hF311
     refine q_lrun (d := 94) (Value.int .i64 (IntKind.i64.wrap (((k2 : Nat) : Int) - ((7 : Nat) : Int)))) hF311 ?_
     intro a312 hF313
     have hF314 := hF313.set 94 (Value.int .i64 (IntKind.i64.wrap (((k2 : Nat) : Int) - ((7 : Nat) : Int)))) (Value.int .i64 ((k2 - 7 : Nat) : Int)) (by kernel_rfl) (congrArg (Value.int .i64) (i64_eq (by omega) (by omega) (by omega)))
     refine q_lval 95 (Op.indexAddr 226 (Operand.tmp 4) (Operand.tmp 94)) (Value.pointer (some ⟨b6, k2 - 7, none⟩)) hF314 (fun w9 ⟨s9, hw9⟩ => (exec_indexP1 (N := 64) (by kernel_rfl) (kd := .i64) (k2 - 7) (by kernel_rfl) (by omega) U226 L223.s)) ?_
     intro a315 hF316
     have hj317 : k2 - 7 < (schedTo b (k2)).length := (by first | omega | (simp only [List.length_append, List.length_cons, List.length_nil, List.length_map, schedTo_len, addTo_len, kTab_len, List.length_set, List.length_replicate]; omega) | simp)
     refine q_lval 96 (Op.load 223 (Operand.tmp 95)) (wv ((schedTo b (k2)).getD (k2 - 7) 0)) hF316 (fun w9 ⟨s9, hw9⟩ => (exec_load (cs := [wv ((schedTo b (k2)).getD (k2 - 7) 0)]) L223 (.inr rfl) (by kernel_rfl) (Bx.elemG (h301.step hw9 (fun h => h.2.1 rfl)) (0 : UInt32) (k2 - 7) hj317))) ?_
     intro a318 hF319
     refine q_lrun (d := 97) (Value.int .u32 (IntKind.u32.wrap (((((schedTo b (k2)).getD (k2 - 16) 0) + (((rotl ((schedTo b (k2)).getD (k2 - 15) 0) (-7 : Int)) ^^^ (rotl ((schedTo b (k2)).getD (k2 - 15) 0) (-18 : Int))) ^^^ (((schedTo b (k2)).getD (k2 - 15) 0) >>> (3 : Nat).toUInt32))).toNat : Int) + (((schedTo b (k2)).getD (k2 - 7) 0).toNat : Int)))) hF319 ?_
     intro a320 hF321
     have hF322 := hF321.set 97 (Value.int .u32 (IntKind.u32.wrap (((((schedTo b (k2)).getD (k2 - 16) 0) + (((rotl ((schedTo b (k2)).getD (k2 - 15) 0) (-7 : Int)) ^^^ (rotl ((schedTo b (k2)).getD (k2 - 15) 0) (-18 : Int))) ^^^ (((schedTo b (k2)).getD (k2 - 15) 0) >>> (3 : Nat).toUInt32))).toNat : Int) + (((schedTo b (k2)).getD (k2 - 7) 0).toNat : Int)))) (wv ((((schedTo b (k2)).getD (k2 - 16) 0) + (((rotl ((schedTo b (k2)).getD (k2 - 15) 0) (-7 : Int)) ^^^ (rotl ((schedTo b (k2)).getD (k2 - 15) 0) (-18 : Int))) ^^^ (((schedTo b (k2)).getD (k2 - 15) 0) >>> (3 : Nat).toUInt32))) + ((schedTo b (k2)).getD (k2 - 7) 0))) (by kernel_rfl) (congrArg (Value.int .u32) (u32_add _ _))
     refine q_lrun (d := 98) (wv (((rotl ((schedTo b (k2)).getD (k2 - 2) 0) (-17 : Int)) ^^^ (rotl ((schedTo b (k2)).getD (k2 - 2) 0) (-19 : Int))) ^^^ (((schedTo b (k2)).getD (k2 - 2) 0) >>> (10 : Nat).toUInt32))) hF322 ?_
     intro a323 hF324
     refine q_lrun (d := 99) (Value.int .u32 (IntKind.u32.wrap ((((((schedTo b (k2)).getD (k2 - 16) 0) + (((rotl ((schedTo b (k2)).getD (k2 - 15) 0) (-7 : Int)) ^^^ (rotl ((schedTo b (k2)).getD (k2 - 15) 0) (-18 : Int))) ^^^ (((schedTo b (k2)).getD (k2 - 15) 0) >>> (3 : Nat).toUInt32))) + ((schedTo b (k2)).getD (k2 - 7) 0)).toNat : Int) + ((((rotl ((schedTo b (k2)).getD (k2 - 2) 0) (-17 : Int)) ^^^ (rotl ((schedTo b (k2)).getD (k2 - 2) 0) (-19 : Int))) ^^^ (((schedTo b (k2)).getD (k2 - 2) 0) >>> (10 : Nat).toUInt32)).toNat : Int)))) hF324 ?_
     intro a325 hF326
     have hF327 := hF326.set 99 (Value.int .u32 (IntKind.u32.wrap ((((((schedTo b (k2)).getD (k2 - 16) 0) + (((rotl ((schedTo b (k2)).getD (k2 - 15) 0) (-7 : Int)) ^^^ (rotl ((schedTo b (k2)).getD (k2 - 15) 0) (-18 : Int))) ^^^ (((schedTo b (k2)).getD (k2 - 15) 0) >>> (3 : Nat).toUInt32))) + ((schedTo b (k2)).getD (k2 - 7) 0)).toNat : Int) + ((((rotl ((schedTo b (k2)).getD (k2 - 2) 0) (-17 : Int)) ^^^ (rotl ((schedTo b (k2)).getD (k2 - 2) 0) (-19 : Int))) ^^^ (((schedTo b (k2)).getD (k2 - 2) 0) >>> (10 : Nat).toUInt32)).toNat : Int)))) (wv (((((schedTo b (k2)).getD (k2 - 16) 0) + (((rotl ((schedTo b (k2)).getD (k2 - 15) 0) (-7 : Int)) ^^^ (rotl ((schedTo b (k2)).getD (k2 - 15) 0) (-18 : Int))) ^^^ (((schedTo b (k2)).getD (k2 - 15) 0) >>> (3 : Nat).toUInt32))) + ((schedTo b (k2)).getD (k2 - 7) 0)) + (((rotl ((schedTo b (k2)).getD (k2 - 2) 0) (-17 : Int)) ^^^ (rotl ((schedTo b (k2)).getD (k2 - 2) 0) (-19 : Int))) ^^^ (((schedTo b (k2)).getD (k2 - 2) 0) >>> (10 : Nat).toUInt32)))) (by kernel_rfl) (congrArg (Value.int .u32) (u32_add _ _))
     refine q_lval 100 (Op.indexAddr 226 (Operand.tmp 4) (Operand.tmp 86)) (Value.pointer (some ⟨b6, k2, none⟩)) hF327 (fun w9 ⟨s9, hw9⟩ => (exec_indexP1 (N := 64) (by kernel_rfl) (kd := .i64) k2 (by kernel_rfl) (by omega) U226 L223.s)) ?_
     intro a328 hF329
     have hj335 : k2 < (schedTo b (k2)).length := (by first | omega | (simp only [List.length_append, List.length_cons, List.length_nil, List.length_map, schedTo_len, addTo_len, kTab_len, List.length_set, List.length_replicate]; omega) | simp)
     refine l_last (q_storeA wv (Operand.tmp 100) (Operand.tmp 99) hF329 h301 k2 hj335 (((((schedTo b (k2)).getD (k2 - 16) 0) + (((rotl ((schedTo b (k2)).getD (k2 - 15) 0) (-7 : Int)) ^^^ (rotl ((schedTo b (k2)).getD (k2 - 15) 0) (-18 : Int))) ^^^ (((schedTo b (k2)).getD (k2 - 15) 0) >>> (3 : Nat).toUInt32))) + ((schedTo b (k2)).getD (k2 - 7) 0)) + (((rotl ((schedTo b (k2)).getD (k2 - 2) 0) (-17 : Int)) ^^^ (rotl ((schedTo b (k2)).getD (k2 - 2) 0) (-19 : Int))) ^^^ (((schedTo b (k2)).getD (k2 - 2) 0) >>> (10 : Nat).toUInt32))) L223 ?_)
     intro a330 w331 st332 hB333 hF334
     have hS336 := hS291.and st332 (fun b e => by subst e; omega)
     refine q_reg ?_
     refine q_run 1 [(60, (Value.int .i64 ((k2 : Nat) : Int)))] hF334 fun a337 hF338 => ?_
     refine q_one 61 (v0 := (Value.int .i64 (IntKind.i64.wrap (((k2 : Nat) : Int) + ((1 : Nat) : Int))))) (v := (Value.int .i64 ((k2 + 1 : Nat) : Int))) (congrArg (Value.int .i64) (i64_eq (by omega) (by omega) (by omega))) hF338 fun a339 hF340 => ?_
     refine q_run 1 [(6, (Value.int .i64 ((k2 + 1 : Nat) : Int)))] hF340 fun a341 hF342 => ?_
     refine q_end ?_
     have h343 := (((h268.step' st274).step' st290).step st332 (fun e => absurd e (by omega)))
     have hF344 := hF342.keep [0, 4, 6] [(0, (Value.pointer (some ⟨bh, 0, none⟩))), (4, (Value.pointer (some ⟨b6, 0, none⟩))), (6, (Value.int .i64 ((k2 + 1 : Nat) : Int)))] (by kernel_rfl)
     exact ⟨k2 + 1, ⟨s271, hF344, hS336, h343, (by have h9 := hB333; simp only [rotl7, rotl18, rotl17, rotl19] at h9; rw [schedTo_hi (by omega)]; exact h9), (by omega), (by omega)⟩, by omega⟩
    ·skip
     have hc189 := of_decide_eq_false hc189
     refine q_exit 2 ?_
     refine q_seq ?_
     refine q_reg ?_
     refine q_run 2 [(102, (Value.pointer (some ⟨bh, 0, none⟩))), (101, (Value.pointer (some ⟨bh, 0, none⟩)))] hF188 fun a345 hF346 => ?_
     refine r_at (q_val 103 (Op.load 244 (Operand.tmp 102)) hF346 (Value.agg (([s.a, s.b, s.c, s.d, s.e, s.f, s.g, s.h] : List UInt32).map wv).toArray) (exec_loadAll wv L244 h183 (by first | rfl | simp only [List.length_append, List.length_cons, List.length_nil, List.length_map, schedTo_len, addTo_len, kTab_len, List.length_set, List.length_replicate]) (by kernel_rfl)) ?_)
     intro a347 hF348
     refine r_at (q_new 11 (Op.alloc 244) hF348 s179 (([0, 0, 0, 0, 0, 0, 0, 0] : List UInt32).map wv) 244 (exec_alloc (([0, 0, 0, 0, 0, 0, 0, 0] : List UInt32).map wv) (fun _ => .inl (by kernel_rfl))) ?_)
     intro a349 s350 w351 b352 hb353 st354 hB355 hF356
     have hz357 := hS181.size
     have ne358 := h183.nl hb353
     have ne359 := h184.nl hb353
     have hS360 := hS181.then st354
     refine r_at (q_store (Operand.tmp 11) (Operand.tmp 103) hF356 hB355 0 (([s.a, s.b, s.c, s.d, s.e, s.f, s.g, s.h] : List UInt32).map wv) 8 L244 ?_)
     intro a361 w362 st363 hB364 hF365
     have hS366 := hS360.and st363 (fun b e => by subst e; omega)
     refine q_end ?_
     refine q_seq ?_
     refine q_seq ?_
     refine q_reg ?_
     have h367 := hg.step hS366
     refine r_at (q_val 104 (Op.load 226 (Operand.global 3)) hF365 (Value.agg (kTab.map wv).toArray) (exec_load (cs := kTab.map wv) (b := 3) (o := 0) L226 (.inl rfl) (by kernel_rfl) (Seg.cell h367)) ?_)
     intro a368 hF369
     refine q_run 1 [(105, (Value.int .i64 ((0 : Nat) : Int)))] hF369 fun a370 hF371 => ?_
     refine q_end ?_
     refine q_block 4 ?_
     have h377 := ((h183.step' st354).step st363 (fun e => absurd e (by omega)))
     have h378 := ((h184.step' st354).step st363 (fun e => absurd e (by omega)))
     refine q_loop (fun (k3 : Nat) a372 w373 => ∃ (s374 : Nat → Nat), Fr a372 201 [(0, (Value.pointer (some ⟨bh, 0, none⟩))), (4, (Value.pointer (some ⟨b6, 0, none⟩))), (11, (Value.pointer (some ⟨b352, 0, none⟩))), (104, (Value.agg (kTab.map wv).toArray)), (105, (Value.int .i64 ((k3 : Nat) : Int)))] ∧ Stp (· = bh) σ w s374 w373 ∧ Bx s374 w373 bh (([s.a, s.b, s.c, s.d, s.e, s.f, s.g, s.h] : List UInt32).map wv) 244 ∧ Bx s374 w373 b6 ((schedTo b (k2)).map wv) 226 ∧ Bx s374 w373 b352 (([(rS b s k2 k3).a, (rS b s k2 k3).b, (rS b s k2 k3).c, (rS b s k2 k3).d, (rS b s k2 k3).e, (rS b s k2 k3).f, (rS b s k2 k3).g, (rS b s k2 k3).h] : List UInt32).map wv) 244 ∧ k3 ≤ 64) (fun k3 => 64 - k3) 0 ?_ ?_
     ·skip
      have hF379 := hF371.keep [0, 4, 11, 104, 105] [(0, (Value.pointer (some ⟨bh, 0, none⟩))), (4, (Value.pointer (some ⟨b6, 0, none⟩))), (11, (Value.pointer (some ⟨b352, 0, none⟩))), (104, (Value.agg (kTab.map wv).toArray)), (105, (Value.int .i64 ((0 : Nat) : Int)))] (by kernel_rfl)
      exact ⟨s350, hF379, hS366, h377, h378, hB364, (by omega)⟩
     ·rintro k3 a372 w373 ⟨s374, hF375, hS376, h380, h381, h382, hk3⟩
      refine q_seq ?_
      refine q_reg ?_
      refine q_one 106 (congrArg Value.bool (cmp_nat_lss (k3) (64))) hF375 fun a383 hF384 => ?_
      refine q_end ?_
      refine q_seq ?_
      refine q_cond 106 hF384 (decide ((k3 : Nat) < 64)) (fun hc385 => ?_) (fun hc385 => ?_)
      ·skip
       have hc385 := of_decide_eq_true hc385
       refine q_skip ?_
       refine q_seq ?_
       refine q_block 5 ?_
       refine q_seq ?_
       refine q_reg ?_
       refine q_run 1 [(107, (Value.int .i64 ((k3 : Nat) : Int)))] hF384 fun a386 hF387 => ?_
       refine r_at (q_val 108 (Op.index 226 (Operand.tmp 104) (Operand.tmp 105)) hF387 (wv (kTab.getD k3 0)) (exec_indexV (N := 64) wv (0 : UInt32) (xs := kTab) (by kernel_rfl) (kd := .i64) k3 (by kernel_rfl) (by omega) (by first | rfl | simp) U226 L223) ?_)
       intro a388 hF389
       refine q_run 2 [(13, (wv (kTab.getD k3 0))), (12, (Value.int .i64 ((k3 : Nat) : Int)))] hF389 fun a390 hF391 => ?_
       refine q_end ?_
       refine q_seq ?_
       refine c_plan 17 (by kernel_rfl) (by kernel_rfl) s374 (fun b => b ≠ bh ∧ b ≠ b6 ∧ b ≠ b352 ∧ True) [(0, true), (1, true), (2, true), (3, true), (4, true), (5, true)] [(0, 649037107316853453566312041152512, 2048), (1, 1298074214633706907132624082305024, 649037107316853453566312041152512), (0, 2596148429267413814265248164610048, 2048), (4, 5192296858534827628530496329220096, 2596148429267413814265248164610048), (3, 16384, 1298074214633706907132624082305024), (31, 32768, 5192296858534827628530496329220096)] (by kernel_rfl) (by kernel_rfl) (by kernel_rfl) (by kernel_rfl) ?_
       intro w392 st393
       have hS394 := hS376.then st393
       refine q_pval 109 (Op.indexAddr 244 (Operand.tmp 11) (Operand.const (Value.int IntKind.i64 4))) (Value.pointer (some ⟨b352, 4, none⟩)) hF391 (fun w9 ⟨s9, hw9⟩ => (exec_indexP1 (N := 8) (by kernel_rfl) (kd := .i64) 4 (by kernel_rfl) (by omega) U244 L223.s)) ?_
       intro a395 hF396
       have h397 := (h382.step' st393)
       have hj398 : 4 < (([(rS b s k2 k3).a, (rS b s k2 k3).b, (rS b s k2 k3).c, (rS b s k2 k3).d, (rS b s k2 k3).e, (rS b s k2 k3).f, (rS b s k2 k3).g, (rS b s k2 k3).h] : List UInt32)).length := (by first | omega | (simp only [List.length_append, List.length_cons, List.length_nil, List.length_map, schedTo_len, addTo_len, kTab_len, List.length_set, List.length_replicate]; omega) | simp)
       refine q_pval 110 (Op.load 223 (Operand.tmp 109)) (wv ((rS b s k2 k3).e)) hF396 (fun w9 ⟨s9, hw9⟩ => (exec_load (cs := [wv (([(rS b s k2 k3).a, (rS b s k2 k3).b, (rS b s k2 k3).c, (rS b s k2 k3).d, (rS b s k2 k3).e, (rS b s k2 k3).f, (rS b s k2 k3).g, (rS b s k2 k3).h] : List UInt32).getD 4 0)]) L223 (.inr rfl) (by kernel_rfl) (Bx.elemG (h397.step hw9 (fun h => h.2.2.1 rfl)) (0 : UInt32) 4 hj398))) ?_
       intro a399 hF400
       refine q_pval 111 (Op.indexAddr 244 (Operand.tmp 11) (Operand.const (Value.int IntKind.i64 0))) (Value.pointer (some ⟨b352, 0, none⟩)) hF400 (fun w9 ⟨s9, hw9⟩ => (exec_indexP1 (N := 8) (by kernel_rfl) (kd := .i64) 0 (by kernel_rfl) (by omega) U244 L223.s)) ?_
       intro a401 hF402
       have hj403 : 0 < (([(rS b s k2 k3).a, (rS b s k2 k3).b, (rS b s k2 k3).c, (rS b s k2 k3).d, (rS b s k2 k3).e, (rS b s k2 k3).f, (rS b s k2 k3).g, (rS b s k2 k3).h] : List UInt32)).length := (by first | omega | (simp only [List.length_append, List.length_cons, List.length_nil, List.length_map, schedTo_len, addTo_len, kTab_len, List.length_set, List.length_replicate]; omega) | simp)
       refine q_pval 112 (Op.load 223 (Operand.tmp 111)) (wv ((rS b s k2 k3).a)) hF402 (fun w9 ⟨s9, hw9⟩ => (exec_load (cs := [wv (([(rS b s k2 k3).a, (rS b s k2 k3).b, (rS b s k2 k3).c, (rS b s k2 k3).d, (rS b s k2 k3).e, (rS b s k2 k3).f, (rS b s k2 k3).g, (rS b s k2 k3).h] : List UInt32).getD 0 0)]) L223 (.inr rfl) (by kernel_rfl) (Bx.elemG (h397.step hw9 (fun h => h.2.2.1 rfl)) (0 : UInt32) 0 hj403))) ?_
       intro a404 hF405
       refine q_prun (d := 14) (wv ((rS b s k2 k3).e)) hF405 ?_
       intro a406 hF407
       refine q_prun (d := 15) (wv ((rS b s k2 k3).a)) hF407 ?_
       intro a408 hF409
       refine p_end ?_
       refine q_seq ?_
       refine c_plan 18 (by kernel_rfl) (by kernel_rfl) s374 (fun b => b ≠ bh ∧ b ≠ b6 ∧ b ≠ b352 ∧ True) [(0, true), (1, true), (2, true), (4, true), (7, true), (11, true), (12, true), (13, true), (14, true), (15, true), (16, true), (17, true), (18, true), (19, true), (20, true), (22, true), (24, true), (25, true), (26, true), (3, false), (5, false), (6, true), (8, false), (9, true), (10, true), (21, true), (23, true), (27, true), (28, true)] [(0, 10384593717069655257060992658440192, 2048), (1, 20769187434139310514121985316880384, 10384593717069655257060992658440192), (0, 41538374868278621028243970633760768, 16384), (4, 83076749736557242056487941267521536, 41538374868278621028243970633760768), (0, 166153499473114484112975882535043072, 16384), (24, 332306998946228968225951765070086144, 166153499473114484112975882535043072), (40, 664613997892457936451903530140172288, 415383748682786210282439706337607680), (0, 1329227995784915872903807060280344576, 16384), (160, 2658455991569831745807614120560689152, 1329227995784915872903807060280344576), (320, 5316911983139663491615228241121378304, 3323069989462289682259517650700861440), (514, 10633823966279326983230456482242756608, 5337681170573802802129350226438258688), (0, 21267647932558653966460912964485513216, 16384), (0, 42535295865117307932921825928971026432, 2048), (4096, 85070591730234615865843651857942052864, 42535295865117307932921825928971026432), (10240, 170141183460469231731687303715884105728, 106338239662793269832304564822427566080), (0, 340282366920938463463374607431768211456, 16384), (32768, 680564733841876926926749214863536422912, 340282366920938463463374607431768211456), (0, 1361129467683753853853498429727072845824, 2048), (131072, 2722258935367507707706996859454145691648, 1361129467683753853853498429727072845824), (327680, 5444517870735015415413993718908291383296, 3402823669209384634633746074317682114560), (540672, 10889035741470030830827987437816582766592, 5614659054195484647145681022624175489024), (1049600, 21778071482940061661655974875633165533184, 10899669565436310157811217894298825523200), (0, 43556142965880123323311949751266331066368, 8192), (6291456, 87112285931760246646623899502532662132736, 65334214448820184984967924626899496599552), (0, 174224571863520493293247799005065324265472, 4096), (16777216, 348449143727040986586495598010130648530944, 174224571863520493293247799005065324265488), (33554432, 696898287454081973172991196020261297061888, 348449143727040986586495598010130648530944), (75497472, 1393796574908163946345982392040522594123776, 784010573385842219819615095522793959194624), (268435455, 65536, 1393796574908163946345982392040522594123776)] (by kernel_rfl) (by kernel_rfl) (by kernel_rfl) (by kernel_rfl) ?_
       intro w410 st411
       have hS412 := hS394.then st411
       refine q_pval 113 (Op.indexAddr 244 (Operand.tmp 11) (Operand.const (Value.int IntKind.i64 7))) (Value.pointer (some ⟨b352, 7, none⟩)) hF409 (fun w9 ⟨s9, hw9⟩ => (exec_indexP1 (N := 8) (by kernel_rfl) (kd := .i64) 7 (by kernel_rfl) (by omega) U244 L223.s)) ?_
       intro a413 hF414
       have h415 := (h397.step' st411)
       have hj416 : 7 < (([(rS b s k2 k3).a, (rS b s k2 k3).b, (rS b s k2 k3).c, (rS b s k2 k3).d, (rS b s k2 k3).e, (rS b s k2 k3).f, (rS b s k2 k3).g, (rS b s k2 k3).h] : List UInt32)).length := (by first | omega | (simp only [List.length_append, List.length_cons, List.length_nil, List.length_map, schedTo_len, addTo_len, kTab_len, List.length_set, List.length_replicate]; omega) | simp)
       refine q_pval 114 (Op.load 223 (Operand.tmp 113)) (wv ((rS b s k2 k3).h)) hF414 (fun w9 ⟨s9, hw9⟩ => (exec_load (cs := [wv (([(rS b s k2 k3).a, (rS b s k2 k3).b, (rS b s k2 k3).c, (rS b s k2 k3).d, (rS b s k2 k3).e, (rS b s k2 k3).f, (rS b s k2 k3).g, (rS b s k2 k3).h] : List UInt32).getD 7 0)]) L223 (.inr rfl) (by kernel_rfl) (Bx.elemG (h415.step hw9 (fun h => h.2.2.1 rfl)) (0 : UInt32) 7 hj416))) ?_
       intro a417 hF418
       refine q_prun (d := 115) (wv ((rS b s k2 k3).e)) hF418 ?_
       intro a419 hF420
       refine q_prun (d := 117) (wv ((rS b s k2 k3).e)) hF420 ?_
       intro a421 hF422
       refine q_prun (d := 120) (wv ((rS b s k2 k3).e)) hF422 ?_
       intro a423 hF424
       refine q_prun (d := 124) (wv ((rS b s k2 k3).e)) hF424 ?_
       intro a425 hF426
       refine q_pval 125 (Op.indexAddr 244 (Operand.tmp 11) (Operand.const (Value.int IntKind.i64 5))) (Value.pointer (some ⟨b352, 5, none⟩)) hF426 (fun w9 ⟨s9, hw9⟩ => (exec_indexP1 (N := 8) (by kernel_rfl) (kd := .i64) 5 (by kernel_rfl) (by omega) U244 L223.s)) ?_
       intro a427 hF428
       have hj429 : 5 < (([(rS b s k2 k3).a, (rS b s k2 k3).b, (rS b s k2 k3).c, (rS b s k2 k3).d, (rS b s k2 k3).e, (rS b s k2 k3).f, (rS b s k2 k3).g, (rS b s k2 k3).h] : List UInt32)).length := (by first | omega | (simp only [List.length_append, List.length_cons, List.length_nil, List.length_map, schedTo_len, addTo_len, kTab_len, List.length_set, List.length_replicate]; omega) | simp)
       refine q_pval 126 (Op.load 223 (Operand.tmp 125)) (wv ((rS b s k2 k3).f)) hF428 (fun w9 ⟨s9, hw9⟩ => (exec_load (cs := [wv (([(rS b s k2 k3).a, (rS b s k2 k3).b, (rS b s k2 k3).c, (rS b s k2 k3).d, (rS b s k2 k3).e, (rS b s k2 k3).f, (rS b s k2 k3).g, (rS b s k2 k3).h] : List UInt32).getD 5 0)]) L223 (.inr rfl) (by kernel_rfl) (Bx.elemG (h415.step hw9 (fun h => h.2.2.1 rfl)) (0 : UInt32) 5 hj429))) ?_
       intro a430 hF431
       refine q_prun (d := 127) (Value.int .u32 (IntKind.u32.wrap ((BitVec.ofInt 32 (((rS b s k2 k3).e).toNat : Int) &&& BitVec.ofInt 32 (((rS b s k2 k3).f).toNat : Int)).toNat : Int))) hF431 ?_
       intro a432 hF433
       have hF434 := hF433.set 127 (Value.int .u32 (IntKind.u32.wrap ((BitVec.ofInt 32 (((rS b s k2 k3).e).toNat : Int) &&& BitVec.ofInt 32 (((rS b s k2 k3).f).toNat : Int)).toNat : Int))) (wv (((rS b s k2 k3).e) &&& ((rS b s k2 k3).f))) (by kernel_rfl) (congrArg (Value.int .u32) (u32_and ((rS b s k2 k3).e) ((rS b s k2 k3).f)))
       refine q_prun (d := 128) (wv ((rS b s k2 k3).e)) hF434 ?_
       intro a435 hF436
       refine q_prun (d := 129) (Value.int .u32 (IntKind.u32.wrap ((BitVec.ofInt 32 IntKind.u32.max ^^^ BitVec.ofInt 32 (((rS b s k2 k3).e).toNat : Int)).toNat : Int))) hF436 ?_
       intro a437 hF438
       have hF439 := hF438.set 129 (Value.int .u32 (IntKind.u32.wrap ((BitVec.ofInt 32 IntKind.u32.max ^^^ BitVec.ofInt 32 (((rS b s k2 k3).e).toNat : Int)).toNat : Int))) (wv (~~~((rS b s k2 k3).e))) (by kernel_rfl) (congrArg (Value.int .u32) (u32_not ((rS b s k2 k3).e)))
       refine q_pval 130 (Op.indexAddr 244 (Operand.tmp 11) (Operand.const (Value.int IntKind.i64 6))) (Value.pointer (some ⟨b352, 6, none⟩)) hF439 (fun w9 ⟨s9, hw9⟩ => (exec_indexP1 (N := 8) (by kernel_rfl) (kd := .i64) 6 (by kernel_rfl) (by omega) U244 L223.s)) ?_
       intro a440 hF441
       have hj442 : 6 < (([(rS b s k2 k3).a, (rS b s k2 k3).b, (rS b s k2 k3).c, (rS b s k2 k3).d, (rS b s k2 k3).e, (rS b s k2 k3).f, (rS b s k2 k3).g, (rS b s k2 k3).h] : List UInt32)).length := (by first | omega | (simp only [List.length_append, List.length_cons, List.length_nil, List.length_map, schedTo_len, addTo_len, kTab_len, List.length_set, List.length_replicate]; omega) | simp)
       refine q_pval 131 (Op.load 223 (Operand.tmp 130)) (wv ((rS b s k2 k3).g)) hF441 (fun w9 ⟨s9, hw9⟩ => (exec_load (cs := [wv (([(rS b s k2 k3).a, (rS b s k2 k3).b, (rS b s k2 k3).c, (rS b s k2 k3).d, (rS b s k2 k3).e, (rS b s k2 k3).f, (rS b s k2 k3).g, (rS b s k2 k3).h] : List UInt32).getD 6 0)]) L223 (.inr rfl) (by kernel_rfl) (Bx.elemG (h415.step hw9 (fun h => h.2.2.1 rfl)) (0 : UInt32) 6 hj442))) ?_
       intro a443 hF444
       refine q_prun (d := 132) (Value.int .u32 (IntKind.u32.wrap ((BitVec.ofInt 32 ((~~~((rS b s k2 k3).e)).toNat : Int) &&& BitVec.ofInt 32 (((rS b s k2 k3).g).toNat : Int)).toNat : Int))) hF444 ?_
       intro a445 hF446
       have hF447 := hF446.set 132 (Value.int .u32 (IntKind.u32.wrap ((BitVec.ofInt 32 ((~~~((rS b s k2 k3).e)).toNat : Int) &&& BitVec.ofInt 32 (((rS b s k2 k3).g).toNat : Int)).toNat : Int))) (wv ((~~~((rS b s k2 k3).e)) &&& ((rS b s k2 k3).g))) (by kernel_rfl) (congrArg (Value.int .u32) (u32_and (~~~((rS b s k2 k3).e)) ((rS b s k2 k3).g)))
       refine q_prun (d := 133) (Value.int .u32 (IntKind.u32.wrap ((BitVec.ofInt 32 ((((rS b s k2 k3).e) &&& ((rS b s k2 k3).f)).toNat : Int) ^^^ BitVec.ofInt 32 (((~~~((rS b s k2 k3).e)) &&& ((rS b s k2 k3).g)).toNat : Int)).toNat : Int))) hF447 ?_
       intro a448 hF449
       have hF450 := hF449.set 133 (Value.int .u32 (IntKind.u32.wrap ((BitVec.ofInt 32 ((((rS b s k2 k3).e) &&& ((rS b s k2 k3).f)).toNat : Int) ^^^ BitVec.ofInt 32 (((~~~((rS b s k2 k3).e)) &&& ((rS b s k2 k3).g)).toNat : Int)).toNat : Int))) (wv ((((rS b s k2 k3).e) &&& ((rS b s k2 k3).f)) ^^^ ((~~~((rS b s k2 k3).e)) &&& ((rS b s k2 k3).g)))) (by kernel_rfl) (congrArg (Value.int .u32) (u32_xor (((rS b s k2 k3).e) &&& ((rS b s k2 k3).f)) ((~~~((rS b s k2 k3).e)) &&& ((rS b s k2 k3).g))))
       refine q_prun (d := 135) (wv (kTab.getD k3 0)) hF450 ?_
       intro a451 hF452
       refine q_prun (d := 137) (Value.int .i64 ((k3 : Nat) : Int)) hF452 ?_
       intro a453 hF454
       refine q_pval 138 (Op.indexAddr 226 (Operand.tmp 4) (Operand.tmp 137)) (Value.pointer (some ⟨b6, k3, none⟩)) hF454 (fun w9 ⟨s9, hw9⟩ => (exec_indexP1 (N := 64) (by kernel_rfl) (kd := .i64) k3 (by kernel_rfl) (by omega) U226 L223.s)) ?_
       intro a455 hF456
       have h457 := ((h381.step' st393).step' st411)
       have hj458 : k3 < (schedTo b (k2)).length := (by first | omega | (simp only [List.length_append, List.length_cons, List.length_nil, List.length_map, schedTo_len, addTo_len, kTab_len, List.length_set, List.length_replicate]; omega) | simp)
       refine q_pval 139 (Op.load 223 (Operand.tmp 138)) (wv ((schedTo b (k2)).getD k3 0)) hF456 (fun w9 ⟨s9, hw9⟩ => (exec_load (cs := [wv ((schedTo b (k2)).getD k3 0)]) L223 (.inr rfl) (by kernel_rfl) (Bx.elemG (h457.step hw9 (fun h => h.2.1 rfl)) (0 : UInt32) k3 hj458))) ?_
       intro a459 hF460
       have h461 := ((h380.step' st393).step' st411)
       refine p_do (q_call (some 116) (#[(Operand.tmp 115), (Operand.const (Value.int IntKind.i64 (-6)))]) (#[223, 3]) hF460 C139 [(wv ((rS b s k2 k3).e)), (Value.int .i64 (-6))] (rotl_calls s374 w410 ((rS b s k2 k3).e) (-6 : Int) (by decide)) ?_)
       intro a462 s463 w464 v465 st466 hP467 hF468
       have hz469 := hS412.size
       have hS470 := hS412.then st466
       refine ⟨s463, st466.mono (fun b _ e => (fun _ e => e.elim) b e), ?_⟩
       subst hP467
       have h471 := (h461.step' st466)
       have h472 := (h457.step' st466)
       have h473 := (h415.step' st466)
       refine p_do (q_call (some 118) (#[(Operand.tmp 117), (Operand.const (Value.int IntKind.i64 (-11)))]) (#[223, 3]) hF468 C139 [(wv ((rS b s k2 k3).e)), (Value.int .i64 (-11))] (rotl_calls s463 w464 ((rS b s k2 k3).e) (-11 : Int) (by decide)) ?_)
       intro a474 s475 w476 v477 st478 hP479 hF480
       have hz481 := hS470.size
       have hS482 := hS470.then st478
       refine ⟨s475, st478.mono (fun b _ e => (fun _ e => e.elim) b e), ?_⟩
       subst hP479
       refine q_prun (d := 119) (Value.int .u32 (IntKind.u32.wrap ((BitVec.ofInt 32 ((rotl ((rS b s k2 k3).e) (-6 : Int)).toNat : Int) ^^^ BitVec.ofInt 32 ((rotl ((rS b s k2 k3).e) (-11 : Int)).toNat : Int)).toNat : Int))) hF480 ?_
       intro a483 hF484
       have hF485 := hF484.set 119 (Value.int .u32 (IntKind.u32.wrap ((BitVec.ofInt 32 ((rotl ((rS b s k2 k3).e) (-6 : Int)).toNat : Int) ^^^ BitVec.ofInt 32 ((rotl ((rS b s k2 k3).e) (-11 : Int)).toNat : Int)).toNat : Int))) (wv ((rotl ((rS b s k2 k3).e) (-6 : Int)) ^^^ (rotl ((rS b s k2 k3).e) (-11 : Int)))) (by kernel_rfl) (congrArg (Value.int .u32) (u32_xor (rotl ((rS b s k2 k3).e) (-6 : Int)) (rotl ((rS b s k2 k3).e) (-11 : Int))))
       have h486 := (h471.step' st478)
       have h487 := (h472.step' st478)
       have h488 := (h473.step' st478)
       refine p_do (q_call (some 121) (#[(Operand.tmp 120), (Operand.const (Value.int IntKind.i64 (-25)))]) (#[223, 3]) hF485 C139 [(wv ((rS b s k2 k3).e)), (Value.int .i64 (-25))] (rotl_calls s475 w476 ((rS b s k2 k3).e) (-25 : Int) (by decide)) ?_)
       intro a489 s490 w491 v492 st493 hP494 hF495
       have hz496 := hS482.size
       have hS497 := hS482.then st493
       refine ⟨s490, st493.mono (fun b _ e => (fun _ e => e.elim) b e), ?_⟩
       subst hP494
       refine q_prun (d := 122) (Value.int .u32 (IntKind.u32.wrap ((BitVec.ofInt 32 (((rotl ((rS b s k2 k3).e) (-6 : Int)) ^^^ (rotl ((rS b s k2 k3).e) (-11 : Int))).toNat : Int) ^^^ BitVec.ofInt 32 ((rotl ((rS b s k2 k3).e) (-25 : Int)).toNat : Int)).toNat : Int))) hF495 ?_
       intro a498 hF499
       have hF500 := hF499.set 122 (Value.int .u32 (IntKind.u32.wrap ((BitVec.ofInt 32 (((rotl ((rS b s k2 k3).e) (-6 : Int)) ^^^ (rotl ((rS b s k2 k3).e) (-11 : Int))).toNat : Int) ^^^ BitVec.ofInt 32 ((rotl ((rS b s k2 k3).e) (-25 : Int)).toNat : Int)).toNat : Int))) (wv (((rotl ((rS b s k2 k3).e) (-6 : Int)) ^^^ (rotl ((rS b s k2 k3).e) (-11 : Int))) ^^^ (rotl ((rS b s k2 k3).e) (-25 : Int)))) (by kernel_rfl) (congrArg (Value.int .u32) (u32_xor ((rotl ((rS b s k2 k3).e) (-6 : Int)) ^^^ (rotl ((rS b s k2 k3).e) (-11 : Int))) (rotl ((rS b s k2 k3).e) (-25 : Int))))
       refine q_prun (d := 123) (Value.int .u32 (IntKind.u32.wrap ((((rS b s k2 k3).h).toNat : Int) + ((((rotl ((rS b s k2 k3).e) (-6 : Int)) ^^^ (rotl ((rS b s k2 k3).e) (-11 : Int))) ^^^ (rotl ((rS b s k2 k3).e) (-25 : Int))).toNat : Int)))) hF500 ?_
       intro a501 hF502
       have hF503 := hF502.set 123 (Value.int .u32 (IntKind.u32.wrap ((((rS b s k2 k3).h).toNat : Int) + ((((rotl ((rS b s k2 k3).e) (-6 : Int)) ^^^ (rotl ((rS b s k2 k3).e) (-11 : Int))) ^^^ (rotl ((rS b s k2 k3).e) (-25 : Int))).toNat : Int)))) (wv (((rS b s k2 k3).h) + (((rotl ((rS b s k2 k3).e) (-6 : Int)) ^^^ (rotl ((rS b s k2 k3).e) (-11 : Int))) ^^^ (rotl ((rS b s k2 k3).e) (-25 : Int))))) (by kernel_rfl) (congrArg (Value.int .u32) (u32_add _ _))
       refine q_prun (d := 134) (Value.int .u32 (IntKind.u32.wrap (((((rS b s k2 k3).h) + (((rotl ((rS b s k2 k3).e) (-6 : Int)) ^^^ (rotl ((rS b s k2 k3).e) (-11 : Int))) ^^^ (rotl ((rS b s k2 k3).e) (-25 : Int)))).toNat : Int) + (((((rS b s k2 k3).e) &&& ((rS b s k2 k3).f)) ^^^ ((~~~((rS b s k2 k3).e)) &&& ((rS b s k2 k3).g))).toNat : Int)))) hF503 ?_
       intro a504 hF505
       have hF506 := hF505.set 134 (Value.int .u32 (IntKind.u32.wrap (((((rS b s k2 k3).h) + (((rotl ((rS b s k2 k3).e) (-6 : Int)) ^^^ (rotl ((rS b s k2 k3).e) (-11 : Int))) ^^^ (rotl ((rS b s k2 k3).e) (-25 : Int)))).toNat : Int) + (((((rS b s k2 k3).e) &&& ((rS b s k2 k3).f)) ^^^ ((~~~((rS b s k2 k3).e)) &&& ((rS b s k2 k3).g))).toNat : Int)))) (wv ((((rS b s k2 k3).h) + (((rotl ((rS b s k2 k3).e) (-6 : Int)) ^^^ (rotl ((rS b s k2 k3).e) (-11 : Int))) ^^^ (rotl ((rS b s k2 k3).e) (-25 : Int)))) + ((((rS b s k2 k3).e) &&& ((rS b s k2 k3).f)) ^^^ ((~~~((rS b s k2 k3).e)) &&& ((rS b s k2 k3).g))))) (by kernel_rfl) (congrArg (Value.int .u32) (u32_add _ _))
       refine q_prun (d := 136) (Value.int .u32 (IntKind.u32.wrap ((((((rS b s k2 k3).h) + (((rotl ((rS b s k2 k3).e) (-6 : Int)) ^^^ (rotl ((rS b s k2 k3).e) (-11 : Int))) ^^^ (rotl ((rS b s k2 k3).e) (-25 : Int)))) + ((((rS b s k2 k3).e) &&& ((rS b s k2 k3).f)) ^^^ ((~~~((rS b s k2 k3).e)) &&& ((rS b s k2 k3).g)))).toNat : Int) + ((kTab.getD k3 0).toNat : Int)))) hF506 ?_
       intro a507 hF508
       have hF509 := hF508.set 136 (Value.int .u32 (IntKind.u32.wrap ((((((rS b s k2 k3).h) + (((rotl ((rS b s k2 k3).e) (-6 : Int)) ^^^ (rotl ((rS b s k2 k3).e) (-11 : Int))) ^^^ (rotl ((rS b s k2 k3).e) (-25 : Int)))) + ((((rS b s k2 k3).e) &&& ((rS b s k2 k3).f)) ^^^ ((~~~((rS b s k2 k3).e)) &&& ((rS b s k2 k3).g)))).toNat : Int) + ((kTab.getD k3 0).toNat : Int)))) (wv (((((rS b s k2 k3).h) + (((rotl ((rS b s k2 k3).e) (-6 : Int)) ^^^ (rotl ((rS b s k2 k3).e) (-11 : Int))) ^^^ (rotl ((rS b s k2 k3).e) (-25 : Int)))) + ((((rS b s k2 k3).e) &&& ((rS b s k2 k3).f)) ^^^ ((~~~((rS b s k2 k3).e)) &&& ((rS b s k2 k3).g)))) + (kTab.getD k3 0))) (by kernel_rfl) (congrArg (Value.int .u32) (u32_add _ _))
       refine q_prun (d := 140) (Value.int .u32 (IntKind.u32.wrap (((((((rS b s k2 k3).h) + (((rotl ((rS b s k2 k3).e) (-6 : Int)) ^^^ (rotl ((rS b s k2 k3).e) (-11 : Int))) ^^^ (rotl ((rS b s k2 k3).e) (-25 : Int)))) + ((((rS b s k2 k3).e) &&& ((rS b s k2 k3).f)) ^^^ ((~~~((rS b s k2 k3).e)) &&& ((rS b s k2 k3).g)))) + (kTab.getD k3 0)).toNat : Int) + (((schedTo b (k2)).getD k3 0).toNat : Int)))) hF509 ?_
       intro a510 hF511
       have hF512 := hF511.set 140 (Value.int .u32 (IntKind.u32.wrap (((((((rS b s k2 k3).h) + (((rotl ((rS b s k2 k3).e) (-6 : Int)) ^^^ (rotl ((rS b s k2 k3).e) (-11 : Int))) ^^^ (rotl ((rS b s k2 k3).e) (-25 : Int)))) + ((((rS b s k2 k3).e) &&& ((rS b s k2 k3).f)) ^^^ ((~~~((rS b s k2 k3).e)) &&& ((rS b s k2 k3).g)))) + (kTab.getD k3 0)).toNat : Int) + (((schedTo b (k2)).getD k3 0).toNat : Int)))) (wv ((((((rS b s k2 k3).h) + (((rotl ((rS b s k2 k3).e) (-6 : Int)) ^^^ (rotl ((rS b s k2 k3).e) (-11 : Int))) ^^^ (rotl ((rS b s k2 k3).e) (-25 : Int)))) + ((((rS b s k2 k3).e) &&& ((rS b s k2 k3).f)) ^^^ ((~~~((rS b s k2 k3).e)) &&& ((rS b s k2 k3).g)))) + (kTab.getD k3 0)) + ((schedTo b (k2)).getD k3 0))) (by kernel_rfl) (congrArg (Value.int .u32) (u32_add _ _))
       refine q_prun (d := 16) (wv ((((((rS b s k2 k3).h) + (((rotl ((rS b s k2 k3).e) (-6 : Int)) ^^^ (rotl ((rS b s k2 k3).e) (-11 : Int))) ^^^ (rotl ((rS b s k2 k3).e) (-25 : Int)))) + ((((rS b s k2 k3).e) &&& ((rS b s k2 k3).f)) ^^^ ((~~~((rS b s k2 k3).e)) &&& ((rS b s k2 k3).g)))) + (kTab.getD k3 0)) + ((schedTo b (k2)).getD k3 0))) hF512 ?_
       intro a513 hF514
       refine p_end ?_
       refine q_seq ?_
       refine c_plan 19 (by kernel_rfl) (by kernel_rfl) s490 (fun b => b ≠ bh ∧ b ≠ b6 ∧ b ≠ b352 ∧ True) [(0, true), (2, true), (5, true), (8, true), (9, true), (10, true), (11, true), (12, true), (13, true), (14, true), (15, true), (16, true), (17, true), (18, true), (19, true), (20, true), (21, true), (22, true), (1, false), (3, false), (4, true), (6, false), (7, true), (23, true), (24, true)] [(0, 2787593149816327892691964784081045188247552, 32768), (1, 5575186299632655785383929568162090376495104, 2787593149816327892691964784081045188247552), (0, 11150372599265311570767859136324180752990208, 32768), (6, 22300745198530623141535718272648361505980416, 11150372599265311570767859136324180752990208), (10, 44601490397061246283071436545296723011960832, 27875931498163278926919647840810451882475520), (0, 89202980794122492566142873090593446023921664, 32768), (40, 178405961588244985132285746181186892047843328, 89202980794122492566142873090593446023921664), (80, 356811923176489970264571492362373784095686656, 223007451985306231415357182726483615059804160), (0, 713623846352979940529142984724747568191373312, 32768), (0, 1427247692705959881058285969449495136382746624, 2048), (512, 2854495385411919762116571938898990272765493248, 1427247692705959881058285969449495136382746624), (1280, 5708990770823839524233143877797980545530986496, 3568119231764899702645714923623737840956866560), (0, 11417981541647679048466287755595961091061972992, 32768), (0, 22835963083295358096932575511191922182123945984, 2048), (8192, 45671926166590716193865151022383844364247891968, 22835963083295358096932575511191922182123945984), (20480, 91343852333181432387730302044767688728495783936, 57089907708238395242331438777979805455309864960), (34816, 182687704666362864775460604089535377456991567872, 97052843104005271911963445922565669274026770432), (0, 365375409332725729550921208179070754913983135744, 2048), (131072, 730750818665451459101842416358141509827966271488, 365375409332725729550921208179070754913983135744), (0, 1461501637330902918203684832716283019655932542976, 2048), (524288, 2923003274661805836407369665432566039311865085952, 1461501637330902918203684832716283019655932542976), (1310720, 5846006549323611672814739330865132078623730171904, 3653754093327257295509212081790707549139831357440), (2162688, 11692013098647223345629478661730264157247460343808, 6028694253989974537590199934954667456080721739776), (4194432, 23384026197294446691258957323460528314494920687616, 11692369910570399835599743233222626531031556030464), (16777215, 131072, 23384026197294446691258957323460528314494920687616)] (by kernel_rfl) (by kernel_rfl) (by kernel_rfl) (by kernel_rfl) ?_
       intro w515 st516
       have hS517 := hS497.then st516
       refine q_prun (d := 141) (wv ((rS b s k2 k3).a)) hF514 ?_
       intro a518 hF519
       refine q_prun (d := 143) (wv ((rS b s k2 k3).a)) hF519 ?_
       intro a520 hF521
       refine q_prun (d := 146) (wv ((rS b s k2 k3).a)) hF521 ?_
       intro a522 hF523
       refine q_prun (d := 149) (wv ((rS b s k2 k3).a)) hF523 ?_
       intro a524 hF525
       refine q_pval 150 (Op.indexAddr 244 (Operand.tmp 11) (Operand.const (Value.int IntKind.i64 1))) (Value.pointer (some ⟨b352, 1, none⟩)) hF525 (fun w9 ⟨s9, hw9⟩ => (exec_indexP1 (N := 8) (by kernel_rfl) (kd := .i64) 1 (by kernel_rfl) (by omega) U244 L223.s)) ?_
       intro a526 hF527
       have h528 := ((h488.step' st493).step' st516)
       have hj529 : 1 < (([(rS b s k2 k3).a, (rS b s k2 k3).b, (rS b s k2 k3).c, (rS b s k2 k3).d, (rS b s k2 k3).e, (rS b s k2 k3).f, (rS b s k2 k3).g, (rS b s k2 k3).h] : List UInt32)).length := (by first | omega | (simp only [List.length_append, List.length_cons, List.length_nil, List.length_map, schedTo_len, addTo_len, kTab_len, List.length_set, List.length_replicate]; omega) | simp)
       refine q_pval 151 (Op.load 223 (Operand.tmp 150)) (wv ((rS b s k2 k3).b)) hF527 (fun w9 ⟨s9, hw9⟩ => (exec_load (cs := [wv (([(rS b s k2 k3).a, (rS b s k2 k3).b, (rS b s k2 k3).c, (rS b s k2 k3).d, (rS b s k2 k3).e, (rS b s k2 k3).f, (rS b s k2 k3).g, (rS b s k2 k3).h] : List UInt32).getD 1 0)]) L223 (.inr rfl) (by kernel_rfl) (Bx.elemG (h528.step hw9 (fun h => h.2.2.1 rfl)) (0 : UInt32) 1 hj529))) ?_
       intro a530 hF531
       refine q_prun (d := 152) (Value.int .u32 (IntKind.u32.wrap ((BitVec.ofInt 32 (((rS b s k2 k3).a).toNat : Int) &&& BitVec.ofInt 32 (((rS b s k2 k3).b).toNat : Int)).toNat : Int))) hF531 ?_
       intro a532 hF533
       have hF534 := hF533.set 152 (Value.int .u32 (IntKind.u32.wrap ((BitVec.ofInt 32 (((rS b s k2 k3).a).toNat : Int) &&& BitVec.ofInt 32 (((rS b s k2 k3).b).toNat : Int)).toNat : Int))) (wv (((rS b s k2 k3).a) &&& ((rS b s k2 k3).b))) (by kernel_rfl) (congrArg (Value.int .u32) (u32_and ((rS b s k2 k3).a) ((rS b s k2 k3).b)))
       refine q_prun (d := 153) (wv ((rS b s k2 k3).a)) hF534 ?_
       intro a535 hF536
       refine q_pval 154 (Op.indexAddr 244 (Operand.tmp 11) (Operand.const (Value.int IntKind.i64 2))) (Value.pointer (some ⟨b352, 2, none⟩)) hF536 (fun w9 ⟨s9, hw9⟩ => (exec_indexP1 (N := 8) (by kernel_rfl) (kd := .i64) 2 (by kernel_rfl) (by omega) U244 L223.s)) ?_
       intro a537 hF538
       have hj539 : 2 < (([(rS b s k2 k3).a, (rS b s k2 k3).b, (rS b s k2 k3).c, (rS b s k2 k3).d, (rS b s k2 k3).e, (rS b s k2 k3).f, (rS b s k2 k3).g, (rS b s k2 k3).h] : List UInt32)).length := (by first | omega | (simp only [List.length_append, List.length_cons, List.length_nil, List.length_map, schedTo_len, addTo_len, kTab_len, List.length_set, List.length_replicate]; omega) | simp)
       refine q_pval 155 (Op.load 223 (Operand.tmp 154)) (wv ((rS b s k2 k3).c)) hF538 (fun w9 ⟨s9, hw9⟩ => (exec_load (cs := [wv (([(rS b s k2 k3).a, (rS b s k2 k3).b, (rS b s k2 k3).c, (rS b s k2 k3).d, (rS b s k2 k3).e, (rS b s k2 k3).f, (rS b s k2 k3).g, (rS b s k2 k3).h] : List UInt32).getD 2 0)]) L223 (.inr rfl) (by kernel_rfl) (Bx.elemG (h528.step hw9 (fun h => h.2.2.1 rfl)) (0 : UInt32) 2 hj539))) ?_
       intro a540 hF541
       refine q_prun (d := 156) (Value.int .u32 (IntKind.u32.wrap ((BitVec.ofInt 32 (((rS b s k2 k3).a).toNat : Int) &&& BitVec.ofInt 32 (((rS b s k2 k3).c).toNat : Int)).toNat : Int))) hF541 ?_
       intro a542 hF543
       have hF544 := hF543.set 156 (Value.int .u32 (IntKind.u32.wrap ((BitVec.ofInt 32 (((rS b s k2 k3).a).toNat : Int) &&& BitVec.ofInt 32 (((rS b s k2 k3).c).toNat : Int)).toNat : Int))) (wv (((rS b s k2 k3).a) &&& ((rS b s k2 k3).c))) (by kernel_rfl) (congrArg (Value.int .u32) (u32_and ((rS b s k2 k3).a) ((rS b s k2 k3).c)))
       refine q_prun (d := 157) (Value.int .u32 (IntKind.u32.wrap ((BitVec.ofInt 32 ((((rS b s k2 k3).a) &&& ((rS b s k2 k3).b)).toNat : Int) ^^^ BitVec.ofInt 32 ((((rS b s k2 k3).a) &&& ((rS b s k2 k3).c)).toNat : Int)).toNat : Int))) hF544 ?_
       intro a545 hF546
       have hF547 := hF546.set 157 (Value.int .u32 (IntKind.u32.wrap ((BitVec.ofInt 32 ((((rS b s k2 k3).a) &&& ((rS b s k2 k3).b)).toNat : Int) ^^^ BitVec.ofInt 32 ((((rS b s k2 k3).a) &&& ((rS b s k2 k3).c)).toNat : Int)).toNat : Int))) (wv ((((rS b s k2 k3).a) &&& ((rS b s k2 k3).b)) ^^^ (((rS b s k2 k3).a) &&& ((rS b s k2 k3).c)))) (by kernel_rfl) (congrArg (Value.int .u32) (u32_xor (((rS b s k2 k3).a) &&& ((rS b s k2 k3).b)) (((rS b s k2 k3).a) &&& ((rS b s k2 k3).c))))
       refine q_pval 158 (Op.indexAddr 244 (Operand.tmp 11) (Operand.const (Value.int IntKind.i64 1))) (Value.pointer (some ⟨b352, 1, none⟩)) hF547 (fun w9 ⟨s9, hw9⟩ => (exec_indexP1 (N := 8) (by kernel_rfl) (kd := .i64) 1 (by kernel_rfl) (by omega) U244 L223.s)) ?_
       intro a548 hF549
       have hj550 : 1 < (([(rS b s k2 k3).a, (rS b s k2 k3).b, (rS b s k2 k3).c, (rS b s k2 k3).d, (rS b s k2 k3).e, (rS b s k2 k3).f, (rS b s k2 k3).g, (rS b s k2 k3).h] : List UInt32)).length := (by first | omega | (simp only [List.length_append, List.length_cons, List.length_nil, List.length_map, schedTo_len, addTo_len, kTab_len, List.length_set, List.length_replicate]; omega) | simp)
       refine q_pval 159 (Op.load 223 (Operand.tmp 158)) (wv ((rS b s k2 k3).b)) hF549 (fun w9 ⟨s9, hw9⟩ => (exec_load (cs := [wv (([(rS b s k2 k3).a, (rS b s k2 k3).b, (rS b s k2 k3).c, (rS b s k2 k3).d, (rS b s k2 k3).e, (rS b s k2 k3).f, (rS b s k2 k3).g, (rS b s k2 k3).h] : List UInt32).getD 1 0)]) L223 (.inr rfl) (by kernel_rfl) (Bx.elemG (h528.step hw9 (fun h => h.2.2.1 rfl)) (0 : UInt32) 1 hj550))) ?_
       intro a551 hF552
       refine q_pval 160 (Op.indexAddr 244 (Operand.tmp 11) (Operand.const (Value.int IntKind.i64 2))) (Value.pointer (some ⟨b352, 2, none⟩)) hF552 (fun w9 ⟨s9, hw9⟩ => (exec_indexP1 (N := 8) (by kernel_rfl) (kd := .i64) 2 (by kernel_rfl) (by omega) U244 L223.s)) ?_
       intro a553 hF554
       have hj555 : 2 < (([(rS b s k2 k3).a, (rS b s k2 k3).b, (rS b s k2 k3).c, (rS b s k2 k3).d, (rS b s k2 k3).e, (rS b s k2 k3).f, (rS b s k2 k3).g, (rS b s k2 k3).h] : List UInt32)).length := (by first | omega | (simp only [List.length_append, List.length_cons, List.length_nil, List.length_map, schedTo_len, addTo_len, kTab_len, List.length_set, List.length_replicate]; omega) | simp)
       refine q_pval 161 (Op.load 223 (Operand.tmp 160)) (wv ((rS b s k2 k3).c)) hF554 (fun w9 ⟨s9, hw9⟩ => (exec_load (cs := [wv (([(rS b s k2 k3).a, (rS b s k2 k3).b, (rS b s k2 k3).c, (rS b s k2 k3).d, (rS b s k2 k3).e, (rS b s k2 k3).f, (rS b s k2 k3).g, (rS b s k2 k3).h] : List UInt32).getD 2 0)]) L223 (.inr rfl) (by kernel_rfl) (Bx.elemG (h528.step hw9 (fun h => h.2.2.1 rfl)) (0 : UInt32) 2 hj555))) ?_
       intro a556 hF557
       refine q_prun (d := 162) (Value.int .u32 (IntKind.u32.wrap ((BitVec.ofInt 32 (((rS b s k2 k3).b).toNat : Int) &&& BitVec.ofInt 32 (((rS b s k2 k3).c).toNat : Int)).toNat : Int))) hF557 ?_
       intro a558 hF559
       have hF560 := hF559.set 162 (Value.int .u32 (IntKind.u32.wrap ((BitVec.ofInt 32 (((rS b s k2 k3).b).toNat : Int) &&& BitVec.ofInt 32 (((rS b s k2 k3).c).toNat : Int)).toNat : Int))) (wv (((rS b s k2 k3).b) &&& ((rS b s k2 k3).c))) (by kernel_rfl) (congrArg (Value.int .u32) (u32_and ((rS b s k2 k3).b) ((rS b s k2 k3).c)))
       refine q_prun (d := 163) (Value.int .u32 (IntKind.u32.wrap ((BitVec.ofInt 32 (((((rS b s k2 k3).a) &&& ((rS b s k2 k3).b)) ^^^ (((rS b s k2 k3).a) &&& ((rS b s k2 k3).c))).toNat : Int) ^^^ BitVec.ofInt 32 ((((rS b s k2 k3).b) &&& ((rS b s k2 k3).c)).toNat : Int)).toNat : Int))) hF560 ?_
       intro a561 hF562
       have hF563 := hF562.set 163 (Value.int .u32 (IntKind.u32.wrap ((BitVec.ofInt 32 (((((rS b s k2 k3).a) &&& ((rS b s k2 k3).b)) ^^^ (((rS b s k2 k3).a) &&& ((rS b s k2 k3).c))).toNat : Int) ^^^ BitVec.ofInt 32 ((((rS b s k2 k3).b) &&& ((rS b s k2 k3).c)).toNat : Int)).toNat : Int))) (wv (((((rS b s k2 k3).a) &&& ((rS b s k2 k3).b)) ^^^ (((rS b s k2 k3).a) &&& ((rS b s k2 k3).c))) ^^^ (((rS b s k2 k3).b) &&& ((rS b s k2 k3).c)))) (by kernel_rfl) (congrArg (Value.int .u32) (u32_xor ((((rS b s k2 k3).a) &&& ((rS b s k2 k3).b)) ^^^ (((rS b s k2 k3).a) &&& ((rS b s k2 k3).c))) (((rS b s k2 k3).b) &&& ((rS b s k2 k3).c))))
       have h564 := ((h486.step' st493).step' st516)
       have h565 := ((h487.step' st493).step' st516)
       refine p_do (q_call (some 142) (#[(Operand.tmp 141), (Operand.const (Value.int IntKind.i64 (-2)))]) (#[223, 3]) hF563 C139 [(wv ((rS b s k2 k3).a)), (Value.int .i64 (-2))] (rotl_calls s490 w515 ((rS b s k2 k3).a) (-2 : Int) (by decide)) ?_)
       intro a566 s567 w568 v569 st570 hP571 hF572
       have hz573 := hS517.size
       have hS574 := hS517.then st570
       refine ⟨s567, st570.mono (fun b _ e => (fun _ e => e.elim) b e), ?_⟩
       subst hP571
       have h575 := (h564.step' st570)
       have h576 := (h565.step' st570)
       have h577 := (h528.step' st570)
       refine p_do (q_call (some 144) (#[(Operand.tmp 143), (Operand.const (Value.int IntKind.i64 (-13)))]) (#[223, 3]) hF572 C139 [(wv ((rS b s k2 k3).a)), (Value.int .i64 (-13))] (rotl_calls s567 w568 ((rS b s k2 k3).a) (-13 : Int) (by decide)) ?_)
       intro a578 s579 w580 v581 st582 hP583 hF584
       have hz585 := hS574.size
       have hS586 := hS574.then st582
       refine ⟨s579, st582.mono (fun b _ e => (fun _ e => e.elim) b e), ?_⟩
       subst hP583
       refine q_prun (d := 145) (Value.int .u32 (IntKind.u32.wrap ((BitVec.ofInt 32 ((rotl ((rS b s k2 k3).a) (-2 : Int)).toNat : Int) ^^^ BitVec.ofInt 32 ((rotl ((rS b s k2 k3).a) (-13 : Int)).toNat : Int)).toNat : Int))) hF584 ?_
       intro a587 hF588
       have hF589 := hF588.set 145 (Value.int .u32 (IntKind.u32.wrap ((BitVec.ofInt 32 ((rotl ((rS b s k2 k3).a) (-2 : Int)).toNat : Int) ^^^ BitVec.ofInt 32 ((rotl ((rS b s k2 k3).a) (-13 : Int)).toNat : Int)).toNat : Int))) (wv ((rotl ((rS b s k2 k3).a) (-2 : Int)) ^^^ (rotl ((rS b s k2 k3).a) (-13 : Int)))) (by kernel_rfl) (congrArg (Value.int .u32) (u32_xor (rotl ((rS b s k2 k3).a) (-2 : Int)) (rotl ((rS b s k2 k3).a) (-13 : Int))))
       have h590 := (h575.step' st582)
       have h591 := (h576.step' st582)
       have h592 := (h577.step' st582)
       refine p_do (q_call (some 147) (#[(Operand.tmp 146), (Operand.const (Value.int IntKind.i64 (-22)))]) (#[223, 3]) hF589 C139 [(wv ((rS b s k2 k3).a)), (Value.int .i64 (-22))] (rotl_calls s579 w580 ((rS b s k2 k3).a) (-22 : Int) (by decide)) ?_)
       intro a593 s594 w595 v596 st597 hP598 hF599
       have hz600 := hS586.size
       have hS601 := hS586.then st597
       refine ⟨s594, st597.mono (fun b _ e => (fun _ e => e.elim) b e), ?_⟩
       subst hP598
       refine q_prun (d := 148) (Value.int .u32 (IntKind.u32.wrap ((BitVec.ofInt 32 (((rotl ((rS b s k2 k3).a) (-2 : Int)) ^^^ (rotl ((rS b s k2 k3).a) (-13 : Int))).toNat : Int) ^^^ BitVec.ofInt 32 ((rotl ((rS b s k2 k3).a) (-22 : Int)).toNat : Int)).toNat : Int))) hF599 ?_
       intro a602 hF603
       have hF604 := hF603.set 148 (Value.int .u32 (IntKind.u32.wrap ((BitVec.ofInt 32 (((rotl ((rS b s k2 k3).a) (-2 : Int)) ^^^ (rotl ((rS b s k2 k3).a) (-13 : Int))).toNat : Int) ^^^ BitVec.ofInt 32 ((rotl ((rS b s k2 k3).a) (-22 : Int)).toNat : Int)).toNat : Int))) (wv (((rotl ((rS b s k2 k3).a) (-2 : Int)) ^^^ (rotl ((rS b s k2 k3).a) (-13 : Int))) ^^^ (rotl ((rS b s k2 k3).a) (-22 : Int)))) (by kernel_rfl) (congrArg (Value.int .u32) (u32_xor ((rotl ((rS b s k2 k3).a) (-2 : Int)) ^^^ (rotl ((rS b s k2 k3).a) (-13 : Int))) (rotl ((rS b s k2 k3).a) (-22 : Int))))
       refine q_prun (d := 164) (Value.int .u32 (IntKind.u32.wrap (((((rotl ((rS b s k2 k3).a) (-2 : Int)) ^^^ (rotl ((rS b s k2 k3).a) (-13 : Int))) ^^^ (rotl ((rS b s k2 k3).a) (-22 : Int))).toNat : Int) + ((((((rS b s k2 k3).a) &&& ((rS b s k2 k3).b)) ^^^ (((rS b s k2 k3).a) &&& ((rS b s k2 k3).c))) ^^^ (((rS b s k2 k3).b) &&& ((rS b s k2 k3).c))).toNat : Int)))) hF604 ?_
       intro a605 hF606
       have hF607 := hF606.set 164 (Value.int .u32 (IntKind.u32.wrap (((((rotl ((rS b s k2 k3).a) (-2 : Int)) ^^^ (rotl ((rS b s k2 k3).a) (-13 : Int))) ^^^ (rotl ((rS b s k2 k3).a) (-22 : Int))).toNat : Int) + ((((((rS b s k2 k3).a) &&& ((rS b s k2 k3).b)) ^^^ (((rS b s k2 k3).a) &&& ((rS b s k2 k3).c))) ^^^ (((rS b s k2 k3).b) &&& ((rS b s k2 k3).c))).toNat : Int)))) (wv ((((rotl ((rS b s k2 k3).a) (-2 : Int)) ^^^ (rotl ((rS b s k2 k3).a) (-13 : Int))) ^^^ (rotl ((rS b s k2 k3).a) (-22 : Int))) + (((((rS b s k2 k3).a) &&& ((rS b s k2 k3).b)) ^^^ (((rS b s k2 k3).a) &&& ((rS b s k2 k3).c))) ^^^ (((rS b s k2 k3).b) &&& ((rS b s k2 k3).c))))) (by kernel_rfl) (congrArg (Value.int .u32) (u32_add _ _))
       refine q_prun (d := 17) (wv ((((rotl ((rS b s k2 k3).a) (-2 : Int)) ^^^ (rotl ((rS b s k2 k3).a) (-13 : Int))) ^^^ (rotl ((rS b s k2 k3).a) (-22 : Int))) + (((((rS b s k2 k3).a) &&& ((rS b s k2 k3).b)) ^^^ (((rS b s k2 k3).a) &&& ((rS b s k2 k3).c))) ^^^ (((rS b s k2 k3).b) &&& ((rS b s k2 k3).c))))) hF607 ?_
       intro a608 hF609
       refine p_end ?_
       refine q_reg ?_
       refine q_run 2 [(166, (wv ((((rotl ((rS b s k2 k3).a) (-2 : Int)) ^^^ (rotl ((rS b s k2 k3).a) (-13 : Int))) ^^^ (rotl ((rS b s k2 k3).a) (-22 : Int))) + (((((rS b s k2 k3).a) &&& ((rS b s k2 k3).b)) ^^^ (((rS b s k2 k3).a) &&& ((rS b s k2 k3).c))) ^^^ (((rS b s k2 k3).b) &&& ((rS b s k2 k3).c)))))), (165, (wv ((((((rS b s k2 k3).h) + (((rotl ((rS b s k2 k3).e) (-6 : Int)) ^^^ (rotl ((rS b s k2 k3).e) (-11 : Int))) ^^^ (rotl ((rS b s k2 k3).e) (-25 : Int)))) + ((((rS b s k2 k3).e) &&& ((rS b s k2 k3).f)) ^^^ ((~~~((rS b s k2 k3).e)) &&& ((rS b s k2 k3).g)))) + (kTab.getD k3 0)) + ((schedTo b (k2)).getD k3 0))))] hF609 fun a610 hF611 => ?_
       refine q_one 167 (v0 := (Value.int .u32 (IntKind.u32.wrap ((((((((rS b s k2 k3).h) + (((rotl ((rS b s k2 k3).e) (-6 : Int)) ^^^ (rotl ((rS b s k2 k3).e) (-11 : Int))) ^^^ (rotl ((rS b s k2 k3).e) (-25 : Int)))) + ((((rS b s k2 k3).e) &&& ((rS b s k2 k3).f)) ^^^ ((~~~((rS b s k2 k3).e)) &&& ((rS b s k2 k3).g)))) + (kTab.getD k3 0)) + ((schedTo b (k2)).getD k3 0)).toNat : Int) + (((((rotl ((rS b s k2 k3).a) (-2 : Int)) ^^^ (rotl ((rS b s k2 k3).a) (-13 : Int))) ^^^ (rotl ((rS b s k2 k3).a) (-22 : Int))) + (((((rS b s k2 k3).a) &&& ((rS b s k2 k3).b)) ^^^ (((rS b s k2 k3).a) &&& ((rS b s k2 k3).c))) ^^^ (((rS b s k2 k3).b) &&& ((rS b s k2 k3).c)))).toNat : Int))))) (v := (wv (((((((rS b s k2 k3).h) + (((rotl ((rS b s k2 k3).e) (-6 : Int)) ^^^ (rotl ((rS b s k2 k3).e) (-11 : Int))) ^^^ (rotl ((rS b s k2 k3).e) (-25 : Int)))) + ((((rS b s k2 k3).e) &&& ((rS b s k2 k3).f)) ^^^ ((~~~((rS b s k2 k3).e)) &&& ((rS b s k2 k3).g)))) + (kTab.getD k3 0)) + ((schedTo b (k2)).getD k3 0)) + ((((rotl ((rS b s k2 k3).a) (-2 : Int)) ^^^ (rotl ((rS b s k2 k3).a) (-13 : Int))) ^^^ (rotl ((rS b s k2 k3).a) (-22 : Int))) + (((((rS b s k2 k3).a) &&& ((rS b s k2 k3).b)) ^^^ (((rS b s k2 k3).a) &&& ((rS b s k2 k3).c))) ^^^ (((rS b s k2 k3).b) &&& ((rS b s k2 k3).c))))))) (congrArg (Value.int .u32) (u32_add _ _)) hF611 fun a612 hF613 => ?_
       refine r_at (q_val 168 (Op.indexAddr 244 (Operand.tmp 11) (Operand.const (Value.int IntKind.i64 0))) hF613 (Value.pointer (some ⟨b352, 0, none⟩)) (exec_indexP1 (N := 8) (by kernel_rfl) (kd := .i64) 0 (by kernel_rfl) (by omega) U244 L223.s) ?_)
       intro a614 hF615
       have h616 := (h592.step' st597)
       have hj617 : 0 < (([(rS b s k2 k3).a, (rS b s k2 k3).b, (rS b s k2 k3).c, (rS b s k2 k3).d, (rS b s k2 k3).e, (rS b s k2 k3).f, (rS b s k2 k3).g, (rS b s k2 k3).h] : List UInt32)).length := (by first | omega | (simp only [List.length_append, List.length_cons, List.length_nil, List.length_map, schedTo_len, addTo_len, kTab_len, List.length_set, List.length_replicate]; omega) | simp)
       refine r_at (q_val 169 (Op.load 223 (Operand.tmp 168)) hF615 (wv ((rS b s k2 k3).a)) (exec_load (cs := [wv (([(rS b s k2 k3).a, (rS b s k2 k3).b, (rS b s k2 k3).c, (rS b s k2 k3).d, (rS b s k2 k3).e, (rS b s k2 k3).f, (rS b s k2 k3).g, (rS b s k2 k3).h] : List UInt32).getD 0 0)]) L223 (.inr rfl) (by kernel_rfl) (Bx.elemG h616 (0 : UInt32) 0 hj617)) ?_)
       intro a618 hF619
       refine r_at (q_val 170 (Op.indexAddr 244 (Operand.tmp 11) (Operand.const (Value.int IntKind.i64 1))) hF619 (Value.pointer (some ⟨b352, 1, none⟩)) (exec_indexP1 (N := 8) (by kernel_rfl) (kd := .i64) 1 (by kernel_rfl) (by omega) U244 L223.s) ?_)
       intro a620 hF621
       have hj622 : 1 < (([(rS b s k2 k3).a, (rS b s k2 k3).b, (rS b s k2 k3).c, (rS b s k2 k3).d, (rS b s k2 k3).e, (rS b s k2 k3).f, (rS b s k2 k3).g, (rS b s k2 k3).h] : List UInt32)).length := (by first | omega | (simp only [List.length_append, List.length_cons, List.length_nil, List.length_map, schedTo_len, addTo_len, kTab_len, List.length_set, List.length_replicate]; omega) | simp)
       refine r_at (q_val 171 (Op.load 223 (Operand.tmp 170)) hF621 (wv ((rS b s k2 k3).b)) (exec_load (cs := [wv (([(rS b s k2 k3).a, (rS b s k2 k3).b, (rS b s k2 k3).c, (rS b s k2 k3).d, (rS b s k2 k3).e, (rS b s k2 k3).f, (rS b s k2 k3).g, (rS b s k2 k3).h] : List UInt32).getD 1 0)]) L223 (.inr rfl) (by kernel_rfl) (Bx.elemG h616 (0 : UInt32) 1 hj622)) ?_)
       intro a623 hF624
       refine r_at (q_val 172 (Op.indexAddr 244 (Operand.tmp 11) (Operand.const (Value.int IntKind.i64 2))) hF624 (Value.pointer (some ⟨b352, 2, none⟩)) (exec_indexP1 (N := 8) (by kernel_rfl) (kd := .i64) 2 (by kernel_rfl) (by omega) U244 L223.s) ?_)
       intro a625 hF626
       have hj627 : 2 < (([(rS b s k2 k3).a, (rS b s k2 k3).b, (rS b s k2 k3).c, (rS b s k2 k3).d, (rS b s k2 k3).e, (rS b s k2 k3).f, (rS b s k2 k3).g, (rS b s k2 k3).h] : List UInt32)).length := (by first | omega | (simp only [List.length_append, List.length_cons, List.length_nil, List.length_map, schedTo_len, addTo_len, kTab_len, List.length_set, List.length_replicate]; omega) | simp)
       refine r_at (q_val 173 (Op.load 223 (Operand.tmp 172)) hF626 (wv ((rS b s k2 k3).c)) (exec_load (cs := [wv (([(rS b s k2 k3).a, (rS b s k2 k3).b, (rS b s k2 k3).c, (rS b s k2 k3).d, (rS b s k2 k3).e, (rS b s k2 k3).f, (rS b s k2 k3).g, (rS b s k2 k3).h] : List UInt32).getD 2 0)]) L223 (.inr rfl) (by kernel_rfl) (Bx.elemG h616 (0 : UInt32) 2 hj627)) ?_)
       intro a628 hF629
       refine r_at (q_val 174 (Op.indexAddr 244 (Operand.tmp 11) (Operand.const (Value.int IntKind.i64 3))) hF629 (Value.pointer (some ⟨b352, 3, none⟩)) (exec_indexP1 (N := 8) (by kernel_rfl) (kd := .i64) 3 (by kernel_rfl) (by omega) U244 L223.s) ?_)
       intro a630 hF631
       have hj632 : 3 < (([(rS b s k2 k3).a, (rS b s k2 k3).b, (rS b s k2 k3).c, (rS b s k2 k3).d, (rS b s k2 k3).e, (rS b s k2 k3).f, (rS b s k2 k3).g, (rS b s k2 k3).h] : List UInt32)).length := (by first | omega | (simp only [List.length_append, List.length_cons, List.length_nil, List.length_map, schedTo_len, addTo_len, kTab_len, List.length_set, List.length_replicate]; omega) | simp)
       refine r_at (q_val 175 (Op.load 223 (Operand.tmp 174)) hF631 (wv ((rS b s k2 k3).d)) (exec_load (cs := [wv (([(rS b s k2 k3).a, (rS b s k2 k3).b, (rS b s k2 k3).c, (rS b s k2 k3).d, (rS b s k2 k3).e, (rS b s k2 k3).f, (rS b s k2 k3).g, (rS b s k2 k3).h] : List UInt32).getD 3 0)]) L223 (.inr rfl) (by kernel_rfl) (Bx.elemG h616 (0 : UInt32) 3 hj632)) ?_)
       intro a633 hF634
       refine q_run 1 [(176, (wv ((((((rS b s k2 k3).h) + (((rotl ((rS b s k2 k3).e) (-6 : Int)) ^^^ (rotl ((rS b s k2 k3).e) (-11 : Int))) ^^^ (rotl ((rS b s k2 k3).e) (-25 : Int)))) + ((((rS b s k2 k3).e) &&& ((rS b s k2 k3).f)) ^^^ ((~~~((rS b s k2 k3).e)) &&& ((rS b s k2 k3).g)))) + (kTab.getD k3 0)) + ((schedTo b (k2)).getD k3 0))))] hF634 fun a635 hF636 => ?_
       refine q_one 177 (v0 := (Value.int .u32 (IntKind.u32.wrap ((((rS b s k2 k3).d).toNat : Int) + (((((((rS b s k2 k3).h) + (((rotl ((rS b s k2 k3).e) (-6 : Int)) ^^^ (rotl ((rS b s k2 k3).e) (-11 : Int))) ^^^ (rotl ((rS b s k2 k3).e) (-25 : Int)))) + ((((rS b s k2 k3).e) &&& ((rS b s k2 k3).f)) ^^^ ((~~~((rS b s k2 k3).e)) &&& ((rS b s k2 k3).g)))) + (kTab.getD k3 0)) + ((schedTo b (k2)).getD k3 0)).toNat : Int))))) (v := (wv (((rS b s k2 k3).d) + ((((((rS b s k2 k3).h) + (((rotl ((rS b s k2 k3).e) (-6 : Int)) ^^^ (rotl ((rS b s k2 k3).e) (-11 : Int))) ^^^ (rotl ((rS b s k2 k3).e) (-25 : Int)))) + ((((rS b s k2 k3).e) &&& ((rS b s k2 k3).f)) ^^^ ((~~~((rS b s k2 k3).e)) &&& ((rS b s k2 k3).g)))) + (kTab.getD k3 0)) + ((schedTo b (k2)).getD k3 0))))) (congrArg (Value.int .u32) (u32_add _ _)) hF636 fun a637 hF638 => ?_
       refine r_at (q_val 178 (Op.indexAddr 244 (Operand.tmp 11) (Operand.const (Value.int IntKind.i64 4))) hF638 (Value.pointer (some ⟨b352, 4, none⟩)) (exec_indexP1 (N := 8) (by kernel_rfl) (kd := .i64) 4 (by kernel_rfl) (by omega) U244 L223.s) ?_)
       intro a639 hF640
       have hj641 : 4 < (([(rS b s k2 k3).a, (rS b s k2 k3).b, (rS b s k2 k3).c, (rS b s k2 k3).d, (rS b s k2 k3).e, (rS b s k2 k3).f, (rS b s k2 k3).g, (rS b s k2 k3).h] : List UInt32)).length := (by first | omega | (simp only [List.length_append, List.length_cons, List.length_nil, List.length_map, schedTo_len, addTo_len, kTab_len, List.length_set, List.length_replicate]; omega) | simp)
       refine r_at (q_val 179 (Op.load 223 (Operand.tmp 178)) hF640 (wv ((rS b s k2 k3).e)) (exec_load (cs := [wv (([(rS b s k2 k3).a, (rS b s k2 k3).b, (rS b s k2 k3).c, (rS b s k2 k3).d, (rS b s k2 k3).e, (rS b s k2 k3).f, (rS b s k2 k3).g, (rS b s k2 k3).h] : List UInt32).getD 4 0)]) L223 (.inr rfl) (by kernel_rfl) (Bx.elemG h616 (0 : UInt32) 4 hj641)) ?_)
       intro a642 hF643
       refine r_at (q_val 180 (Op.indexAddr 244 (Operand.tmp 11) (Operand.const (Value.int IntKind.i64 5))) hF643 (Value.pointer (some ⟨b352, 5, none⟩)) (exec_indexP1 (N := 8) (by kernel_rfl) (kd := .i64) 5 (by kernel_rfl) (by omega) U244 L223.s) ?_)
       intro a644 hF645
       have hj646 : 5 < (([(rS b s k2 k3).a, (rS b s k2 k3).b, (rS b s k2 k3).c, (rS b s k2 k3).d, (rS b s k2 k3).e, (rS b s k2 k3).f, (rS b s k2 k3).g, (rS b s k2 k3).h] : List UInt32)).length := (by first | omega | (simp only [List.length_append, List.length_cons, List.length_nil, List.length_map, schedTo_len, addTo_len, kTab_len, List.length_set, List.length_replicate]; omega) | simp)
       refine r_at (q_val 181 (Op.load 223 (Operand.tmp 180)) hF645 (wv ((rS b s k2 k3).f)) (exec_load (cs := [wv (([(rS b s k2 k3).a, (rS b s k2 k3).b, (rS b s k2 k3).c, (rS b s k2 k3).d, (rS b s k2 k3).e, (rS b s k2 k3).f, (rS b s k2 k3).g, (rS b s k2 k3).h] : List UInt32).getD 5 0)]) L223 (.inr rfl) (by kernel_rfl) (Bx.elemG h616 (0 : UInt32) 5 hj646)) ?_)
       intro a647 hF648
       refine r_at (q_val 182 (Op.indexAddr 244 (Operand.tmp 11) (Operand.const (Value.int IntKind.i64 6))) hF648 (Value.pointer (some ⟨b352, 6, none⟩)) (exec_indexP1 (N := 8) (by kernel_rfl) (kd := .i64) 6 (by kernel_rfl) (by omega) U244 L223.s) ?_)
       intro a649 hF650
       have hj651 : 6 < (([(rS b s k2 k3).a, (rS b s k2 k3).b, (rS b s k2 k3).c, (rS b s k2 k3).d, (rS b s k2 k3).e, (rS b s k2 k3).f, (rS b s k2 k3).g, (rS b s k2 k3).h] : List UInt32)).length := (by first | omega | (simp only [List.length_append, List.length_cons, List.length_nil, List.length_map, schedTo_len, addTo_len, kTab_len, List.length_set, List.length_replicate]; omega) | simp)
       refine r_at (q_val 183 (Op.load 223 (Operand.tmp 182)) hF650 (wv ((rS b s k2 k3).g)) (exec_load (cs := [wv (([(rS b s k2 k3).a, (rS b s k2 k3).b, (rS b s k2 k3).c, (rS b s k2 k3).d, (rS b s k2 k3).e, (rS b s k2 k3).f, (rS b s k2 k3).g, (rS b s k2 k3).h] : List UInt32).getD 6 0)]) L223 (.inr rfl) (by kernel_rfl) (Bx.elemG h616 (0 : UInt32) 6 hj651)) ?_)
       intro a652 hF653
       refine q_run 1 [(184, (Value.agg (([((((((rS b s k2 k3).h) + (((rotl ((rS b s k2 k3).e) (-6 : Int)) ^^^ (rotl ((rS b s k2 k3).e) (-11 : Int))) ^^^ (rotl ((rS b s k2 k3).e) (-25 : Int)))) + ((((rS b s k2 k3).e) &&& ((rS b s k2 k3).f)) ^^^ ((~~~((rS b s k2 k3).e)) &&& ((rS b s k2 k3).g)))) + (kTab.getD k3 0)) + ((schedTo b (k2)).getD k3 0)) + ((((rotl ((rS b s k2 k3).a) (-2 : Int)) ^^^ (rotl ((rS b s k2 k3).a) (-13 : Int))) ^^^ (rotl ((rS b s k2 k3).a) (-22 : Int))) + (((((rS b s k2 k3).a) &&& ((rS b s k2 k3).b)) ^^^ (((rS b s k2 k3).a) &&& ((rS b s k2 k3).c))) ^^^ (((rS b s k2 k3).b) &&& ((rS b s k2 k3).c)))), (rS b s k2 k3).a, (rS b s k2 k3).b, (rS b s k2 k3).c, ((rS b s k2 k3).d) + ((((((rS b s k2 k3).h) + (((rotl ((rS b s k2 k3).e) (-6 : Int)) ^^^ (rotl ((rS b s k2 k3).e) (-11 : Int))) ^^^ (rotl ((rS b s k2 k3).e) (-25 : Int)))) + ((((rS b s k2 k3).e) &&& ((rS b s k2 k3).f)) ^^^ ((~~~((rS b s k2 k3).e)) &&& ((rS b s k2 k3).g)))) + (kTab.getD k3 0)) + ((schedTo b (k2)).getD k3 0)), (rS b s k2 k3).e, (rS b s k2 k3).f, (rS b s k2 k3).g] : List UInt32).map wv).toArray))] hF653 fun a654 hF655 => ?_
       refine r_at (q_store (Operand.tmp 11) (Operand.tmp 184) hF655 h616 0 (([((((((rS b s k2 k3).h) + (((rotl ((rS b s k2 k3).e) (-6 : Int)) ^^^ (rotl ((rS b s k2 k3).e) (-11 : Int))) ^^^ (rotl ((rS b s k2 k3).e) (-25 : Int)))) + ((((rS b s k2 k3).e) &&& ((rS b s k2 k3).f)) ^^^ ((~~~((rS b s k2 k3).e)) &&& ((rS b s k2 k3).g)))) + (kTab.getD k3 0)) + ((schedTo b (k2)).getD k3 0)) + ((((rotl ((rS b s k2 k3).a) (-2 : Int)) ^^^ (rotl ((rS b s k2 k3).a) (-13 : Int))) ^^^ (rotl ((rS b s k2 k3).a) (-22 : Int))) + (((((rS b s k2 k3).a) &&& ((rS b s k2 k3).b)) ^^^ (((rS b s k2 k3).a) &&& ((rS b s k2 k3).c))) ^^^ (((rS b s k2 k3).b) &&& ((rS b s k2 k3).c)))), (rS b s k2 k3).a, (rS b s k2 k3).b, (rS b s k2 k3).c, ((rS b s k2 k3).d) + ((((((rS b s k2 k3).h) + (((rotl ((rS b s k2 k3).e) (-6 : Int)) ^^^ (rotl ((rS b s k2 k3).e) (-11 : Int))) ^^^ (rotl ((rS b s k2 k3).e) (-25 : Int)))) + ((((rS b s k2 k3).e) &&& ((rS b s k2 k3).f)) ^^^ ((~~~((rS b s k2 k3).e)) &&& ((rS b s k2 k3).g)))) + (kTab.getD k3 0)) + ((schedTo b (k2)).getD k3 0)), (rS b s k2 k3).e, (rS b s k2 k3).f, (rS b s k2 k3).g] : List UInt32).map wv) 8 L244 ?_)
       intro a656 w657 st658 hB659 hF660
       have hS661 := hS601.and st658 (fun b e => by subst e; omega)
       refine q_end ?_
       refine q_reg ?_
       refine q_one 185 (v0 := (Value.int .i64 (IntKind.i64.wrap (((k3 : Nat) : Int) + ((1 : Nat) : Int))))) (v := (Value.int .i64 ((k3 + 1 : Nat) : Int))) (congrArg (Value.int .i64) (i64_eq (by omega) (by omega) (by omega))) hF660 fun a662 hF663 => ?_
       refine q_run 1 [(105, (Value.int .i64 ((k3 + 1 : Nat) : Int)))] hF663 fun a664 hF665 => ?_
       refine q_end ?_
       have h666 := ((h590.step' st597).step st658 (fun e => absurd e (by omega)))
       have h667 := ((h591.step' st597).step st658 (fun e => absurd e (by omega)))
       have hF668 := hF665.keep [0, 4, 11, 104, 105] [(0, (Value.pointer (some ⟨bh, 0, none⟩))), (4, (Value.pointer (some ⟨b6, 0, none⟩))), (11, (Value.pointer (some ⟨b352, 0, none⟩))), (104, (Value.agg (kTab.map wv).toArray)), (105, (Value.int .i64 ((k3 + 1 : Nat) : Int)))] (by kernel_rfl)
       exact ⟨k3 + 1, ⟨s594, hF668, hS661, h666, h667, (by have h9 := hB659; simp only [rotl6, rotl11, rotl25, rotl2, rotl13, rotl22] at h9; exact h9), (by omega)⟩, by omega⟩
      ·skip
       have hc385 := of_decide_eq_false hc385
       refine q_exit 4 ?_
       refine q_seq ?_
       refine q_reg ?_
       refine q_run 1 [(186, (Value.int .i64 ((0 : Nat) : Int)))] hF384 fun a669 hF670 => ?_
       refine q_end ?_
       refine q_block 6 ?_
       refine q_loop (fun (k4 : Nat) a671 w672 => ∃ (s673 : Nat → Nat), Fr a671 201 [(0, (Value.pointer (some ⟨bh, 0, none⟩))), (11, (Value.pointer (some ⟨b352, 0, none⟩))), (186, (Value.int .i64 ((k4 : Nat) : Int)))] ∧ Stp (· = bh) σ w s673 w672 ∧ Bx s673 w672 b352 (([(rS b s k2 k3).a, (rS b s k2 k3).b, (rS b s k2 k3).c, (rS b s k2 k3).d, (rS b s k2 k3).e, (rS b s k2 k3).f, (rS b s k2 k3).g, (rS b s k2 k3).h] : List UInt32).map wv) 244 ∧ Bx s673 w672 bh ((addTo ([s.a, s.b, s.c, s.d, s.e, s.f, s.g, s.h] : List UInt32) ([(rS b s k2 k3).a, (rS b s k2 k3).b, (rS b s k2 k3).c, (rS b s k2 k3).d, (rS b s k2 k3).e, (rS b s k2 k3).f, (rS b s k2 k3).g, (rS b s k2 k3).h] : List UInt32) (k4)).map wv) 244 ∧ k4 ≤ 8) (fun k4 => 8 - k4) 0 ?_ ?_
       ·skip
        have hF676 := hF670.keep [0, 11, 186] [(0, (Value.pointer (some ⟨bh, 0, none⟩))), (11, (Value.pointer (some ⟨b352, 0, none⟩))), (186, (Value.int .i64 ((0 : Nat) : Int)))] (by kernel_rfl)
        exact ⟨s374, hF676, hS376, h382, h380, (by omega)⟩
       ·rintro k4 a671 w672 ⟨s673, hF674, hS675, h677, h678, hk4⟩
        refine q_seq ?_
        refine q_reg ?_
        refine q_one 187 (congrArg Value.bool (cmp_nat_lss (k4) (8))) hF674 fun a679 hF680 => ?_
        refine q_end ?_
        refine q_seq ?_
        refine q_cond 187 hF680 (decide ((k4 : Nat) < 8)) (fun hc681 => ?_) (fun hc681 => ?_)
        ·skip
         have hc681 := of_decide_eq_true hc681
         refine q_skip ?_
         refine q_seq ?_
         refine q_block 7 ?_
         refine q_seq ?_
         refine q_reg ?_
         refine q_run 2 [(18, (Value.int .i64 ((k4 : Nat) : Int))), (188, (Value.int .i64 ((k4 : Nat) : Int)))] hF680 fun a682 hF683 => ?_
         refine q_end ?_
         refine c_planL 25 11 2 (by kernel_rfl) (by kernel_rfl) s673 (fun b => b ≠ b352 ∧ b ≠ bh ∧ True) [(0, true), (1, true), (2, true), (3, true), (4, true), (5, true), (6, true), (7, true), (8, true), (9, true), (10, true)] [(0, 784637716923335095479473677900958302012794430558004314112, 1), (0, 1569275433846670190958947355801916604025588861116008628224, 262144), (1, 3138550867693340381917894711603833208051177722232017256448, 784637716923335095479473677900958302012794430558004314112), (6, 6277101735386680763835789423207666416102355444464034512896, 4707826301540010572876842067405749812076766583348025884672), (8, 12554203470773361527671578846415332832204710888928069025792, 6277101735386680763835789423207666416102355444464034512896), (0, 25108406941546723055343157692830665664409421777856138051584, 262144), (32, 50216813883093446110686315385661331328818843555712276103168, 25108406941546723055343157692830665664409421777856138053632), (64, 100433627766186892221372630771322662657637687111424552206336, 50216813883093446110686315385661331328818843555712276103168), (144, 200867255532373784442745261542645325315275374222849104412672, 112987831236960253749044209617737995489842398000352621232128), (1, 401734511064747568885490523085290650630550748445698208825344, 784637716923335095479473677900958302012794430558004314112), (1023, 803469022129495137770981046170581301261101496891396417650688, 403303786498594239076449470441092567234576337306814217453568), (1535, 0, 1004336277661868922213726307713226626576376871114245522063360)] (by kernel_rfl) (by kernel_rfl) (by kernel_rfl) (by kernel_rfl) ?_
         intro w684 st685
         have hS686 := hS675.then st685
         refine q_lrun (d := 189) (Value.pointer (some ⟨bh, 0, none⟩)) hF683 ?_
         intro a687 hF688
         refine q_lrun (d := 190) (Value.int .i64 ((k4 : Nat) : Int)) hF688 ?_
         intro a689 hF690
         refine q_lrun (d := 191) (Value.pointer (some ⟨bh, 0, none⟩)) hF690 ?_
         intro a691 hF692
         refine q_lval 192 (Op.indexAddr 244 (Operand.tmp 191) (Operand.tmp 190)) (Value.pointer (some ⟨bh, k4, none⟩)) hF692 (fun w9 ⟨s9, hw9⟩ => (exec_indexP1 (N := 8) (by kernel_rfl) (kd := .i64) k4 (by kernel_rfl) (by omega) U244 L223.s)) ?_
         intro a693 hF694
         have h695 := (h678.step' st685)
         have hj696 : k4 < (addTo ([s.a, s.b, s.c, s.d, s.e, s.f, s.g, s.h] : List UInt32) ([(rS b s k2 k3).a, (rS b s k2 k3).b, (rS b s k2 k3).c, (rS b s k2 k3).d, (rS b s k2 k3).e, (rS b s k2 k3).f, (rS b s k2 k3).g, (rS b s k2 k3).h] : List UInt32) (k4)).length := (by first | omega | (simp only [List.length_append, List.length_cons, List.length_nil, List.length_map, schedTo_len, addTo_len, kTab_len, List.length_set, List.length_replicate]; omega) | simp)
         refine q_lval 193 (Op.load 223 (Operand.tmp 192)) (wv ((addTo ([s.a, s.b, s.c, s.d, s.e, s.f, s.g, s.h] : List UInt32) ([(rS b s k2 k3).a, (rS b s k2 k3).b, (rS b s k2 k3).c, (rS b s k2 k3).d, (rS b s k2 k3).e, (rS b s k2 k3).f, (rS b s k2 k3).g, (rS b s k2 k3).h] : List UInt32) (k4)).getD k4 0)) hF694 (fun w9 ⟨s9, hw9⟩ => (exec_load (cs := [wv ((addTo ([s.a, s.b, s.c, s.d, s.e, s.f, s.g, s.h] : List UInt32) ([(rS b s k2 k3).a, (rS b s k2 k3).b, (rS b s k2 k3).c, (rS b s k2 k3).d, (rS b s k2 k3).e, (rS b s k2 k3).f, (rS b s k2 k3).g, (rS b s k2 k3).h] : List UInt32) (k4)).getD k4 0)]) L223 (.inr rfl) (by kernel_rfl) (Bx.elemG (h695.step hw9 (fun h => h.2.1 rfl)) (0 : UInt32) k4 hj696))) ?_
         intro a697 hF698
         refine q_lrun (d := 194) (Value.int .i64 ((k4 : Nat) : Int)) hF698 ?_
         intro a699 hF700
         refine q_lval 195 (Op.indexAddr 244 (Operand.tmp 11) (Operand.tmp 194)) (Value.pointer (some ⟨b352, k4, none⟩)) hF700 (fun w9 ⟨s9, hw9⟩ => (exec_indexP1 (N := 8) (by kernel_rfl) (kd := .i64) k4 (by kernel_rfl) (by omega) U244 L223.s)) ?_
         intro a701 hF702
         have h703 := (h677.step' st685)
         have hj704 : k4 < (([(rS b s k2 k3).a, (rS b s k2 k3).b, (rS b s k2 k3).c, (rS b s k2 k3).d, (rS b s k2 k3).e, (rS b s k2 k3).f, (rS b s k2 k3).g, (rS b s k2 k3).h] : List UInt32)).length := (by first | omega | (simp only [List.length_append, List.length_cons, List.length_nil, List.length_map, schedTo_len, addTo_len, kTab_len, List.length_set, List.length_replicate]; omega) | simp)
         refine q_lval 196 (Op.load 223 (Operand.tmp 195)) (wv (([(rS b s k2 k3).a, (rS b s k2 k3).b, (rS b s k2 k3).c, (rS b s k2 k3).d, (rS b s k2 k3).e, (rS b s k2 k3).f, (rS b s k2 k3).g, (rS b s k2 k3).h] : List UInt32).getD k4 0)) hF702 (fun w9 ⟨s9, hw9⟩ => (exec_load (cs := [wv (([(rS b s k2 k3).a, (rS b s k2 k3).b, (rS b s k2 k3).c, (rS b s k2 k3).d, (rS b s k2 k3).e, (rS b s k2 k3).f, (rS b s k2 k3).g, (rS b s k2 k3).h] : List UInt32).getD k4 0)]) L223 (.inr rfl) (by kernel_rfl) (Bx.elemG (h703.step hw9 (fun h => h.1 rfl)) (0 : UInt32) k4 hj704))) ?_
         intro a705 hF706
         refine q_lrun (d := 197) (Value.int .u32 (IntKind.u32.wrap ((((addTo ([s.a, s.b, s.c, s.d, s.e, s.f, s.g, s.h] : List UInt32) ([(rS b s k2 k3).a, (rS b s k2 k3).b, (rS b s k2 k3).c, (rS b s k2 k3).d, (rS b s k2 k3).e, (rS b s k2 k3).f, (rS b s k2 k3).g, (rS b s k2 k3).h] : List UInt32) (k4)).getD k4 0).toNat : Int) + ((([(rS b s k2 k3).a, (rS b s k2 k3).b, (rS b s k2 k3).c, (rS b s k2 k3).d, (rS b s k2 k3).e, (rS b s k2 k3).f, (rS b s k2 k3).g, (rS b s k2 k3).h] : List UInt32).getD k4 0).toNat : Int)))) hF706 ?_
         intro a707 hF708
         have hF709 := hF708.set 197 (Value.int .u32 (IntKind.u32.wrap ((((addTo ([s.a, s.b, s.c, s.d, s.e, s.f, s.g, s.h] : List UInt32) ([(rS b s k2 k3).a, (rS b s k2 k3).b, (rS b s k2 k3).c, (rS b s k2 k3).d, (rS b s k2 k3).e, (rS b s k2 k3).f, (rS b s k2 k3).g, (rS b s k2 k3).h] : List UInt32) (k4)).getD k4 0).toNat : Int) + ((([(rS b s k2 k3).a, (rS b s k2 k3).b, (rS b s k2 k3).c, (rS b s k2 k3).d, (rS b s k2 k3).e, (rS b s k2 k3).f, (rS b s k2 k3).g, (rS b s k2 k3).h] : List UInt32).getD k4 0).toNat : Int)))) (wv (((addTo ([s.a, s.b, s.c, s.d, s.e, s.f, s.g, s.h] : List UInt32) ([(rS b s k2 k3).a, (rS b s k2 k3).b, (rS b s k2 k3).c, (rS b s k2 k3).d, (rS b s k2 k3).e, (rS b s k2 k3).f, (rS b s k2 k3).g, (rS b s k2 k3).h] : List UInt32) (k4)).getD k4 0) + (([(rS b s k2 k3).a, (rS b s k2 k3).b, (rS b s k2 k3).c, (rS b s k2 k3).d, (rS b s k2 k3).e, (rS b s k2 k3).f, (rS b s k2 k3).g, (rS b s k2 k3).h] : List UInt32).getD k4 0))) (by kernel_rfl) (congrArg (Value.int .u32) (u32_add _ _))
         refine q_lrun (d := 198) (Value.pointer (some ⟨bh, 0, none⟩)) hF709 ?_
         intro a710 hF711
         refine q_lval 199 (Op.indexAddr 244 (Operand.tmp 198) (Operand.tmp 190)) (Value.pointer (some ⟨bh, k4, none⟩)) hF711 (fun w9 ⟨s9, hw9⟩ => (exec_indexP1 (N := 8) (by kernel_rfl) (kd := .i64) k4 (by kernel_rfl) (by omega) U244 L223.s)) ?_
         intro a712 hF713
         have hj719 : k4 < (addTo ([s.a, s.b, s.c, s.d, s.e, s.f, s.g, s.h] : List UInt32) ([(rS b s k2 k3).a, (rS b s k2 k3).b, (rS b s k2 k3).c, (rS b s k2 k3).d, (rS b s k2 k3).e, (rS b s k2 k3).f, (rS b s k2 k3).g, (rS b s k2 k3).h] : List UInt32) (k4)).length := (by first | omega | (simp only [List.length_append, List.length_cons, List.length_nil, List.length_map, schedTo_len, addTo_len, kTab_len, List.length_set, List.length_replicate]; omega) | simp)
         refine l_last (q_storeA wv (Operand.tmp 199) (Operand.tmp 197) hF713 h695 k4 hj719 (((addTo ([s.a, s.b, s.c, s.d, s.e, s.f, s.g, s.h] : List UInt32) ([(rS b s k2 k3).a, (rS b s k2 k3).b, (rS b s k2 k3).c, (rS b s k2 k3).d, (rS b s k2 k3).e, (rS b s k2 k3).f, (rS b s k2 k3).g, (rS b s k2 k3).h] : List UInt32) (k4)).getD k4 0) + (([(rS b s k2 k3).a, (rS b s k2 k3).b, (rS b s k2 k3).c, (rS b s k2 k3).d, (rS b s k2 k3).e, (rS b s k2 k3).f, (rS b s k2 k3).g, (rS b s k2 k3).h] : List UInt32).getD k4 0)) L223 ?_)
         intro a714 w715 st716 hB717 hF718
         have hS720 := hS686.trans st716 (fun b _ e => e.elim id id)
         refine q_reg ?_
         refine q_one 200 (v0 := (Value.int .i64 (IntKind.i64.wrap (((k4 : Nat) : Int) + ((1 : Nat) : Int))))) (v := (Value.int .i64 ((k4 + 1 : Nat) : Int))) (congrArg (Value.int .i64) (i64_eq (by omega) (by omega) (by omega))) hF718 fun a721 hF722 => ?_
         refine q_run 1 [(186, (Value.int .i64 ((k4 + 1 : Nat) : Int)))] hF722 fun a723 hF724 => ?_
         refine q_end ?_
         have h725 := (h703.step st716 (fun e => absurd e (by omega)))
         have hF726 := hF724.keep [0, 11, 186] [(0, (Value.pointer (some ⟨bh, 0, none⟩))), (11, (Value.pointer (some ⟨b352, 0, none⟩))), (186, (Value.int .i64 ((k4 + 1 : Nat) : Int)))] (by kernel_rfl)
         exact ⟨k4 + 1, ⟨s673, hF726, hS720, h725, (by exact hB717), (by omega)⟩, by omega⟩
        ·skip
         have hc681 := of_decide_eq_false hc681
         refine q_exit 6 ?_
         simp only [Exit.then, Exit.inBlock, if_true]
         refine f_retN hF680 [] (by kernel_rfl) [] .nil _ rfl s673 hS675 ?_
         have e4 : k4 = 8 := by omega
         have e3 : k3 = 64 := by omega
         have e2 : k2 = 64 := by omega
         subst e4 e3 e2
         exact ⟨rfl, h678⟩
end Go.Proofs.YtnicmjipbnhciaaDoor.E
set_option linter.unusedVariables false
set_option linter.unusedSimpArgs false
set_option maxRecDepth 100000
set_option maxHeartbeats 2000000
namespace Go.Proofs.YtnicmjipbnhciaaDoor.E
open Go Go.RowKit
open Go.Proofs
theorem sum_calls (σ : Nat → Nat) (w : World) {v0 : Value} {ps : List (List UInt8)} (h0 : Rd (tSl tU8) σ w v0 ps) (hl : ps.flatten.length ≤ 100000) (hg : Seg σ w 3 0 (kTab.map wv)) :
  Ctr Tryd.prog 98 [v0] noM σ w (fun σ' w' v => v = .agg ((sum256 ps.flatten).map bv).toArray) := by
 obtain ⟨A0, c0, rfl, hl0⟩ := h0.form
 have hbd : ps.length ≤ 140737488355328 := Nat.le_trans (Nat.le_mul_of_pos_right _ (by decide)) h0.bd
 have hfl := flat_len ps
 refine ctr_enter Tryd.func98 c98 (by kernel_rfl) 71 (by kernel_rfl) (Nat.le_of_ble_eq_true (by kernel_rfl)) [(0, (Value.slice A0 ps.length c0))] (by kernel_rfl) ?_
 intro a hF1
 have hS2 := Stp.refl noM σ w
 refine q_seq ?_
 refine q_reg ?_
 refine r_at (q_new 2 (Op.alloc 52) hF1 σ ((List.replicate 32 (0 : UInt8)).map bv) 52 (exec_alloc ((List.replicate 32 (0 : UInt8)).map bv) (fun _ => .inl (by kernel_rfl))) ?_)
 intro a3 s4 w5 b6 hb7 st8 hB9 hF10
 have hz11 := hS2.size
 have hS12 := hS2.then st8
 refine q_end ?_
 refine q_seq ?_
 refine q_reg ?_
 refine q_run 1 [(3, (Value.slice none 0 0))] hF10 fun a13 hF14 => ?_
 refine q_end ?_
 refine q_seq ?_
 refine q_seq ?_
 refine q_reg ?_
 refine q_run 3 [(13, (Value.int .i64 ((0 : Nat) : Int))), (12, (Value.int .i64 ((ps.length : Nat) : Int))), (11, (Value.slice A0 ps.length c0))] hF14 fun a15 hF16 => ?_
 refine q_end ?_
 refine q_block 0 ?_
 refine q_loop (fun (k1 : Nat) a17 w18 => ∃ (s19 : Nat → Nat) (A22 : Option Addr) (cp23 : Nat) (m24 : Nat), Fr a17 71 [(2, (Value.pointer (some ⟨b6, 0, none⟩))), (3, (Value.slice A22 m24 cp23)), (11, (Value.slice A0 ps.length c0)), (12, (Value.int .i64 ((ps.length : Nat) : Int))), (13, (Value.int .i64 ((k1 : Nat) : Int)))] ∧ Stp noM σ w s19 w18 ∧ Bx s19 w18 b6 ((List.replicate 32 (0 : UInt8)).map bv) 52 ∧ Own tU8 5 w.heap.size s19 w18 (Value.slice A22 m24 cp23) ((ps.take (k1)).flatten) ∧ k1 ≤ ps.length ∧ ¬ Value.ownBlock (Value.slice A22 m24 cp23) = some b6) (fun k1 => ps.length - k1) 0 ?_ ?_
 ·skip
  have hF27 := hF16.keep [2, 3, 11, 12, 13] [(2, (Value.pointer (some ⟨b6, 0, none⟩))), (3, (Value.slice none 0 0)), (11, (Value.slice A0 ps.length c0)), (12, (Value.int .i64 ((ps.length : Nat) : Int))), (13, (Value.int .i64 ((0 : Nat) : Int)))] (by kernel_rfl)
  exact ⟨s4, none, 0, 0, hF27, hS12, hB9, (Own.nil _ _ _ _ _), (by omega), (fun e => by simp [Value.ownBlock] at e)⟩
 ·rintro k1 a17 w18 ⟨s19, A22, cp23, m24, hF20, hS21, h28, hO29, hk1, ne26⟩
  have hln30 := hO29.ln
  refine q_seq ?_
  refine q_reg ?_
  refine q_one 14 (congrArg Value.bool (cmp_nat_lss (k1) (ps.length))) hF20 fun a31 hF32 => ?_
  refine q_end ?_
  refine q_seq ?_
  refine q_cond 14 hF32 (decide ((k1 : Nat) < ps.length)) (fun hc33 => ?_) (fun hc33 => ?_)
  ·skip
   have hc33 := of_decide_eq_true hc33
   refine q_skip ?_
   refine q_seq ?_
   refine q_block 1 ?_
   refine q_seq ?_
   refine q_reg ?_
   have h34 := h0.step hS21
   have hi41 : k1 < (ps).length := (by have hq := h34.ln; first | omega | (simp only [List.length_append, List.length_cons, List.length_nil, List.length_map, outTo_len, List.length_set, List.length_replicate, eight_len, eightTo_len] at *; omega))
   obtain ⟨b35, o36, c37, he38, hs39, hr40⟩ := (h34).at k1 hi41
   obtain ⟨o42, ho42⟩ : ∃ o, o = o36 + k1 * 1 := ⟨_, rfl⟩
   obtain ⟨v43, rfl, hr44⟩ := hr40
   obtain ⟨A45, m48, c46, rfl, hl47⟩ := hr44.formL
   have hbd49 : ((ps[k1]'hi41)).length ≤ 140737488355328 := Nat.le_trans (Nat.le_mul_of_pos_right _ (by decide)) hr44.bd
   have hs39 : Seg s19 w18 b35 o42 [(Value.slice A45 m48 c46)] := by rw [ho42]; exact hs39
   refine r_at (q_val 15 (Op.indexAddr 56 (Operand.tmp 11) (Operand.tmp 13)) hF32 (Value.pointer (some ⟨b35, o42, none⟩)) (by rw [ho42]; exact exec_index (len := ps.length) (cap := c0) he38 (by kernel_rfl) (kd := .i64) k1 (by kernel_rfl) (by have := h34.ln; omega) 1 U56 L22.s) ?_)
   intro a50 hF51
   refine r_at (q_loadS 16 (Operand.tmp 15) L22 hF51 hs39 0 fun a52 hF53 => ?_)
   refine q_run 1 [(5, (Value.slice A45 m48 c46))] hF53 fun a54 hF55 => ?_
   refine q_end ?_
   refine q_reg ?_
   refine q_run 2 [(18, (Value.slice A45 m48 c46)), (17, (Value.slice A22 m24 cp23))] hF55 fun a56 hF57 => ?_
   have hz67 := hS21.size
   have hb66 : ((ps.take (k1)).flatten).length + ((ps[k1]'hi41) : List _).length ≤ 1000000 := (by have h8 := hfl k1; have h9 := flat_len2 (l := ps) (k := k1) (by omega); omega)
   refine r_at (q_app tU8 S22 19 (Operand.tmp 17) (Operand.tmp 18) hF57 hO29 hr44 (app_small hb66 (by decide)) (by omega) hz67 ?_)
   intro a58 s59 w60 v61 st62 hO63 hn64 hF65
   obtain ⟨A70, m73, c71, rfl, hl72⟩ := hO63.formL
   have hS74 := hS21.and st62 (fun b e => hO29.ge e)
   have ne76 : ¬ Value.ownBlock (Value.slice A70 m73 c71) = some b6 := fun e => ne26 (hn64 _ h28.lt e)
   refine q_run 1 [(3, (Value.slice A70 m73 c71))] hF65 fun a77 hF78 => ?_
   refine q_end ?_
   refine q_reg ?_
   refine q_one 20 (v0 := (Value.int .i64 (IntKind.i64.wrap (((k1 : Nat) : Int) + ((1 : Nat) : Int))))) (v := (Value.int .i64 ((k1 + 1 : Nat) : Int))) (congrArg (Value.int .i64) (i64_eq (by omega) (by omega) (by omega))) hF78 fun a79 hF80 => ?_
   refine q_run 1 [(13, (Value.int .i64 ((k1 + 1 : Nat) : Int)))] hF80 fun a81 hF82 => ?_
   refine q_end ?_
   have h83 := (h28.step st62 (fun e => ne26 e))
   have hF84 := hF82.keep [2, 3, 11, 12, 13] [(2, (Value.pointer (some ⟨b6, 0, none⟩))), (3, (Value.slice A70 m73 c71)), (11, (Value.slice A0 ps.length c0)), (12, (Value.int .i64 ((ps.length : Nat) : Int))), (13, (Value.int .i64 ((k1 + 1 : Nat) : Int)))] (by kernel_rfl)
   exact ⟨k1 + 1, ⟨s59, A70, c71, m73, hF84, hS74, h83, (hO63.cast (by first | rfl | omega | (simp only [List.length_append, List.length_cons, List.length_nil, List.length_map, outTo_len, List.length_set, List.length_replicate, eight_len, eightTo_len] at *; omega)) (by exact (flat_step (by omega)))), (by omega), ne76⟩, by omega⟩
  ·skip
   have hc33 := of_decide_eq_false hc33
   refine q_exit 0 ?_
   refine q_seq ?_
   refine q_reg ?_
   refine q_run 2 [(22, (Value.int .i64 ((m24 : Nat) : Int))), (21, (Value.slice A22 m24 cp23))] hF32 fun a85 hF86 => ?_
   refine q_one 23 (congrArg (Value.int .u64) (i64_u64 ((m24 : Nat) : Int))) hF86 fun a87 hF88 => ?_
   refine q_one 24 (v0 := (Value.int .u64 (IntKind.u64.wrap ((((ofI ((m24 : Nat) : Int))).toNat : Int) * ((8 : UInt64).toNat : Int))))) (v := (uv ((ofI ((m24 : Nat) : Int)) * 8))) (congrArg (Value.int .u64) (u64_mul _ _)) hF88 fun a89 hF90 => ?_
   refine q_run 1 [(6, (uv ((ofI ((m24 : Nat) : Int)) * 8)))] hF90 fun a91 hF92 => ?_
   refine q_end ?_
   refine q_seq ?_
   refine q_reg ?_
   refine q_run 1 [(25, (Value.slice A22 m24 cp23))] hF92 fun a93 hF94 => ?_
   refine r_at (q_lit tU8 26 22 5 1 (#[(0, (Operand.const (Value.int IntKind.u8 128)))]) hF94 s19 [128] [(bv 128)] ⟨_, _, rfl, rfl, rfl⟩ (fun o e => by simp only [execOp, e]; kernel_rfl) ?_)
   intro a95 s96 w97 g98 hg99 st100 hO101 hF102
   have hz103 := hS21.size
   have hS104 := hS21.then st100
   have hO105 : Own tU8 5 w.heap.size s96 w97 (Value.slice (some ⟨g98, 0, none⟩) 1 1) [128] := (hO101.le (by omega : w.heap.size ≤ _))
   have ne107 := hO101.gb (by have := h28.lt; omega : b6 < _)
   have ne108 := hO101.gg hO29 (by omega)
   have h109 := (hO29.step' st100)
   have h110 := (h28.step' st100)
   have hz120 := hS104.size
   have hb119 : ((ps.take (k1)).flatten).length + ([128] : List _).length ≤ 1000000 := (by have h8 := hfl k1; simp only [List.length_cons, List.length_nil]; omega)
   refine r_at (q_app tU8 S22 27 (Operand.tmp 25) (Operand.tmp 26) hF102 h109 hO105.rd (app_small hb119 (by decide)) (by omega) hz120 ?_)
   intro a111 s112 w113 v114 st115 hO116 hn117 hF118
   obtain ⟨A123, m126, c124, rfl, hl125⟩ := hO116.formL
   have hS127 := hS104.and st115 (fun b e => h109.ge e)
   have ne129 : ¬ Value.ownBlock (Value.slice A123 m126 c124) = some b6 := fun e => ne26 (hn117 _ h110.lt e)
   refine q_run 1 [(3, (Value.slice A123 m126 c124))] hF118 fun a130 hF131 => ?_
   refine q_end ?_
   refine q_seq ?_
   refine q_block 2 ?_
   have hB1 := hfl k1
   have h142 := (h110.step st115 (fun e => ne26 e))
   refine q_loop (fun (k2 : Nat) a132 w133 => ∃ (s134 : Nat → Nat) (A137 : Option Addr) (cp138 : Nat) (m139 : Nat), Fr a132 71 [(2, (Value.pointer (some ⟨b6, 0, none⟩))), (3, (Value.slice A137 m139 cp138)), (6, (uv ((ofI ((m24 : Nat) : Int)) * 8)))] ∧ Stp noM σ w s134 w133 ∧ Bx s134 w133 b6 ((List.replicate 32 (0 : UInt8)).map bv) 52 ∧ Own tU8 5 w.heap.size s134 w133 (Value.slice A137 m139 cp138) (((ps.take k1).flatten ++ [128]) ++ List.replicate (k2) 0) ∧ k2 ≤ padN ((ps.take k1).flatten).length ∧ ¬ Value.ownBlock (Value.slice A137 m139 cp138) = some b6) (fun k2 => padN ((ps.take k1).flatten).length - k2) 0 ?_ ?_
   ·skip
    have hF143 := hF131.keep [2, 3, 6] [(2, (Value.pointer (some ⟨b6, 0, none⟩))), (3, (Value.slice A123 m126 c124)), (6, (uv ((ofI ((m24 : Nat) : Int)) * 8)))] (by kernel_rfl)
    exact ⟨s112, A123, c124, m126, hF143, hS127, h142, (hO116.cast (by first | rfl | omega | (simp only [List.length_append, List.length_cons, List.length_nil, List.length_map, outTo_len, List.length_set, List.length_replicate, eight_len, eightTo_len] at *; omega)) (by simp)), (Nat.zero_le _), ne129⟩
   ·rintro k2 a132 w133 ⟨s134, A137, cp138, m139, hF135, hS136, h144, hO145, hk2, ne141⟩
    have hln146 := hO145.ln
    have hlnX := hO145.ln
    refine q_seq ?_
    refine q_seq ?_
    refine q_reg ?_
    refine q_run 2 [(29, (Value.int .i64 ((m139 : Nat) : Int))), (28, (Value.slice A137 m139 cp138))] hF135 fun a147 hF148 => ?_
    refine q_one 30 (congrArg (Value.int .i64) (i64_remN m139 64)) hF148 fun a149 hF150 => ?_
    refine q_one 31 (congrArg Value.bool (cmp_nat_neq (m139 % 64) (56))) hF150 fun a151 hF152 => ?_
    refine q_end ?_
    refine q_cond 31 hF152 (!decide ((m139 % 64 : Nat) = 56)) (fun hc153 => ?_) (fun hc153 => ?_)
    ·skip
     have hc153 : ¬ ((m139 % 64 : Nat) = 56) := by simpa using hc153
     refine q_skip ?_
     refine q_block 3 ?_
     refine q_reg ?_
     refine q_run 1 [(32, (Value.slice A137 m139 cp138))] hF152 fun a154 hF155 => ?_
     refine r_at (q_lit tU8 33 22 5 1 (#[(0, (Operand.const (Value.int IntKind.u8 0)))]) hF155 s134 [0] [(bv 0)] ⟨_, _, rfl, rfl, rfl⟩ (fun o e => by simp only [execOp, e]; kernel_rfl) ?_)
     intro a156 s157 w158 g159 hg160 st161 hO162 hF163
     have hz164 := hS136.size
     have hS165 := hS136.then st161
     have hO166 : Own tU8 5 w.heap.size s157 w158 (Value.slice (some ⟨g159, 0, none⟩) 1 1) [0] := (hO162.le (by omega : w.heap.size ≤ _))
     have ne168 := hO162.gb (by have := h144.lt; omega : b6 < _)
     have ne169 := hO162.gg hO145 (by omega)
     have h170 := (hO145.step' st161)
     have h171 := (h144.step' st161)
     have hz181 := hS165.size
     have hb180 : (((ps.take k1).flatten ++ [128]) ++ List.replicate (k2) 0).length + ([0] : List _).length ≤ 1000000 := (by have h8 := padN_lt ((ps.take k1).flatten).length; have h7 := hfl k1; simp only [List.length_append, List.length_cons, List.length_nil, List.length_replicate, eightTo_len] at *; omega)
     refine r_at (q_app tU8 S22 34 (Operand.tmp 32) (Operand.tmp 33) hF163 h170 hO166.rd (app_small hb180 (by decide)) (by omega) hz181 ?_)
     intro a172 s173 w174 v175 st176 hO177 hn178 hF179
     obtain ⟨A184, m187, c185, rfl, hl186⟩ := hO177.formL
     have hS188 := hS165.and st176 (fun b e => h170.ge e)
     have ne190 : ¬ Value.ownBlock (Value.slice A184 m187 c185) = some b6 := fun e => ne141 (hn178 _ h171.lt e)
     refine q_run 1 [(3, (Value.slice A184 m187 c185))] hF179 fun a191 hF192 => ?_
     refine q_end ?_
     have h193 := (h171.step st176 (fun e => ne141 e))
     have hF194 := hF192.keep [2, 3, 6] [(2, (Value.pointer (some ⟨b6, 0, none⟩))), (3, (Value.slice A184 m187 c185)), (6, (uv ((ofI ((m24 : Nat) : Int)) * 8)))] (by kernel_rfl)
     exact ⟨k2 + 1, ⟨s173, A184, c185, m187, hF194, hS188, h193, (hO177.cast (by first | rfl | omega | (simp only [List.length_append, List.length_cons, List.length_nil, List.length_map, outTo_len, List.length_set, List.length_replicate, eight_len, eightTo_len] at *; omega)) (by exact (rep_step _ _))), (s2_lt hk2 hlnX hc153), ne190⟩, (by have := s2_lt hk2 hlnX hc153; omega)⟩
    ·skip
     have hc153 : ((m139 % 64 : Nat) = 56) := by simpa using hc153
     refine q_exit 2 ?_
     refine q_seq ?_
     refine q_seq ?_
     refine q_reg ?_
     refine q_run 1 [(7, (Value.int .i64 ((56 : Nat) : Int)))] hF152 fun a195 hF196 => ?_
     refine q_end ?_
     refine q_block 4 ?_
     refine q_loop (fun (k3 : Nat) a197 w198 => ∃ (s199 : Nat → Nat) (A202 : Option Addr) (cp203 : Nat) (m204 : Nat), Fr a197 71 [(2, (Value.pointer (some ⟨b6, 0, none⟩))), (3, (Value.slice A202 m204 cp203)), (6, (uv ((ofI ((m24 : Nat) : Int)) * 8))), (7, (Value.int .i64 (56 - 8 * ((k3 : Nat) : Int))))] ∧ Stp noM σ w s199 w198 ∧ Bx s199 w198 b6 ((List.replicate 32 (0 : UInt8)).map bv) 52 ∧ Own tU8 5 w.heap.size s199 w198 (Value.slice A202 m204 cp203) ((((ps.take k1).flatten ++ [128]) ++ List.replicate k2 0) ++ eightTo ((ofI ((m24 : Nat) : Int)) * 8) (k3)) ∧ k3 ≤ 8 ∧ ¬ Value.ownBlock (Value.slice A202 m204 cp203) = some b6) (fun k3 => 8 - k3) 0 ?_ ?_
     ·skip
      have hF207 := hF196.set 7 (Value.int .i64 ((56 : Nat) : Int)) (Value.int .i64 (56 - 8 * ((0 : Nat) : Int))) (by kernel_rfl) (congrArg (Value.int .i64) (by omega))
      have hF208 := hF207.keep [2, 3, 6, 7] [(2, (Value.pointer (some ⟨b6, 0, none⟩))), (3, (Value.slice A137 m139 cp138)), (6, (uv ((ofI ((m24 : Nat) : Int)) * 8))), (7, (Value.int .i64 (56 - 8 * ((0 : Nat) : Int))))] (by kernel_rfl)
      exact ⟨s134, A137, cp138, m139, hF208, hS136, h144, (hO145.cast (by first | rfl | omega | (simp only [List.length_append, List.length_cons, List.length_nil, List.length_map, outTo_len, List.length_set, List.length_replicate, eight_len, eightTo_len] at *; omega)) (by simp [eightTo])), (by omega), ne141⟩
     ·rintro k3 a197 w198 ⟨s199, A202, cp203, m204, hF200, hS201, h209, hO210, hk3, ne206⟩
      have hln211 := hO210.ln
      refine q_seq ?_
      refine q_seq ?_
      refine q_reg ?_
      refine q_run 1 [(35, (Value.int .i64 (56 - 8 * ((k3 : Nat) : Int))))] hF200 fun a212 hF213 => ?_
      refine q_one 36 (congrArg Value.bool (cmp_int_geq ((56 - 8 * ((k3 : Nat) : Int) : Int)) (((0 : Nat) : Int)))) hF213 fun a214 hF215 => ?_
      refine q_end ?_
      refine q_cond 36 hF215 (decide ((56 - 8 * ((k3 : Nat) : Int) : Int) ≥ ((0 : Nat) : Int))) (fun hc216 => ?_) (fun hc216 => ?_)
      ·skip
       have hc216 := of_decide_eq_true hc216
       refine q_skip ?_
       refine q_seq ?_
       refine q_block 5 ?_
       refine q_reg ?_
       refine q_run 3 [(41, (Value.int .i64 (56 - 8 * ((k3 : Nat) : Int)))), (40, (uv ((ofI ((m24 : Nat) : Int)) * 8))), (39, (Value.slice A202 m204 cp203))] hF215 fun a217 hF218 => ?_
       refine r_at (q_val 42 (Op.binOp BinOp.shr 98 (Operand.tmp 40) (Operand.tmp 41) 3) hF218 (uv (((ofI ((m24 : Nat) : Int)) * 8) >>> (56 - 8 * (k3)).toUInt64)) (exec_shr (n := (ofI ((m24 : Nat) : Int)) * 8) (k := .i64) (s := (56 - 8 * ((k3 : Nat) : Int) : Int)) (by kernel_rfl) (by kernel_rfl) (by omega) (by omega) (56 - 8 * (k3)) (by omega)) ?_)
       intro a219 hF220
       refine q_one 43 (congrArg (Value.int .u8) (u64_u8 (((ofI ((m24 : Nat) : Int)) * 8) >>> (56 - 8 * (k3)).toUInt64))) hF220 fun a221 hF222 => ?_
       refine r_at (q_lit tU8 44 22 5 1 (#[(0, (Operand.tmp 43))]) hF222 s199 [(((ofI ((m24 : Nat) : Int)) * 8) >>> (56 - 8 * (k3)).toUInt64).toUInt8] [(bv ((((ofI ((m24 : Nat) : Int)) * 8) >>> (56 - 8 * (k3)).toUInt64).toUInt8))] ⟨_, _, rfl, rfl, rfl⟩ (fun o e => by simp only [execOp, e]; kernel_rfl) ?_)
       intro a223 s224 w225 g226 hg227 st228 hO229 hF230
       have hz231 := hS201.size
       have hS232 := hS201.then st228
       have hO233 : Own tU8 5 w.heap.size s224 w225 (Value.slice (some ⟨g226, 0, none⟩) 1 1) [(((ofI ((m24 : Nat) : Int)) * 8) >>> (56 - 8 * (k3)).toUInt64).toUInt8] := (hO229.le (by omega : w.heap.size ≤ _))
       have ne235 := hO229.gb (by have := h209.lt; omega : b6 < _)
       have ne236 := hO229.gg hO210 (by omega)
       have h237 := (hO210.step' st228)
       have h238 := (h209.step' st228)
       have hz248 := hS232.size
       have hb247 : ((((ps.take k1).flatten ++ [128]) ++ List.replicate k2 0) ++ eightTo ((ofI ((m24 : Nat) : Int)) * 8) (k3)).length + ([(((ofI ((m24 : Nat) : Int)) * 8) >>> (56 - 8 * (k3)).toUInt64).toUInt8] : List _).length ≤ 1000000 := (by have h8 := padN_lt ((ps.take k1).flatten).length; have h7 := hfl k1; simp only [List.length_append, List.length_cons, List.length_nil, List.length_replicate, eightTo_len] at *; omega)
       refine r_at (q_app tU8 S22 45 (Operand.tmp 39) (Operand.tmp 44) hF230 h237 hO233.rd (app_small hb247 (by decide)) (by omega) hz248 ?_)
       intro a239 s240 w241 v242 st243 hO244 hn245 hF246
       obtain ⟨A251, m254, c252, rfl, hl253⟩ := hO244.formL
       have hS255 := hS232.and st243 (fun b e => h237.ge e)
       have ne257 : ¬ Value.ownBlock (Value.slice A251 m254 c252) = some b6 := fun e => ne206 (hn245 _ h238.lt e)
       refine q_run 1 [(3, (Value.slice A251 m254 c252))] hF246 fun a258 hF259 => ?_
       refine q_end ?_
       refine q_reg ?_
       refine q_run 1 [(37, (Value.int .i64 (56 - 8 * ((k3 : Nat) : Int))))] hF259 fun a260 hF261 => ?_
       refine q_one 38 (v0 := (Value.int .i64 (IntKind.i64.wrap ((56 - 8 * ((k3 : Nat) : Int) : Int) - ((8 : Nat) : Int))))) (v := (Value.int .i64 ((56 - 8 * ((k3 : Nat) : Int) : Int) - ((8 : Nat) : Int)))) (congrArg (Value.int .i64) (i64_eq (by omega) (by omega) (by omega))) hF261 fun a262 hF263 => ?_
       refine q_run 1 [(7, (Value.int .i64 ((56 - 8 * ((k3 : Nat) : Int) : Int) - ((8 : Nat) : Int))))] hF263 fun a264 hF265 => ?_
       refine q_end ?_
       have h266 := (h238.step st243 (fun e => ne206 e))
       have hF267 := hF265.set 7 (Value.int .i64 ((56 - 8 * ((k3 : Nat) : Int) : Int) - ((8 : Nat) : Int))) (Value.int .i64 (56 - 8 * ((k3 + 1 : Nat) : Int))) (by kernel_rfl) (congrArg (Value.int .i64) (by omega))
       have hF268 := hF267.keep [2, 3, 6, 7] [(2, (Value.pointer (some ⟨b6, 0, none⟩))), (3, (Value.slice A251 m254 c252)), (6, (uv ((ofI ((m24 : Nat) : Int)) * 8))), (7, (Value.int .i64 (56 - 8 * ((k3 + 1 : Nat) : Int))))] (by kernel_rfl)
       exact ⟨k3 + 1, ⟨s240, A251, c252, m254, hF268, hS255, h266, (hO244.cast (by first | rfl | omega | (simp only [List.length_append, List.length_cons, List.length_nil, List.length_map, outTo_len, List.length_set, List.length_replicate, eight_len, eightTo_len] at *; omega)) (by exact (e3_step (((ps.take k1).flatten ++ [128]) ++ List.replicate k2 0) ((ofI ((m24 : Nat) : Int)) * 8) k3))), (by omega), ne257⟩, by omega⟩
      ·skip
       have hc216 := of_decide_eq_false hc216
       refine q_exit 4 ?_
       refine q_seq ?_
       refine q_reg ?_
       refine q_run 1 [(46, (Value.agg (([1779033703, 3144134277, 1013904242, 2773480762, 1359893119, 2600822924, 528734635, 1541459225] : List UInt32).map wv).toArray))] hF215 fun a269 hF270 => ?_
       refine r_at (q_new 8 (Op.alloc 244) hF270 s199 (([0, 0, 0, 0, 0, 0, 0, 0] : List UInt32).map wv) 244 (exec_alloc (([0, 0, 0, 0, 0, 0, 0, 0] : List UInt32).map wv) (fun _ => .inl (by kernel_rfl))) ?_)
       intro a271 s272 w273 b274 hb275 st276 hB277 hF278
       have hz279 := hS201.size
       have ne280 := h209.nl hb275
       have ne281 := hO210.nb hb275
       have hS282 := hS201.then st276
       refine r_at (q_store (Operand.tmp 8) (Operand.tmp 46) hF278 hB277 0 (([1779033703, 3144134277, 1013904242, 2773480762, 1359893119, 2600822924, 528734635, 1541459225] : List UInt32).map wv) 8 L244 ?_)
       intro a283 w284 st285 hB286 hF287
       have hS288 := hS282.and st285 (fun b e => by subst e; omega)
       refine q_end ?_
       refine q_seq ?_
       refine q_block 6 ?_
       have hk3e : k3 = 8 := by omega
       have hk2e := s2_eq hk2 hlnX (by simpa using hc153)
       have h289 := ((hO210.step' st276).step st285 (fun g hg e => ne281 (by subst e; exact hg)))
       obtain ⟨Mg, hMg⟩ : ∃ Mg : List UInt8, Mg = ((((ps.take k1).flatten ++ [128]) ++ List.replicate k2 0) ++ eightTo ((ofI ((m24 : Nat) : Int)) * 8) k3) := ⟨_, rfl⟩
       have hoM := h289.rd
       rw [← hMg] at hoM
       have hlnM := hoM.ln
       have hmod : Mg.length % 64 = 0 := by rw [hMg, List.length_append, s2_len, eightTo_len]; have := pad_end ((ps.take k1).flatten).length; rw [← hk2e] at this; omega
       have h295 := ((h209.step' st276).step st285 (fun e => absurd e (by omega)))
       refine q_loop (fun (k4 : Nat) a290 w291 => ∃ (s292 : Nat → Nat) (A9 : Option Addr) (c9 : Nat) (n9 : Nat), Fr a290 71 [(2, (Value.pointer (some ⟨b6, 0, none⟩))), (3, (Value.slice A9 n9 c9)), (8, (Value.pointer (some ⟨b274, 0, none⟩)))] ∧ Stp noM σ w s292 w291 ∧ Bx s292 w291 b6 ((List.replicate 32 (0 : UInt8)).map bv) 52 ∧ Rd tU8 s292 w291 (Value.slice A9 n9 c9) (Mg.drop (64 * (k4))) ∧ Bx s292 w291 b274 (([(blocksTo Mg (k4)).a, (blocksTo Mg (k4)).b, (blocksTo Mg (k4)).c, (blocksTo Mg (k4)).d, (blocksTo Mg (k4)).e, (blocksTo Mg (k4)).f, (blocksTo Mg (k4)).g, (blocksTo Mg (k4)).h] : List UInt32).map wv) 244 ∧ n9 = Mg.length - 64 * (k4) ∧ 64 * (k4) ≤ Mg.length) (fun k4 => Mg.length - 64 * k4) 0 ?_ ?_
       ·skip
        have hF296 := hF287.keep [2, 3, 8] [(2, (Value.pointer (some ⟨b6, 0, none⟩))), (3, (Value.slice A202 m204 cp203)), (8, (Value.pointer (some ⟨b274, 0, none⟩)))] (by kernel_rfl)
        exact ⟨s272, A202, cp203, m204, hF296, hS288, h295, (by rw [Nat.mul_zero, List.drop_zero]; exact hoM), hB286, (by omega), (by omega)⟩
       ·rintro k4 a290 w291 ⟨s292, A9, c9, n9, hF293, hS294, h297, h298, h299, hn9, hk4⟩
        refine q_seq ?_
        refine q_seq ?_
        refine q_reg ?_
        refine q_run 2 [(48, (Value.int .i64 ((n9 : Nat) : Int))), (47, (Value.slice A9 n9 c9))] hF293 fun a300 hF301 => ?_
        refine q_one 49 (congrArg Value.bool (cmp_nat_gtr (n9) (0))) hF301 fun a302 hF303 => ?_
        refine q_end ?_
        refine q_cond 49 hF303 (decide ((n9 : Nat) > 0)) (fun hc304 => ?_) (fun hc304 => ?_)
        ·skip
         have hc304 := of_decide_eq_true hc304
         refine q_skip ?_
         refine q_seq ?_
         refine q_block 7 ?_
         refine q_reg ?_
         refine q_run 1 [(52, (Value.slice A9 n9 c9))] hF303 fun a305 hF306 => ?_
         have h307 := hg.step hS294
         refine r_at (q_call (some 53) (#[(Operand.tmp 8), (Operand.tmp 52)]) (#[246, 22]) hF306 C127 [(Value.pointer (some ⟨b274, 0, none⟩)), (Value.slice A9 n9 c9)] (block_calls s292 w291  (s := (blocksTo Mg (k4))) h299 h298 (by rw [List.length_drop]; omega) h307) ?_)
         intro a308 s309 w310 v311 st312 hP313 hF314
         have hz315 := hS294.size
         have hS316 := hS294.and st312 (fun b e => by subst e; omega)
         obtain ⟨_, hB317⟩ := hP313
         refine q_end ?_
         refine q_reg ?_
         refine q_run 1 [(50, (Value.slice A9 n9 c9))] hF314 fun a318 hF319 => ?_
         have h320 := (h298.step st312)
         have hpq321 : 64 ≤ ((Mg.drop (64 * (k4))).length) := (by have hq := h320.ln; first | omega | (simp only [List.length_append, List.length_cons, List.length_nil, List.length_map, outTo_len, List.length_set, List.length_replicate, eight_len, eightTo_len] at *; omega))
         have hq322 : ((Mg.drop (64 * (k4))).length) ≤ (Mg.drop (64 * (k4))).length := (by have hq := h320.ln; first | omega | (simp only [List.length_append, List.length_cons, List.length_nil, List.length_map, outTo_len, List.length_set, List.length_replicate, eight_len, eightTo_len] at *; omega))
         have hr323 := Rd.cut h320 64 ((Mg.drop (64 * (k4))).length) hpq321 hq322 c9 (by have := h320.form; obtain ⟨_, _, e, h⟩ := this; injection e with _ _ e; omega) (Nat.le_refl _)
         obtain ⟨A324, hA326⟩ : ∃ A, A = (if c9 = 64 then A9 else A9.map (·.add (64 * 1))) := ⟨_, rfl⟩
         obtain ⟨c325, hc327⟩ : ∃ c, c = c9 - 64 := ⟨_, rfl⟩
         have hr323 : Rd tU8 s309 w310 (Value.slice A324 (((Mg.drop (64 * (k4))).length) - 64) c325) (((Mg.drop (64 * (k4))).take ((Mg.drop (64 * (k4))).length)).drop 64) := by rw [hA326, hc327]; exact hr323
         refine r_at (q_val 51 (Op.slice 22 (Operand.tmp 50) (some (Operand.const (Value.int IntKind.i64 64))) none none) hF319 (Value.slice A324 (((Mg.drop (64 * (k4))).length) - 64) c325) (by rw [hA326, hc327]; exact exec_slice (T := tU8) h320 (by kernel_rfl) U22 L5.s 64 ((Mg.drop (64 * (k4))).length) (.inl rfl) (.inr ⟨rfl, rfl⟩) hpq321 hq322) ?_)
         intro a328 hF329
         refine q_run 1 [(3, (Value.slice A324 (((Mg.drop (64 * (k4))).length) - 64) c325))] hF329 fun a330 hF331 => ?_
         refine q_end ?_
         have h332 := (h297.step st312 (fun e => absurd e (by omega)))
         have hF333 := hF331.keep [2, 3, 8] [(2, (Value.pointer (some ⟨b6, 0, none⟩))), (3, (Value.slice A324 (((Mg.drop (64 * (k4))).length) - 64) c325)), (8, (Value.pointer (some ⟨b274, 0, none⟩)))] (by kernel_rfl)
         exact ⟨k4 + 1, ⟨s309, A324, c325, ((Mg.drop (64 * (k4))).length) - 64, hF333, hS316, h332, (by rw [← drop_step _ k4 _ (List.length_drop ..)]; exact hr323), hB317, (by rw [List.length_drop]; omega), (by omega)⟩, (by omega)⟩
        ·skip
         have hc304 := of_decide_eq_false hc304
         refine q_exit 6 ?_
         refine q_seq ?_
         refine q_reg ?_
         refine r_at (q_new 9 (Op.alloc 52) hF303 s292 ((List.replicate 32 (0 : UInt8)).map bv) 52 (exec_alloc ((List.replicate 32 (0 : UInt8)).map bv) (fun _ => .inl (by kernel_rfl))) ?_)
         intro a334 s335 w336 b337 hb338 st339 hB340 hF341
         have hz342 := hS294.size
         have ne343 := h297.nl hb338
         have ne344 := h299.nl hb338
         have hS345 := hS294.then st339
         refine q_end ?_
         refine q_seq ?_
         refine q_seq ?_
         refine q_reg ?_
         refine q_run 1 [(54, (Value.int .i64 ((0 : Nat) : Int)))] hF341 fun a346 hF347 => ?_
         refine q_end ?_
         refine q_block 8 ?_
         have h353 := (h297.step' st339)
         have h354 := (h299.step' st339)
         refine q_loop (fun (k5 : Nat) a348 w349 => ∃ (s350 : Nat → Nat), Fr a348 71 [(2, (Value.pointer (some ⟨b6, 0, none⟩))), (8, (Value.pointer (some ⟨b274, 0, none⟩))), (9, (Value.pointer (some ⟨b337, 0, none⟩))), (54, (Value.int .i64 ((k5 : Nat) : Int)))] ∧ Stp noM σ w s350 w349 ∧ Bx s350 w349 b6 ((List.replicate 32 (0 : UInt8)).map bv) 52 ∧ Bx s350 w349 b274 (([(blocksTo Mg (k4)).a, (blocksTo Mg (k4)).b, (blocksTo Mg (k4)).c, (blocksTo Mg (k4)).d, (blocksTo Mg (k4)).e, (blocksTo Mg (k4)).f, (blocksTo Mg (k4)).g, (blocksTo Mg (k4)).h] : List UInt32).map wv) 244 ∧ Bx s350 w349 b337 ((outTo ([(blocksTo Mg k4).a, (blocksTo Mg k4).b, (blocksTo Mg k4).c, (blocksTo Mg k4).d, (blocksTo Mg k4).e, (blocksTo Mg k4).f, (blocksTo Mg k4).g, (blocksTo Mg k4).h] : List UInt32) (k5)).map bv) 52 ∧ k5 ≤ 32) (fun k5 => 32 - k5) 0 ?_ ?_
         ·skip
          have hF355 := hF347.keep [2, 8, 9, 54] [(2, (Value.pointer (some ⟨b6, 0, none⟩))), (8, (Value.pointer (some ⟨b274, 0, none⟩))), (9, (Value.pointer (some ⟨b337, 0, none⟩))), (54, (Value.int .i64 ((0 : Nat) : Int)))] (by kernel_rfl)
          exact ⟨s335, hF355, hS345, h353, h354, hB340, (by omega)⟩
         ·rintro k5 a348 w349 ⟨s350, hF351, hS352, h356, h357, h358, hk5⟩
          refine q_seq ?_
          refine q_reg ?_
          refine q_one 55 (congrArg Value.bool (cmp_nat_lss (k5) (32))) hF351 fun a359 hF360 => ?_
          refine q_end ?_
          refine q_seq ?_
          refine q_cond 55 hF360 (decide ((k5 : Nat) < 32)) (fun hc361 => ?_) (fun hc361 => ?_)
          ·skip
           have hc361 := of_decide_eq_true hc361
           refine q_skip ?_
           refine q_seq ?_
           refine q_block 9 ?_
           refine q_seq ?_
           refine q_reg ?_
           refine q_run 2 [(10, (Value.int .i64 ((k5 : Nat) : Int))), (56, (Value.int .i64 ((k5 : Nat) : Int)))] hF360 fun a362 hF363 => ?_
           refine q_end ?_
           refine q_reg ?_
           refine q_run 2 [(58, (Value.int .i64 ((k5 : Nat) : Int))), (57, (Value.int .i64 ((k5 : Nat) : Int)))] hF363 fun a364 hF365 => ?_
           refine q_one 59 (congrArg (Value.int .i64) (i64_quoN k5 4 (by omega))) hF365 fun a366 hF367 => ?_
           refine r_at (q_val 60 (Op.indexAddr 244 (Operand.tmp 8) (Operand.tmp 59)) hF367 (Value.pointer (some ⟨b274, k5 / 4, none⟩)) (exec_indexP1 (N := 8) (by kernel_rfl) (kd := .i64) (k5 / 4) (by kernel_rfl) (by omega) U244 L223.s) ?_)
           intro a368 hF369
           have hj370 : k5 / 4 < (([(blocksTo Mg (k4)).a, (blocksTo Mg (k4)).b, (blocksTo Mg (k4)).c, (blocksTo Mg (k4)).d, (blocksTo Mg (k4)).e, (blocksTo Mg (k4)).f, (blocksTo Mg (k4)).g, (blocksTo Mg (k4)).h] : List UInt32)).length := (by first | omega | (simp only [List.length_append, List.length_cons, List.length_nil, List.length_map, outTo_len, List.length_set, List.length_replicate, eight_len, eightTo_len]; omega) | simp)
           refine r_at (q_val 61 (Op.load 223 (Operand.tmp 60)) hF369 (wv (([(blocksTo Mg (k4)).a, (blocksTo Mg (k4)).b, (blocksTo Mg (k4)).c, (blocksTo Mg (k4)).d, (blocksTo Mg (k4)).e, (blocksTo Mg (k4)).f, (blocksTo Mg (k4)).g, (blocksTo Mg (k4)).h] : List UInt32).getD (k5 / 4) 0)) (exec_load (cs := [wv (([(blocksTo Mg (k4)).a, (blocksTo Mg (k4)).b, (blocksTo Mg (k4)).c, (blocksTo Mg (k4)).d, (blocksTo Mg (k4)).e, (blocksTo Mg (k4)).f, (blocksTo Mg (k4)).g, (blocksTo Mg (k4)).h] : List UInt32).getD (k5 / 4) 0)]) L223 (.inr rfl) (by kernel_rfl) (Bx.elemG h357 (0 : UInt32) (k5 / 4) hj370)) ?_)
           intro a371 hF372
           refine q_run 1 [(62, (Value.int .i64 ((k5 : Nat) : Int)))] hF372 fun a373 hF374 => ?_
           refine q_one 63 (congrArg (Value.int .i64) (i64_remN k5 4)) hF374 fun a375 hF376 => ?_
           refine q_one 64 (v0 := (Value.int .i64 (IntKind.i64.wrap (((k5 % 4 : Nat) : Int) * ((8 : Nat) : Int))))) (v := (Value.int .i64 (((k5 % 4) * 8 : Nat) : Int))) (congrArg (Value.int .i64) (i64_eq (by omega) (by omega) (by omega))) hF376 fun a377 hF378 => ?_
           refine q_one 65 (v0 := (Value.int .i64 (IntKind.i64.wrap (((24 : Nat) : Int) - (((k5 % 4) * 8 : Nat) : Int))))) (v := (Value.int .i64 ((24 - ((k5 % 4) * 8) : Nat) : Int))) (congrArg (Value.int .i64) (i64_eq (by omega) (by omega) (by omega))) hF378 fun a379 hF380 => ?_
           refine r_at (q_val 66 (Op.binOp BinOp.shr 223 (Operand.tmp 61) (Operand.tmp 65) 3) hF380 (wv ((([(blocksTo Mg (k4)).a, (blocksTo Mg (k4)).b, (blocksTo Mg (k4)).c, (blocksTo Mg (k4)).d, (blocksTo Mg (k4)).e, (blocksTo Mg (k4)).f, (blocksTo Mg (k4)).g, (blocksTo Mg (k4)).h] : List UInt32).getD (k5 / 4) 0) >>> (24 - ((k5 % 4) * 8)).toUInt32)) (exec_shr32 (n := ([(blocksTo Mg (k4)).a, (blocksTo Mg (k4)).b, (blocksTo Mg (k4)).c, (blocksTo Mg (k4)).d, (blocksTo Mg (k4)).e, (blocksTo Mg (k4)).f, (blocksTo Mg (k4)).g, (blocksTo Mg (k4)).h] : List UInt32).getD (k5 / 4) 0) (k := .i64) (s := ((24 - ((k5 % 4) * 8) : Nat) : Int)) (by kernel_rfl) (by kernel_rfl) (by omega) (by omega) (24 - ((k5 % 4) * 8)) rfl) ?_)
           intro a381 hF382
           refine q_one 67 (congrArg (Value.int .u8) (u32_u8 ((([(blocksTo Mg (k4)).a, (blocksTo Mg (k4)).b, (blocksTo Mg (k4)).c, (blocksTo Mg (k4)).d, (blocksTo Mg (k4)).e, (blocksTo Mg (k4)).f, (blocksTo Mg (k4)).g, (blocksTo Mg (k4)).h] : List UInt32).getD (k5 / 4) 0) >>> (24 - ((k5 % 4) * 8)).toUInt32))) hF382 fun a383 hF384 => ?_
           refine r_at (q_val 68 (Op.indexAddr 52 (Operand.tmp 9) (Operand.tmp 57)) hF384 (Value.pointer (some ⟨b337, k5, none⟩)) (exec_indexP1 (N := 32) (by kernel_rfl) (kd := .i64) k5 (by kernel_rfl) (by omega) U52 L5.s) ?_)
           intro a385 hF386
           have hj392 : k5 < (outTo ([(blocksTo Mg k4).a, (blocksTo Mg k4).b, (blocksTo Mg k4).c, (blocksTo Mg k4).d, (blocksTo Mg k4).e, (blocksTo Mg k4).f, (blocksTo Mg k4).g, (blocksTo Mg k4).h] : List UInt32) (k5)).length := (by first | omega | (simp only [List.length_append, List.length_cons, List.length_nil, List.length_map, outTo_len, List.length_set, List.length_replicate, eight_len, eightTo_len]; omega) | simp)
           refine r_at (q_storeA bv (Operand.tmp 68) (Operand.tmp 67) hF386 h358 k5 hj392 (((([(blocksTo Mg (k4)).a, (blocksTo Mg (k4)).b, (blocksTo Mg (k4)).c, (blocksTo Mg (k4)).d, (blocksTo Mg (k4)).e, (blocksTo Mg (k4)).f, (blocksTo Mg (k4)).g, (blocksTo Mg (k4)).h] : List UInt32).getD (k5 / 4) 0) >>> (24 - ((k5 % 4) * 8)).toUInt32).toUInt8) L5 ?_)
           intro a387 w388 st389 hB390 hF391
           have hS393 := hS352.and st389 (fun b e => by subst e; omega)
           refine q_end ?_
           refine q_reg ?_
           refine q_one 69 (v0 := (Value.int .i64 (IntKind.i64.wrap (((k5 : Nat) : Int) + ((1 : Nat) : Int))))) (v := (Value.int .i64 ((k5 + 1 : Nat) : Int))) (congrArg (Value.int .i64) (i64_eq (by omega) (by omega) (by omega))) hF391 fun a394 hF395 => ?_
           refine q_run 1 [(54, (Value.int .i64 ((k5 + 1 : Nat) : Int)))] hF395 fun a396 hF397 => ?_
           refine q_end ?_
           have h398 := (h356.step st389 (fun e => absurd e (by omega)))
           have h399 := (h357.step st389 (fun e => absurd e (by omega)))
           have hF400 := hF397.keep [2, 8, 9, 54] [(2, (Value.pointer (some ⟨b6, 0, none⟩))), (8, (Value.pointer (some ⟨b274, 0, none⟩))), (9, (Value.pointer (some ⟨b337, 0, none⟩))), (54, (Value.int .i64 ((k5 + 1 : Nat) : Int)))] (by kernel_rfl)
           exact ⟨k5 + 1, ⟨s350, hF400, hS393, h398, h399, hB390, (by omega)⟩, by omega⟩
          ·skip
           have hc361 := of_decide_eq_false hc361
           refine q_exit 8 ?_
           refine q_seq ?_
           refine q_reg ?_
           refine r_at (q_val 70 (Op.load 52 (Operand.tmp 9)) hF360 (Value.agg ((outTo ([(blocksTo Mg k4).a, (blocksTo Mg k4).b, (blocksTo Mg k4).c, (blocksTo Mg k4).d, (blocksTo Mg k4).e, (blocksTo Mg k4).f, (blocksTo Mg k4).g, (blocksTo Mg k4).h] : List UInt32) (k5)).map bv).toArray) (exec_loadAll bv L52 h358 (by first | rfl | simp only [List.length_append, List.length_cons, List.length_nil, List.length_map, outTo_len, List.length_set, List.length_replicate, eight_len, eightTo_len]) (by kernel_rfl)) ?_)
           intro a401 hF402
           refine r_at (q_storeAll bv (Operand.tmp 2) (Operand.tmp 70) hF402 h356 (outTo ([(blocksTo Mg k4).a, (blocksTo Mg k4).b, (blocksTo Mg k4).c, (blocksTo Mg k4).d, (blocksTo Mg k4).e, (blocksTo Mg k4).f, (blocksTo Mg k4).g, (blocksTo Mg k4).h] : List UInt32) (k5)) 32 L52 (by simp only [List.length_append, List.length_cons, List.length_nil, List.length_map, outTo_len, List.length_set, List.length_replicate, eight_len, eightTo_len]) (by simp) (fun _ => rfl) ?_)
           intro a403 w404 st405 hB406 hF407
           have hS408 := hS352.and st405 (fun b e => by subst e; omega)
           refine q_end ?_
           refine q_ret ?_
           try dsimp only [Exit.then, Exit.inBlock]
           refine f_ret hF407 [.cell 2 52] (by kernel_rfl) [.agg ((outTo ([(blocksTo Mg k4).a, (blocksTo Mg k4).b, (blocksTo Mg k4).c, (blocksTo Mg k4).d, (blocksTo Mg k4).e, (blocksTo Mg k4).f, (blocksTo Mg k4).g, (blocksTo Mg k4).h] : List UInt32) (k5)).map bv).toArray] (.cell (hF407.h 2 _ (by kernel_rfl)) (run_loadVar_cs (cs := (outTo ([(blocksTo Mg k4).a, (blocksTo Mg k4).b, (blocksTo Mg k4).c, (blocksTo Mg k4).d, (blocksTo Mg k4).e, (blocksTo Mg k4).f, (blocksTo Mg k4).g, (blocksTo Mg k4).h] : List UInt32) (k5)).map bv) (by rw [List.length_map, outTo_len]; exact L52) (.inl rfl) (fun j v hv => by rw [Nat.zero_add, hB406.cell]; exact hv)) .nil) _ rfl s350 hS408 ?_
           subst hMg
           have hN : (ofI ((m24 : Nat) : Int)) * 8 = UInt64.ofNat ((ps.take k1).flatten).length * 8 := by rw [ofI_nat _ (by omega)]; congr 2; omega
           have e9 := sum_end hk2e hk3e hN (k4 := k4) (k5 := k5) (by omega) (by omega) (by omega) _ rfl
           have e1 : k1 = ps.length := by omega
           rw [e9]
           subst e1
           rw [List.take_length]
           rfl
end Go.Proofs.YtnicmjipbnhciaaDoor.E
set_option linter.unusedVariables false
set_option linter.unusedSimpArgs false
set_option maxRecDepth 100000
set_option maxHeartbeats 2000000
namespace Go.Proofs.YtnicmjipbnhciaaDoor.E
open Go Go.RowKit
open Go.Proofs
theorem bytesEq_calls (σ : Nat → Nat) (w : World) {v0 v1 : Value} {la lb : List UInt8} (h0 : Rd tU8 σ w v0 la) (h1 : Rd tU8 σ w v1 lb) :
  Ctr Tryd.prog 61 [v0, v1] noM σ w (fun σ' w' v => v = .bool (decide (la = lb))) := by
 obtain ⟨A0, c0, rfl, hl0⟩ := h0.form
 obtain ⟨A1, c1, rfl, hl1⟩ := h1.form
 refine ctr_enter Tryd.func61 c61 (by kernel_rfl) 10 (by kernel_rfl) (Nat.le_of_ble_eq_true (by kernel_rfl)) [(0, (Value.slice A0 la.length c0)), (1, (Value.slice A1 lb.length c1))] (by kernel_rfl) ?_
 intro a hF1
 have hS2 := Stp.refl noM σ w
 refine q_seq ?_
 refine q_reg ?_
 refine q_run 1 [(4, (Value.bool false))] hF1 fun a3 hF4 => ?_
 refine q_end ?_
 refine q_seq ?_
 refine q_reg ?_
 refine q_run 1 [(5, (Value.slice A0 la.length c0))] hF4 fun a5 hF6 => ?_
 refine r_at (q_val 6 (Op.convert 22 9 (Operand.tmp 5)) hF6 (sv la) (exec_b2s U22 U5 U9 (by kernel_rfl) h0) ?_)
 intro a7 hF8
 refine q_run 1 [(7, (Value.slice A1 lb.length c1))] hF8 fun a9 hF10 => ?_
 refine r_at (q_val 8 (Op.convert 22 9 (Operand.tmp 7)) hF10 (sv lb) (exec_b2s U22 U5 U9 (by kernel_rfl) h1) ?_)
 intro a11 hF12
 refine q_one 9 (v0 := (Value.bool ((⟨(la).toArray⟩ : ByteArray).toList == (⟨(lb).toArray⟩ : ByteArray).toList))) (v := (Value.bool (decide (la = lb)))) (congrArg Value.bool (str_eql _ _)) hF12 fun a13 hF14 => ?_
 refine q_run 1 [(4, (Value.bool (decide (la = lb))))] hF14 fun a15 hF16 => ?_
 refine q_end ?_
 refine q_ret ?_
 try dsimp only [Exit.then, Exit.inBlock]
 refine f_ret1 hF16 4 (by kernel_rfl) (Value.bool (decide (la = lb))) (by kernel_rfl) σ hS2 ?_
 rfl
theorem rd_none {α : Type} {T : Ty α} {σ : Nat → Nat} {w : World} {xs : List α} {n c : Nat} (h : Rd T σ w (.slice none n c) xs) : xs = [] := by
  obtain ⟨a, cap, e, _, _, h⟩ := h
  injection e with e1 _ _
  subst e1
  rcases h with h | ⟨b, o, cs, e2, _⟩
  · exact h
  · cases e2
theorem cloneN_calls (σ : Nat → Nat) (w : World) {la : List UInt8} {c0 : Nat} (h0 : Rd tU8 σ w (Value.slice none la.length c0) la) (hl : la.length ≤ 1000000) :
  Ctr Tryd.prog 97 [(Value.slice none la.length c0)] noM σ w (fun σ' w' v => Own tU8 5 w.heap.size σ' w' v la) := by
 refine ctr_enter Tryd.func97 c97 (by kernel_rfl) 8 (by kernel_rfl) (Nat.le_of_ble_eq_true (by kernel_rfl)) [(0, (Value.slice none la.length c0))] (by kernel_rfl) ?_
 intro a hF1
 have hS2 := Stp.refl noM σ w
 refine q_seq ?_
 refine q_reg ?_
 refine q_run 1 [(2, (Value.slice none 0 0))] hF1 fun a3 hF4 => ?_
 refine q_end ?_
 refine q_seq ?_
 refine q_seq ?_
 refine q_reg ?_
 refine q_run 2 [(4, (Value.bool true)), (3, (Value.slice none la.length c0))] hF4 fun a5 hF6 => ?_
 refine q_end ?_
 refine q_true 4 hF6 ?_
 refine q_seq ?_
 refine q_reg ?_
 refine q_run 1 [(2, (Value.slice none 0 0))] hF6 fun a7 hF8 => ?_
 refine q_end ?_
 refine q_ret ?_
 try dsimp only [Exit.then, Exit.inBlock]
 refine f_ret1 hF8 2 (by kernel_rfl) (Value.slice none 0 0) (by kernel_rfl) σ hS2 ?_
 rw [rd_none h0]
 exact Own.nil _ _ _ _ _
theorem cloneS_calls (σ : Nat → Nat) (w : World) {ad : Addr} {la : List UInt8} {c0 : Nat} (h0 : Rd tU8 σ w (Value.slice (some ad) la.length c0) la) (hl : la.length ≤ 1000000) :
  Ctr Tryd.prog 97 [(Value.slice (some ad) la.length c0)] noM σ w (fun σ' w' v => Own tU8 5 w.heap.size σ' w' v la) := by
 refine ctr_enter Tryd.func97 c97 (by kernel_rfl) 8 (by kernel_rfl) (Nat.le_of_ble_eq_true (by kernel_rfl)) [(0, (Value.slice (some ad) la.length c0))] (by kernel_rfl) ?_
 intro a hF1
 have hS2 := Stp.refl noM σ w
 refine q_seq ?_
 refine q_reg ?_
 refine q_run 1 [(2, (Value.slice none 0 0))] hF1 fun a3 hF4 => ?_
 refine q_end ?_
 refine q_seq ?_
 refine q_seq ?_
 refine q_reg ?_
 refine q_run 2 [(4, (Value.bool false)), (3, (Value.slice (some ad) la.length c0))] hF4 fun a5 hF6 => ?_
 refine q_end ?_
 refine q_false 4 hF6 ?_
 refine q_skip ?_
 refine q_seq ?_
 refine q_reg ?_
 refine r_at (q_lit tU8 5 22 5 0 (#[]) hF6 σ [] [] rfl (fun o e => by simp only [execOp, e]; kernel_rfl) ?_)
 intro a7 s8 w9 g10 hg11 st12 hO13 hF14
 have hz15 := hS2.size
 have hS16 := hS2.then st12
 have hO17 : Own tU8 5 w.heap.size s8 w9 (Value.slice (some ⟨g10, 0, none⟩) 0 0) ([] : List UInt8) := (hO13.le (by omega : w.heap.size ≤ _))
 refine q_run 1 [(6, (Value.slice (some ad) la.length c0))] hF14 fun a19 hF20 => ?_
 have h21 := h0.step hS16
 have hz31 := hS16.size
 have hb30 : (([] : List UInt8)).length + (la : List _).length ≤ 1000000 := (by simpa using hl)
 refine r_at (q_app tU8 S22 7 (Operand.tmp 5) (Operand.tmp 6) hF20 hO17 h21 (app_small hb30 (by decide)) (by omega) hz31 ?_)
 intro a22 s23 w24 v25 st26 hO27 hn28 hF29
 obtain ⟨A34, m37, c35, rfl, hl36⟩ := hO27.formL
 have hS38 := hS16.and st26 (fun b e => hO17.ge e)
 refine q_run 1 [(2, (Value.slice A34 m37 c35))] hF29 fun a40 hF41 => ?_
 refine q_end ?_
 refine q_ret ?_
 try dsimp only [Exit.then, Exit.inBlock]
 refine f_ret1 hF41 2 (by kernel_rfl) (Value.slice A34 m37 c35) (by kernel_rfl) s23 hS38 ?_
 have h9 := hO27
 simpa using h9
theorem clone_calls (σ : Nat → Nat) (w : World) {v0 : Value} {la : List UInt8} (h0 : Rd tU8 σ w v0 la) (hl : la.length ≤ 1000000) : Ctr Tryd.prog 97 [v0] noM σ w (fun σ' w' v => Own tU8 5 w.heap.size σ' w' v la) := by
  obtain ⟨A0, c0, rfl, _⟩ := h0.form
  cases A0 with
  | none => exact cloneN_calls σ w h0 hl
  | some ad => exact cloneS_calls σ w h0 hl
theorem bytesCmp_calls (σ : Nat → Nat) (w : World) {v0 v1 : Value} {la lb : List UInt8} (h0 : Rd tU8 σ w v0 la) (h1 : Rd tU8 σ w v1 lb) :
  Ctr Tryd.prog 60 [v0, v1] noM σ w (fun σ' w' v => v = iv (Lib.compareBytes la lb)) := by
 obtain ⟨A0, c0, rfl, hl0⟩ := h0.form
 obtain ⟨A1, c1, rfl, hl1⟩ := h1.form
 refine ctr_enter Tryd.func60 c60 (by kernel_rfl) 8 (by kernel_rfl) (Nat.le_of_ble_eq_true (by kernel_rfl)) [(0, (Value.slice A0 la.length c0)), (1, (Value.slice A1 lb.length c1))] (by kernel_rfl) ?_
 intro a hF1
 have hS2 := Stp.refl noM σ w
 refine q_seq ?_
 refine q_reg ?_
 refine q_run 1 [(4, (Value.int .i64 ((0 : Nat) : Int)))] hF1 fun a3 hF4 => ?_
 refine q_end ?_
 refine q_seq ?_
 refine q_reg ?_
 refine q_run 2 [(6, (Value.slice A1 lb.length c1)), (5, (Value.slice A0 la.length c0))] hF4 fun a5 hF6 => ?_
 refine r_at (q_val 7 (Op.call (Call.mk (Callee.value (Operand.func 103)) #[(Operand.tmp 5), (Operand.tmp 6)] #[22, 22])) hF6 (Value.int .i64 (Lib.compareBytes la lb)) (exec_ext [(Value.slice A0 la.length c0), (Value.slice A1 lb.length c1)] (by kernel_rfl) (run_ext (e := Extern.BytealgCompare.compare) Tryd.func103 (by kernel_rfl) (by kernel_rfl) (by kernel_rfl) (by kernel_rfl) (run_compareB h0 h1))) ?_)
 intro a7 hF8
 refine q_run 1 [(4, (Value.int .i64 (Lib.compareBytes la lb)))] hF8 fun a9 hF10 => ?_
 refine q_end ?_
 refine q_ret ?_
 try dsimp only [Exit.then, Exit.inBlock]
 refine f_ret1 hF10 4 (by kernel_rfl) (Value.int .i64 (Lib.compareBytes la lb)) (by kernel_rfl) σ hS2 ?_
 rfl
end Go.Proofs.YtnicmjipbnhciaaDoor.E
set_option linter.unusedVariables false
set_option linter.unusedSimpArgs false
set_option maxRecDepth 100000
namespace Go.Proofs.YtnicmjipbnhciaaDoor.X
open Go Go.RowKit Go.Proofs Go.Proofs.YtnicmjipbnhciaaDoor.E
theorem hk_of {l : List UInt8} (h : l.length = 32) : hk 32 l = l.map bv := by
  unfold hk
  refine List.ext_getElem (by simp [h]) fun i h1 h2 => ?_
  simp at h1 h2
  simp [List.getD_eq_getElem?_getD, h2]
theorem sum_ok (ps : List (List UInt8)) (hl : ps.flatten.length ≤ 100000) : FOk EN 98 ⟨[.pr wordsP, .rd 22 ps], [.n 1], Unit, fun _ => ([.pr wordsP, .rd 22 ps], .a [.h 32 (sum256 ps.flatten)]), fun _ => True⟩ := by
  refine fok_val (by kernel_rfl) rfl fun ν F σ w S => ?_
  refine (sum_calls σ w (S.ent 1 _ rfl) hl (S.ent 0 _ rfl)).mono (fun _ _ h => h) fun σ' w' v _ h => ?_
  rw [h]
  simp only [den, denC, List.append_nil, hk_of (sum256_len _)]
theorem beq_ok (a b : List UInt8) : FOk EN 61 ⟨[.rd 5 a, .rd 5 b], [.n 0, .n 1], Unit, fun _ => ([.rd 5 a, .rd 5 b], .b (decide (a = b))), fun _ => True⟩ := by
  refine fok_val (by kernel_rfl) rfl fun ν F σ w S => ?_
  exact (bytesEq_calls σ w (S.ent 0 _ rfl) (S.ent 1 _ rfl))
theorem bcmp_ok (a b : List UInt8) : FOk EN 60 ⟨[.rd 5 a, .rd 5 b], [.n 0, .n 1], Unit, fun _ => ([.rd 5 a, .rd 5 b], .i (Lib.compareBytes a b)), fun _ => True⟩ := by
  refine fok_val (by kernel_rfl) rfl fun ν F σ w S => ?_
  exact (bytesCmp_calls σ w (S.ent 0 _ rfl) (S.ent 1 _ rfl))
theorem clone_ok (a : List UInt8) (hl : a.length ≤ 1000000) : FOk EN 97 ⟨[.rd 5 a], [.n 0], Unit, fun _ => ([.rd 5 a, .ow 5 a], .n 1), fun _ => True⟩ :=
  fok_own (by kernel_rfl) fun ν F σ w S => clone_calls σ w (S.ent 0 _ rfl) hl
noncomputable def c82 : Code := (Tryd.f82.body).getD .skip
def numStep (n : UInt64) (out : List UInt8) (i : Int) : List UInt8 := if (n >>> ((8 * i).toNat.toUInt64)).toUInt8 ≠ 0 ∨ 0 < out.length then out ++ [(n >>> ((8 * i).toNat.toUInt64)).toUInt8] else out
def numTo (n : UInt64) : Nat → List UInt8
  | 0 => []
  | k + 1 => numStep n (numTo n k) (7 - (k : Int))
theorem numTo_len (n : UInt64) : ∀ k, (numTo n k).length ≤ k
  | 0 => Nat.le_refl _
  | k + 1 => by unfold numTo numStep; have := numTo_len n k; split <;> simp <;> omega
theorem num_ok (n : UInt64) : FOk EN 82 ⟨[], [.u n], Unit, fun _ => ([.ow 5 (numTo n 8)], .n 0), fun _ => True⟩ := by
 refine v_fun Tryd.f82 c82 MX (fun ν F σ w => ?_) Tryd.func82
 refine v_nl ?_
 refine v_loop (fun k : Nat => ([(3, .n 1), (4, .i (7 - (k : Int)))], [.ow 5 (numTo n k)])) (fun k => k ≤ 8) (fun k => 8 - k) 0 [0] (((7 : Int) = (7 : Int) - (↑(0 : Nat) : Int)) ∧ ([] = numTo n 0)) ⟨rfl, rfl⟩ (by decide) (fun k hk1 => ?_)
 have hl := numTo_len n k
 refine v_if (decide (0 ≤ 7 - (↑k : Int))) True trivial (fun h2 => ?_) (fun h2 => ?_)
 ·have h2 := of_decide_eq_true h2
  refine v_guard 17 (decide ((n >>> (8 * (7 - (↑k : Int))).toNat.toUInt64).toUInt8 ≠ 0)) ((I64 (8 * (7 - ↑k))) ∧ (0 ≤ 8 * (7 - (↑k : Int)) ∧ 8 * (7 - (↑k : Int)) < 64)) ⟨(by (unfold I64; omega)), (by omega)⟩ (fun h3 => ?_) (fun h3 => ?_)
  ·have h3 := of_decide_eq_true h3
   exact v_back (k + 1) [3] (((numTo n k).length + 1 ≤ 1000000) ∧ (I64 (7 - ↑k - 1)) ∧ (7 - (↑k : Int) - 1 = 7 - (↑(k + 1) : Int)) ∧ (numTo n k ++ [(n >>> (8 * (7 - (↑k : Int))).toNat.toUInt64).toUInt8] = numTo n (k + 1))) ⟨(by omega), (by (unfold I64; omega)), (by omega), (by (simp only [numTo, numStep]; rw [if_pos (.inl ‹_›)]))⟩ (show k + 1 ≤ 8 ∧ 8 - (k + 1) < 8 - k from (by omega))
  ·have h3 := of_decide_eq_false h3
   refine v_if (decide (0 < (↑(numTo n k).length : Int))) True trivial (fun h4 => ?_) (fun h4 => ?_)
   ·have h4 := of_decide_eq_true h4
    exact v_back (k + 1) [3] (((numTo n k).length + 1 ≤ 1000000) ∧ (I64 (7 - ↑k - 1)) ∧ (7 - (↑k : Int) - 1 = 7 - (↑(k + 1) : Int)) ∧ (numTo n k ++ [(n >>> (8 * (7 - (↑k : Int))).toNat.toUInt64).toUInt8] = numTo n (k + 1))) ⟨(by omega), (by (unfold I64; omega)), (by omega), (by (simp only [numTo, numStep]; rw [if_pos (.inr (by omega))]))⟩ (show k + 1 ≤ 8 ∧ 8 - (k + 1) < 8 - k from (by omega))
   ·have h4 := of_decide_eq_false h4
    exact v_back (k + 1) [1] ((I64 (7 - ↑k - 1)) ∧ (7 - (↑k : Int) - 1 = 7 - (↑(k + 1) : Int)) ∧ (numTo n k = numTo n (k + 1))) ⟨(by (unfold I64; omega)), (by omega), (by (simp only [numTo, numStep]; rw [if_neg (by rintro (q | q); contradiction; omega)]))⟩ (show k + 1 ≤ 8 ∧ 8 - (k + 1) < 8 - k from (by omega))
 ·have h2 := of_decide_eq_false h2
  refine v_leave (.ex 0) True trivial ?_
  exact v_ret () [1] ((numTo n k = numTo n 8)) (by (congr 1; omega)) trivial
noncomputable def c81 : Code := (Tryd.f81.body).getD .skip
def hi (n : Nat) : UInt8 := ofI8 ((n : Int) / 256)
def lo (n : Nat) : UInt8 := ofI8 (n : Int)
def putE (v : List UInt8) : Int := if 65535 < v.length then 3 else 0
def putF (b : List UInt8) (tag : UInt8) (v : List UInt8) : List UInt8 := if 65535 < v.length then [] else if v.length = 0 then b else b ++ [tag, hi v.length, lo v.length] ++ v
theorem put_ok (b : List UInt8) (tag : UInt8) (v : List UInt8) (h : b.length + v.length ≤ 900000) : FOk EN 81 ⟨[.rd 5 b, .rd 5 v], [.n 0, .c tag, .n 1], Unit, fun _ => ([.rd 5 b, .rd 5 v, .ow 5 (putF b tag v)], .t [.n 2, .i (putE v)]), fun _ => True⟩ := by
 refine v_fun Tryd.f81 c81 MX (fun ν F σ w => ?_) Tryd.func81
 refine v_nl ?_
 refine v_if (decide (65535 < (↑v.length : Int))) ((0 + b.length ≤ 1000000)) (by omega) (fun h1 => ?_) (fun h1 => ?_)
 ·have h1 := of_decide_eq_true h1
  exact v_ret () [2] ((3 = putE v) ∧ (b = b) ∧ (v = v) ∧ ([] = putF b tag v)) ⟨(by (simp only [putE, putF, hi, lo]; (repeat first | rw [if_pos (by omega)] | rw [if_neg (by omega)]); done)), rfl, rfl, (by (simp only [putE, putF, hi, lo]; (repeat first | rw [if_pos (by omega)] | rw [if_neg (by omega)]); done))⟩ trivial
 ·have h1 := of_decide_eq_false h1
  refine v_if (decide ((↑v.length : Int) = 0)) True trivial (fun h2 => ?_) (fun h2 => ?_)
  ·have h2 := of_decide_eq_true h2
   exact v_ret () [4] ((0 = putE v) ∧ (b = b) ∧ (v = v) ∧ ([] ++ b = putF b tag v)) ⟨(by (simp only [putE, putF, hi, lo]; (repeat first | rw [if_pos (by omega)] | rw [if_neg (by omega)]); done)), rfl, rfl, (by (simp only [putE, putF, hi, lo]; (repeat first | rw [if_pos (by omega)] | rw [if_neg (by omega)]); first | rfl | omega | (simp; done) | (simp; omega)))⟩ trivial
  ·have h2 := of_decide_eq_false h2
   exact v_ret () [7] ((0 ≤ (↑v.length : Int)) ∧ ((8 : UInt64) < (64 : UInt64)) ∧ (([] ++ b).length + 3 ≤ 1000000) ∧ (([] ++ b ++ [tag, ofI8 ((↑v.length : Int) / 256), ofI8 (↑v.length : Int)]).length + v.length ≤ 1000000) ∧ (0 = putE v) ∧ (b = b) ∧ (v = v) ∧ ([] ++ b ++ [tag, ofI8 (↑v.length / 256), ofI8 ↑v.length] ++ v = putF b tag v)) ⟨(by omega), (by decide), (by (simp; omega)), (by (simp; omega)), (by (simp only [putE, putF, hi, lo]; (repeat first | rw [if_pos (by omega)] | rw [if_neg (by omega)]); done)), rfl, rfl, (by (simp only [putE, putF, hi, lo]; (repeat first | rw [if_pos (by omega)] | rw [if_neg (by omega)]); first | rfl | omega | (simp; done) | (simp; omega)))⟩ trivial
end Go.Proofs.YtnicmjipbnhciaaDoor.X
