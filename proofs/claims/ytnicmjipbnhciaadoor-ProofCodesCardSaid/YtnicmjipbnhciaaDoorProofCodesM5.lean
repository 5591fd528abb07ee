/- What the law ProofCodes needs: the engine, the walks of what it reaches, plain laws; part 5. -/
import Derived.Test.YtnicmjipbnhciaaDoorProofCodesM4
import Derived.OpenShut
set_option linter.unnecessarySimpa false
set_option linter.deprecated false
set_option linter.unusedVariables false
set_option linter.unusedSimpArgs false
set_option maxRecDepth 100000
namespace Go.Proofs.YtnicmjipbnhciaaDoor.X
open Go Go.RowKit Go.Proofs Go.Proofs.YtnicmjipbnhciaaDoor.E Go.Extern.Stop Go.Stop Go.Extern
theorem as_tA (v : Value) (w : World) : (Instr.typeAssert (.iface 208 v) 49 256 true).run Tryd.prog w = .ok (.tuple #[.nilIface, .bool false]) w :=
  run_typeAssert_lacksB (want := (match Tryd.prog.underlying 256 with | some (.interface m) => m | _ => #[])) (z := .nilIface) (by kernel_rfl) (by kernel_rfl) (by kernel_rfl) v 49 w
theorem as_tU (v : Value) (w : World) : (Instr.typeAssert (.iface 208 v) 49 259 true).run Tryd.prog w = .ok (.tuple #[.iface 208 v, .bool true]) w := by kernel_rfl
set_option maxHeartbeats 16000000 in
theorem as113_s1 (c : Int) (b1 o1 : Nat) (t a : Addr) (old : Value) (w : World) (ha : w.cell? a = some (.pointer (some t))) (ht : w.cell? t = some old) (hf : w.frozen? t = false) (hs1 : w.cell? ⟨b1, o1 + 2, none⟩ = some (.iface 61 (.int .i64 c))) :
    Calls Tryd.prog 113 #[.iface 208 (.pointer (some ⟨b1, o1, none⟩)), .iface 153 (.pointer (some t)), .agg #[.pointer (some ⟨4, 153, none⟩), .pointer (some a), .int .u64 150], .iface 251 (.agg #[.pointer (some ⟨4, 61, none⟩)])] w
      fun ev w' => ev = .returned (.bool true) ∧ w' = ((w.alloc (.cells #[.pointer (some ⟨4, 153, none⟩), .pointer (some a), .int .u64 150] 214)).alloc (.cells #[.int .i64 c] 61)).setCell t (.int .i64 c) := by
  have h110 := @run_callFunc_extern Tryd.prog 110 _ (fun args => ReflectliteValue.unpack (args.getD 0 (.tuple #[]))) Tryd.func110 (by kernel_rfl) (by kernel_rfl) (by kernel_rfl) (by kernel_rfl)
  have h134 := @run_callFunc_extern Tryd.prog 134 _ ReflectliteType.typeOf Tryd.func134 (by kernel_rfl) (by kernel_rfl) (by kernel_rfl) (by kernel_rfl)
  have h181 := @run_callFunc_extern Tryd.prog 181 _ (ReflectliteType.relation "AssignableTo" ReflectliteType.assignableTo) Tryd.func181 (by kernel_rfl) (by kernel_rfl) (by kernel_rfl) (by kernel_rfl)
  have h135 := @run_callFunc_extern Tryd.prog 135 _ (ReflectliteValue.method (ReflectliteValue.valueError "reflectlite.Value.Elem" 0) ReflectliteValue.elem) Tryd.func135 (by kernel_rfl) (by kernel_rfl) (by kernel_rfl) (by kernel_rfl)
  have h136 := @run_callFunc_extern Tryd.prog 136 _ ReflectliteValue.set Tryd.func136 (by kernel_rfl) (by kernel_rfl) (by kernel_rfl) (by kernel_rfl)
  have tO := as_typeOf61
  have mA := as_mAss
  have a61 := as_ass61
  have v61 := as_vo61
  have tS := as_typeOf208
  have aS := as_ass208
  have mU := as_mUn
  have tA := as_tA
  have tU := as_tU
  have hal : a.block < w.heap.size := by
    rcases Nat.lt_or_ge a.block w.heap.size with h | h
    · exact h
    · simp [World.cell?, Array.getElem?_eq_none h] at ha
  have htl : t.block < w.heap.size := by
    rcases Nat.lt_or_ge t.block w.heap.size with h | h
    · exact h
    · simp [World.cell?, Array.getElem?_eq_none h] at ht
  have el := as_elemV a t (w.alloc (.cells #[.pointer (some ⟨4, 153, none⟩), .pointer (some a), .int .u64 150] 214)) (by rw [World.cell?_alloc_lt _ _ a hal]; exact ha)
  have st := as_set t ⟨w.heap.size + 1, 0, none⟩ c old ((w.alloc (.cells #[.pointer (some ⟨4, 153, none⟩), .pointer (some a), .int .u64 150] 214)).alloc (.cells #[.int .i64 c] 61))
    (by rw [World.cell?_alloc_at _ _ _ _ (by simp)]; rfl)
    (by rw [World.cell?_alloc_lt _ _ t (by simp; omega), World.cell?_alloc_lt _ _ t htl]; exact ht)
    (by rw [World.frozen?_alloc_old _ _ t (by simp; omega), World.frozen?_alloc_old _ _ t (Nat.ne_of_lt htl)]; exact hf)
  have g1 : (w.alloc (.cells #[.pointer (some ⟨4, 153, none⟩), .pointer (some a), .int .u64 150] 214)).cell? ⟨b1, o1 + 2, none⟩ = some (.iface 61 (.int .i64 c)) := by
    have : b1 < w.heap.size := by
      rcases Nat.lt_or_ge b1 w.heap.size with h | h
      · exact h
      · simp [World.cell?, Array.getElem?_eq_none h] at hs1
    rw [World.cell?_alloc_lt _ _ ⟨b1, o1 + 2, none⟩ this]; exact hs1
  go_enter Tryd.func113, Tryd.ntmps113
  go_wp2
  refine wp_loop_rounds 2 ?_
  rw [rounds_succ]
  go_wp2_with (first | (go_at_call 176; refine (as_unwrap _ _ _ _ g1).mono ?_; rintro e w' ⟨rfl, rfl⟩))
  rw [rounds_succ]
  go_wp2_with (first | (go_at_call 176; refine (as_unwrap _ _ _ _ g1).mono ?_; rintro e w' ⟨rfl, rfl⟩))
  go_ret
  exact ⟨rfl, rfl⟩
set_option maxHeartbeats 16000000 in
theorem as113_s2 (c : Int) (b1 o1 b2 o2 : Nat) (t a : Addr) (old : Value) (w : World) (ha : w.cell? a = some (.pointer (some t))) (ht : w.cell? t = some old) (hf : w.frozen? t = false) (hs1 : w.cell? ⟨b1, o1 + 2, none⟩ = some (.iface 208 (.pointer (some ⟨b2, o2, none⟩)))) (hs2 : w.cell? ⟨b2, o2 + 2, none⟩ = some (.iface 61 (.int .i64 c))) :
    Calls Tryd.prog 113 #[.iface 208 (.pointer (some ⟨b1, o1, none⟩)), .iface 153 (.pointer (some t)), .agg #[.pointer (some ⟨4, 153, none⟩), .pointer (some a), .int .u64 150], .iface 251 (.agg #[.pointer (some ⟨4, 61, none⟩)])] w
      fun ev w' => ev = .returned (.bool true) ∧ w' = ((w.alloc (.cells #[.pointer (some ⟨4, 153, none⟩), .pointer (some a), .int .u64 150] 214)).alloc (.cells #[.int .i64 c] 61)).setCell t (.int .i64 c) := by
  have h110 := @run_callFunc_extern Tryd.prog 110 _ (fun args => ReflectliteValue.unpack (args.getD 0 (.tuple #[]))) Tryd.func110 (by kernel_rfl) (by kernel_rfl) (by kernel_rfl) (by kernel_rfl)
  have h134 := @run_callFunc_extern Tryd.prog 134 _ ReflectliteType.typeOf Tryd.func134 (by kernel_rfl) (by kernel_rfl) (by kernel_rfl) (by kernel_rfl)
  have h181 := @run_callFunc_extern Tryd.prog 181 _ (ReflectliteType.relation "AssignableTo" ReflectliteType.assignableTo) Tryd.func181 (by kernel_rfl) (by kernel_rfl) (by kernel_rfl) (by kernel_rfl)
  have h135 := @run_callFunc_extern Tryd.prog 135 _ (ReflectliteValue.method (ReflectliteValue.valueError "reflectlite.Value.Elem" 0) ReflectliteValue.elem) Tryd.func135 (by kernel_rfl) (by kernel_rfl) (by kernel_rfl) (by kernel_rfl)
  have h136 := @run_callFunc_extern Tryd.prog 136 _ ReflectliteValue.set Tryd.func136 (by kernel_rfl) (by kernel_rfl) (by kernel_rfl) (by kernel_rfl)
  have tO := as_typeOf61
  have mA := as_mAss
  have a61 := as_ass61
  have v61 := as_vo61
  have tS := as_typeOf208
  have aS := as_ass208
  have mU := as_mUn
  have tA := as_tA
  have tU := as_tU
  have hal : a.block < w.heap.size := by
    rcases Nat.lt_or_ge a.block w.heap.size with h | h
    · exact h
    · simp [World.cell?, Array.getElem?_eq_none h] at ha
  have htl : t.block < w.heap.size := by
    rcases Nat.lt_or_ge t.block w.heap.size with h | h
    · exact h
    · simp [World.cell?, Array.getElem?_eq_none h] at ht
  have el := as_elemV a t (w.alloc (.cells #[.pointer (some ⟨4, 153, none⟩), .pointer (some a), .int .u64 150] 214)) (by rw [World.cell?_alloc_lt _ _ a hal]; exact ha)
  have st := as_set t ⟨w.heap.size + 1, 0, none⟩ c old ((w.alloc (.cells #[.pointer (some ⟨4, 153, none⟩), .pointer (some a), .int .u64 150] 214)).alloc (.cells #[.int .i64 c] 61))
    (by rw [World.cell?_alloc_at _ _ _ _ (by simp)]; rfl)
    (by rw [World.cell?_alloc_lt _ _ t (by simp; omega), World.cell?_alloc_lt _ _ t htl]; exact ht)
    (by rw [World.frozen?_alloc_old _ _ t (by simp; omega), World.frozen?_alloc_old _ _ t (Nat.ne_of_lt htl)]; exact hf)
  have g1 : (w.alloc (.cells #[.pointer (some ⟨4, 153, none⟩), .pointer (some a), .int .u64 150] 214)).cell? ⟨b1, o1 + 2, none⟩ = some (.iface 208 (.pointer (some ⟨b2, o2, none⟩))) := by
    have : b1 < w.heap.size := by
      rcases Nat.lt_or_ge b1 w.heap.size with h | h
      · exact h
      · simp [World.cell?, Array.getElem?_eq_none h] at hs1
    rw [World.cell?_alloc_lt _ _ ⟨b1, o1 + 2, none⟩ this]; exact hs1
  have g2 : (w.alloc (.cells #[.pointer (some ⟨4, 153, none⟩), .pointer (some a), .int .u64 150] 214)).cell? ⟨b2, o2 + 2, none⟩ = some (.iface 61 (.int .i64 c)) := by
    have : b2 < w.heap.size := by
      rcases Nat.lt_or_ge b2 w.heap.size with h | h
      · exact h
      · simp [World.cell?, Array.getElem?_eq_none h] at hs2
    rw [World.cell?_alloc_lt _ _ ⟨b2, o2 + 2, none⟩ this]; exact hs2
  go_enter Tryd.func113, Tryd.ntmps113
  go_wp2
  refine wp_loop_rounds 3 ?_
  rw [rounds_succ]
  go_wp2_with (first | (go_at_call 176; refine (as_unwrap _ _ _ _ g1).mono ?_; rintro e w' ⟨rfl, rfl⟩) | (go_at_call 176; refine (as_unwrap _ _ _ _ g2).mono ?_; rintro e w' ⟨rfl, rfl⟩))
  rw [rounds_succ]
  go_wp2_with (first | (go_at_call 176; refine (as_unwrap _ _ _ _ g1).mono ?_; rintro e w' ⟨rfl, rfl⟩) | (go_at_call 176; refine (as_unwrap _ _ _ _ g2).mono ?_; rintro e w' ⟨rfl, rfl⟩))
  rw [rounds_succ]
  go_wp2_with (first | (go_at_call 176; refine (as_unwrap _ _ _ _ g1).mono ?_; rintro e w' ⟨rfl, rfl⟩) | (go_at_call 176; refine (as_unwrap _ _ _ _ g2).mono ?_; rintro e w' ⟨rfl, rfl⟩))
  go_ret
  exact ⟨rfl, rfl⟩
set_option maxHeartbeats 16000000 in
theorem as113_s3 (c : Int) (b1 o1 b2 o2 b3 o3 : Nat) (t a : Addr) (old : Value) (w : World) (ha : w.cell? a = some (.pointer (some t))) (ht : w.cell? t = some old) (hf : w.frozen? t = false) (hs1 : w.cell? ⟨b1, o1 + 2, none⟩ = some (.iface 208 (.pointer (some ⟨b2, o2, none⟩)))) (hs2 : w.cell? ⟨b2, o2 + 2, none⟩ = some (.iface 208 (.pointer (some ⟨b3, o3, none⟩)))) (hs3 : w.cell? ⟨b3, o3 + 2, none⟩ = some (.iface 61 (.int .i64 c))) :
    Calls Tryd.prog 113 #[.iface 208 (.pointer (some ⟨b1, o1, none⟩)), .iface 153 (.pointer (some t)), .agg #[.pointer (some ⟨4, 153, none⟩), .pointer (some a), .int .u64 150], .iface 251 (.agg #[.pointer (some ⟨4, 61, none⟩)])] w
      fun ev w' => ev = .returned (.bool true) ∧ w' = ((w.alloc (.cells #[.pointer (some ⟨4, 153, none⟩), .pointer (some a), .int .u64 150] 214)).alloc (.cells #[.int .i64 c] 61)).setCell t (.int .i64 c) := by
  have h110 := @run_callFunc_extern Tryd.prog 110 _ (fun args => ReflectliteValue.unpack (args.getD 0 (.tuple #[]))) Tryd.func110 (by kernel_rfl) (by kernel_rfl) (by kernel_rfl) (by kernel_rfl)
  have h134 := @run_callFunc_extern Tryd.prog 134 _ ReflectliteType.typeOf Tryd.func134 (by kernel_rfl) (by kernel_rfl) (by kernel_rfl) (by kernel_rfl)
  have h181 := @run_callFunc_extern Tryd.prog 181 _ (ReflectliteType.relation "AssignableTo" ReflectliteType.assignableTo) Tryd.func181 (by kernel_rfl) (by kernel_rfl) (by kernel_rfl) (by kernel_rfl)
  have h135 := @run_callFunc_extern Tryd.prog 135 _ (ReflectliteValue.method (ReflectliteValue.valueError "reflectlite.Value.Elem" 0) ReflectliteValue.elem) Tryd.func135 (by kernel_rfl) (by kernel_rfl) (by kernel_rfl) (by kernel_rfl)
  have h136 := @run_callFunc_extern Tryd.prog 136 _ ReflectliteValue.set Tryd.func136 (by kernel_rfl) (by kernel_rfl) (by kernel_rfl) (by kernel_rfl)
  have tO := as_typeOf61
  have mA := as_mAss
  have a61 := as_ass61
  have v61 := as_vo61
  have tS := as_typeOf208
  have aS := as_ass208
  have mU := as_mUn
  have tA := as_tA
  have tU := as_tU
  have hal : a.block < w.heap.size := by
    rcases Nat.lt_or_ge a.block w.heap.size with h | h
    · exact h
    · simp [World.cell?, Array.getElem?_eq_none h] at ha
  have htl : t.block < w.heap.size := by
    rcases Nat.lt_or_ge t.block w.heap.size with h | h
    · exact h
    · simp [World.cell?, Array.getElem?_eq_none h] at ht
  have el := as_elemV a t (w.alloc (.cells #[.pointer (some ⟨4, 153, none⟩), .pointer (some a), .int .u64 150] 214)) (by rw [World.cell?_alloc_lt _ _ a hal]; exact ha)
  have st := as_set t ⟨w.heap.size + 1, 0, none⟩ c old ((w.alloc (.cells #[.pointer (some ⟨4, 153, none⟩), .pointer (some a), .int .u64 150] 214)).alloc (.cells #[.int .i64 c] 61))
    (by rw [World.cell?_alloc_at _ _ _ _ (by simp)]; rfl)
    (by rw [World.cell?_alloc_lt _ _ t (by simp; omega), World.cell?_alloc_lt _ _ t htl]; exact ht)
    (by rw [World.frozen?_alloc_old _ _ t (by simp; omega), World.frozen?_alloc_old _ _ t (Nat.ne_of_lt htl)]; exact hf)
  have g1 : (w.alloc (.cells #[.pointer (some ⟨4, 153, none⟩), .pointer (some a), .int .u64 150] 214)).cell? ⟨b1, o1 + 2, none⟩ = some (.iface 208 (.pointer (some ⟨b2, o2, none⟩))) := by
    have : b1 < w.heap.size := by
      rcases Nat.lt_or_ge b1 w.heap.size with h | h
      · exact h
      · simp [World.cell?, Array.getElem?_eq_none h] at hs1
    rw [World.cell?_alloc_lt _ _ ⟨b1, o1 + 2, none⟩ this]; exact hs1
  have g2 : (w.alloc (.cells #[.pointer (some ⟨4, 153, none⟩), .pointer (some a), .int .u64 150] 214)).cell? ⟨b2, o2 + 2, none⟩ = some (.iface 208 (.pointer (some ⟨b3, o3, none⟩))) := by
    have : b2 < w.heap.size := by
      rcases Nat.lt_or_ge b2 w.heap.size with h | h
      · exact h
      · simp [World.cell?, Array.getElem?_eq_none h] at hs2
    rw [World.cell?_alloc_lt _ _ ⟨b2, o2 + 2, none⟩ this]; exact hs2
  have g3 : (w.alloc (.cells #[.pointer (some ⟨4, 153, none⟩), .pointer (some a), .int .u64 150] 214)).cell? ⟨b3, o3 + 2, none⟩ = some (.iface 61 (.int .i64 c)) := by
    have : b3 < w.heap.size := by
      rcases Nat.lt_or_ge b3 w.heap.size with h | h
      · exact h
      · simp [World.cell?, Array.getElem?_eq_none h] at hs3
    rw [World.cell?_alloc_lt _ _ ⟨b3, o3 + 2, none⟩ this]; exact hs3
  go_enter Tryd.func113, Tryd.ntmps113
  go_wp2
  refine wp_loop_rounds 4 ?_
  rw [rounds_succ]
  go_wp2_with (first | (go_at_call 176; refine (as_unwrap _ _ _ _ g1).mono ?_; rintro e w' ⟨rfl, rfl⟩) | (go_at_call 176; refine (as_unwrap _ _ _ _ g2).mono ?_; rintro e w' ⟨rfl, rfl⟩) | (go_at_call 176; refine (as_unwrap _ _ _ _ g3).mono ?_; rintro e w' ⟨rfl, rfl⟩))
  rw [rounds_succ]
  go_wp2_with (first | (go_at_call 176; refine (as_unwrap _ _ _ _ g1).mono ?_; rintro e w' ⟨rfl, rfl⟩) | (go_at_call 176; refine (as_unwrap _ _ _ _ g2).mono ?_; rintro e w' ⟨rfl, rfl⟩) | (go_at_call 176; refine (as_unwrap _ _ _ _ g3).mono ?_; rintro e w' ⟨rfl, rfl⟩))
  rw [rounds_succ]
  go_wp2_with (first | (go_at_call 176; refine (as_unwrap _ _ _ _ g1).mono ?_; rintro e w' ⟨rfl, rfl⟩) | (go_at_call 176; refine (as_unwrap _ _ _ _ g2).mono ?_; rintro e w' ⟨rfl, rfl⟩) | (go_at_call 176; refine (as_unwrap _ _ _ _ g3).mono ?_; rintro e w' ⟨rfl, rfl⟩))
  rw [rounds_succ]
  go_wp2_with (first | (go_at_call 176; refine (as_unwrap _ _ _ _ g1).mono ?_; rintro e w' ⟨rfl, rfl⟩) | (go_at_call 176; refine (as_unwrap _ _ _ _ g2).mono ?_; rintro e w' ⟨rfl, rfl⟩) | (go_at_call 176; refine (as_unwrap _ _ _ _ g3).mono ?_; rintro e w' ⟨rfl, rfl⟩))
  go_ret
  exact ⟨rfl, rfl⟩
def Er.dep : Er → Nat
  | .num _ => 0
  | .step _ _ e => e.dep + 1
def Er.code : Er → Int
  | .num c => c
  | .step _ _ e => e.code
abbrev asW (w : World) (a : Addr) (c : Int) : World := (w.alloc (.cells #[.pointer (some ⟨4, 153, none⟩), .pointer (some a), .int .u64 150] 214)).alloc (.cells #[.int .i64 c] 61)
theorem as113 {σ : Nat → Nat} {w : World} : ∀ (e : Er) (v : Value), e.dep ≤ 3 → ErAt σ w e v → ∀ (t a : Addr) (old : Value), w.cell? a = some (.pointer (some t)) → w.cell? t = some old → w.frozen? t = false →
    Calls Tryd.prog 113 #[v, .iface 153 (.pointer (some t)), .agg #[.pointer (some ⟨4, 153, none⟩), .pointer (some a), .int .u64 150], .iface 251 (.agg #[.pointer (some ⟨4, 61, none⟩)])] w
      fun ev w' => ev = .returned (.bool true) ∧ w' = (asW w a e.code).setCell t (.int .i64 e.code)
  | .num c, v, _, h, t, a, old, ha, ht, hf => by
    have h : v = .iface 61 (iv c) := h
    subst h; exact as113_num c t a old w ha ht hf
  | .step _ _ (.num c), v, _, ⟨b1, o1, e1, h1, s1, h2⟩, t, a, old, ha, ht, hf => by
    have h2 : e1 = .iface 61 (iv c) := h2
    subst h1; subst h2
    exact as113_s1 c b1 o1 t a old w ha ht hf (s1.h 2 _ rfl).2
  | .step _ _ (.step _ _ (.num c)), v, _, ⟨b1, o1, e1, h1, s1, b2, o2, e2, h2, s2, h3⟩, t, a, old, ha, ht, hf => by
    have h3 : e2 = .iface 61 (iv c) := h3
    subst h1; subst h2; subst h3
    exact as113_s2 c b1 o1 b2 o2 t a old w ha ht hf (s1.h 2 _ rfl).2 (s2.h 2 _ rfl).2
  | .step _ _ (.step _ _ (.step _ _ (.num c))), v, _, ⟨b1, o1, e1, h1, s1, b2, o2, e2, h2, s2, b3, o3, e3, h3, s3, h4⟩, t, a, old, ha, ht, hf => by
    have h4 : e3 = .iface 61 (iv c) := h4
    subst h1; subst h2; subst h3; subst h4
    exact as113_s3 c b1 o1 b2 o2 b3 o3 t a old w ha ht hf (s1.h 2 _ rfl).2 (s2.h 2 _ rfl).2 (s3.h 2 _ rfl).2
  | .step _ _ (.step _ _ (.step _ _ (.step _ _ e))), v, hd, _, t, a, old, ha, ht, hf => by simp only [Er.dep] at hd; omega
theorem ErAt.ifc {σ : Nat → Nat} {w : World} {e : Er} {v : Value} (h : ErAt σ w e v) : ∃ ty x, v = .iface ty x := by
  cases e with
  | num c => exact ⟨_, _, h⟩
  | step _ _ e => obtain ⟨b, o, ev, h, _⟩ := h; exact ⟨_, _, h⟩
abbrev asV (w : World) (t : Addr) : World := (w.alloc (.cells #[.pointer (some t)] 153)).alloc (.cells #[.pointer (some ⟨4, 153, none⟩), .pointer (some ⟨w.heap.size, 0, none⟩), .int .u64 150] 214)
set_option maxHeartbeats 8000000 in
theorem as76 (c : Int) (ty : Nat) (x : Value) (t : Addr) (old : Value) (w : World) (R : Ending → World → Prop) (hg : w.cell? ⟨0, 0, none⟩ = some (.iface 251 (.agg #[.pointer (some ⟨4, 49, none⟩)]))) (ht : w.cell? t = some old) (hf : w.frozen? t = false)
    (hc : Calls Tryd.prog 113 #[.iface ty x, .iface 153 (.pointer (some t)), .agg #[.pointer (some ⟨4, 153, none⟩), .pointer (some ⟨w.heap.size, 0, none⟩), .int .u64 150], .iface 251 (.agg #[.pointer (some ⟨4, 61, none⟩)])] (asV w t)
      fun ev w' => ev = .returned (.bool true) ∧ w' = (asW (asV w t) ⟨w.heap.size, 0, none⟩ c).setCell t (.int .i64 c)) :
    Calls Tryd.prog 76 #[.iface ty x, .iface 153 (.pointer (some t))] w fun ev w' => ev = .returned (.bool true) ∧ w' = (asW (asV w t) ⟨w.heap.size, 0, none⟩ c).setCell t (.int .i64 c) := by
  have h110 := @run_callFunc_extern Tryd.prog 110 _ (fun args => ReflectliteValue.unpack (args.getD 0 (.tuple #[]))) Tryd.func110 (by kernel_rfl) (by kernel_rfl) (by kernel_rfl) (by kernel_rfl)
  have h111 := @run_callFunc_extern Tryd.prog 111 _ (ReflectliteValue.methodAny (ReflectliteValue.valueError "reflectlite.Value.Type" 0) (fun t _ _ _ => ReflectliteType.toType t)) Tryd.func111 (by kernel_rfl) (by kernel_rfl) (by kernel_rfl) (by kernel_rfl)
  have h112 := @run_callFunc_extern Tryd.prog 112 _ (ReflectliteValue.method (ReflectliteValue.valueError "reflectlite.Value.IsNil" 0) ReflectliteValue.isNil) Tryd.func112 (by kernel_rfl) (by kernel_rfl) (by kernel_rfl) (by kernel_rfl)
  have h171 := @run_callFunc_extern Tryd.prog 171 _ (ReflectliteType.abiMethod fun t => do pure (.int .u8 (← Rtype.kind t))) Tryd.func171 (by kernel_rfl) (by kernel_rfl) (by kernel_rfl) (by kernel_rfl)
  have h183 := @run_callFunc_extern Tryd.prog 183 _ (ReflectliteType.method ReflectliteType.elem) Tryd.func183 (by kernel_rfl) (by kernel_rfl) (by kernel_rfl) (by kernel_rfl)
  have h184 := @run_callFunc_extern Tryd.prog 184 _ (ReflectliteType.relation "Implements" ReflectliteType.implements_) Tryd.func184 (by kernel_rfl) (by kernel_rfl) (by kernel_rfl) (by kernel_rfl)
  have f6 := as_vo
  have f7 := as_type
  have mK := as_mKind
  have mE := as_mElem
  have mI := as_mImpl
  have k1 := as_kind153
  have k2 := as_kind61
  have e1 := as_elem153
  have i1 := as_impl61
  have n8 := as_isNil ⟨w.heap.size, 0, none⟩ t (asV w t) (by rw [World.cell?_alloc_lt _ _ ⟨w.heap.size, 0, none⟩ (by simp)]; simp)
  have hlt : 0 < w.heap.size := by
    rcases Nat.eq_zero_or_pos w.heap.size with h0 | h
    · simp [World.cell?, h0] at hg
    · exact h
  have hg2 : (asV w t).cell? ⟨0, 0, none⟩ = some (.iface 251 (.agg #[.pointer (some ⟨4, 49, none⟩)])) := by
    rw [World.cell?_alloc_lt _ _ ⟨0, 0, none⟩ (by simp), World.cell?_alloc_lt _ _ ⟨0, 0, none⟩ hlt]; exact hg
  go_enter Tryd.func76, Tryd.ntmps76
  go_wp2_with (first | (go_at_call 113; refine hc.mono ?_; rintro e w' ⟨rfl, rfl⟩))
  go_ret
  exact ⟨rfl, rfl⟩
end Go.Proofs.YtnicmjipbnhciaaDoor.X
set_option linter.unusedVariables false
set_option linter.unusedSimpArgs false
set_option maxRecDepth 100000
namespace Go.Proofs.YtnicmjipbnhciaaDoor.X
open Go Go.RowKit Go.Proofs Go.Proofs.YtnicmjipbnhciaaDoor.E
def etP : PP := ⟨fun σ w _ => Seg σ w 0 0 [.iface 251 (.agg #[.pointer (some ⟨4, 49, none⟩)])], fun st h => h.step st⟩
theorem stp_setCell {σ : Nat → Nat} {w : World} {b : Nat} (hz : σ b = 0) (v : Value) : Stp (· = b) σ w σ (w.setCell ⟨b, 0, none⟩ v) := by
  have oth : ∀ x, x ≠ b → (w.setCell ⟨b, 0, none⟩ v).heap[x]? = w.heap[x]? := fun x hx => by
    simp only [World.setCell, Array.getElem?_modify]
    rw [if_neg (Ne.symm hx)]
  refine ⟨rfl, rfl, rfl, by simp [World.setCell], fun x _ hx => oth x hx, fun _ _ _ => rfl, fun x o hx ho => ?_, fun _ _ => Nat.le_refl _⟩
  have hne : x ≠ b := by rintro rfl; rw [hz] at ho; omega
  exact World.cell?_of_block (oth x hne)
theorem errAs_ok (e : Er) (c0 : Int) (hd : e.dep ≤ 3) : FOk EN 76 ⟨[.pr etP, .pn (PE (some e)) true false, .bx 61 [.i c0]], [.n 1, .j 153 (.p 2 0)], Unit, fun _ => ([.pr etP, .pn (PE (some e)) true false, .bx 61 [.i e.code]], .b true), fun _ => True⟩ := by
  refine ⟨by kernel_rfl, fun ν F σ w S => ?_⟩
  obtain ⟨b, hb1, hB, hFb, _⟩ := S.ent 2 _ rfl
  obtain ⟨hE, _, _⟩ := S.ent 1 _ rfl
  have hE : ErAt σ w e (ν 1) := hE
  have hg : Seg σ w 0 0 [.iface 251 (.agg #[.pointer (some ⟨4, 49, none⟩)])] := S.ent 0 _ rfl
  have hg0 := (hg.h 0 _ rfl).2
  obtain ⟨ty, x, hv⟩ := hE.ifc
  have hbl := hB.lt
  have hargs : (denL ν [.n 1, .j 153 (.p 2 0)]).toArray = #[.iface ty x, .iface 153 (.pointer (some ⟨b, 0, none⟩))] := by
    simp only [denL, den, hv, hb1, padd, Nat.add_zero]
  have ht : w.cell? ⟨b, 0, none⟩ = some (iv c0) := by rw [hB.cell 0]; rfl
  have hf : w.frozen? ⟨b, 0, none⟩ = false := hB.free 0
  have s1 := Stp.alloc σ w (.cells #[.pointer (some ⟨b, 0, none⟩)] 153) 0
  have s2 := s1.then (Stp.alloc _ _ (.cells #[.pointer (some ⟨4, 153, none⟩), .pointer (some ⟨w.heap.size, 0, none⟩), .int .u64 150] 214) 0)
  have s3 := s2.then (Stp.alloc _ _ (.cells #[.pointer (some ⟨4, 153, none⟩), .pointer (some ⟨w.heap.size, 0, none⟩), .int .u64 150] 214) 0)
  have s4 := s3.then (Stp.alloc _ _ (.cells #[.int .i64 e.code] 61) 0)
  have B2 := hB.step' s2
  have B4 := hB.step' s4
  have hc := as113 e (ν 1) hd (ErAt.step s2 hE) ⟨b, 0, none⟩ ⟨w.heap.size, 0, none⟩ (iv c0) (by rw [World.cell?_alloc_lt _ _ ⟨w.heap.size, 0, none⟩ (by simp)]; simp) (by rw [B2.cell 0]; rfl) (B2.free 0)
  rw [hv] at hc
  show Calls EN.P 76 (denL ν [.n 1, .j 153 (.p 2 0)]).toArray w _
  rw [hargs]
  refine Calls.mono (as76 e.code ty x ⟨b, 0, none⟩ (iv c0) w (fun _ _ => True) hg0 ht hf hc) ?_
  rintro ev w' ⟨rfl, rfl⟩
  have s5 := (s4.mono (M' := (· = b)) (fun _ _ h => h.elim)).trans (stp_setCell B4.z (.int .i64 e.code)) (M'' := (· = b)) (fun x _ h => by rcases h with h | h <;> exact h)
  refine ⟨(), ν, F, _, rfl, trivial, fun _ _ => rfl, s5.mono (fun x _ h => ⟨2, by subst h; exact hFb⟩), ?_, by simp, fun i b' h => .inl ⟨i, h⟩, rfl⟩
  refine S.gen s5 (· = 2) (fun _ _ => rfl) S.one (by simp) (fun k b' hk hm => by subst hm; exact S.dis k 2 b' hk hFb) (fun k hk hne => ⟨?_, rfl⟩) (fun k en hk he => ?_) (fun k b' hk hb' => ?_) (fun k m b' _ _ e1 e2 => S.dis k m b' e1 e2)
  · have hk : k < 3 := hk
    match k, hk, hne with
    | 0, _, _ => rfl
    | 1, _, _ => rfl
    | 2, _, h => exact absurd rfl h
  · rcases hk with rfl | hk
    · simp only [List.getElem?_cons_succ, List.getElem?_cons_zero, Option.some.injEq] at he
      subst he
      refine ⟨⟨b, hb1, ⟨?_, B4.z⟩, hFb, rfl⟩, rfl⟩
      have := B4.h
      simp only [World.setCell, Array.getElem?_modify, if_pos]
      rw [this]; rfl
    · have := (List.getElem?_eq_some_iff.1 he).1
      have hk : 3 ≤ k := hk
      simp at this; omega
  · rcases hk with rfl | hk
    · exact ⟨by simp, s5.lt (S.lt 2 b' hb').2, .inl ⟨2, rfl, hb'⟩⟩
    · have := (S.lt k b' hb').1
      have hk : 3 ≤ k := hk
      simp at this; omega
def codeO : Option Er → Int
  | none => 0
  | some e => e.code
def depO : Option Er → Nat
  | none => 0
  | some e => e.dep
noncomputable def ccC7_29 : Code := (Tryd.f29.body).getD .skip
theorem Code1_aux : FOk EN 29 ⟨[.pr etP, .pn (PE none) true true], [.n 1], Unit, fun _ => ([.pr etP, .pn (PE none) true true], .i 0), fun _ => True⟩ := by
 refine v_fun Tryd.f29 ccC7_29 MX (fun ν F σ w => ?_) Tryd.func29
 refine v_nl ?_
 refine v_if (true) True trivial (fun h1 => ?_) (fun h1 => ?_)
 ·skip
  exact v_ret () [] (((0 : Int) = (0 : Int)) ∧ (etP = etP) ∧ (PE none = PE none) ∧ (true = true)) ⟨rfl, rfl, rfl, rfl⟩ trivial
 ·skip
  contradiction
theorem Code2_aux (e : Er) (h : e.dep ≤ 3) : FOk EN 29 ⟨[.pr etP, .pn (PE (some e)) true false], [.n 1], Unit, fun _ => ([.pr etP, .pn (PE (some e)) true false], .i e.code), fun _ => True⟩ := by
 refine v_fun Tryd.f29 ccC7_29 MX (fun ν F σ w => ?_) Tryd.func29
 refine v_nl ?_
 refine v_if (false) True trivial (fun h1 => ?_) (fun h1 => ?_)
 ·skip
  contradiction
 ·skip
  refine v_call _ [0, 1, 3] (errAs_ok (e) (0) ‹_›) ((etP = etP) ∧ (PE (some e) = PE (some e)) ∧ (false = false) ∧ ((0 : Int) = (0 : Int))) ⟨rfl, rfl, rfl, rfl⟩ (fun g2 p3 => ?_)
  have p3 : True := p3
  refine v_if (true) True trivial (fun h4 => ?_) (fun h4 => ?_)
  ·skip
   exact v_ret () [] ((e.code = e.code) ∧ (etP = etP) ∧ (PE (some e) = PE (some e)) ∧ (false = false)) ⟨rfl, rfl, rfl, rfl⟩ trivial
  ·skip
   contradiction
theorem Code_ok (o : Option Er) (h : depO o ≤ 3) : FOk EN 29 ⟨[.pr etP, .pn (PE o) true o.isNone], [.n 1], Unit, fun _ => ([.pr etP, .pn (PE o) true o.isNone], .i (codeO o)), fun _ => True⟩ := by
  cases o with
  | none => exact Code1_aux
  | some e => exact Code2_aux e h
theorem less_cmp : ∀ a b : List UInt8, Op.bytesLess a b = decide (Lib.compareBytes a b < 0)
  | [], [] => rfl
  | [], _ :: _ => rfl
  | _ :: _, [] => rfl
  | a :: xs, b :: ys => by
    unfold Op.bytesLess Lib.compareBytes
    by_cases h1 : a < b
    · simp [h1]
    · by_cases h2 : b < a
      · have : ¬ a = b := fun e => by subst e; exact h1 h2
        simp [h1, h2, this]
      · have : a = b := UInt8.le_antisymm (UInt8.not_lt.1 h2) (UInt8.not_lt.1 h1)
        subst this
        simp [h1, less_cmp xs ys]
theorem cmp_zero : ∀ {a b : List UInt8}, Lib.compareBytes a b = 0 ↔ a = b
  | [], [] => by simp [Lib.compareBytes]
  | [], _ :: _ => by simp [Lib.compareBytes]
  | _ :: _, [] => by simp [Lib.compareBytes]
  | a :: xs, b :: ys => by
    unfold Lib.compareBytes
    by_cases h1 : a < b
    · have : ¬ a = b := fun e => by subst e; exact absurd h1 (UInt8.lt_irrefl _)
      simp [h1, this]
    · by_cases h2 : b < a
      · have : ¬ a = b := fun e => by subst e; exact h1 h2
        simp [h1, h2, this]
      · have : a = b := UInt8.le_antisymm (UInt8.not_lt.1 h2) (UInt8.not_lt.1 h1)
        subst this
        simp [h1, cmp_zero (a := xs) (b := ys)]
theorem less_t {a b : List UInt8} (h : Op.bytesLess a b = true) : Lib.compareBytes a b < 0 := by rw [less_cmp] at h; simpa using h
namespace Tr
def lc : Tr → Option Tr
  | leaf _ _ => none
  | node l _ => some l
def rc : Tr → Option Tr
  | leaf _ _ => none
  | node _ r => some r
end Tr
def rdC (t : Tr) (b : Nat) : List SV := [.n b, .n (b + 1), .i t.height, .u t.size, .n (b + 2), .n (b + 3)]
def AtR (σ : Nat → Nat) (w : World) : Tr → Value → Prop
  | .leaf k v, x => ∃ b o kv vv, x = .pointer (some ⟨b, o, none⟩) ∧ Rd tU8 σ w kv k ∧ Rd tU8 σ w vv v ∧ Seg σ w b o (denC (ns4 kv vv (.pointer none) (.pointer none)) (rdC (.leaf k v) 0))
  | .node l r, x => ∃ b o kv vv lv rv, x = .pointer (some ⟨b, o, none⟩) ∧ Rd tU8 σ w kv (Tr.node l r).key ∧ Rd tU8 σ w vv [] ∧ AtR σ w l lv ∧ AtR σ w r rv ∧ Seg σ w b o (denC (ns4 kv vv lv rv) (rdC (.node l r) 0))
theorem AtR.ptr {σ : Nat → Nat} {w : World} {t : Tr} {x : Value} (h : AtR σ w t x) : ∃ b o, x = .pointer (some ⟨b, o, none⟩) := by
  cases t with
  | leaf k v => obtain ⟨b, o, _, _, e, _⟩ := h; exact ⟨b, o, e⟩
  | node l r => obtain ⟨b, o, _, _, _, _, e, _⟩ := h; exact ⟨b, o, e⟩
theorem AtR.step {M : Nat → Prop} {σ σ' : Nat → Nat} {w w' : World} (st : Stp M σ w σ' w') : ∀ {t : Tr} {x : Value}, AtR σ w t x → AtR σ' w' t x
  | .leaf _ _, _, ⟨b, o, kv, vv, e, h1, h2, h3⟩ => ⟨b, o, kv, vv, e, h1.step st, h2.step st, h3.step st⟩
  | .node l r, _, ⟨b, o, kv, vv, lv, rv, e, h1, h2, h3, h4, h5⟩ => ⟨b, o, kv, vv, lv, rv, e, h1.step st, h2.step st, AtR.step st h3, AtR.step st h4, h5.step st⟩
def gt (o : Option Tr) : Tr := o.getD (.leaf [] [])
namespace Tr
theorem kids {t : Tr} (h : 0 < t.height) : t = node (gt t.lc) (gt t.rc) ∧ t.lc.isNone = false ∧ t.rc.isNone = false := by
  cases t with
  | leaf a b => simp [height] at h
  | node l r => exact ⟨rfl, rfl, rfl⟩
theorem kid_l {t : Tr} (h : 0 < t.height) : t.lc.isNone = false := (kids h).2.1
theorem kid_least {t : Tr} (h : 0 < t.height) : (gt t.lc).least = t.least ∧ (gt t.lc).depth < t.depth := by
  cases t with
  | leaf a b => simp [height] at h
  | node l r => exact ⟨rfl, by show l.depth < l.depth + r.depth + 1; omega⟩
end Tr
def LI (o k : Option Tr) : Prop := k.isNone = false ∧ (gt k).least = (gt o).least
theorem LI.next {o k : Option Tr} (h : LI o k) (hp : 0 < (gt k).height) : LI o (gt k).lc ∧ (gt (gt k).lc).depth < (gt k).depth := ⟨⟨Tr.kid_l hp, by rw [(Tr.kid_least hp).1]; exact h.2⟩, (Tr.kid_least hp).2⟩
def cutR (k : List UInt8) (t : Tr) : Option Tr := (t.cut k).getD none
section
variable {k : List UInt8} {t : Tr}
end
def PI (o : Option Tr) (k : List UInt8) (q : List Turn × Option Tr) : Prop := q.2.isNone = false ∧ q.1 ++ (gt q.2).turns k = (gt o).turns k ∧ (gt q.2).fin k = (gt o).fin k ∧ (gt q.2).Ks ∧ (gt q.2).height < 900 ∧ q.1.length + (gt q.2).depth ≤ (gt o).depth
section
variable {o : Option Tr} {k : List UInt8} {q : List Turn × Option Tr}
theorem PI.start (ho : o.isNone = false) (hk : (gt o).Ks) (hh : (gt o).height < 900) : PI o k ([], o) := ⟨ho, rfl, rfl, hk, hh, by simp⟩
theorem PI.step (h : PI o k q) (hp : 0 < (gt q.2).height) : (gt q.2).turns k = (gt q.2).turn k :: (if (gt q.2).rt k = true then (gt (gt q.2).rc).turns k else (gt (gt q.2).lc).turns k) ∧ (gt q.2).fin k = (if (gt q.2).rt k = true then (gt (gt q.2).rc).fin k else (gt (gt q.2).lc).fin k) ∧ (gt (gt q.2).lc).depth < (gt q.2).depth ∧ (gt (gt q.2).rc).depth < (gt q.2).depth := by
  obtain ⟨e, _, _⟩ := Tr.kids hp
  generalize gt (gt q.2).lc = a at *
  generalize gt (gt q.2).rc = b at *
  rw [e]; exact ⟨rfl, rfl, by simp [Tr.depth]; omega, by simp [Tr.depth]; omega⟩
theorem PI.stop (h : PI o k q) (hp : ¬ 0 < (gt q.2).height) : (gt q.2).key = ((gt o).fin k).key ∧ (gt q.2).value = ((gt o).fin k).value ∧ q.1 = (gt o).turns k := by
  obtain ⟨a1, a2, a3, a4, a5, a6⟩ := h
  have := (gt q.2).height_nn
  obtain ⟨a, b, e⟩ := Tr.leaf_of (s := gt q.2) (by omega)
  rw [e] at a2 a3 ⊢
  simp only [Tr.turns, Tr.fin, List.append_nil] at a2 a3
  rw [← a3]; exact ⟨rfl, rfl, a2⟩
end
def findG (k : List UInt8) : List Pair → Nat → Int
  | [], _ => -1
  | x :: xs, i => if x.key = k then i else findG k xs (i + 1)
def findP (l : List Pair) (k : List UInt8) : Int := findG k l 0
def FI (l : List Pair) (k : List UInt8) (i : Nat) : Prop := findG k (l.drop i) i = findP l k ∧ i ≤ l.length
abbrev dP : Pair := ⟨[], []⟩
theorem FI.hit {l : List Pair} {k : List UInt8} {i : Nat} (h : FI l k i) (hi : (i : Int) < l.length) (he : (l.getD i dP).key = k) : (i : Int) = findP l k := by
  have h := h.1; rw [drop_cons (d := dP) hi, findG, if_pos he] at h; exact h
theorem FI.next {l : List Pair} {k : List UInt8} {i : Nat} (h : FI l k i) (hi : (i : Int) < l.length) (he : ¬ (l.getD i dP).key = k) : FI l k (i + 1) ∧ l.length - (i + 1) < l.length - i := by
  obtain ⟨h, h2⟩ := h; rw [drop_cons (d := dP) hi, findG, if_neg he] at h; exact ⟨⟨h, by omega⟩, by omega⟩
theorem FI.stop {l : List Pair} {k : List UInt8} {i : Nat} (h : FI l k i) (hi : ¬ (i : Int) < l.length) : -1 = findP l k := by
  have h := h.1; rw [List.drop_of_length_le (by omega), findG] at h; exact h
def SI (a b : Proof) (i : Nat) : Prop := (a.turns.drop i = b.turns.drop i ↔ a = b) ∧ i ≤ a.turns.length ∧ a.turns.length = b.turns.length
section
variable {a b : Proof} {i : Nat}
theorem sp1 (h : a.key ≠ b.key) : false = decide (a = b) := (decide_eq_false (fun e => h (by rw [e]))).symm
theorem sp2 (h : a.value ≠ b.value) : false = decide (a = b) := (decide_eq_false (fun e => h (by rw [e]))).symm
theorem sp3 (h : (a.turns.length : Int) ≠ b.turns.length) : false = decide (a = b) := (decide_eq_false (fun e => h (by rw [e]))).symm
theorem SI.start (h1 : ¬ a.key ≠ b.key) (h2 : ¬ a.value ≠ b.value) (h3 : ¬ (a.turns.length : Int) ≠ b.turns.length) : SI a b 0 := by
  refine ⟨⟨fun h => ?_, fun h => by rw [h]⟩, Nat.zero_le _, by omega⟩
  cases a; cases b; simp only [Decidable.not_not] at *; subst h1; subst h2; simp only [List.drop_zero] at h; rw [h]
theorem SI.ne (h : SI a b i) (hi : (i : Int) < a.turns.length) (hn : teq (a.turns.getD i dT) (b.turns.getD i dT) = false) : false = decide (a = b) := by
  refine (decide_eq_false (fun e => ?_)).symm
  subst e
  have := teq_iff.2 (rfl : a.turns.getD i dT = a.turns.getD i dT); rw [this] at hn; cases hn
theorem SI.next (h : SI a b i) (hi : (i : Int) < a.turns.length) (hn : teq (a.turns.getD i dT) (b.turns.getD i dT) = true) : SI a b (i + 1) ∧ a.turns.length - (i + 1) < a.turns.length - i := by
  obtain ⟨h1, h2, h3⟩ := h
  refine ⟨⟨?_, by omega, h3⟩, by omega⟩
  rw [← h1, drop_cons (d := dT) hi, drop_cons (l := b.turns) (i := i) (d := dT) (by omega), teq_iff.1 hn]; simp
theorem SI.stop (h : SI a b i) (hi : ¬ (i : Int) < a.turns.length) : true = decide (a = b) := by
  refine (decide_eq_true (h.1.1 ?_)).symm
  obtain ⟨h1, h2, h3⟩ := h
  rw [List.drop_of_length_le (by omega), List.drop_of_length_le (by omega)]
end
noncomputable def ccR7_19 : Code := (Tryd.f19.body).getD .skip
theorem SameProof_aux (a b : Proof) (ha : a.turns.length ≤ 1000000) (hb : b.turns.length ≤ 1000000) : FOk EN 19 ⟨[.rd 5 (a.key), .rd 5 (a.value), .rd 121 a.turns, .rd 5 (b.key), .rd 5 (b.value), .rd 121 b.turns], [.a [.n 0, .n 1, .n 2], .a [.n 3, .n 4, .n 5]], Unit, fun _ => ([.rd 5 (a.key), .rd 5 (a.value), .rd 121 a.turns, .rd 5 (b.key), .rd 5 (b.value), .rd 121 b.turns], .b (decide (a = b))), fun _ => True⟩ := by
 refine v_fun Tryd.f19 ccR7_19 MX (fun ν F σ w => ?_) Tryd.func19
 refine v_nl ?_
 refine v_guard 13 (decide (a.key ≠ b.key)) True trivial (fun h1 => ?_) (fun h1 => ?_)
 ·have h1 := of_decide_eq_true h1
  exact v_ret () [] ((false = decide (a = b)) ∧ (a.key = a.key) ∧ (a.value = a.value) ∧ (a.turns = a.turns) ∧ (b.key = b.key) ∧ (b.value = b.value) ∧ (b.turns = b.turns)) ⟨(by exact sp1 ‹_›), rfl, rfl, rfl, rfl, rfl, rfl⟩ trivial
 ·have h1 := of_decide_eq_false h1
  refine v_guard 22 (decide (a.value ≠ b.value)) True trivial (fun h2 => ?_) (fun h2 => ?_)
  ·have h2 := of_decide_eq_true h2
   exact v_ret () [] ((false = decide (a = b)) ∧ (a.key = a.key) ∧ (a.value = a.value) ∧ (a.turns = a.turns) ∧ (b.key = b.key) ∧ (b.value = b.value) ∧ (b.turns = b.turns)) ⟨(by exact sp2 ‹_›), rfl, rfl, rfl, rfl, rfl, rfl⟩ trivial
  ·have h2 := of_decide_eq_false h2
   refine v_if (decide ((↑a.turns.length : Int) ≠ (↑b.turns.length : Int))) True trivial (fun h3 => ?_) (fun h3 => ?_)
   ·have h3 := of_decide_eq_true h3
    exact v_ret () [] ((false = decide (a = b)) ∧ (a.key = a.key) ∧ (a.value = a.value) ∧ (a.turns = a.turns) ∧ (b.key = b.key) ∧ (b.value = b.value) ∧ (b.turns = b.turns)) ⟨(by exact sp3 ‹_›), rfl, rfl, rfl, rfl, rfl, rfl⟩ trivial
   ·have h3 := of_decide_eq_false h3
    refine v_loop (fun i : Nat => ([(5, .i i)], [])) (fun i => SI a b i) (fun i => a.turns.length - i) 0 [] (((0 : Int) = (↑(0 : Nat) : Int))) rfl (by exact SI.start ‹_› ‹_› ‹_›) (fun i hk4 => ?_)
    have i1 := (‹SI a b i›).2
    refine v_if (decide ((↑i : Int) < (↑a.turns.length : Int))) True trivial (fun h5 => ?_) (fun h5 => ?_)
    ·have h5 := of_decide_eq_true h5
     refine v_plan (.fs [0, 1, 2, 3, 4, 5, 6, 7, 8, 9, 10] .e) [7, 8] True trivial ?_
     refine v_if (!(decide ((a.turns.getD (↑i : Int).toNat (Turn.mk 0 0 false zero32)).height = (b.turns.getD (↑i : Int).toNat (Turn.mk 0 0 false zero32)).height) && (decide ((a.turns.getD (↑i : Int).toNat (Turn.mk 0 0 false zero32)).size = (b.turns.getD (↑i : Int).toNat (Turn.mk 0 0 false zero32)).size) && ((a.turns.getD (↑i : Int).toNat (Turn.mk 0 0 false zero32)).right == (b.turns.getD (↑i : Int).toNat (Turn.mk 0 0 false zero32)).right && (decide ((a.turns.getD (↑i : Int).toNat (Turn.mk 0 0 false zero32)).other.l = (b.turns.getD (↑i : Int).toNat (Turn.mk 0 0 false zero32)).other.l) && true))))) ((0 ≤ (↑i : Int) ∧ (↑i : Int) < (↑a.turns.length : Int)) ∧ (0 ≤ (↑i : Int) ∧ (↑i : Int) < (↑b.turns.length : Int)) ∧ (EN.P.eqGuardType EN.P.depth (121 : Nat) = false) ∧ (noBl EN.P 121) ∧ ((a.turns.getD (↑i : Int).toNat (Turn.mk 0 0 false zero32)).other.l.length = 32) ∧ ((b.turns.getD (↑i : Int).toNat (Turn.mk 0 0 false zero32)).other.l.length = 32)) ⟨(by omega), (by omega), (by kernel_rfl), (by (unfold noBl; kernel_rfl)), (by exact Sum32.h _), (by exact Sum32.h _)⟩ (fun h6 => ?_) (fun h6 => ?_)
     ·have h6 := (nt h6)
      refine v_leave .rt True trivial ?_
      exact v_ret () [] ((false = decide (a = b)) ∧ (a.key = a.key) ∧ (a.value = a.value) ∧ (a.turns = a.turns) ∧ (b.key = b.key) ∧ (b.value = b.value) ∧ (b.turns = b.turns)) ⟨(by exact SI.ne ‹_› ‹_› (by first | assumption | simpa using ‹_›)), rfl, rfl, rfl, rfl, rfl, rfl⟩ trivial
     ·have h6 := (nf h6)
      exact v_back (i + 1) [] ((I64 (↑i + 1)) ∧ ((↑i : Int) + 1 = (↑(i + 1) : Int))) ⟨(by (unfold I64; omega)), rfl⟩ (show SI a b (i + 1) ∧ a.turns.length - (i + 1) < a.turns.length - i from (by exact SI.next ‹_› ‹_› (by first | assumption | simpa using ‹_›)))
    ·have h5 := of_decide_eq_false h5
     refine v_leave (.ex 0) True trivial ?_
     exact v_ret () [] ((true = decide (a = b)) ∧ (a.key = a.key) ∧ (a.value = a.value) ∧ (a.turns = a.turns) ∧ (b.key = b.key) ∧ (b.value = b.value) ∧ (b.turns = b.turns)) ⟨(by exact SI.stop ‹_› ‹_›), rfl, rfl, rfl, rfl, rfl, rfl⟩ trivial
theorem SameProof_ok (ka va kb vb : List UInt8) (ta tb : List Turn) (ha : ta.length ≤ 1000000) (hb : tb.length ≤ 1000000) : FOk EN 19 ⟨[.rd 5 (ka), .rd 5 (va), .rd 121 ta, .rd 5 (kb), .rd 5 (vb), .rd 121 tb], [.a [.n 0, .n 1, .n 2], .a [.n 3, .n 4, .n 5]], Unit, fun _ => ([.rd 5 (ka), .rd 5 (va), .rd 121 ta, .rd 5 (kb), .rd 5 (vb), .rd 121 tb], .b (decide ((⟨ka, va, ta⟩ : Proof) = ⟨kb, vb, tb⟩))), fun _ => True⟩ := SameProof_aux ⟨ka, va, ta⟩ ⟨kb, vb, tb⟩ ha hb
def ben (l : List Turn) (i : Nat) : Int := if (i : Int) < l.length then (l.getD i dT).height else 0
def bad (l : List Turn) (i : Nat) : Prop := (l.getD i dT).height ≤ ben l (i + 1) ∨ 64 < (l.getD i dT).height
def hashN (p : Proof) : List UInt8 := p.turns.foldr stepH (nsum 0 1 p.key p.value z32 z32)
section
variable {p : Proof} {want : List UInt8} {i : Nat} {x : List UInt8}
/-- no fault so far -/
def GI (l : List Turn) (i : Nat) : Prop := (∀ j, j < i → ¬ bad l j) ∧ i ≤ l.length
theorem GI.start {l : List Turn} : GI l 0 := ⟨fun j hj => by omega, Nat.zero_le _⟩
theorem GI.all {l : List Turn} (h : GI l i) (hi : ¬ (i : Int) < l.length) : ∀ j, j < l.length → ¬ bad l j := fun j hj => h.1 j (by have := h.2; omega)
/-- the sums so far, from the end -/
def HI (p : Proof) (q : Nat × List UInt8) : Prop := q.2 = (p.turns.drop q.1).foldr stepH (nsum 0 1 p.key p.value z32 z32) ∧ q.1 ≤ p.turns.length ∧ q.2.length = 32
theorem HI.start : HI p (p.turns.length, nsum 0 1 p.key p.value z32 z32) := ⟨by simp, Nat.le_refl _, show (nsum 0 1 p.key p.value z32 z32).length = 32 from Tr.nsum_len _ _ _ _ _ _⟩
theorem HI.next {n : Nat} (h : HI p (n, x)) (h0 : 0 ≤ (n : Int) - 1) : HI p (n - 1, stepH (tAt p n) x) ∧ n - 1 < n := by
  obtain ⟨m, rfl, e⟩ := RI.succ (p := p) h0
  obtain ⟨h1, h2, h3⟩ := h
  refine ⟨⟨?_, by omega, show (stepH _ _).length = 32 by unfold stepH; split <;> exact Tr.nsum_len _ _ _ _ _ _⟩, by omega⟩
  have h1 : x = (p.turns.drop (m + 1)).foldr stepH (nsum 0 1 p.key p.value z32 z32) := h1
  show stepH _ x = ((p.turns.drop m)).foldr stepH _
  rw [e, drop_cons (l := p.turns) (i := m) (d := dT) (by omega), List.foldr_cons, h1]
theorem HI.nextT {n : Nat} (h : HI p (n, x)) (h0 : 0 ≤ (n : Int) - 1) (hr : (tAt p n).right = true) : HI p (n - 1, nsum (tAt p n).height (tAt p n).size [] [] (tAt p n).other.l x) ∧ n - 1 < n := by
  have := h.next h0; unfold stepH at this; rwa [if_pos hr] at this
theorem HI.nextF {n : Nat} (h : HI p (n, x)) (h0 : 0 ≤ (n : Int) - 1) (hr : (tAt p n).right = false) : HI p (n - 1, nsum (tAt p n).height (tAt p n).size [] [] x (tAt p n).other.l) ∧ n - 1 < n := by
  have := h.next h0; unfold stepH at this; rwa [if_neg (by rw [hr]; simp)] at this
theorem HI.stop {n : Nat} (h : HI p (n, x)) (h0 : ¬ 0 ≤ (n : Int) - 1) : hashN p = x := by
  have : n = 0 := by omega
  subst this; exact h.1.symm
end
theorem rootN_ok (l : List Turn) (hl : ∀ j, j < l.length → ¬ bad l j) : ∀ (n : Nat) (x : List UInt8), n ≤ l.length → rootN l n (ben l n) x = ((l.take n).foldr stepH x, none)
  | 0, x, _ => by simp [rootN]
  | n + 1, x, hn => by
    have h1 := hl n (by omega)
    unfold bad at h1
    rw [rootN, if_neg (by omega)]
    have e : (l.getD n dT).height = ben l n := by unfold ben; rw [if_pos (by omega)]
    rw [e, rootN_ok l hl n _ (by omega), List.take_succ, List.foldr_append]
    have : l[n]?.toList = [l.getD n dT] := by
      have hlt : n < l.length := by omega
      simp [List.getD_eq_getElem?_getD, hlt]
    rw [this]; rfl
theorem ben_end (l : List Turn) : ben l l.length = 0 := by unfold ben; rw [if_neg (by omega)]
theorem verP_dep (want : List UInt8) (p : Proof) : depO (verP want p) ≤ 1 := by
  have hN : ∀ (n : Nat) (a : Int) (x : List UInt8), depO (rootN p.turns n a x).2 ≤ 1 := by
    intro n
    induction n with
    | zero => intro a x; simp [rootN, depO]
    | succ n ih => intro a x; rw [rootN]; split; exact Nat.le_refl _; exact ih _ _
  have hR : depO (rootP p).2 ≤ 1 := by
    unfold rootP; split
    · exact Nat.le_refl _
    · split
      · exact Nat.le_refl _
      · exact hN _ _ _
  unfold verP; split
  · split
    · exact Nat.zero_le _
    · exact Nat.le_refl _
  · exact hR
section
variable {want k : List UInt8} {l r : Option Proof} {c : Int} {e : Er}
theorem vg_left (h1 : ¬ (k.length : Int) < 1) (h2 : ¬ (96 : Int) < k.length) (h3 : l.isNone = false) (h4 : r.isNone = true) (h5 : sideP true (gp l).turns = true) : vgP want k l r = vgL want k l r := by
  unfold vgP; rw [if_neg (by omega), if_neg (by simp [h3]), if_neg (by simp [h3, h5]), if_neg (by simp [h4])]
end
def keyA (a : Act) : List UInt8 := if 0 < a.raw.length then a.raw else [107, 97 + a.k % 26, 97 + a.k / 26]
noncomputable def ccR11_63 : Code := (Tryd.f63.body).getD .skip
theorem Key_ok (a : Act) : FOk EN 63 ⟨[.rd 5 (a.raw), .rd 5 (a.value)], [.a [.c a.kind, .c a.k, .n 0, .n 1]], Unit, fun _ => ([.rd 5 (a.raw), .rd 5 (a.value), .rd 5 (keyA a)], .n 2), fun _ => True⟩ := by
 refine v_fun Tryd.f63 ccR11_63 MX (fun ν F σ w => ?_) Tryd.func63
 refine v_nl ?_
 refine v_if (decide (0 < (↑a.raw.length : Int))) True trivial (fun h1 => ?_) (fun h1 => ?_)
 ·have h1 := of_decide_eq_true h1
  exact v_ret () [0] ((a.raw = a.raw) ∧ (a.value = a.value) ∧ (a.raw = keyA a)) ⟨rfl, rfl, (by (unfold keyA; rw [if_pos (by omega)]))⟩ trivial
 ·have h1 := of_decide_eq_false h1
  exact v_ret () [4] (((26 : UInt8) ≠ (0 : UInt8)) ∧ ((26 : UInt8) ≠ (0 : UInt8)) ∧ (a.raw = a.raw) ∧ (a.value = a.value) ∧ ([107, 97 + a.k % 26, 97 + a.k / 26] = keyA a)) ⟨(by decide), (by decide), rfl, rfl, (by (unfold keyA; rw [if_neg (by omega)]))⟩ trivial
def putPair (k v : List UInt8) : List Pair → List Pair
  | [] => [⟨k, v⟩]
  | x :: xs => if Op.bytesLess x.key k = true then x :: putPair k v xs else ⟨k, v⟩ :: (if x.key = k then xs else x :: xs)
def cutPair (k : List UInt8) (l : List Pair) : List Pair := l.filter fun x => decide (x.key ≠ k)
def UI (k v : List UInt8) (l : List Pair) (q : Nat × List Pair) : Prop := q.2 ++ putPair k v (l.drop q.1) = putPair k v l ∧ q.1 ≤ l.length ∧ q.2.length = q.1
section
variable {k v : List UInt8} {l xs : List Pair} {i : Nat}
theorem UI.start : UI k v l (0, []) := ⟨rfl, Nat.zero_le _, rfl⟩
theorem UI.next (h : UI k v l (i, xs)) (hi : (i : Int) < l.length) (hl : Op.bytesLess (l.getD i dP).key k = true) : UI k v l (i + 1, xs ++ [l.getD i dP]) ∧ l.length - (i + 1) < l.length - i := by
  obtain ⟨h1, h2, h3⟩ := h
  have h1 : xs ++ putPair k v (l.drop i) = putPair k v l := h1
  have h3 : xs.length = i := h3
  refine ⟨⟨?_, by omega, by simp [h3]⟩, by omega⟩
  show (xs ++ [l.getD i dP]) ++ putPair k v (l.drop (i + 1)) = _
  rw [← h1, drop_cons (d := dP) hi, putPair, if_pos hl]; simp
theorem UI.end0 (h : UI k v l (i, xs)) (hi : ¬ (i : Int) < l.length) : xs ++ [⟨k, v⟩] ++ l.drop i = putPair k v l := by
  have h1 : xs ++ putPair k v (l.drop i) = putPair k v l := h.1
  rw [← h1, List.drop_of_length_le (by omega)]; simp [putPair]
theorem UI.end1 (h : UI k v l (i, xs)) (hi : (i : Int) < l.length) (hl : Op.bytesLess (l.getD i dP).key k = false) (he : (l.getD i dP).key = k) : xs ++ [⟨k, v⟩] ++ l.drop (i + 1) = putPair k v l := by
  have h1 : xs ++ putPair k v (l.drop i) = putPair k v l := h.1
  rw [← h1, drop_cons (d := dP) hi, putPair, if_neg (by rw [hl]; simp), if_pos he]; simp
theorem UI.end2 (h : UI k v l (i, xs)) (hi : (i : Int) < l.length) (hl : Op.bytesLess (l.getD i dP).key k = false) (he : ¬ (l.getD i dP).key = k) : xs ++ [⟨k, v⟩] ++ l.drop i = putPair k v l := by
  have h1 : xs ++ putPair k v (l.drop i) = putPair k v l := h.1
  rw [← h1, drop_cons (d := dP) hi, putPair, if_neg (by rw [hl]; simp), if_neg he]; simp
end
noncomputable def ccR11_64 : Code := (Tryd.f64.body).getD .skip
theorem PutPair_ok (l : List Pair) (k v : List UInt8) (hl : l.length ≤ 100000) : FOk EN 64 ⟨[.rd 46 (l), .rd 5 (k), .rd 5 (v)], [.n 0, .n 1, .n 2], Unit, fun _ => ([.rd 46 (l), .rd 5 (k), .rd 5 (v), .ow 46 (putPair k v l)], .n 3), fun _ => True⟩ := by
 refine v_fun Tryd.f64 ccR11_64 MX (fun ν F σ w => ?_) Tryd.func64
 refine v_nl ?_
 refine v_loop (fun q : Nat × List Pair => ([(8, .i q.1), (7, .n 4)], [.ow 46 q.2])) (fun q => UI k v l q) (fun q => l.length - q.1) (0, []) [3] (((0 : Int) = (↑(0 : Nat) : Int)) ∧ (Eq (α := List Pair) [] [])) ⟨rfl, rfl⟩ (by exact UI.start) (fun q hk1 => ?_)
 have i1 := (‹UI k v l q›).2
 refine v_plan (.fs [0, 1, 2, 3, 4, 5, 6, 7, 8, 9, 10, 11, 12, 13, 14] .e) [4] True trivial ?_
 refine v_guard 13 (decide ((↑q.fst : Int) < (↑l.length : Int))) True trivial (fun h2 => ?_) (fun h2 => ?_)
 ·have h2 := of_decide_eq_true h2
  refine v_if (Op.bytesLess (l.getD (↑q.fst : Int).toNat (Pair.mk [] [])).key k) ((0 ≤ (↑q.fst : Int) ∧ (↑q.fst : Int) < (↑l.length : Int))) (by omega) (fun h3 => ?_) (fun h3 => ?_)
  ·skip
   exact v_back ((q.fst + 1, q.snd ++ [Pair.mk (l.getD (↑q.fst : Int).toNat (Pair.mk [] [])).key (l.getD (↑q.fst : Int).toNat (Pair.mk [] [])).value])) [12] ((0 ≤ (↑q.fst : Int) ∧ (↑q.fst : Int) < (↑l.length : Int)) ∧ (q.snd.length + 1 ≤ 1000000) ∧ (I64 (↑q.fst + 1)) ∧ ((↑q.fst : Int) + 1 = (↑(q.fst + 1) : Int)) ∧ (q.snd ++ [Pair.mk (l.getD (↑q.fst : Int).toNat (Pair.mk [] [])).key (l.getD (↑q.fst : Int).toNat (Pair.mk [] [])).value] = q.snd ++ [Pair.mk (l.getD (↑q.fst : Int).toNat (Pair.mk [] [])).key (l.getD (↑q.fst : Int).toNat (Pair.mk [] [])).value])) ⟨(by omega), (by omega), (by (unfold I64; omega)), rfl, rfl⟩ (show UI k v l (q.fst + 1, q.snd ++ [Pair.mk (l.getD (↑q.fst : Int).toNat (Pair.mk [] [])).key (l.getD (↑q.fst : Int).toNat (Pair.mk [] [])).value]) ∧ l.length - (q.fst + 1) < l.length - q.fst from (by exact UI.next ‹_› ‹_› ‹_›))
  ·skip
   refine v_leave (.ex 0) True trivial ?_
   refine v_plan (.fs [0, 1, 2, 3, 4, 5, 6, 7, 8, 9, 10, 11, 12, 13, 14] .e) [8, 9] ((q.snd.length + 1 ≤ 1000000)) (by omega) ?_
   refine v_guard 43 (decide ((↑q.fst : Int) < (↑l.length : Int))) True trivial (fun h4 => ?_) (fun h4 => ?_)
   ·have h4 := of_decide_eq_true h4
    refine v_if (decide ((l.getD (↑q.fst : Int).toNat (Pair.mk [] [])).key = k)) ((0 ≤ (↑q.fst : Int) ∧ (↑q.fst : Int) < (↑l.length : Int))) (by omega) (fun h5 => ?_) (fun h5 => ?_)
    ·have h5 := of_decide_eq_true h5
     exact v_ret () [14] ((I64 (↑q.fst + 1)) ∧ (0 ≤ (↑q.fst : Int) + 1 ∧ (↑q.fst : Int) + 1 ≤ (↑l.length : Int)) ∧ ((q.snd ++ [Pair.mk k v]).length + (List.drop ((↑q.fst : Int) + 1).toNat l).length ≤ 1000000) ∧ (l = l) ∧ (k = k) ∧ (v = v) ∧ (q.snd ++ [Pair.mk k v] ++ List.drop ((↑q.fst : Int) + 1).toNat l = putPair k v l)) ⟨(by (unfold I64; omega)), (by omega), (by (simp; omega)), rfl, rfl, rfl, (by exact UI.end1 ‹_› ‹_› ‹_› ‹_›)⟩ trivial
    ·have h5 := of_decide_eq_false h5
     exact v_ret () [14] ((0 ≤ (↑q.fst : Int) ∧ (↑q.fst : Int) ≤ (↑l.length : Int)) ∧ ((q.snd ++ [Pair.mk k v]).length + (List.drop (↑q.fst : Int).toNat l).length ≤ 1000000) ∧ (l = l) ∧ (k = k) ∧ (v = v) ∧ (q.snd ++ [Pair.mk k v] ++ List.drop (↑q.fst : Int).toNat l = putPair k v l)) ⟨(by omega), (by (simp; omega)), rfl, rfl, rfl, (by exact UI.end2 ‹_› ‹_› ‹_› ‹_›)⟩ trivial
   ·have h4 := of_decide_eq_false h4
    omega
 ·have h2 := of_decide_eq_false h2
  refine v_leave (.ex 0) True trivial ?_
  refine v_plan (.fs [0, 1, 2, 3, 4, 5, 6, 7, 8, 9, 10, 11, 12, 13, 14] .e) [5, 6] ((q.snd.length + 1 ≤ 1000000)) (by omega) ?_
  refine v_guard 43 (decide ((↑q.fst : Int) < (↑l.length : Int))) True trivial (fun h6 => ?_) (fun h6 => ?_)
  ·have h6 := of_decide_eq_true h6
   omega
  ·have h6 := of_decide_eq_false h6
   exact v_ret () [8] ((0 ≤ (↑q.fst : Int) ∧ (↑q.fst : Int) ≤ (↑l.length : Int)) ∧ ((q.snd ++ [Pair.mk k v]).length + (List.drop (↑q.fst : Int).toNat l).length ≤ 1000000) ∧ (l = l) ∧ (k = k) ∧ (v = v) ∧ (q.snd ++ [Pair.mk k v] ++ List.drop (↑q.fst : Int).toNat l = putPair k v l)) ⟨(by omega), (by (simp; omega)), rfl, rfl, rfl, (by exact UI.end0 ‹_› ‹_›)⟩ trivial
def TI5 (k : List UInt8) (l : List Pair) (q : Nat × List Pair) : Prop := q.2 ++ cutPair k (l.drop q.1) = cutPair k l ∧ q.1 ≤ l.length ∧ q.2.length ≤ q.1
theorem TI5.start {k : List UInt8} {l : List Pair} : TI5 k l (0, []) := ⟨rfl, Nat.zero_le _, Nat.le_refl _⟩
theorem TI5.next {k : List UInt8} {l xs : List Pair} {i : Nat} (h : TI5 k l (i, xs)) (hi : (i : Int) < l.length) (he : (l.getD i dP).key ≠ k) : TI5 k l (i + 1, xs ++ [l.getD i dP]) ∧ l.length - (i + 1) < l.length - i := by
  obtain ⟨h1, h2, h3⟩ := h
  have h1 : xs ++ cutPair k (l.drop i) = cutPair k l := h1
  have h3 : xs.length ≤ i := h3
  refine ⟨⟨?_, by omega, by simp; exact h3⟩, by omega⟩
  show (xs ++ [l.getD i dP]) ++ cutPair k (l.drop (i + 1)) = _
  rw [← h1, drop_cons (d := dP) hi]; simp only [cutPair, List.filter_cons]; rw [if_pos (by exact decide_eq_true he)]; simp
theorem TI5.skip {k : List UInt8} {l xs : List Pair} {i : Nat} (h : TI5 k l (i, xs)) (hi : (i : Int) < l.length) (he : ¬ (l.getD i dP).key ≠ k) : TI5 k l (i + 1, xs) ∧ l.length - (i + 1) < l.length - i := by
  obtain ⟨h1, h2, h3⟩ := h
  have h1 : xs ++ cutPair k (l.drop i) = cutPair k l := h1
  have h3 : xs.length ≤ i := h3
  refine ⟨⟨?_, by omega, by show xs.length ≤ i + 1; omega⟩, by omega⟩
  show xs ++ cutPair k (l.drop (i + 1)) = _
  rw [← h1, drop_cons (d := dP) hi]; simp only [cutPair, List.filter_cons]; rw [if_neg (by simpa using he)]
theorem TI5.stop {k : List UInt8} {l xs : List Pair} {i : Nat} (h : TI5 k l (i, xs)) (hi : ¬ (i : Int) < l.length) : xs = cutPair k l := by
  have h1 : xs ++ cutPair k (l.drop i) = cutPair k l := h.1
  rw [← h1, List.drop_of_length_le (by omega)]; simp [cutPair]
noncomputable def ccR11_66 : Code := (Tryd.f66.body).getD .skip
theorem CutPair_ok (l : List Pair) (k : List UInt8) (hl : l.length ≤ 100000) : FOk EN 66 ⟨[.rd 46 (l), .rd 5 (k)], [.n 0, .n 1], Unit, fun _ => ([.rd 46 (l), .rd 5 (k), .ow 46 (cutPair k l)], .n 2), fun _ => True⟩ := by
 refine v_fun Tryd.f66 ccR11_66 MX (fun ν F σ w => ?_) Tryd.func66
 refine v_nl ?_
 refine v_loop (fun q : Nat × List Pair => ([(6, .i q.1), (5, .n 3)], [.ow 46 q.2])) (fun q => TI5 k l q) (fun q => l.length - q.1) (0, []) [2] (((0 : Int) = (↑(0 : Nat) : Int)) ∧ (Eq (α := List Pair) [] [])) ⟨rfl, rfl⟩ (by exact TI5.start) (fun q hk1 => ?_)
 have i1 := (‹TI5 k l q›).2
 refine v_if (decide ((↑q.fst : Int) < (↑l.length : Int))) True trivial (fun h2 => ?_) (fun h2 => ?_)
 ·have h2 := of_decide_eq_true h2
  refine v_plan (.fs [0, 1, 2, 3, 4, 5, 6, 7, 8] .e) [3] True trivial ?_
  refine v_if (decide ((l.getD (↑q.fst : Int).toNat (Pair.mk [] [])).key ≠ k)) ((0 ≤ (↑q.fst : Int) ∧ (↑q.fst : Int) < (↑l.length : Int))) (by omega) (fun h3 => ?_) (fun h3 => ?_)
  ·have h3 := of_decide_eq_true h3
   exact v_back ((q.fst + 1, q.snd ++ [Pair.mk (l.getD (↑q.fst : Int).toNat (Pair.mk [] [])).key (l.getD (↑q.fst : Int).toNat (Pair.mk [] [])).value])) [11] ((0 ≤ (↑q.fst : Int) ∧ (↑q.fst : Int) < (↑l.length : Int)) ∧ (q.snd.length + 1 ≤ 1000000) ∧ (I64 (↑q.fst + 1)) ∧ ((↑q.fst : Int) + 1 = (↑(q.fst + 1) : Int)) ∧ (q.snd ++ [Pair.mk (l.getD (↑q.fst : Int).toNat (Pair.mk [] [])).key (l.getD (↑q.fst : Int).toNat (Pair.mk [] [])).value] = q.snd ++ [Pair.mk (l.getD (↑q.fst : Int).toNat (Pair.mk [] [])).key (l.getD (↑q.fst : Int).toNat (Pair.mk [] [])).value])) ⟨(by omega), (by omega), (by (unfold I64; omega)), rfl, rfl⟩ (show TI5 k l (q.fst + 1, q.snd ++ [Pair.mk (l.getD (↑q.fst : Int).toNat (Pair.mk [] [])).key (l.getD (↑q.fst : Int).toNat (Pair.mk [] [])).value]) ∧ l.length - (q.fst + 1) < l.length - q.fst from (by exact TI5.next ‹_› ‹_› ‹_›))
  ·have h3 := of_decide_eq_false h3
   exact v_back ((q.fst + 1, q.snd)) [3] ((I64 (↑q.fst + 1)) ∧ ((↑q.fst : Int) + 1 = (↑(q.fst + 1) : Int)) ∧ (q.snd = q.snd)) ⟨(by (unfold I64; omega)), rfl, rfl⟩ (show TI5 k l (q.fst + 1, q.snd) ∧ l.length - (q.fst + 1) < l.length - q.fst from (by exact TI5.skip ‹_› ‹_› ‹_›))
 ·have h2 := of_decide_eq_false h2
  refine v_leave (.ex 0) True trivial ?_
  exact v_ret () [3] ((l = l) ∧ (k = k) ∧ (q.snd = cutPair k l)) ⟨rfl, rfl, (by exact TI5.stop ‹_› ‹_›)⟩ trivial
def isGt (a b : List UInt8) : Bool := !(Op.bytesLess a b || decide (a = b))
def bsG (k : List UInt8) : List Pair → Nat → Int × Int → Int × Int
  | [], _, s => s
  | x :: xs, i, s => bsG k xs (i + 1) (if Op.bytesLess x.key k = true then (i : Int) else s.1, if isGt x.key k = true ∧ s.2 < 0 then (i : Int) else s.2)
def besideP (l : List Pair) (k : List UInt8) : Int × Int := bsG k l 0 (-1, -1)
def BI (l : List Pair) (k : List UInt8) (q : Nat × Int × Int) : Prop := bsG k (l.drop q.1) q.1 q.2 = besideP l k ∧ q.1 ≤ l.length
section
variable {l : List Pair} {k : List UInt8} {i : Nat} {a b : Int}
theorem BI.start : BI l k (0, -1, -1) := ⟨rfl, Nat.zero_le _⟩
theorem BI.next (h : BI l k (i, a, b)) (hi : (i : Int) < l.length) : BI l k (i + 1, (if Op.bytesLess (l.getD i dP).key k = true then (i : Int) else a), (if isGt (l.getD i dP).key k = true ∧ b < 0 then (i : Int) else b)) ∧ l.length - (i + 1) < l.length - i := by
  obtain ⟨h1, h2⟩ := h
  rw [drop_cons (d := dP) hi, bsG] at h1
  exact ⟨⟨h1, by omega⟩, by omega⟩
theorem BI.n1 (h : BI l k (i, a, b)) (hi : (i : Int) < l.length) (h1 : Op.bytesLess (l.getD i dP).key k = true) (h2 : isGt (l.getD i dP).key k = true) (h3 : b < 0) : BI l k (i + 1, (i : Int), (i : Int)) ∧ l.length - (i + 1) < l.length - i := by
  have := h.next hi; rwa [if_pos h1, if_pos ⟨h2, h3⟩] at this
theorem BI.n2 (h : BI l k (i, a, b)) (hi : (i : Int) < l.length) (h1 : Op.bytesLess (l.getD i dP).key k = true) (h2 : isGt (l.getD i dP).key k = false ∨ ¬ b < 0) : BI l k (i + 1, (i : Int), b) ∧ l.length - (i + 1) < l.length - i := by
  have := h.next hi; rwa [if_pos h1, if_neg (by rintro ⟨x, y⟩; rcases h2 with h2 | h2; rw [h2] at x; cases x; exact h2 y)] at this
theorem BI.n3 (h : BI l k (i, a, b)) (hi : (i : Int) < l.length) (h1 : Op.bytesLess (l.getD i dP).key k = false) (h2 : isGt (l.getD i dP).key k = true) (h3 : b < 0) : BI l k (i + 1, a, (i : Int)) ∧ l.length - (i + 1) < l.length - i := by
  have := h.next hi; rwa [if_neg (by rw [h1]; simp), if_pos ⟨h2, h3⟩] at this
theorem BI.n4 (h : BI l k (i, a, b)) (hi : (i : Int) < l.length) (h1 : Op.bytesLess (l.getD i dP).key k = false) (h2 : isGt (l.getD i dP).key k = false ∨ ¬ b < 0) : BI l k (i + 1, a, b) ∧ l.length - (i + 1) < l.length - i := by
  have := h.next hi; rwa [if_neg (by rw [h1]; simp), if_neg (by rintro ⟨x, y⟩; rcases h2 with h2 | h2; rw [h2] at x; cases x; exact h2 y)] at this
theorem BI.stop (h : BI l k (i, a, b)) (hi : ¬ (i : Int) < l.length) : a = (besideP l k).1 ∧ b = (besideP l k).2 := by
  have h1 := h.1; rw [List.drop_of_length_le (by omega), bsG] at h1; rw [← h1]; exact ⟨rfl, rfl⟩
end
namespace Tr
theorem bal_depth (l r : Tr) : (l.bal r).depth = l.depth + r.depth + 1 := by
  unfold bal
  split
  · cases l with
    | leaf a b => rfl
    | node a b =>
      dsimp only
      split
      · cases b with
        | leaf c d => rfl
        | node c d => simp only [depth]; omega
      · simp only [depth]; omega
  · split
    · cases r with
      | leaf a b => rfl
      | node a b =>
        dsimp only
        split
        · cases a with
          | leaf c d => rfl
          | node c d => simp only [depth]; omega
        · simp only [depth]; omega
    · rfl
theorem put_depth (k v : List UInt8) : ∀ t : Tr, (t.put k v).depth ≤ t.depth + 1
  | leaf a b => by unfold put; split; simp [depth]; split; simp [depth]; simp [depth]
  | node l r => by
    have h1 := put_depth k v l; have h2 := put_depth k v r
    unfold put; split <;> rw [bal_depth] <;> simp only [depth] <;> omega
theorem cut_depth {k : List UInt8} : ∀ {t t' : Tr}, t.cut k = some (some t') → t'.depth ≤ t.depth
  | leaf a b, t', e => by unfold cut at e; split at e <;> simp at e
  | node l r, t', e => by
    unfold cut at e
    split at e
    · split at e
      · simp at e
      · simp at e; subst e; simp only [depth]; omega
      · rename_i l' hl; simp at e; subst e; rw [bal_depth]; have := cut_depth hl; simp only [depth]; omega
    · split at e
      · simp at e
      · simp at e; subst e; simp only [depth]; omega
      · rename_i r' hr; simp at e; subst e; rw [bal_depth]; have := cut_depth hr; simp only [depth]; omega
theorem height_depth : ∀ t : Tr, t.height ≤ t.depth
  | leaf _ _ => Int.le_refl _
  | node l r => by have h1 := height_depth l; have h2 := height_depth r; simp only [height, depth]; omega
theorem leaves_len : ∀ t : Tr, t.leaves.length = t.depth + 1
  | leaf _ _ => rfl
  | node l r => by simp [leaves, leaves_len l, leaves_len r, depth]; omega
end Tr
/-- A tree of at most n keys, none too long. -/
def okN (n : Nat) (o : Option Tr) : Prop := ∀ t, o = some t → t.Ks ∧ t.depth + 1 ≤ n
theorem okN.O {n : Nat} {o : Option Tr} (h : okN n o) (hn : n ≤ 600) : okO o := fun t e => by
  obtain ⟨h1, h2⟩ := h t e
  have := t.height_depth
  exact ⟨h1, by omega, by omega⟩
theorem okN.leaves {n : Nat} {o : Option Tr} (h : okN n o) : (leavesO o).length ≤ n := by
  cases o with
  | none => exact Nat.zero_le _
  | some t => obtain ⟨_, h2⟩ := h t rfl; show t.leaves.length ≤ n; rw [t.leaves_len]; exact h2
theorem okN.put {n : Nat} {o : Option Tr} {k v : List UInt8} (h : okN n o) (hk : k.length ≤ 1000) (hv : v.length ≤ 1000) : okN (n + 1) (putO k v o) := fun t e => by
  cases o with
  | none => injection e with e; subst e; exact ⟨⟨hk, hv⟩, by simp [Tr.depth]⟩
  | some s =>
    injection e with e; subst e
    obtain ⟨h1, h2⟩ := h s rfl
    have := s.put_depth k v
    exact ⟨Tr.put_Ks ⟨hk, hv⟩ h1, by omega⟩
theorem okN.cut {n : Nat} {o : Option Tr} {k : List UInt8} (h : okN n o) : okN (n + 1) (cutO k o) := fun t e => by
  cases o with
  | none => simp [cutO] at e
  | some s =>
    obtain ⟨h1, h2⟩ := h s rfl
    have e : (match s.cut k with | none => some s | some r => r) = some t := e
    cases c : s.cut k with
    | none => rw [c] at e; injection e with e; subst e; exact ⟨h1, by omega⟩
    | some r => rw [c] at e; have e : r = some t := e; subst e; exact ⟨Tr.cut_Ks h1 c, by have := Tr.cut_depth c; omega⟩
theorem putPair_len (k v : List UInt8) : ∀ l : List Pair, (putPair k v l).length ≤ l.length + 1
  | [] => Nat.le_refl _
  | x :: xs => by have := putPair_len k v xs; unfold putPair; split; simpa using this; split <;> simp
def valA (a : Act) : List UInt8 := a.value.take (if 100 < (a.value.length : Int) then 100 else (a.value.length : Int)).toNat
def stepA (a : Act) (s : Option Tr × List Pair) : Option Tr × List Pair :=
  if a.kind % 6 < 4 then (putO (keyA a) (valA a) s.1, putPair (keyA a) (valA a) s.2) else (cutO (keyA a) s.1, cutPair (keyA a) s.2)
def growG : Nat → List Act → Option Tr × List Pair → Option Tr × List Pair
  | 0, _, s => s
  | _, [], s => s
  | n + 1, a :: l, s => if 90 < (keyA a).length then s else growG n l (stepA a s)
def growT (acts : List Act) (most : Nat) : Option Tr × List Pair := growG most acts (none, [])
abbrev dA : Act := ⟨0, 0, [], []⟩
def GrI (acts : List Act) (m : Nat) (q : Nat × Option Tr × List Pair) : Prop := growG (m - q.1) (acts.drop q.1) q.2 = growT acts m ∧ q.1 ≤ m ∧ q.1 ≤ acts.length ∧ okN q.1 q.2.1 ∧ q.2.2.length ≤ q.1
theorem keyA_pos (a : Act) : 1 ≤ (keyA a).length := by unfold keyA; split; assumption; simp
theorem valA_len (a : Act) : (valA a).length ≤ 100 := by unfold valA; rw [List.length_take]; split <;> omega
section
variable {acts : List Act} {m i : Nat} {o : Option Tr} {l : List Pair}
theorem GrI.start : GrI acts m (0, none, []) := ⟨rfl, Nat.zero_le _, Nat.zero_le _, fun t e => by simp at e, Nat.le_refl _⟩
theorem GrI.stop1 (h : GrI acts m (i, o, l)) (hi : ¬ (i : Int) < acts.length) : growT acts m = (o, l) := by
  have h := h.1; rw [List.drop_of_length_le (by omega)] at h; rw [← h]; cases (m - i) <;> rfl
theorem GrI.stop2 (h : GrI acts m (i, o, l)) (hi : (m : Int) ≤ i) : growT acts m = (o, l) := by
  have h := h.1; rw [show m - i = 0 by omega] at h; rw [← h]; rfl
theorem GrI.stop3 (h : GrI acts m (i, o, l)) (hi : (i : Int) < acts.length) (hm : ¬ (m : Int) ≤ i) (hk : 90 < ((keyA (acts.getD i dA)).length : Int)) : growT acts m = (o, l) := by
  have h := h.1; rw [show m - i = (m - i - 1) + 1 by omega, drop_cons (d := dA) hi, growG, if_pos (by omega)] at h; rw [← h]
theorem GrI.next (h : GrI acts m (i, o, l)) (hi : (i : Int) < acts.length) (hm : ¬ (m : Int) ≤ i) (hk : ¬ 90 < ((keyA (acts.getD i dA)).length : Int)) : growG (m - (i + 1)) (acts.drop (i + 1)) (stepA (acts.getD i dA) (o, l)) = growT acts m := by
  have h := h.1; rw [show m - i = (m - i - 1) + 1 by omega, drop_cons (d := dA) hi, growG, if_neg (by omega)] at h
  rw [← h, show m - (i + 1) = m - i - 1 by omega]
theorem GrI.put (h : GrI acts m (i, o, l)) (hi : (i : Int) < acts.length) (hm : ¬ (m : Int) ≤ i) (hk : ¬ 90 < ((keyA (acts.getD i dA)).length : Int)) (h6 : (acts.getD i dA).kind % 6 < 4) : GrI acts m (i + 1, putO (keyA (acts.getD i dA)) (valA (acts.getD i dA)) o, putPair (keyA (acts.getD i dA)) (valA (acts.getD i dA)) l) ∧ acts.length - (i + 1) < acts.length - i := by
  have hn := h.next hi hm hk
  obtain ⟨a1, a2, a3, a4, a5⟩ := h
  rw [stepA, if_pos h6] at hn
  have a5 : l.length ≤ i := a5
  have := putPair_len (keyA (acts.getD i dA)) (valA (acts.getD i dA)) l
  refine ⟨⟨hn, by show i + 1 ≤ m; omega, by show i + 1 ≤ acts.length; omega, okN.put a4 (by omega) (by have := valA_len (acts.getD i dA); omega), by show (putPair _ _ l).length ≤ i + 1; omega⟩, by omega⟩
theorem GrI.cut (h : GrI acts m (i, o, l)) (hi : (i : Int) < acts.length) (hm : ¬ (m : Int) ≤ i) (hk : ¬ 90 < ((keyA (acts.getD i dA)).length : Int)) (h6 : ¬ (acts.getD i dA).kind % 6 < 4) : GrI acts m (i + 1, cutO (keyA (acts.getD i dA)) o, cutPair (keyA (acts.getD i dA)) l) ∧ acts.length - (i + 1) < acts.length - i := by
  have hn := h.next hi hm hk
  obtain ⟨a1, a2, a3, a4, a5⟩ := h
  rw [stepA, if_neg h6] at hn
  have a5 : l.length ≤ i := a5
  have : (cutPair (keyA (acts.getD i dA)) l).length ≤ l.length := List.length_filter_le ..
  refine ⟨⟨hn, by show i + 1 ≤ m; omega, by show i + 1 ≤ acts.length; omega, okN.cut a4, by show (cutPair _ l).length ≤ i + 1; omega⟩, by omega⟩
end
noncomputable def ccR13_21 : Code := (Tryd.f21.body).getD .skip
theorem Grow_ok (acts : List Act) (m : Nat) (hm : m ≤ 100) : FOk EN 21 ⟨[.pr wordsP, .rd 133 acts], [.n 1, .i m], Unit, fun _ => ([.pr wordsP, .rd 133 acts, .pn (PTO (growT acts m).1) false false, .ow 46 ((growT acts m).2)], .t [.p 2 0, .n 3]), fun _ => True⟩ := by
 refine v_fun Tryd.f21 ccR13_21 MX (fun ν F σ w => ?_) Tryd.func21
 refine v_nl ?_
 refine v_call _ [0] (new_ok) ((wordsP = wordsP)) rfl (fun g1 p2 => ?_)
 have p2 : True := p2
 refine v_loop (fun q : Nat × Option Tr × List Pair => ([(15, .i q.1), (6, .p 4 0), (7, .n 5)], [.pn (PTO q.2.1) false false, .ow 46 q.2.2])) (fun q => GrI acts m q) (fun q => acts.length - q.1) (0, none, []) [3, 2] (((0 : Int) = (↑(0 : Nat) : Int)) ∧ (PTO none = PTO none) ∧ (false = false) ∧ (Eq (α := List Pair) [] [])) ⟨rfl, rfl, rfl, rfl⟩ (by exact GrI.start) (fun q hk3 => ?_)
 have i1 := (‹GrI acts m q›).2
 refine v_if (decide ((↑q.fst : Int) < (↑acts.length : Int))) True trivial (fun h4 => ?_) (fun h4 => ?_)
 ·have h4 := of_decide_eq_true h4
  refine v_plan (.fs [0, 2, 3, 4, 5, 6, 7, 8] (.o 1 (.fs [9, 10] .e))) [5, 9] ((0 ≤ (↑q.fst : Int) ∧ (↑q.fst : Int) < (↑acts.length : Int))) (by omega) ?_
  refine v_call _ [6, 7] (Key_ok (acts.getD (↑q.fst : Int).toNat (Act.mk 0 0 [] []))) (((0 ≤ if 100 < (↑(acts.getD (↑q.fst : Int).toNat (Act.mk 0 0 [] [])).value.length : Int) then 100 else (↑(acts.getD (↑q.fst : Int).toNat (Act.mk 0 0 [] [])).value.length : Int)) ∧ (if 100 < (↑(acts.getD (↑q.fst : Int).toNat (Act.mk 0 0 [] [])).value.length : Int) then 100 else (↑(acts.getD (↑q.fst : Int).toNat (Act.mk 0 0 [] [])).value.length : Int)) ≤ (↑(acts.getD (↑q.fst : Int).toNat (Act.mk 0 0 [] [])).value.length : Int)) ∧ ((acts.getD (↑q.fst : Int).toNat (Act.mk 0 0 [] [])).kind = (acts.getD (↑q.fst : Int).toNat (Act.mk 0 0 [] [])).kind) ∧ ((acts.getD (↑q.fst : Int).toNat (Act.mk 0 0 [] [])).k = (acts.getD (↑q.fst : Int).toNat (Act.mk 0 0 [] [])).k) ∧ ((acts.getD (↑q.fst : Int).toNat (Act.mk 0 0 [] [])).raw = (acts.getD (↑q.fst : Int).toNat (Act.mk 0 0 [] [])).raw) ∧ ((acts.getD (↑q.fst : Int).toNat (Act.mk 0 0 [] [])).value = (acts.getD (↑q.fst : Int).toNat (Act.mk 0 0 [] [])).value)) ⟨(by omega), rfl, rfl, rfl, rfl⟩ (fun g5 p6 => ?_)
  have p6 : True := p6
  refine v_guard 32 (decide ((↑m : Int) ≤ (↑q.fst : Int))) True trivial (fun h7 => ?_) (fun h7 => ?_)
  ·have h7 := of_decide_eq_true h7
   refine v_leave (.ex 0) True trivial ?_
   exact v_ret () [4, 5] ((wordsP = wordsP) ∧ (acts = acts) ∧ (PTO q.snd.fst = PTO (growT acts m).fst) ∧ (false = false) ∧ (q.snd.snd = (growT acts m).snd)) ⟨rfl, rfl, (by (rw [GrI.stop2 ‹_› ‹_›])), rfl, (by (rw [GrI.stop2 ‹_› ‹_›]))⟩ trivial
  ·have h7 := of_decide_eq_false h7
   refine v_if (decide (90 < (↑(keyA (acts.getD (↑q.fst : Int).toNat (Act.mk 0 0 [] []))).length : Int))) True trivial (fun h8 => ?_) (fun h8 => ?_)
   ·have h8 := of_decide_eq_true h8
    refine v_leave (.ex 0) True trivial ?_
    exact v_ret () [4, 5] ((wordsP = wordsP) ∧ (acts = acts) ∧ (PTO q.snd.fst = PTO (growT acts m).fst) ∧ (false = false) ∧ (q.snd.snd = (growT acts m).snd)) ⟨rfl, rfl, (by (rw [GrI.stop3 ‹_› ‹_› ‹_› ‹_›])), rfl, (by (rw [GrI.stop3 ‹_› ‹_› ‹_› ‹_›]))⟩ trivial
   ·have h8 := of_decide_eq_false h8
    refine v_if (decide ((acts.getD (↑q.fst : Int).toNat (Act.mk 0 0 [] [])).kind % 6 < 4)) (((6 : UInt8) ≠ (0 : UInt8))) (by decide) (fun h9 => ?_) (fun h9 => ?_)
    ·have h9 := of_decide_eq_true h9
     refine v_call _ [0, 11, 10, 4] (Put_ok (q.snd.fst) (keyA (acts.getD (↑q.fst : Int).toNat (Act.mk 0 0 [] []))) (List.take (if 100 < (↑(acts.getD (↑q.fst : Int).toNat (Act.mk 0 0 [] [])).value.length : Int) then 100 else (↑(acts.getD (↑q.fst : Int).toNat (Act.mk 0 0 [] [])).value.length : Int)).toNat (acts.getD (↑q.fst : Int).toNat (Act.mk 0 0 [] [])).value) (by exact i1.2.2.1.O (by omega)) (by exact ⟨keyA_pos _, by omega⟩) (by (simp; omega))) ((wordsP = wordsP) ∧ (keyA (acts.getD (↑q.fst : Int).toNat (Act.mk 0 0 [] [])) = keyA (acts.getD (↑q.fst : Int).toNat (Act.mk 0 0 [] []))) ∧ (List.take (if 100 < (↑(acts.getD (↑q.fst : Int).toNat (Act.mk 0 0 [] [])).value.length : Int) then 100 else (↑(acts.getD (↑q.fst : Int).toNat (Act.mk 0 0 [] [])).value.length : Int)).toNat (acts.getD (↑q.fst : Int).toNat (Act.mk 0 0 [] [])).value = List.take (if 100 < (↑(acts.getD (↑q.fst : Int).toNat (Act.mk 0 0 [] [])).value.length : Int) then 100 else (↑(acts.getD (↑q.fst : Int).toNat (Act.mk 0 0 [] [])).value.length : Int)).toNat (acts.getD (↑q.fst : Int).toNat (Act.mk 0 0 [] [])).value) ∧ (PTO q.snd.fst = PTO q.snd.fst) ∧ (false = false)) ⟨rfl, rfl, rfl, rfl, rfl⟩ (fun g10 p11 => ?_)
     have p11 : True := p11
     refine v_call _ [5, 11, 10] (PutPair_ok (q.snd.snd) (keyA (acts.getD (↑q.fst : Int).toNat (Act.mk 0 0 [] []))) (List.take (if 100 < (↑(acts.getD (↑q.fst : Int).toNat (Act.mk 0 0 [] [])).value.length : Int) then 100 else (↑(acts.getD (↑q.fst : Int).toNat (Act.mk 0 0 [] [])).value.length : Int)).toNat (acts.getD (↑q.fst : Int).toNat (Act.mk 0 0 [] [])).value) (by omega)) ((q.snd.snd = q.snd.snd) ∧ (keyA (acts.getD (↑q.fst : Int).toNat (Act.mk 0 0 [] [])) = keyA (acts.getD (↑q.fst : Int).toNat (Act.mk 0 0 [] []))) ∧ (List.take (if 100 < (↑(acts.getD (↑q.fst : Int).toNat (Act.mk 0 0 [] [])).value.length : Int) then 100 else (↑(acts.getD (↑q.fst : Int).toNat (Act.mk 0 0 [] [])).value.length : Int)).toNat (acts.getD (↑q.fst : Int).toNat (Act.mk 0 0 [] [])).value = List.take (if 100 < (↑(acts.getD (↑q.fst : Int).toNat (Act.mk 0 0 [] [])).value.length : Int) then 100 else (↑(acts.getD (↑q.fst : Int).toNat (Act.mk 0 0 [] [])).value.length : Int)).toNat (acts.getD (↑q.fst : Int).toNat (Act.mk 0 0 [] [])).value)) ⟨rfl, rfl, rfl⟩ (fun g12 p13 => ?_)
     have p13 : True := p13
     exact v_back ((q.fst + 1, putO (keyA (acts.getD (↑q.fst : Int).toNat (Act.mk 0 0 [] []))) (List.take (if 100 < (↑(acts.getD (↑q.fst : Int).toNat (Act.mk 0 0 [] [])).value.length : Int) then 100 else (↑(acts.getD (↑q.fst : Int).toNat (Act.mk 0 0 [] [])).value.length : Int)).toNat (acts.getD (↑q.fst : Int).toNat (Act.mk 0 0 [] [])).value) q.snd.fst, putPair (keyA (acts.getD (↑q.fst : Int).toNat (Act.mk 0 0 [] []))) (List.take (if 100 < (↑(acts.getD (↑q.fst : Int).toNat (Act.mk 0 0 [] [])).value.length : Int) then 100 else (↑(acts.getD (↑q.fst : Int).toNat (Act.mk 0 0 [] [])).value.length : Int)).toNat (acts.getD (↑q.fst : Int).toNat (Act.mk 0 0 [] [])).value) q.snd.snd)) [12, 13] ((I64 (↑q.fst + 1)) ∧ ((↑q.fst : Int) + 1 = (↑(q.fst + 1) : Int)) ∧ (PTO (putO (keyA (acts.getD (↑q.fst : Int).toNat (Act.mk 0 0 [] []))) (List.take (if 100 < (↑(acts.getD (↑q.fst : Int).toNat (Act.mk 0 0 [] [])).value.length : Int) then 100 else (↑(acts.getD (↑q.fst : Int).toNat (Act.mk 0 0 [] [])).value.length : Int)).toNat (acts.getD (↑q.fst : Int).toNat (Act.mk 0 0 [] [])).value) q.snd.fst) = PTO (putO (keyA (acts.getD (↑q.fst : Int).toNat (Act.mk 0 0 [] []))) (List.take (if 100 < (↑(acts.getD (↑q.fst : Int).toNat (Act.mk 0 0 [] [])).value.length : Int) then 100 else (↑(acts.getD (↑q.fst : Int).toNat (Act.mk 0 0 [] [])).value.length : Int)).toNat (acts.getD (↑q.fst : Int).toNat (Act.mk 0 0 [] [])).value) q.snd.fst)) ∧ (false = false) ∧ (putPair (keyA (acts.getD (↑q.fst : Int).toNat (Act.mk 0 0 [] []))) (List.take (if 100 < (↑(acts.getD (↑q.fst : Int).toNat (Act.mk 0 0 [] [])).value.length : Int) then 100 else (↑(acts.getD (↑q.fst : Int).toNat (Act.mk 0 0 [] [])).value.length : Int)).toNat (acts.getD (↑q.fst : Int).toNat (Act.mk 0 0 [] [])).value) q.snd.snd = putPair (keyA (acts.getD (↑q.fst : Int).toNat (Act.mk 0 0 [] []))) (List.take (if 100 < (↑(acts.getD (↑q.fst : Int).toNat (Act.mk 0 0 [] [])).value.length : Int) then 100 else (↑(acts.getD (↑q.fst : Int).toNat (Act.mk 0 0 [] [])).value.length : Int)).toNat (acts.getD (↑q.fst : Int).toNat (Act.mk 0 0 [] [])).value) q.snd.snd)) ⟨(by (unfold I64; omega)), rfl, rfl, rfl, rfl⟩ (show GrI acts m (q.fst + 1, putO (keyA (acts.getD (↑q.fst : Int).toNat (Act.mk 0 0 [] []))) (List.take (if 100 < (↑(acts.getD (↑q.fst : Int).toNat (Act.mk 0 0 [] [])).value.length : Int) then 100 else (↑(acts.getD (↑q.fst : Int).toNat (Act.mk 0 0 [] [])).value.length : Int)).toNat (acts.getD (↑q.fst : Int).toNat (Act.mk 0 0 [] [])).value) q.snd.fst, putPair (keyA (acts.getD (↑q.fst : Int).toNat (Act.mk 0 0 [] []))) (List.take (if 100 < (↑(acts.getD (↑q.fst : Int).toNat (Act.mk 0 0 [] [])).value.length : Int) then 100 else (↑(acts.getD (↑q.fst : Int).toNat (Act.mk 0 0 [] [])).value.length : Int)).toNat (acts.getD (↑q.fst : Int).toNat (Act.mk 0 0 [] [])).value) q.snd.snd) ∧ acts.length - (q.fst + 1) < acts.length - q.fst from (by exact GrI.put ‹_› ‹_› ‹_› ‹_› ‹_›))
    ·have h9 := of_decide_eq_false h9
     refine v_call _ [0, 11, 4] (Cut_ok (q.snd.fst) (keyA (acts.getD (↑q.fst : Int).toNat (Act.mk 0 0 [] []))) (by exact i1.2.2.1.O (by omega))) ((wordsP = wordsP) ∧ (keyA (acts.getD (↑q.fst : Int).toNat (Act.mk 0 0 [] [])) = keyA (acts.getD (↑q.fst : Int).toNat (Act.mk 0 0 [] []))) ∧ (PTO q.snd.fst = PTO q.snd.fst) ∧ (false = false)) ⟨rfl, rfl, rfl, rfl⟩ (fun g14 p15 => ?_)
     have p15 : True := p15
     refine v_call _ [5, 11] (CutPair_ok (q.snd.snd) (keyA (acts.getD (↑q.fst : Int).toNat (Act.mk 0 0 [] []))) (by omega)) ((q.snd.snd = q.snd.snd) ∧ (keyA (acts.getD (↑q.fst : Int).toNat (Act.mk 0 0 [] [])) = keyA (acts.getD (↑q.fst : Int).toNat (Act.mk 0 0 [] [])))) ⟨rfl, rfl⟩ (fun g16 p17 => ?_)
     have p17 : True := p17
     exact v_back ((q.fst + 1, cutO (keyA (acts.getD (↑q.fst : Int).toNat (Act.mk 0 0 [] []))) q.snd.fst, cutPair (keyA (acts.getD (↑q.fst : Int).toNat (Act.mk 0 0 [] []))) q.snd.snd)) [12, 13] ((I64 (↑q.fst + 1)) ∧ ((↑q.fst : Int) + 1 = (↑(q.fst + 1) : Int)) ∧ (PTO (cutO (keyA (acts.getD (↑q.fst : Int).toNat (Act.mk 0 0 [] []))) q.snd.fst) = PTO (cutO (keyA (acts.getD (↑q.fst : Int).toNat (Act.mk 0 0 [] []))) q.snd.fst)) ∧ (false = false) ∧ (cutPair (keyA (acts.getD (↑q.fst : Int).toNat (Act.mk 0 0 [] []))) q.snd.snd = cutPair (keyA (acts.getD (↑q.fst : Int).toNat (Act.mk 0 0 [] []))) q.snd.snd)) ⟨(by (unfold I64; omega)), rfl, rfl, rfl, rfl⟩ (show GrI acts m (q.fst + 1, cutO (keyA (acts.getD (↑q.fst : Int).toNat (Act.mk 0 0 [] []))) q.snd.fst, cutPair (keyA (acts.getD (↑q.fst : Int).toNat (Act.mk 0 0 [] []))) q.snd.snd) ∧ acts.length - (q.fst + 1) < acts.length - q.fst from (by exact GrI.cut ‹_› ‹_› ‹_› ‹_› ‹_›))
 ·have h4 := of_decide_eq_false h4
  refine v_leave (.ex 0) True trivial ?_
  exact v_ret () [4, 5] ((wordsP = wordsP) ∧ (acts = acts) ∧ (PTO q.snd.fst = PTO (growT acts m).fst) ∧ (false = false) ∧ (q.snd.snd = (growT acts m).snd)) ⟨rfl, rfl, (by (rw [GrI.stop1 ‹_› ‹_›])), rfl, (by (rw [GrI.stop1 ‹_› ‹_›]))⟩ trivial
abbrev klt (a b : List UInt8) : Prop := Lib.compareBytes a b < 0
theorem cmp_anti : ∀ a b : List UInt8, Lib.compareBytes b a = - Lib.compareBytes a b
  | [], [] => rfl
  | [], _ :: _ => rfl
  | _ :: _, [] => rfl
  | a :: xs, b :: ys => by
    unfold Lib.compareBytes
    by_cases h1 : a < b
    · have h2 : ¬ b < a := fun h => absurd (UInt8.lt_trans h1 h) (UInt8.lt_irrefl _)
      simp [h1, h2]
    · by_cases h2 : b < a
      · simp [h1, h2]
      · simp only [if_neg h1, if_neg h2]; exact cmp_anti xs ys
theorem klt_trans : ∀ {a b c : List UInt8}, klt a b → klt b c → klt a c
  | [], [], _, h, _ => by simp [klt, Lib.compareBytes] at h
  | [], _ :: _, [], _, h => by simp [klt, Lib.compareBytes] at h
  | [], _ :: _, _ :: _, _, _ => by simp [klt, Lib.compareBytes]
  | _ :: _, [], _, h, _ => by simp [klt, Lib.compareBytes] at h
  | _ :: _, _ :: _, [], _, h => by simp [klt, Lib.compareBytes] at h
  | a :: xs, b :: ys, c :: zs, h1, h2 => by
    unfold klt at h1 h2 ⊢
    unfold Lib.compareBytes at h1 h2 ⊢
    by_cases p : a < b
    · by_cases q : b < c
      · rw [if_pos (UInt8.lt_trans p q)]; decide
      · rw [if_neg q] at h2
        by_cases q2 : c < b
        · rw [if_pos q2] at h2; exact absurd h2 (by decide)
        · have : b = c := UInt8.le_antisymm (UInt8.not_lt.1 q2) (UInt8.not_lt.1 q)
          subst this; rw [if_pos p]; decide
    · rw [if_neg p] at h1
      by_cases p2 : b < a
      · rw [if_pos p2] at h1; exact absurd h1 (by decide)
      · have : a = b := UInt8.le_antisymm (UInt8.not_lt.1 p2) (UInt8.not_lt.1 p)
        subst this
        rw [if_neg p2] at h1
        by_cases q : a < c
        · rw [if_pos q]; decide
        · rw [if_neg q] at h2 ⊢
          by_cases q2 : c < a
          · rw [if_pos q2] at h2; exact absurd h2 (by decide)
          · rw [if_neg q2] at h2 ⊢; exact klt_trans h1 h2
theorem klt_irr (a : List UInt8) : ¬ klt a a := by have := cmp_anti a a; unfold klt; omega
theorem kge {a b : List UInt8} (h : ¬ klt a b) : a = b ∨ klt b a := by
  have := cmp_anti a b
  unfold klt at *
  by_cases e : Lib.compareBytes a b = 0
  · exact .inl (cmp_zero.1 e)
  · exact .inr (by omega)
def Srt (l : List Pair) : Prop := l.Pairwise fun p q => klt p.key q.key
namespace Tr
theorem leaves_ne : ∀ t : Tr, ∃ v l, t.leaves = ⟨t.least, v⟩ :: l
  | leaf k v => ⟨v, [], rfl⟩
  | node l r => by
    obtain ⟨v, x, e⟩ := leaves_ne l
    exact ⟨v, x ++ r.leaves, by simp [leaves, e, least]⟩
theorem bal_leaves (l r : Tr) : (l.bal r).leaves = l.leaves ++ r.leaves := by
  unfold bal
  split
  · cases l with
    | leaf a b => rfl
    | node a b =>
      dsimp only
      split
      · cases b with
        | leaf c d => rfl
        | node c d => simp [leaves]
      · simp [leaves]
  · split
    · cases r with
      | leaf a b => rfl
      | node a b =>
        dsimp only
        split
        · cases a with
          | leaf c d => rfl
          | node c d => simp [leaves]
        · simp [leaves]
    · rfl
/-- where a key belongs -/
theorem left_of {l r : Tr} (h : Srt (node l r).leaves) {p : Pair} (hp : p ∈ l.leaves) : klt p.key r.least := by
  obtain ⟨v, x, e⟩ := leaves_ne r
  have := (List.pairwise_append.1 h).2.2 p hp ⟨r.least, v⟩ (by rw [e]; exact List.mem_cons_self ..)
  exact this
theorem right_of {r : Tr} (h : Srt r.leaves) {p : Pair} (hp : p ∈ r.leaves) : ¬ klt p.key r.least := by
  obtain ⟨v, x, e⟩ := leaves_ne r
  rw [e] at h hp
  rcases List.mem_cons.1 hp with rfl | hp
  · exact klt_irr _
  · have := (List.pairwise_cons.1 h).1 p hp
    exact fun q => klt_irr _ (klt_trans this q)
end Tr
theorem less_klt {a b : List UInt8} : Op.bytesLess a b = true ↔ klt a b := by rw [less_cmp]; simp
theorem putPair_left (k v : List UInt8) : ∀ (l r : List Pair), (∀ p ∈ r, ¬ klt p.key k ∧ p.key ≠ k) → putPair k v (l ++ r) = putPair k v l ++ r
  | [], r, h => by
    cases r with
    | nil => rfl
    | cons x r =>
      have h1 := h x (List.mem_cons_self ..)
      show (if Op.bytesLess x.key k = true then _ else _) = _
      rw [if_neg (fun q => h1.1 (less_klt.1 q)), if_neg h1.2]; rfl
  | x :: l, r, h => by
    show (if Op.bytesLess x.key k = true then _ else _) = (if Op.bytesLess x.key k = true then _ else _) ++ r
    split
    · show x :: putPair k v (l ++ r) = x :: (putPair k v l ++ r)
      rw [putPair_left k v l r h]
    · split <;> simp
theorem putPair_right (k v : List UInt8) : ∀ (l r : List Pair), (∀ p ∈ l, klt p.key k) → putPair k v (l ++ r) = l ++ putPair k v r
  | [], r, h => rfl
  | x :: l, r, h => by
    show (if Op.bytesLess x.key k = true then _ else _) = _
    rw [if_pos (less_klt.2 (h x (List.mem_cons_self ..)))]
    show x :: putPair k v (l ++ r) = x :: (l ++ putPair k v r)
    rw [putPair_right k v l r (fun p hp => h p (List.mem_cons_of_mem _ hp))]
theorem mem_putPair {k v : List UInt8} : ∀ {l : List Pair} {p : Pair}, p ∈ putPair k v l → p = ⟨k, v⟩ ∨ p ∈ l
  | [], p, h => .inl (by simpa [putPair] using h)
  | x :: l, p, h => by
    unfold putPair at h
    split at h
    · rcases List.mem_cons.1 h with rfl | h
      · exact .inr (List.mem_cons_self ..)
      · rcases mem_putPair h with h | h
        · exact .inl h
        · exact .inr (List.mem_cons_of_mem _ h)
    · split at h
      · rcases List.mem_cons.1 h with h | h
        · exact .inl h
        · exact .inr (List.mem_cons_of_mem _ h)
      · rcases List.mem_cons.1 h with h | h
        · exact .inl h
        · exact .inr h
theorem Srt.put {k v : List UInt8} : ∀ {l : List Pair}, Srt l → Srt (putPair k v l)
  | [], h => List.pairwise_singleton ..
  | x :: l, h => by
    obtain ⟨h1, h2⟩ := List.pairwise_cons.1 h
    unfold putPair
    split
    · rename_i q
      have q := less_klt.1 q
      refine List.pairwise_cons.2 ⟨fun p hp => ?_, Srt.put h2⟩
      rcases mem_putPair hp with rfl | hp
      · exact q
      · exact h1 p hp
    · rename_i q
      have q : ¬ klt x.key k := fun e => q (less_klt.2 e)
      split
      · rename_i e
        exact List.pairwise_cons.2 ⟨fun p hp => by have := h1 p hp; rw [e] at this; exact this, h2⟩
      · rename_i e
        have hx : klt k x.key := (kge q).resolve_left e
        exact List.pairwise_cons.2 ⟨fun p hp => by
          rcases List.mem_cons.1 hp with rfl | hp
          · exact hx
          · exact klt_trans hx (h1 p hp), h⟩
theorem Srt.cut {k : List UInt8} {l : List Pair} (h : Srt l) : Srt (cutPair k l) := List.Pairwise.sublist List.filter_sublist h
namespace Tr
theorem put_leaves (k v : List UInt8) : ∀ t : Tr, Srt t.leaves → (t.put k v).leaves = putPair k v t.leaves
  | leaf a b, _ => by
    unfold put
    show _ = (if Op.bytesLess a k = true then _ else _)
    have := cmp_anti k a
    by_cases h1 : Lib.compareBytes k a < 0
    · rw [if_pos h1, if_neg (fun q => by have := less_t q; omega), if_neg (fun e => by subst e; exact klt_irr _ h1)]; rfl
    · rw [if_neg h1]
      by_cases h2 : 0 < Lib.compareBytes k a
      · rw [if_pos h2, if_pos (less_klt.2 (by unfold klt; omega))]; rfl
      · have e : k = a := cmp_zero.1 (by omega)
        rw [if_neg h2, if_neg (fun q => by have := less_t q; omega), if_pos e.symm]; rfl
  | node l r, h => by
    have hl : Srt l.leaves := (List.pairwise_append.1 h).1
    have hr : Srt r.leaves := (List.pairwise_append.1 h).2.1
    unfold put
    split
    · rename_i q
      rw [bal_leaves, put_leaves k v l hl]
      refine (putPair_left k v l.leaves r.leaves fun p hp => ?_).symm
      have h2 := right_of hr hp
      exact ⟨fun e => h2 (klt_trans e q), fun e => h2 (by rw [e]; exact q)⟩
    · rename_i q
      rw [bal_leaves, put_leaves k v r hr]
      refine (putPair_right k v l.leaves r.leaves fun p hp => ?_).symm
      have h2 := left_of h hp
      rcases kge q with e | e
      · rw [e]; exact h2
      · exact klt_trans h2 e
theorem cut_leaves (k : List UInt8) : ∀ t : Tr, Srt t.leaves → (t.cut k = none ∧ ∀ p ∈ t.leaves, p.key ≠ k) ∨ ∃ r, t.cut k = some r ∧ leavesO r = cutPair k t.leaves ∧ ∃ p ∈ t.leaves, p.key = k
  | leaf a b, _ => by
    unfold cut
    by_cases e : a = k
    · rw [if_pos e]; exact .inr ⟨none, rfl, by simp [leavesO, cutPair, leaves, e], _, List.mem_singleton_self _, e⟩
    · rw [if_neg e]; exact .inl ⟨rfl, fun p hp => by rw [List.mem_singleton.1 hp]; exact e⟩
  | node l r, h => by
    have hl : Srt l.leaves := (List.pairwise_append.1 h).1
    have hr : Srt r.leaves := (List.pairwise_append.1 h).2.1
    unfold cut
    by_cases q : Lib.compareBytes k r.least < 0
    · rw [if_pos q]
      have nr : ∀ p ∈ r.leaves, p.key ≠ k := fun p hp e => right_of hr hp (by rw [e]; exact q)
      have er : cutPair k r.leaves = r.leaves := List.filter_eq_self.2 fun p hp => decide_eq_true (nr p hp)
      rcases cut_leaves k l hl with ⟨e, hn⟩ | ⟨x, e, e2, p, hp, hk⟩
      · rw [e]; exact .inl ⟨rfl, fun p hp => by rcases List.mem_append.1 hp with hp | hp; exact hn p hp; exact nr p hp⟩
      · rw [e]
        refine .inr ?_
        have e3 : cutPair k (node l r).leaves = leavesO x ++ r.leaves := by
          show cutPair k (l.leaves ++ r.leaves) = _
          rw [e2, ← er]; simp [cutPair, List.filter_append]
        cases x with
        | none => exact ⟨some r, rfl, by rw [e3]; rfl, p, List.mem_append_left _ hp, hk⟩
        | some l' => exact ⟨some (l'.bal r), rfl, by rw [e3]; exact bal_leaves _ _, p, List.mem_append_left _ hp, hk⟩
    · rw [if_neg q]
      have nl : ∀ p ∈ l.leaves, p.key ≠ k := fun p hp e => q (by have := left_of h hp; rw [e] at this; exact this)
      have el : cutPair k l.leaves = l.leaves := List.filter_eq_self.2 fun p hp => decide_eq_true (nl p hp)
      rcases cut_leaves k r hr with ⟨e, hn⟩ | ⟨x, e, e2, p, hp, hk⟩
      · rw [e]; exact .inl ⟨rfl, fun p hp => by rcases List.mem_append.1 hp with hp | hp; exact nl p hp; exact hn p hp⟩
      · rw [e]
        refine .inr ?_
        have e3 : cutPair k (node l r).leaves = l.leaves ++ leavesO x := by
          show cutPair k (l.leaves ++ r.leaves) = _
          rw [e2, ← el]; simp [cutPair, List.filter_append]
        cases x with
        | none => exact ⟨some l, rfl, by rw [e3]; simp [leavesO], p, List.mem_append_right _ hp, hk⟩
        | some r' => exact ⟨some (l.bal r'), rfl, by rw [e3]; exact bal_leaves _ _, p, List.mem_append_right _ hp, hk⟩
end Tr
theorem putO_leaves {k v : List UInt8} {o : Option Tr} (h : Srt (leavesO o)) : leavesO (putO k v o) = putPair k v (leavesO o) := by
  cases o with
  | none => rfl
  | some t => exact Tr.put_leaves k v t h
theorem cutO_leaves {k : List UInt8} {o : Option Tr} (h : Srt (leavesO o)) : leavesO (cutO k o) = cutPair k (leavesO o) := by
  cases o with
  | none => rfl
  | some t =>
    rcases Tr.cut_leaves k t h with ⟨e, hn⟩ | ⟨r, e, e2, _⟩
    · rw [show cutO k (some t) = some t by simp [cutO, e]]
      exact (List.filter_eq_self.2 fun p hp => decide_eq_true (hn p hp)).symm
    · rw [show cutO k (some t) = r by simp [cutO, e]]; exact e2
theorem growG_ok : ∀ (n : Nat) (acts : List Act) (s : Option Tr × List Pair), Srt (leavesO s.1) → s.2 = leavesO s.1 → Srt (leavesO (growG n acts s).1) ∧ (growG n acts s).2 = leavesO (growG n acts s).1
  | 0, acts, s, h, e => by unfold growG; exact ⟨h, e⟩
  | n + 1, [], s, h, e => by unfold growG; exact ⟨h, e⟩
  | n + 1, a :: l, s, h, e => by
    unfold growG
    split
    · exact ⟨h, e⟩
    · refine growG_ok n l _ ?_ ?_ <;> unfold stepA <;> split
      · rw [putO_leaves h]; exact h.put
      · rw [cutO_leaves h]; exact h.cut
      · rw [putO_leaves h, e]
      · rw [cutO_leaves h, e]
theorem growT_ok (acts : List Act) (m : Nat) : Srt (leavesO (growT acts m).1) ∧ (growT acts m).2 = leavesO (growT acts m).1 := growG_ok m acts (none, []) List.Pairwise.nil rfl
theorem findG_ge {k : List UInt8} : ∀ {l : List Pair} {i : Nat}, 0 ≤ findG k l i ↔ ∃ p ∈ l, p.key = k
  | [], i => by simp [findG]
  | x :: xs, i => by
    unfold findG
    split
    · rename_i h; exact ⟨fun _ => ⟨x, List.mem_cons_self .., h⟩, fun _ => by omega⟩
    · rename_i h
      rw [findG_ge (l := xs)]
      exact ⟨fun ⟨p, a, b⟩ => ⟨p, List.mem_cons_of_mem _ a, b⟩, fun ⟨p, a, b⟩ => by rcases List.mem_cons.1 a with rfl | a; exact absurd b h; exact ⟨p, a, b⟩⟩
theorem find_ge {k : List UInt8} {l : List Pair} : 0 ≤ findP l k ↔ ∃ p ∈ l, p.key = k := findG_ge
theorem cut_there {k : List UInt8} {o : Option Tr} (h : Srt (leavesO o)) (hf : 0 ≤ findP (leavesO o) k) : o.isNone = false ∧ ((gt o).cut k).isSome = true ∧ cutR k (gt o) = cutO k o := by
  obtain ⟨p, hp, hk⟩ := find_ge.1 hf
  cases o with
  | none => simp [leavesO] at hp
  | some t =>
    rcases Tr.cut_leaves k t h with ⟨e, hn⟩ | ⟨r, e, e2, _⟩
    · exact absurd hk (hn p hp)
    · exact ⟨rfl, by show (t.cut k).isSome = true; rw [e]; rfl, by show (t.cut k).getD none = _; rw [e, show cutO k (some t) = r by simp [cutO, e]]; rfl⟩
theorem cut_not {k : List UInt8} {o : Option Tr} (h : Srt (leavesO o)) (hf : ¬ 0 ≤ findP (leavesO o) k) : cutO k o = o := by
  cases o with
  | none => rfl
  | some t =>
    rcases Tr.cut_leaves k t h with ⟨e, hn⟩ | ⟨r, e, e2, p, hp, hk⟩
    · simp [cutO, e]
    · exact absurd (find_ge.2 ⟨p, hp, hk⟩) hf
def GrN (acts : List Act) (m : Nat) (q : Nat × Option Tr) : Prop := GrI acts m (q.1, q.2, leavesO q.2) ∧ Srt (leavesO q.2)
section
variable {acts : List Act} {m i : Nat} {o : Option Tr}
theorem GrN.start : GrN acts m (0, none) := ⟨GrI.start, List.Pairwise.nil⟩
theorem GrN.put (h : GrN acts m (i, o)) (hi : (i : Int) < acts.length) (hm : ¬ (m : Int) ≤ i) (hk : ¬ 90 < ((keyA (acts.getD i dA)).length : Int)) (h6 : (acts.getD i dA).kind % 6 < 4) : GrN acts m (i + 1, putO (keyA (acts.getD i dA)) (valA (acts.getD i dA)) o) ∧ acts.length - (i + 1) < acts.length - i := by
  have g := h.1.put hi hm hk h6
  have e : leavesO (putO (keyA (acts.getD i dA)) (valA (acts.getD i dA)) o) = putPair (keyA (acts.getD i dA)) (valA (acts.getD i dA)) (leavesO o) := putO_leaves h.2
  refine ⟨⟨by show GrI acts m (i + 1, _, leavesO (putO _ _ o)); rw [e]; exact g.1, by show Srt (leavesO (putO _ _ o)); rw [e]; exact h.2.put⟩, by omega⟩
theorem GrN.cutO (h : GrN acts m (i, o)) (hi : (i : Int) < acts.length) (hm : ¬ (m : Int) ≤ i) (hk : ¬ 90 < ((keyA (acts.getD i dA)).length : Int)) (h6 : ¬ (acts.getD i dA).kind % 6 < 4) : GrN acts m (i + 1, X.cutO (keyA (acts.getD i dA)) o) ∧ acts.length - (i + 1) < acts.length - i := by
  have g := h.1.cut hi hm hk h6
  have e : leavesO (X.cutO (keyA (acts.getD i dA)) o) = cutPair (keyA (acts.getD i dA)) (leavesO o) := cutO_leaves h.2
  refine ⟨⟨by show GrI acts m (i + 1, _, leavesO (X.cutO _ o)); rw [e]; exact g.1, by show Srt (leavesO (X.cutO _ o)); rw [e]; exact h.2.cut⟩, by omega⟩
theorem GrN.cut (h : GrN acts m (i, o)) (hi : (i : Int) < acts.length) (hm : ¬ (m : Int) ≤ i) (hk : ¬ 90 < ((keyA (acts.getD i dA)).length : Int)) (h6 : ¬ (acts.getD i dA).kind % 6 < 4) (hf : 0 ≤ findP (leavesO o) (keyA (acts.getD i dA))) : GrN acts m (i + 1, cutR (keyA (acts.getD i dA)) (gt o)) ∧ acts.length - (i + 1) < acts.length - i := by
  rw [(cut_there h.2 hf).2.2]; exact h.cutO hi hm hk h6
theorem GrN.skip (h : GrN acts m (i, o)) (hi : (i : Int) < acts.length) (hm : ¬ (m : Int) ≤ i) (hk : ¬ 90 < ((keyA (acts.getD i dA)).length : Int)) (h6 : ¬ (acts.getD i dA).kind % 6 < 4) (hf : ¬ 0 ≤ findP (leavesO o) (keyA (acts.getD i dA))) : GrN acts m (i + 1, o) ∧ acts.length - (i + 1) < acts.length - i := by
  have := h.cutO hi hm hk h6; rwa [cut_not h.2 hf] at this
theorem GrN.hh (h : GrN acts m (i, o)) (hm : m ≤ 100) : (gt o).height < 700 ∧ (leavesO o).length ≤ 100000 := by
  obtain ⟨⟨_, a2, _, a4, _⟩, _⟩ := h
  have a2 : i ≤ m := a2
  have l := a4.leaves
  have l : (leavesO o).length ≤ i := l
  refine ⟨?_, by omega⟩
  cases o with
  | none => decide
  | some t => have := (a4 t rfl).2; have := t.height_depth; show t.height < 700; have q : t.depth + 1 ≤ i := (a4 t rfl).2; omega
end
section
variable {acts : List Act} {m i : Nat} {o : Option Tr}
theorem GrN.s1 (h : GrN acts m (i, o)) (hi : ¬ (i : Int) < acts.length) : (growT acts m).1 = o := by rw [h.1.stop1 hi]
theorem GrN.s2 (h : GrN acts m (i, o)) (hi : (m : Int) ≤ i) : (growT acts m).1 = o := by rw [h.1.stop2 hi]
theorem GrN.s3 (h : GrN acts m (i, o)) (hi : (i : Int) < acts.length) (hm : ¬ (m : Int) ≤ i) (hk : 90 < ((keyA (acts.getD i dA)).length : Int)) : (growT acts m).1 = o := by rw [h.1.stop3 hi hm hk]
end
namespace Tr
theorem fin_mem (k : List UInt8) : ∀ t : Tr, (⟨(t.fin k).key, (t.fin k).value⟩ : Pair) ∈ t.leaves
  | leaf a b => List.mem_singleton_self _
  | node l r => by
    unfold fin; split
    · exact List.mem_append_right _ (fin_mem k r)
    · exact List.mem_append_left _ (fin_mem k l)
end Tr
theorem ben_cons (x : Turn) (l : List Turn) (i : Nat) : ben (x :: l) (i + 1) = ben l i := by
  unfold ben
  by_cases h : (i : Int) < l.length
  · rw [if_pos h, if_pos (by simp; omega)]; simp
  · rw [if_neg h, if_neg (by simp; omega)]
theorem ben_zero (x : Turn) (l : List Turn) : ben (x :: l) 0 = x.height := by unfold ben; rw [if_pos (by simp)]; rfl
theorem bad_cons (x : Turn) (l : List Turn) (i : Nat) : bad (x :: l) (i + 1) ↔ bad l i := by unfold bad; rw [ben_cons]; simp
namespace Tr
theorem ben_turns (k : List UInt8) : ∀ t : Tr, ben (t.turns k) 0 = t.height
  | leaf a b => rfl
  | node l r => by unfold turns; rw [ben_zero]; rfl
theorem turns_good (k : List UInt8) : ∀ t : Tr, t.height ≤ 64 → ∀ i, i < (t.turns k).length → ¬ bad (t.turns k) i
  | leaf a b, _, i, hi => by simp [turns] at hi
  | node l r, h, i, hi => by
    have hh : (node l r).height = 1 + max l.height r.height := rfl
    have hc : ∀ j, j < (if (node l r).rt k then r.turns k else l.turns k).length → ¬ bad (if (node l r).rt k then r.turns k else l.turns k) j := by
      split
      · exact turns_good k r (by omega)
      · exact turns_good k l (by omega)
    have hb : ben (if (node l r).rt k then r.turns k else l.turns k) 0 < (node l r).height := by
      split <;> rw [ben_turns] <;> omega
    unfold turns at hi ⊢
    cases i with
    | zero =>
      unfold bad; rw [ben_cons]
      show ¬ ((node l r).height ≤ _ ∨ 64 < (node l r).height); omega
    | succ i => rw [bad_cons]; exact hc i (by simpa using hi)
theorem turns_len (k : List UInt8) : ∀ t : Tr, ((t.turns k).length : Int) ≤ t.height
  | leaf a b => Int.le_refl _
  | node l r => by
    have h1 := turns_len k l; have h2 := turns_len k r
    have hh : (node l r).height = 1 + max l.height r.height := rfl
    unfold turns; rw [List.length_cons]; split <;> omega
theorem turns_hash (k : List UInt8) : ∀ t : Tr, (t.turns k).foldr stepH (nsum 0 1 (t.fin k).key (t.fin k).value z32 z32) = t.hash
  | leaf a b => rfl
  | node l r => by
    unfold turns fin
    rw [List.foldr_cons]
    have hp : ¬ (node l r).height = 0 := by have := height_pos (l := l) (r := r); omega
    have ns : ∀ (x y : List UInt8), nsum (node l r).height (node l r).size [] [] x y = nsum (node l r).height (node l r).size r.least [] x y := fun x y => by
      unfold nsum; rw [if_neg hp, if_neg hp]
    have l1 : (mk32 (node l r).lh).l = l.hash := mk32_of l.hash_len
    have l2 : (mk32 (node l r).rh).l = r.hash := mk32_of r.hash_len
    cases e : (node l r).rt k
    · simp only [Bool.false_eq_true, if_false]
      rw [turns_hash k l]
      unfold stepH turn; rw [e]; simp only [Bool.false_eq_true, if_false]
      rw [l2, ns]; rfl
    · simp only [if_true]
      rw [turns_hash k r]
      unfold stepH turn; rw [e]; simp only [if_true]
      rw [l1, ns]; rfl
end Tr
/-- Leaves as they come from calls. -/
def lvOk (l : List Pair) : Prop := ∀ p ∈ l, (1 ≤ p.key.length ∧ p.key.length ≤ 90) ∧ p.value.length ≤ 100
theorem growG_lv : ∀ (n : Nat) (acts : List Act) (s : Option Tr × List Pair), lvOk s.2 → lvOk (growG n acts s).2
  | 0, acts, s, h => by unfold growG; exact h
  | n + 1, [], s, h => by unfold growG; exact h
  | n + 1, a :: l, s, h => by
    unfold growG
    split
    · exact h
    · rename_i hk
      refine growG_lv n l _ ?_
      unfold stepA; split
      · intro p hp
        rcases mem_putPair hp with rfl | hp
        · exact ⟨⟨keyA_pos a, by show (keyA a).length ≤ 90; omega⟩, valA_len a⟩
        · exact h p hp
      · intro p hp; exact h p (List.mem_filter.1 hp).1
theorem growT_lv (acts : List Act) (m : Nat) : lvOk (leavesO (growT acts m).1) := by rw [← (growT_ok acts m).2]; exact growG_lv m acts _ (fun p hp => by simp at hp)
theorem growG_okN : ∀ (n i : Nat) (acts : List Act) (s : Option Tr × List Pair), okN i s.1 → okN (n + i) (growG n acts s).1
  | 0, i, acts, s, h => by unfold growG; rw [Nat.zero_add]; exact h
  | n + 1, i, [], s, h => by unfold growG; exact fun t e => ⟨(h t e).1, by have := (h t e).2; omega⟩
  | n + 1, i, a :: l, s, h => by
    unfold growG
    split
    · exact fun t e => ⟨(h t e).1, by have := (h t e).2; omega⟩
    · rename_i hk
      rw [show n + 1 + i = n + (i + 1) by omega]
      refine growG_okN n (i + 1) l _ ?_
      unfold stepA; split
      · exact okN.put h (by omega) (by have := valA_len a; omega)
      · exact okN.cut h
theorem growT_okN (acts : List Act) (m : Nat) : okN m (growT acts m).1 := by have := growG_okN m 0 acts (none, []) (fun t e => by simp at e); exact this
/-- A tree as calls make it: sorted, small. -/
def fine (o : Option Tr) : Prop := Srt (leavesO o) ∧ lvOk (leavesO o) ∧ okN 64 o
theorem growT_fine (acts : List Act) (m : Nat) (hm : m ≤ 64) : fine (growT acts m).1 := ⟨(growT_ok acts m).1, growT_lv acts m, fun t e => ⟨(growT_okN acts m t e).1, by have := (growT_okN acts m t e).2; omega⟩⟩
theorem fine.O {o : Option Tr} (h : fine o) : okO o := h.2.2.O (by decide)
/-- What is made leads to the root. -/
theorem verify_make {o : Option Tr} {k : List UInt8} (h : fine o) (hk : mkB k o = true) : rootP (mkP k o) = (hashO o, none) := by
  cases o with
  | none => simp [mkB] at hk
  | some t =>
    simp only [mkB, decide_eq_true_eq] at hk
    have hl := h.2.1 _ (Tr.fin_mem k t)
    have hh : t.height ≤ 64 := by have := (h.2.2 t rfl).2; have := t.height_depth; omega
    have hg := Tr.turns_good k t hh
    have h1 : ¬ 64 < (t.turns k).length := by have := Tr.turns_len k t; omega
    have e2 := rootN_ok (t.turns k) hg _ (nsum 0 1 (t.fin k).key (t.fin k).value z32 z32) (Nat.le_refl _)
    rw [ben_end, List.take_length, Tr.turns_hash] at e2
    simp only [mkP, if_pos hk]
    unfold rootP
    simp only
    rw [if_neg h1, if_neg (by simp only at hl; omega)]; exact e2
theorem verP_make {o : Option Tr} {k : List UInt8} (h : fine o) (hk : mkB k o = true) : verP (hashO o) (mkP k o) = none := by
  unfold verP; rw [verify_make h hk]; simp
noncomputable def ccW1_15 : Code := (Tryd.f15.body).getD .skip
theorem Awake9_aux (o0 : okO none) (o1 : okO (putO [97] [49] none)) (o2 : okO (putO [98] [50] (putO [97] [49] none))) (m1 : mkB [98] (putO [98] [50] (putO [97] [49] none)) = true) (n1 : (noneR [99] (putO [98] [50] (putO [97] [49] none))).isSome = true)
  (lv : (leavesO (putO [98] [50] (putO [97] [49] none))).length ≤ 900000) (tl : (mkP [98] (putO [98] [50] (putO [97] [49] none))).turns.length = 1) (tr : ((mkP [98] (putO [98] [50] (putO [97] [49] none))).turns.getD 0 ⟨0, 0, false, zero32⟩).right = true)
  (v1 : verP (hashO (putO [98] [50] (putO [97] [49] none))) (mkP [98] (putO [98] [50] (putO [97] [49] none))) = none) (v2 : codeO (verP (sum256 []) (mkP [98] (putO [98] [50] (putO [97] [49] none)))) = 21)
  (g1 : (gapL [99] (putO [98] [50] (putO [97] [49] none))).1.isNone = false) (g2 : (gapL [99] (putO [98] [50] (putO [97] [49] none))).2.isNone = true)
  (v3 : vgP (hashO (putO [98] [50] (putO [97] [49] none))) [99] (gapL [99] (putO [98] [50] (putO [97] [49] none))).1 (gapL [99] (putO [98] [50] (putO [97] [49] none))).2 = none)
  (l1 : (gp (gapL [99] (putO [98] [50] (putO [97] [49] none))).1).turns.length ≤ 1000000) (l2 : (gp (gapL [99] (putO [98] [50] (putO [97] [49] none))).2).turns.length ≤ 1000000) : FOk EN 15 ⟨[.pr wordsP, .pr etP], [], Unit, fun _ => ([.pr wordsP, .pr etP], .b true), fun _ => True⟩ := by
 refine v_fun Tryd.f15 ccW1_15 MX (fun ν F σ w => ?_) Tryd.func15
 refine v_nl ?_
 refine v_call _ [0] (new_ok) ((wordsP = wordsP)) rfl (fun g1 p2 => ?_)
 have p2 : True := p2
 refine v_call _ [0, 4, 5, 3] (Put_ok (none) ([97]) ([49]) ‹_› (by decide) (by decide)) ((0 < 1) ∧ (0 < 1) ∧ (wordsP = wordsP) ∧ ([(97 : UInt8)] = [(97 : UInt8)]) ∧ ([(49 : UInt8)] = [(49 : UInt8)]) ∧ (PTO none = PTO none) ∧ (false = false)) ⟨(by decide), (by decide), rfl, rfl, rfl, rfl, rfl⟩ (fun g3 p4 => ?_)
 have p4 : True := p4
 refine v_call _ [0, 7, 8, 6] (Put_ok (putO [97] [49] none) ([98]) ([50]) ‹_› (by decide) (by decide)) ((0 < 1) ∧ (0 < 1) ∧ (wordsP = wordsP) ∧ ([(98 : UInt8)] = [(98 : UInt8)]) ∧ ([(50 : UInt8)] = [(50 : UInt8)]) ∧ (PTO (putO [97] [49] none) = PTO (putO [97] [49] none)) ∧ (false = false)) ⟨(by decide), (by decide), rfl, rfl, rfl, rfl, rfl⟩ (fun g5 p6 => ?_)
 have p6 : True := p6
 refine v_call _ [10, 9] (Make_ok (putO [98] [50] (putO [97] [49] none)) ([98]) ‹_›) ((0 < 1) ∧ ([(98 : UInt8)] = [(98 : UInt8)]) ∧ (PTO (putO [98] [50] (putO [97] [49] none)) = PTO (putO [98] [50] (putO [97] [49] none))) ∧ (false = false)) ⟨(by decide), rfl, rfl, rfl⟩ (fun g7 p8 => ?_)
 have p8 : True := p8
 refine v_call _ [15, 9] (None_ok (putO [98] [50] (putO [97] [49] none)) ([99]) ‹_› (by decide)) ((0 < 1) ∧ ([(99 : UInt8)] = [(99 : UInt8)]) ∧ (PTO (putO [98] [50] (putO [97] [49] none)) = PTO (putO [98] [50] (putO [97] [49] none))) ∧ (false = false)) ⟨(by decide), rfl, rfl, rfl⟩ (fun g9 p10 => ?_)
 have p10 : True := p10
 refine v_join [39, 40, 41, 42, 43, 44, 45, 46, 47, 48, 49, 50, 51, 52, 53, 54, 55, 56, 57, 58, 59, 60, 61, 62, 63, 64, 65, 66, 67, 68, 69, 70, 71, 72, 73, 74, 75, 76, 77, 78, 79, 80, 81, 82, 83, 84, 85, 86, 87, 88, 0] [] (fun _ : Unit => ([(0, SV.b (vgP (hashO (putO [98] [50] (putO [97] [49] none))) [99] (gapL [99] (putO [98] [50] (putO [97] [49] none))).fst (gapL [99] (putO [98] [50] (putO [97] [49] none))).snd).isNone)], [])) (fun _ => True) ?_ (fun _ _ => ?_) True trivial
 ·skip
  refine v_plan (.fs [0, 1, 2, 3, 4, 5, 6, 7, 8, 9, 10, 11, 12, 13, 14, 15, 16, 17, 18, 20] (.o 19 (.o 21 (.fs [22, 23, 24, 26] (.o 25 (.o 27 (.o 28 (.fs [29, 30, 31, 32, 33, 34, 35, 36, 37, 38, 39, 40, 41, 42, 46] (.c 43 (.o 44 (.o 45 (.o 47 (.fs [48, 49, 50] .e)))) (.o 44 (.c 43 (.o 45 (.o 47 (.fs [48, 49, 50] .e))) (.o 45 (.o 43 (.o 47 (.fs [48, 49, 50] .e))))))))))))))) [14, 18] True trivial ?_
  refine v_guard 40 (mkB [98] (putO [98] [50] (putO [97] [49] none))) True trivial (fun h11 => ?_) (fun h11 => ?_)
  ·skip
   refine v_guard 43 ((noneR [99] (putO [98] [50] (putO [97] [49] none))).isSome) True trivial (fun h12 => ?_) (fun h12 => ?_)
   ·skip
    refine v_guard 49 (decide ((↑(mkP [98] (putO [98] [50] (putO [97] [49] none))).turns.length : Int) = 1)) True trivial (fun h13 => ?_) (fun h13 => ?_)
    ·have h13 := of_decide_eq_true h13
     refine v_guard 56 (((mkP [98] (putO [98] [50] (putO [97] [49] none))).turns.getD 0 (Turn.mk 0 0 false zero32)).right) (((0 : Int) ≤ (0 : Int) ∧ (0 : Int) < (↑(mkP [(98 : UInt8)] (putO [(98 : UInt8)] [(50 : UInt8)] (putO [(97 : UInt8)] [(49 : UInt8)] none))).turns.length : Int))) (by decide) (fun h14 => ?_) (fun h14 => ?_)
     ·skip
      refine v_call _ [0, 9] (Root_ok (putO [98] [50] (putO [97] [49] none))) ((wordsP = wordsP) ∧ (PTO (putO [98] [50] (putO [97] [49] none)) = PTO (putO [98] [50] (putO [97] [49] none))) ∧ (false = false)) ⟨rfl, rfl, rfl⟩ (fun g15 p16 => ?_)
      have p16 : True := p16
      refine v_call _ [0, 11, 12, 13] (Verify_ok (hashO (putO [98] [50] (putO [97] [49] none))) (mkP [98] (putO [98] [50] (putO [97] [49] none))) rfl) ((hashO (putO [98] [50] (putO [97] [49] none)) = hashO (putO [98] [50] (putO [97] [49] none))) ∧ (wordsP = wordsP) ∧ ((mkP [98] (putO [98] [50] (putO [97] [49] none))).key = (mkP [98] (putO [98] [50] (putO [97] [49] none))).key) ∧ ((mkP [98] (putO [98] [50] (putO [97] [49] none))).value = (mkP [98] (putO [98] [50] (putO [97] [49] none))).value) ∧ ((mkP [98] (putO [98] [50] (putO [97] [49] none))).turns = (mkP [98] (putO [98] [50] (putO [97] [49] none))).turns)) ⟨rfl, rfl, rfl, rfl, rfl⟩ (fun g17 p18 => ?_)
      have p18 : True := p18
      refine v_guard 63 ((verP (hashO (putO [98] [50] (putO [97] [49] none))) (mkP [98] (putO [98] [50] (putO [97] [49] none)))).isNone) True trivial (fun h19 => ?_) (fun h19 => ?_)
      ·skip
       refine v_call _ [0] (Empty_ok) ((wordsP = wordsP)) rfl (fun g20 p21 => ?_)
       have p21 : True := p21
       refine v_call _ [0, 11, 12, 13] (Verify_ok (sum256 []) (mkP [98] (putO [98] [50] (putO [97] [49] none))) rfl) ((sum256 [] = sum256 []) ∧ (wordsP = wordsP) ∧ ((mkP [98] (putO [98] [50] (putO [97] [49] none))).key = (mkP [98] (putO [98] [50] (putO [97] [49] none))).key) ∧ ((mkP [98] (putO [98] [50] (putO [97] [49] none))).value = (mkP [98] (putO [98] [50] (putO [97] [49] none))).value) ∧ ((mkP [98] (putO [98] [50] (putO [97] [49] none))).turns = (mkP [98] (putO [98] [50] (putO [97] [49] none))).turns)) ⟨rfl, rfl, rfl, rfl, rfl⟩ (fun g22 p23 => ?_)
       have p23 : True := p23
       refine v_call _ [1, 21] (Code_ok (verP (sum256 []) (mkP [98] (putO [98] [50] (putO [97] [49] none)))) (by exact Nat.le_trans (verP_dep _ _) (by decide))) ((etP = etP) ∧ (PE (verP (sum256 []) (mkP [98] (putO [98] [50] (putO [97] [49] none)))) = PE (verP (sum256 []) (mkP [98] (putO [98] [50] (putO [97] [49] none))))) ∧ ((verP (sum256 []) (mkP [98] (putO [98] [50] (putO [97] [49] none)))).isNone = (verP (sum256 []) (mkP [98] (putO [98] [50] (putO [97] [49] none)))).isNone)) ⟨rfl, rfl, rfl⟩ (fun g24 p25 => ?_)
       have p25 : True := p25
       refine v_guard 70 (decide (codeO (verP (sum256 []) (mkP [98] (putO [98] [50] (putO [97] [49] none)))) = 21)) True trivial (fun h26 => ?_) (fun h26 => ?_)
       ·have h26 := of_decide_eq_true h26
        refine v_guard 75 (!(gapL [99] (putO [98] [50] (putO [97] [49] none))).fst.isNone) True trivial (fun h27 => ?_) (fun h27 => ?_)
        ·have h27 := (nt h27)
         refine v_guard 80 ((gapL [99] (putO [98] [50] (putO [97] [49] none))).snd.isNone) True trivial (fun h28 => ?_) (fun h28 => ?_)
         ·skip
          refine v_pick True trivial ?_ ?_
          ·skip
           refine v_call _ [0, 9] (Root_ok (putO [98] [50] (putO [97] [49] none))) ((wordsP = wordsP) ∧ (PTO (putO [98] [50] (putO [97] [49] none)) = PTO (putO [98] [50] (putO [97] [49] none))) ∧ (false = false)) ⟨rfl, rfl, rfl⟩ (fun g29 p30 => ?_)
           have p30 : True := p30
           refine v_call _ [0, 22, 16, 17] (VerifyGap_ok (hashO (putO [98] [50] (putO [97] [49] none))) ([99]) ((gapL [99] (putO [98] [50] (putO [97] [49] none))).fst) ((gapL [99] (putO [98] [50] (putO [97] [49] none))).snd) rfl (by decide) (by decide)) ((0 < 1) ∧ (hashO (putO [98] [50] (putO [97] [49] none)) = hashO (putO [98] [50] (putO [97] [49] none))) ∧ (wordsP = wordsP) ∧ ([(99 : UInt8)] = [(99 : UInt8)]) ∧ ((gapL [99] (putO [98] [50] (putO [97] [49] none))).fst = (gapL [99] (putO [98] [50] (putO [97] [49] none))).fst) ∧ ((gapL [99] (putO [98] [50] (putO [97] [49] none))).snd = (gapL [99] (putO [98] [50] (putO [97] [49] none))).snd)) ⟨(by decide), rfl, rfl, rfl, rfl, rfl⟩ (fun g31 p32 => ?_)
           have p32 : True := p32
           exact v_back (()) [] (((vgP (hashO (putO [98] [50] (putO [97] [49] none))) [99] (gapL [99] (putO [98] [50] (putO [97] [49] none))).fst (gapL [99] (putO [98] [50] (putO [97] [49] none))).snd).isNone = (vgP (hashO (putO [98] [50] (putO [97] [49] none))) [99] (gapL [99] (putO [98] [50] (putO [97] [49] none))).fst (gapL [99] (putO [98] [50] (putO [97] [49] none))).snd).isNone)) rfl (show True from trivial)
          ·skip
           refine v_pick True trivial ?_ ?_
           ·skip
            refine v_call _ [0, 9] (Root_ok (putO [98] [50] (putO [97] [49] none))) ((wordsP = wordsP) ∧ (PTO (putO [98] [50] (putO [97] [49] none)) = PTO (putO [98] [50] (putO [97] [49] none))) ∧ (false = false)) ⟨rfl, rfl, rfl⟩ (fun g33 p34 => ?_)
            have p34 : True := p34
            refine v_call _ [0, 22, 16, 17] (VerifyGap_ok (hashO (putO [98] [50] (putO [97] [49] none))) ([99]) ((gapL [99] (putO [98] [50] (putO [97] [49] none))).fst) ((gapL [99] (putO [98] [50] (putO [97] [49] none))).snd) rfl (by decide) (by decide)) ((0 < 1) ∧ (hashO (putO [98] [50] (putO [97] [49] none)) = hashO (putO [98] [50] (putO [97] [49] none))) ∧ (wordsP = wordsP) ∧ ([(99 : UInt8)] = [(99 : UInt8)]) ∧ ((gapL [99] (putO [98] [50] (putO [97] [49] none))).fst = (gapL [99] (putO [98] [50] (putO [97] [49] none))).fst) ∧ ((gapL [99] (putO [98] [50] (putO [97] [49] none))).snd = (gapL [99] (putO [98] [50] (putO [97] [49] none))).snd)) ⟨(by decide), rfl, rfl, rfl, rfl, rfl⟩ (fun g35 p36 => ?_)
            have p36 : True := p36
            exact v_back (()) [] (((vgP (hashO (putO [98] [50] (putO [97] [49] none))) [99] (gapL [99] (putO [98] [50] (putO [97] [49] none))).fst (gapL [99] (putO [98] [50] (putO [97] [49] none))).snd).isNone = (vgP (hashO (putO [98] [50] (putO [97] [49] none))) [99] (gapL [99] (putO [98] [50] (putO [97] [49] none))).fst (gapL [99] (putO [98] [50] (putO [97] [49] none))).snd).isNone)) rfl (show True from trivial)
           ·skip
            refine v_call _ [0, 9] (Root_ok (putO [98] [50] (putO [97] [49] none))) ((0 < 1) ∧ (wordsP = wordsP) ∧ (PTO (putO [98] [50] (putO [97] [49] none)) = PTO (putO [98] [50] (putO [97] [49] none))) ∧ (false = false)) ⟨(by decide), rfl, rfl, rfl⟩ (fun g37 p38 => ?_)
            have p38 : True := p38
            refine v_call _ [0, 22, 16, 17] (VerifyGap_ok (hashO (putO [98] [50] (putO [97] [49] none))) ([99]) ((gapL [99] (putO [98] [50] (putO [97] [49] none))).fst) ((gapL [99] (putO [98] [50] (putO [97] [49] none))).snd) rfl (by decide) (by decide)) ((hashO (putO [98] [50] (putO [97] [49] none)) = hashO (putO [98] [50] (putO [97] [49] none))) ∧ (wordsP = wordsP) ∧ ([(99 : UInt8)] = [(99 : UInt8)]) ∧ ((gapL [99] (putO [98] [50] (putO [97] [49] none))).fst = (gapL [99] (putO [98] [50] (putO [97] [49] none))).fst) ∧ ((gapL [99] (putO [98] [50] (putO [97] [49] none))).snd = (gapL [99] (putO [98] [50] (putO [97] [49] none))).snd)) ⟨rfl, rfl, rfl, rfl, rfl⟩ (fun g39 p40 => ?_)
            have p40 : True := p40
            exact v_back (()) [] (((vgP (hashO (putO [98] [50] (putO [97] [49] none))) [99] (gapL [99] (putO [98] [50] (putO [97] [49] none))).fst (gapL [99] (putO [98] [50] (putO [97] [49] none))).snd).isNone = (vgP (hashO (putO [98] [50] (putO [97] [49] none))) [99] (gapL [99] (putO [98] [50] (putO [97] [49] none))).fst (gapL [99] (putO [98] [50] (putO [97] [49] none))).snd).isNone)) rfl (show True from trivial)
         ·skip
          exfalso; (simp_all; done)
        ·have h27 := (nf h27)
         exfalso; (simp_all; done)
       ·have h26 := of_decide_eq_false h26
        omega
      ·skip
       exfalso; (rw [v1] at *; simp at *; done)
     ·skip
      exfalso; (simp_all; done)
    ·have h13 := of_decide_eq_false h13
     omega
   ·skip
    exfalso; (simp_all; done)
  ·skip
   exfalso; (simp_all; done)
 ·skip
  exact v_ret () [] (((vgP (hashO (putO [98] [50] (putO [97] [49] none))) [99] (gapL [99] (putO [98] [50] (putO [97] [49] none))).fst (gapL [99] (putO [98] [50] (putO [97] [49] none))).snd).isNone = true) ∧ (wordsP = wordsP) ∧ (etP = etP)) ⟨(by (simp; omega)), rfl, rfl⟩ trivial
theorem aw_fine : fine (putO [98] [50] (putO [97] [49] none)) := by
  refine ⟨?_, ?_, ?_⟩
  · show Srt [⟨[97], [49]⟩, ⟨[98], [50]⟩]
    exact List.pairwise_cons.2 ⟨fun p hp => by rw [List.mem_singleton.1 hp]; decide, List.pairwise_singleton ..⟩
  · show lvOk [⟨[97], [49]⟩, ⟨[98], [50]⟩]
    intro p hp
    rcases List.mem_cons.1 hp with rfl | hp
    · decide
    · rw [List.mem_singleton.1 hp]; decide
  · have h := okN.put (k := [98]) (v := [50]) (okN.put (k := [97]) (v := [49]) (n := 0) (o := none) (fun t e => by simp at e) (by decide) (by decide)) (by decide) (by decide)
    exact fun t e => ⟨(h t e).1, by have := (h t e).2; omega⟩
theorem aw_hash : hashO (putO [98] [50] (putO [97] [49] none)) ≠ sum256 [] := by
  intro h
  have h1 : ((hashO (putO [98] [50] (putO [97] [49] none))).getD 0 0 == (sum256 []).getD 0 0) = false := by decide +kernel
  rw [h] at h1; simp at h1
theorem aw_m : mkB [98] (putO [98] [50] (putO [97] [49] none)) = true := by decide
theorem aw_v1 : verP (hashO (putO [98] [50] (putO [97] [49] none))) (mkP [98] (putO [98] [50] (putO [97] [49] none))) = none := verP_make aw_fine aw_m
theorem aw_v2 : codeO (verP (sum256 []) (mkP [98] (putO [98] [50] (putO [97] [49] none)))) = 21 := by
  unfold verP; rw [verify_make aw_fine aw_m]
  show codeO (if hashO (putO [98] [50] (putO [97] [49] none)) = sum256 [] then none else some (.step ((#[114, 111, 111, 116] : Array UInt8).toList) 0 (.num 21))) = 21
  rw [if_neg aw_hash]; rfl
theorem aw_gap : gapL [99] (putO [98] [50] (putO [97] [49] none)) = (some (mkP [98] (putO [98] [50] (putO [97] [49] none))), none) := by rfl
theorem aw_v3 : vgP (hashO (putO [98] [50] (putO [97] [49] none))) [99] (some (mkP [98] (putO [98] [50] (putO [97] [49] none)))) none = none := by
  have hs : vgS (hashO (putO [98] [50] (putO [97] [49] none))) [99] 0 (some (mkP [98] (putO [98] [50] (putO [97] [49] none)))) = none :=
    vs4 rfl (by show (verP (hashO (putO [98] [50] (putO [97] [49] none))) (mkP [98] (putO [98] [50] (putO [97] [49] none)))).isNone = true; rw [aw_v1]; rfl) (by decide) (by decide)
  rw [vg_left (by decide) (by decide) rfl rfl (by decide)]
  unfold vgL; rw [hs]; rfl
theorem Awake9_ok : FOk EN 15 ⟨[.pr wordsP, .pr etP], [], Unit, fun _ => ([.pr wordsP, .pr etP], .b true), fun _ => True⟩ := by
  refine Awake9_aux (fun t e => by simp at e) ?_ aw_fine.O aw_m (by decide) (by decide) (by decide) (by decide) aw_v1 aw_v2 (by decide) (by decide) ?_ (by decide) (by decide)
  · have h := okN.put (k := [97]) (v := [49]) (n := 0) (o := none) (fun t e => by simp at e) (by decide) (by decide)
    exact h.O (by decide)
  · rw [aw_gap]; exact aw_v3
section
variable {acts : List Act} {m i : Nat}
theorem turns_le (k : List UInt8) (hm : m ≤ 64) : (mkP k (growT acts m).1).turns.length ≤ 100 := by
  cases e : (growT acts m).1 with
  | none => exact Nat.zero_le _
  | some t =>
    have h := (growT_okN acts m) t e
    simp only [mkP]; split
    · have := t.turns_len k; have := t.height_depth; show (t.turns k).length ≤ 100; omega
    · exact Nat.zero_le _
end
end Go.Proofs.YtnicmjipbnhciaaDoor.X
set_option linter.unusedVariables false
set_option linter.unusedSimpArgs false
namespace Go.Proofs.YtnicmjipbnhciaaDoor.X
open Go Go.RowKit Go.Proofs.YtnicmjipbnhciaaDoor.E
def OpF {α : Type} (P : Program) (t : TypeId) (fs : Array Go.Field) (off : Nat) (T : Ty α) : Prop :=
  ∀ (w : World) (cs : List Value), cs.length = P.cellsOf t → (∀ (i : Nat) (f : Go.Field), fs[i]? = some f → ∀ {β : Type} {U : Ty β}, E.Opens P f.type U → ∀ o sz, f.offset = o → P.cellsOf f.type = sz → ∃ a, U.rep (sig0 w) w a ((cs.drop o).take sz)) → ∃ a, T.rep (sig0 w) w a (cs.drop off)
section
variable {α β : Type} {P : Program} {t : TypeId} {fs : Array Go.Field} {off n : Nat} {A : Ty α} {B : Ty β} {f : Go.Field}
theorem opF_cons (i : Nat) (hf : fs[i]? = some f) (ho : f.offset = off) (O : E.Opens P f.type A) (hs : P.cellsOf f.type = n) (hB : OpF P t fs (off + n) B) : OpF P t fs off (tProd A B) := by
  intro w cs hl h
  obtain ⟨a, ha⟩ := h i f hf O off n ho hs
  obtain ⟨b, hb⟩ := hB w cs hl h
  exact ⟨(a, b), _, _, by rw [← List.drop_drop]; exact (List.take_append_drop n _).symm, ha, hb⟩
theorem opF_last (i : Nat) (hf : fs[i]? = some f) (ho : f.offset = off) (O : E.Opens P f.type A) (hs : P.cellsOf f.type = n) (tot : P.cellsOf t = off + n) : OpF P t fs off A := by
  intro w cs hl h
  obtain ⟨a, ha⟩ := h i f hf O off n ho hs
  rw [List.take_of_length_le (by rw [List.length_drop]; omega)] at ha
  exact ⟨a, ha⟩
theorem opens_rec (ht : P.underlying t = some (.struct fs)) (h : OpF P t fs 0 A) : E.Opens P t A := by
  intro H enc w sp held fuel cs x hx hw
  obtain ⟨hl, hf⟩ := opens_field ht hx hw
  obtain ⟨a, ha⟩ := h w cs hl (fun i f hi β U O o sz ho hs => hf i f hi O o sz ho hs)
  exact ⟨a, by simpa using ha⟩
theorem opens_by (n : Nat) (h : E.Opens P t A) : E.Opens P t (tBy A n) := h
theorem opens_iso {g : β → α} (k : α → β) (hg : ∀ b, g (k b) = b) (h : E.Opens P t A) : E.Opens P t (tIso g A) := by
  intro H enc w sp held fuel cs x hx hw
  obtain ⟨b, hb⟩ := h hx hw
  exact ⟨k b, by show A.rep _ _ (g (k b)) _; rw [hg]; exact hb⟩
end
def u8Of : Option Value → UInt8
  | some (.int .u8 n) => UInt8.ofNat n.toNat
  | _ => 0
theorem u8Of_bv (b : UInt8) : u8Of (some (bv b)) = b := by simp [u8Of, bv]
theorem opens_hash {P : Program} {t e : TypeId} (ht : P.underlying t = some (.array 32 e)) (he : P.underlying e = some (.int .u8)) (hc : P.cellsOf e = 1) (hct : P.cellsOf t = 32) : E.Opens P t tHash := by
  intro H enc w sp held fuel cs x hx hw
  obtain ⟨xs, m, rfl, rfl, hl, hn, hel⟩ := DataW.trod_array ht hx
  rw [hct] at hl
  have hb : ∀ i, i < 32 → ∃ b : UInt8, cs[i]? = some (bv b) := fun i hi => by
    have h := hel i hi
    rw [hc, Nat.mul_one, List.getElem?_eq_getElem (by omega)] at h
    obtain ⟨n, e1, _, hw⟩ := DataW.trod_int he h
    obtain ⟨b, rfl⟩ := wf_u8 hw
    refine ⟨b, ?_⟩
    have : ((cs.drop i).take 1)[0]? = some (.int .u8 (b.toNat : Int)) := by rw [e1]; rfl
    simpa using this
  refine ⟨mk32 ((List.range 32).map fun i => u8Of cs[i]?), ?_⟩
  show cs = hk 32 (mk32 _).l
  rw [mk32_hk]
  apply List.ext_getElem?
  intro i
  by_cases hi : i < 32
  · obtain ⟨b, e1⟩ := hb i hi
    rw [e1]
    simp [hk, hi, e1, List.getD_eq_getElem?_getD, u8Of_bv]
  · rw [List.getElem?_eq_none (by omega), List.getElem?_eq_none (by rw [hk_len]; omega)]
/-- An argument of any kind. -/
theorem arg_any {α : Type} {H : Type} {P : Program} {enc : TypeId × Value → H} {w : World} {sp : Nat → Bool} {held : Bool} {t : TypeId} {T : Ty α} {v : Value} {d : DataW H} {ps : List MemPlace} {ts : List TypeId} {ds : List (DataW H)} {j : Nat} (O : E.Opens P t T)
    (h : DataW.Trod enc P w 0 sp held t v d ps) (hsz : (DataW.weightsEach P ts ds).all (· ≤ reachBytes) = true) (ht : ts[j]? = some t) (hd : ds[j]? = some d) : ∃ x, T.rep (sig0 w) w x v.cells.toList := by
  obtain ⟨fuel, hf⟩ := h
  exact O hf (fun n hn => by
    have := List.all_eq_true.1 hsz n (DataW.weights_mem_each ht hd n hn)
    simpa using this)
theorem rd_one1 {α : Type} {T : Ty α} {σ : Nat → Nat} {w : World} {v : Value} {xs : List α} (h : Rd T σ w v xs) : v.oneCell' = true := by
  obtain ⟨a, c, e, _⟩ := h.form; rw [e]; rfl
theorem rd_u8_len {σ : Nat → Nat} {w : World} {v : Value} {xs : List UInt8} (h : Rd tU8 σ w v xs) : xs.length ≤ 140737488355328 := by
  have := h.bd; rwa [show tU8.by_ = 1 from rfl, Nat.mul_one] at this
end Go.Proofs.YtnicmjipbnhciaaDoor.X
set_option linter.unusedVariables false
set_option linter.unusedSimpArgs false
set_option maxRecDepth 100000
namespace Go.Proofs.YtnicmjipbnhciaaDoor.X
open Go Go.RowKit Go.Proofs Go.Proofs.YtnicmjipbnhciaaDoor.E
set_option maxHeartbeats 4000000
def GS (l r : Option Proof) (i : Nat) : Prop := i ≤ 2 ∧ (1 ≤ i → (gp l).turns.length ≤ 100) ∧ (2 ≤ i → (gp r).turns.length ≤ 100)
section
variable {l r : Option Proof} {i : Nat}
theorem GS.start : GS l r 0 := ⟨by omega, by omega, by omega⟩
theorem GS.next (h : GS l r i) (hi : (i : Int) < 2) (hs : (gp ([l, r].getD i none)).turns.length ≤ 100) : GS l r (i + 1) ∧ 2 - (i + 1) < 2 - i := by
  refine ⟨?_, by omega⟩
  have : i = 0 ∨ i = 1 := by omega
  rcases this with rfl | rfl
  · exact ⟨by omega, fun _ => hs, by omega⟩
  · exact ⟨by omega, fun _ => h.2.1 (by omega), fun _ => hs⟩
theorem GS.nil {o : Option Proof} (h : o.isNone = true) : (gp o).turns.length ≤ 100 := by
  cases o with
  | none => decide
  | some x => simp at h
theorem GS.lt (h : GS l r i) (hi : ¬ (i : Int) < 2) : (gp l).turns.length ≤ 1000000 := Nat.le_trans (h.2.1 (by omega)) (by decide)
theorem GS.rt (h : GS l r i) (hi : ¬ (i : Int) < 2) : (gp r).turns.length ≤ 1000000 := Nat.le_trans (h.2.2 (by omega)) (by decide)
end
theorem gml {x n : Int} (h : 0 < n) : 0 ≤ x % n ∧ x % n < n := ⟨Int.emod_nonneg _ (by omega), Int.emod_lt_of_pos _ h⟩
theorem GS.ln {l r : Option Proof} {q : Nat} {c : Nat} (h3 : (gp l).key.length ≤ c ∧ (gp l).value.length ≤ c) (h4 : (gp r).key.length ≤ c ∧ (gp r).value.length ≤ c) (hi : (q : Int) < 2) : (gp ([l, r].getD (q : Int).toNat none)).key.length ≤ c ∧ (gp ([l, r].getD (q : Int).toNat none)).value.length ≤ c := by
  have : q = 0 ∨ q = 1 := by omega
  rcases this with rfl | rfl
  · exact h3
  · exact h4
theorem Tr.fin_le {k : List UInt8} : ∀ {t : Tr}, t.Ks → (t.fin k).key.length ≤ 1000
  | .leaf _ _, h => h.1
  | .node l r, h => by unfold Tr.fin; split <;> first | exact Tr.fin_le (t := l) h.1 | exact Tr.fin_le (t := r) h.2
theorem mkP_key (acts : List Act) (k : List UInt8) : (mkP k (growT acts 40).1).key.length ≤ 1000 := by
  cases e : (growT acts 40).1 with
  | none => exact Nat.zero_le _
  | some t =>
    have h := (growT_okN acts 40) t e
    simp only [mkP]; split
    · exact Tr.fin_le h.1
    · exact Nat.zero_le _
abbrev pM (acts : List Act) (x : Int) : Proof := mkP ((growT acts 40).snd.getD (x % ((growT acts 40).snd.length : Int)).toNat (Pair.mk [] [])).key (growT acts 40).fst
end Go.Proofs.YtnicmjipbnhciaaDoor.X
set_option linter.unusedVariables false
set_option linter.unusedSimpArgs false
set_option maxRecDepth 100000
namespace Go.Proofs.YtnicmjipbnhciaaDoor.X
open Go Go.RowKit Go.Proofs Go.Proofs.YtnicmjipbnhciaaDoor.E
theorem ofI_len {n : Nat} (h : n ≤ 200000) : (ofI (n : Int)).toNat = n := by
  unfold ofI
  rw [UInt64.toNat_ofNat']
  omega
theorem tu (x : UInt64) {n : Nat} (h0 : (0 : Int) < n) (h : n ≤ 200000) : (x % ofI (n : Int)).toNat < n := by
  have e := ofI_len h
  rw [UInt64.toNat_mod, e]; exact Nat.mod_lt _ (by omega)
theorem tu0 {n : Nat} (h0 : (0 : Int) < n) (h : n ≤ 200000) : ofI (n : Int) ≠ 0 := by
  intro q
  have e := ofI_len h
  rw [q] at e
  have : (0 : UInt64).toNat = 0 := rfl
  omega
theorem tu9 {x : UInt64} {n : Nat} (h0 : (0 : Int) < n) (h : n ≤ 200000) : x % ofI (n : Int) < 9223372036854775808 := by
  apply UInt64.lt_iff_toNat_lt.2
  have := tu x h0 h
  have e3 : (9223372036854775808 : UInt64).toNat = 9223372036854775808 := rfl
  omega
theorem m98 {x : UInt8} (h : ¬ x % 9 = 8) : x % 9 < 8 := by
  apply UInt8.lt_iff_toNat_lt.2
  have e9 : (9 : UInt8).toNat = 9 := rfl
  have e8 : (8 : UInt8).toNat = 8 := rfl
  have h1 : (x % 9).toNat = x.toNat % 9 := by rw [UInt8.toNat_mod, e9]
  have h2 : ¬ (x % 9).toNat = 8 := fun q => h (UInt8.toNat_inj.1 q)
  omega
noncomputable def ccK14_35 : Code := (Tryd.f35.body).getD .skip
theorem Turned_ok (b : List UInt8) (at_ : List Int) (bits : List UInt8) (hb : b.length ≤ 200000) : FOk EN 35 ⟨[.rd 5 (b), .rd 3 at_, .rd 5 (bits)], [.n 0, .n 1, .n 2], List UInt8, fun v => ([.rd 5 (b), .rd 3 at_, .rd 5 (bits), .rd 5 (v)], .n 3), fun v => v.length ≤ b.length⟩ := by
 refine v_fun Tryd.f35 ccK14_35 MX (fun ν F σ w => ?_) Tryd.func35
 refine v_nl ?_
 refine v_mark 5 ?_
 refine v_cut 5 ?_
 refine v_loop (fun k : Nat × List UInt8 => ([(8, .i (k.1 : Int)), (7, .n 8)], [.mu 5 k.2])) (fun k => k.1 ≤ 4 ∧ k.2.length ≤ b.length) (fun k => 4 - k.1) (0, b) [7] ((0 + b.length ≤ 1000000) ∧ ((0 : Int) = (↑(0 : Nat) : Int)) ∧ ([] ++ b = b)) ⟨(by omega), rfl, rfl⟩ (by exact ⟨Nat.zero_le _, Nat.le_refl _⟩) (fun k hk1 => ?_)
 refine v_guard 17 (decide ((↑k.fst : Int) < (↑at_.length : Int))) True trivial (fun h2 => ?_) (fun h2 => ?_)
 ·have h2 := of_decide_eq_true h2
  refine v_guard 23 (decide ((↑k.fst : Int) < (↑bits.length : Int))) True trivial (fun h3 => ?_) (fun h3 => ?_)
  ·have h3 := of_decide_eq_true h3
   refine v_guard 27 (decide ((↑k.fst : Int) < 4)) True trivial (fun h4 => ?_) (fun h4 => ?_)
   ·have h4 := of_decide_eq_true h4
    refine v_if (decide (0 < (↑k.snd.length : Int))) True trivial (fun h5 => ?_) (fun h5 => ?_)
    ·have h5 := of_decide_eq_true h5
     refine v_if (decide (bits.getD (↑k.fst : Int).toNat 0 % 9 = 8)) ((0 ≤ (↑k.fst : Int) ∧ (↑k.fst : Int) < (↑at_.length : Int)) ∧ (ofI ↑k.snd.length ≠ 0) ∧ (ofI (at_.getD (↑k.fst : Int).toNat 0) % ofI (↑k.snd.length : Int) < 9223372036854775808) ∧ (0 ≤ (↑k.fst : Int) ∧ (↑k.fst : Int) < (↑bits.length : Int)) ∧ ((9 : UInt8) ≠ (0 : UInt8))) ⟨(by omega), (by exact tu0 ‹_› (by omega)), (by exact tu9 ‹_› (by omega)), (by omega), (by decide)⟩ (fun h6 => ?_) (fun h6 => ?_)
     ·have h6 := of_decide_eq_true h6
      refine v_plan (.fs [0, 1, 2, 3, 4, 5, 6, 7] (.o 8 (.fs [9] .e))) [] True trivial ?_
      exact v_back ((k.fst + 1, List.take (↑(ofI (at_.getD (↑k.fst : Int).toNat 0) % ofI (↑k.snd.length : Int)).toNat : Int).toNat k.snd ++ List.drop ((↑(ofI (at_.getD (↑k.fst : Int).toNat 0) % ofI (↑k.snd.length : Int)).toNat : Int) + 1).toNat k.snd)) [11] ((0 ≤ (↑(ofI (at_.getD (↑k.fst : Int).toNat 0) % ofI (↑k.snd.length : Int)).toNat : Int) ∧ (↑(ofI (at_.getD (↑k.fst : Int).toNat 0) % ofI (↑k.snd.length : Int)).toNat : Int) ≤ (↑(ofI (at_.getD (↑k.fst : Int).toNat 0) % ofI (↑k.snd.length : Int)).toNat : Int) ∧ (↑(ofI (at_.getD (↑k.fst : Int).toNat 0) % ofI (↑k.snd.length : Int)).toNat : Int) ≤ (↑k.snd.length : Int) ∧ 0 < k.snd.length) ∧ (I64 ((↑(ofI (at_.getD (↑k.fst : Int).toNat 0) % ofI (↑k.snd.length : Int)).toNat : Int) + 1)) ∧ (0 ≤ (↑(ofI (at_.getD (↑k.fst : Int).toNat 0) % ofI (↑k.snd.length : Int)).toNat : Int) + 1 ∧ (↑(ofI (at_.getD (↑k.fst : Int).toNat 0) % ofI (↑k.snd.length : Int)).toNat : Int) + 1 ≤ (↑k.snd.length : Int) ∧ 0 < k.snd.length) ∧ (0 = 0 ∧ (↑(ofI (at_.getD (↑k.fst : Int).toNat 0) % ofI (↑k.snd.length : Int)).toNat : Int).toNat = (↑(ofI (at_.getD (↑k.fst : Int).toNat 0) % ofI (↑k.snd.length : Int)).toNat : Int).toNat ∧ k.snd.length = k.snd.length ∧ (↑(ofI (at_.getD (↑k.fst : Int).toNat 0) % ofI (↑k.snd.length : Int)).toNat : Int).toNat ≤ k.snd.length ∧ ((↑(ofI (at_.getD (↑k.fst : Int).toNat 0) % ofI (↑k.snd.length : Int)).toNat : Int) + 1).toNat ≤ k.snd.length ∧ 0 < k.snd.length ∧ (↑(ofI (at_.getD (↑k.fst : Int).toNat 0) % ofI (↑k.snd.length : Int)).toNat : Int).toNat + (k.snd.length - ((↑(ofI (at_.getD (↑k.fst : Int).toNat 0) % ofI (↑k.snd.length : Int)).toNat : Int) + 1).toNat) ≤ 1000000) ∧ (I64 (↑k.fst + 1)) ∧ ((↑k.fst : Int) + 1 = (↑(k.fst + 1) : Int)) ∧ (List.take (↑(ofI (at_.getD (↑k.fst : Int).toNat 0) % ofI (↑k.snd.length : Int)).toNat : Int).toNat k.snd ++ List.drop ((↑(ofI (at_.getD (↑k.fst : Int).toNat 0) % ofI (↑k.snd.length : Int)).toNat : Int) + 1).toNat k.snd = List.take (↑(ofI (at_.getD (↑k.fst : Int).toNat 0) % ofI (↑k.snd.length : Int)).toNat : Int).toNat k.snd ++ List.drop ((↑(ofI (at_.getD (↑k.fst : Int).toNat 0) % ofI (↑k.snd.length : Int)).toNat : Int) + 1).toNat k.snd)) ⟨(by (have hz := tu (ofI (at_.getD (k.1 : Int).toNat 0)) (n := k.2.length) ‹_› (by omega); omega)), (by (have hz := tu (ofI (at_.getD (k.1 : Int).toNat 0)) (n := k.2.length) ‹_› (by omega); unfold I64; omega)), (by (have hz := tu (ofI (at_.getD (k.1 : Int).toNat 0)) (n := k.2.length) ‹_› (by omega); omega)), (by (have hz := tu (ofI (at_.getD (k.1 : Int).toNat 0)) (n := k.2.length) ‹_› (by omega); omega)), (by (unfold I64; omega)), rfl, rfl⟩ (show (k.fst + 1 ≤ 4 ∧ (List.take (↑(ofI (at_.getD (↑k.fst : Int).toNat 0) % ofI (↑k.snd.length : Int)).toNat : Int).toNat k.snd ++ List.drop ((↑(ofI (at_.getD (↑k.fst : Int).toNat 0) % ofI (↑k.snd.length : Int)).toNat : Int) + 1).toNat k.snd).length ≤ b.length) ∧ 4 - (k.fst + 1) < 4 - k.fst from (by (simp; omega)))
     ·have h6 := of_decide_eq_false h6
      refine v_plan (.fs [0, 1, 2, 4, 5, 6, 7, 8, 9] (.o 3 (.fs [10, 11] (.o 12 .e)))) [4] True trivial ?_
      exact v_back ((k.fst + 1, k.snd.set (↑(ofI (at_.getD (↑k.fst : Int).toNat 0) % ofI (↑k.snd.length : Int)).toNat : Int).toNat (k.snd.getD (↑(ofI (at_.getD (↑k.fst : Int).toNat 0) % ofI (↑k.snd.length : Int)).toNat : Int).toNat 0 ^^^ 1 <<< (bits.getD (↑k.fst : Int).toNat 0 % 9)))) [8] ((0 ≤ (↑(ofI (at_.getD (↑k.fst : Int).toNat 0) % ofI (↑k.snd.length : Int)).toNat : Int) ∧ (↑(ofI (at_.getD (↑k.fst : Int).toNat 0) % ofI (↑k.snd.length : Int)).toNat : Int) < (↑k.snd.length : Int)) ∧ (0 ≤ (↑k.fst : Int) ∧ (↑k.fst : Int) < (↑bits.length : Int)) ∧ ((9 : UInt8) ≠ (0 : UInt8)) ∧ (bits.getD (↑k.fst : Int).toNat 0 % 9 < 8) ∧ ((↑(ofI (at_.getD (↑k.fst : Int).toNat 0) % ofI (↑k.snd.length : Int)).toNat : Int).toNat < k.snd.length) ∧ (0 ≤ (↑(ofI (at_.getD (↑k.fst : Int).toNat 0) % ofI (↑k.snd.length : Int)).toNat : Int) ∧ (↑(ofI (at_.getD (↑k.fst : Int).toNat 0) % ofI (↑k.snd.length : Int)).toNat : Int) < (↑k.snd.length : Int)) ∧ ((↑(ofI (at_.getD (↑k.fst : Int).toNat 0) % ofI (↑k.snd.length : Int)).toNat : Int).toNat < k.snd.length) ∧ (I64 (↑k.fst + 1)) ∧ ((↑k.fst : Int) + 1 = (↑(k.fst + 1) : Int)) ∧ (k.snd.set (↑(ofI (at_.getD (↑k.fst : Int).toNat 0) % ofI (↑k.snd.length : Int)).toNat : Int).toNat (k.snd.getD (↑(ofI (at_.getD (↑k.fst : Int).toNat 0) % ofI (↑k.snd.length : Int)).toNat : Int).toNat 0 ^^^ 1 <<< (bits.getD (↑k.fst : Int).toNat 0 % 9)) = k.snd.set (↑(ofI (at_.getD (↑k.fst : Int).toNat 0) % ofI (↑k.snd.length : Int)).toNat : Int).toNat (k.snd.getD (↑(ofI (at_.getD (↑k.fst : Int).toNat 0) % ofI (↑k.snd.length : Int)).toNat : Int).toNat 0 ^^^ 1 <<< (bits.getD (↑k.fst : Int).toNat 0 % 9)))) ⟨(by (have hz := tu (ofI (at_.getD (k.1 : Int).toNat 0)) (n := k.2.length) ‹_› (by omega); omega)), (by omega), (by decide), (by exact m98 ‹_›), (by (have hz := tu (ofI (at_.getD (k.1 : Int).toNat 0)) (n := k.2.length) ‹_› (by omega); omega)), (by (have hz := tu (ofI (at_.getD (k.1 : Int).toNat 0)) (n := k.2.length) ‹_› (by omega); omega)), (by (have hz := tu (ofI (at_.getD (k.1 : Int).toNat 0)) (n := k.2.length) ‹_› (by omega); omega)), (by (unfold I64; omega)), rfl, rfl⟩ (show (k.fst + 1 ≤ 4 ∧ (k.snd.set (↑(ofI (at_.getD (↑k.fst : Int).toNat 0) % ofI (↑k.snd.length : Int)).toNat : Int).toNat (k.snd.getD (↑(ofI (at_.getD (↑k.fst : Int).toNat 0) % ofI (↑k.snd.length : Int)).toNat : Int).toNat 0 ^^^ 1 <<< (bits.getD (↑k.fst : Int).toNat 0 % 9))).length ≤ b.length) ∧ 4 - (k.fst + 1) < 4 - k.fst from (by (simp; omega)))
    ·have h5 := of_decide_eq_false h5
     refine v_leave (.ex 0) True trivial ?_
     refine v_stop 8 True trivial ?_
     exact v_ret (k.snd) [8] ((b = b) ∧ (at_ = at_) ∧ (bits = bits) ∧ (k.snd = k.snd)) ⟨rfl, rfl, rfl, rfl⟩ (by omega)
   ·have h4 := of_decide_eq_false h4
    refine v_leave (.ex 0) True trivial ?_
    refine v_stop 8 True trivial ?_
    exact v_ret (k.snd) [8] ((b = b) ∧ (at_ = at_) ∧ (bits = bits) ∧ (k.snd = k.snd)) ⟨rfl, rfl, rfl, rfl⟩ (by omega)
  ·have h3 := of_decide_eq_false h3
   refine v_leave (.ex 0) True trivial ?_
   refine v_stop 8 True trivial ?_
   exact v_ret (k.snd) [8] ((b = b) ∧ (at_ = at_) ∧ (bits = bits) ∧ (k.snd = k.snd)) ⟨rfl, rfl, rfl, rfl⟩ (by omega)
 ·have h2 := of_decide_eq_false h2
  refine v_leave (.ex 0) True trivial ?_
  refine v_stop 8 True trivial ?_
  exact v_ret (k.snd) [8] ((b = b) ∧ (at_ = at_) ∧ (bits = bits) ∧ (k.snd = k.snd)) ⟨rfl, rfl, rfl, rfl⟩ (by omega)
def encV (v : List UInt8) : List UInt8 := [hi v.length, lo v.length] ++ v
def packTo (l : List (List UInt8)) (k : Nat) : List UInt8 := ((l.take k).map encV).flatten
theorem packTo_succ {l : List (List UInt8)} {k : Nat} (hk : k < l.length) : packTo l (k + 1) = packTo l k ++ encV (l.getD k []) := by
  unfold packTo
  rw [List.take_add_one, List.getD_eq_getElem?_getD, List.getElem?_eq_getElem hk]
  simp only [Option.toList, List.map_append, List.flatten_append, List.map_cons, List.map_nil, List.flatten_cons, List.flatten_nil, List.append_nil, Option.getD_some]
theorem packTo_mono (l : List (List UInt8)) : ∀ (d k : Nat), (packTo l k).length ≤ (packTo l (k + d)).length
  | 0, k => Nat.le_refl _
  | d + 1, k => by
    refine Nat.le_trans (packTo_mono l d k) ?_
    rcases Nat.lt_or_ge (k + d) l.length with c | c
    · rw [show k + (d + 1) = k + d + 1 by omega, packTo_succ c]; simp
    · unfold packTo; rw [List.take_of_length_le (by omega), List.take_of_length_le (by omega)]; exact Nat.le_refl _
theorem packTo_le {l : List (List UInt8)} {k : Nat} (hk : k < l.length) : (packTo l k).length + 2 + (l.getD k []).length ≤ (packTo l l.length).length := by
  have := packTo_mono l (l.length - (k + 1)) (k + 1)
  rw [show k + 1 + (l.length - (k + 1)) = l.length by omega, packTo_succ hk] at this
  simp only [encV, List.length_append, List.length_cons, List.length_nil] at this
  omega
theorem packTo_two (l : List (List UInt8)) : ∀ k, k ≤ l.length → 2 * k ≤ (packTo l k).length
  | 0, _ => Nat.zero_le _
  | k + 1, h => by
    have := packTo_two l k (by omega)
    rw [packTo_succ (by omega)]
    simp only [encV, List.length_append, List.length_cons, List.length_nil]; omega
def packL (l : List (List UInt8)) : Bool := l.any fun v => decide (65535 < v.length)
def packE (l : List (List UInt8)) : Int := if packL l = true then 3 else 0
def packR (l : List (List UInt8)) : List UInt8 := if packL l = true then [] else packTo l l.length
def QI (l : List (List UInt8)) (k : Nat) : Prop := k ≤ l.length ∧ ∀ j, j < k → (l.getD j []).length ≤ 65535
section
variable {l : List (List UInt8)} {k : Nat}
theorem QI.start : QI l 0 := ⟨Nat.zero_le _, fun j h => absurd h (by omega)⟩
theorem QI.next (h : QI l k) (hk : (k : Int) < l.length) (hs : ¬ (65535 : Int) < (l.getD (k : Int).toNat []).length) : QI l (k + 1) ∧ l.length - (k + 1) < l.length - k := by
  rw [Int.toNat_natCast] at hs
  refine ⟨⟨by omega, fun j hj => ?_⟩, by omega⟩
  rcases Nat.lt_or_ge j k with c | c
  · exact h.2 j c
  · have : j = k := by omega
    subst this; omega
theorem QI.hit (hk : (k : Int) < l.length) (hs : (65535 : Int) < (l.getD (k : Int).toNat []).length) : packL l = true := by
  rw [Int.toNat_natCast] at hs
  unfold packL
  rw [List.any_eq_true]
  have hk' : k < l.length := by omega
  refine ⟨l[k], List.getElem_mem hk', ?_⟩
  rw [List.getD_eq_getElem?_getD, List.getElem?_eq_getElem hk'] at hs
  simp only [Option.getD_some] at hs
  exact decide_eq_true (by omega)
theorem QI.stop (h : QI l k) (hk : ¬ (k : Int) < l.length) : packL l = false := by
  unfold packL
  rw [List.any_eq_false]
  intro v hv
  obtain ⟨j, hj, rfl⟩ := List.getElem_of_mem hv
  have := h.2 j (by have := h.1; omega)
  rw [List.getD_eq_getElem?_getD, List.getElem?_eq_getElem hj] at this
  simp only [Option.getD_some] at this
  simp; omega
theorem pk1 (hk : (k : Int) < l.length) (hs : (65535 : Int) < (l.getD (k : Int).toNat []).length) : [] = packR l ∧ 3 = packE l := by unfold packR packE; rw [if_pos (QI.hit hk hs), if_pos (QI.hit hk hs)]; exact ⟨rfl, rfl⟩
theorem pk2 (h : QI l k) (hk : ¬ (k : Int) < l.length) : packTo l k = packR l ∧ 0 = packE l := by
  have e : k = l.length := by have := h.1; omega
  unfold packR packE; rw [if_neg (by rw [h.stop hk]; decide), if_neg (by rw [h.stop hk]; decide), e]; exact ⟨rfl, rfl⟩
theorem pk3 (hk : (k : Int) < l.length) : packTo l k ++ [ofI8 (((l.getD (k : Int).toNat []).length : Int) / 256), ofI8 ((l.getD (k : Int).toNat []).length : Int)] ++ l.getD (k : Int).toNat [] = packTo l (k + 1) := by
  rw [packTo_succ (by omega), Int.toNat_natCast]; simp [encV, hi, lo]
theorem pk4 (hk : (k : Int) < l.length) : packTo l k ++ [ofI8 (((l.getD (k : Int).toNat []).length : Int) / 256), ofI8 (((l.getD (k : Int).toNat []).length : Int) % 256)] ++ l.getD (k : Int).toNat [] = packTo l (k + 1) := by
  rw [packTo_succ (by omega), Int.toNat_natCast]
  have e : ofI8 (((l.getD k []).length : Int) % 256) = ofI8 ((l.getD k []).length : Int) := by
    unfold ofI8
    apply UInt8.toNat_inj.1
    rw [UInt8.toNat_ofNat', UInt8.toNat_ofNat']
    omega
  rw [e]; simp [encV, hi, lo]
end
noncomputable def ccK1_83 : Code := (Tryd.f83.body).getD .skip
theorem pack_ok (l : List (List UInt8)) (hp : (packTo l l.length).length ≤ 900000) : FOk EN 83 ⟨[.rd 22 l], [.n 0], Unit, fun _ => ([.rd 22 l, .ow 5 (packR l)], .t [.n 1, .i (packE l)]), fun _ => True⟩ := by
 refine v_fun Tryd.f83 ccK1_83 MX (fun ν F σ w => ?_) Tryd.func83
 refine v_nl ?_
 refine v_loop (fun k : Nat => ([(9, .i k), (4, .n 2)], [.ow 5 (packTo l k)])) (fun k => QI l k) (fun k => l.length - k) 0 [1] (((0 : Int) = (↑(0 : Nat) : Int)) ∧ ([] = packTo l 0)) ⟨rfl, rfl⟩ (by exact QI.start) (fun k hk1 => ?_)
 refine v_if (decide ((↑k : Int) < (↑l.length : Int))) True trivial (fun h2 => ?_) (fun h2 => ?_)
 ·have h2 := of_decide_eq_true h2
  refine v_if (decide (65535 < (↑(l.getD (↑k : Int).toNat []).length : Int))) ((0 ≤ (↑k : Int) ∧ (↑k : Int) < (↑l.length : Int))) (by omega) (fun h3 => ?_) (fun h3 => ?_)
  ·have h3 := of_decide_eq_true h3
   refine v_leave .rt True trivial ?_
   exact v_ret () [1] ((3 = packE l) ∧ (l = l) ∧ ([] = packR l)) ⟨(by exact (pk1 ‹_› ‹_›).2), rfl, (by exact (pk1 ‹_› ‹_›).1)⟩ trivial
  ·have h3 := of_decide_eq_false h3
   exact v_back (k + 1) [7] ((0 ≤ (↑(l.getD (↑k : Int).toNat []).length : Int)) ∧ ((8 : UInt64) < (64 : UInt64)) ∧ ((packTo l k).length + 2 ≤ 1000000) ∧ ((packTo l k ++ [ofI8 ((↑(l.getD (↑k : Int).toNat []).length : Int) / 256), ofI8 (↑(l.getD (↑k : Int).toNat []).length : Int)]).length + (l.getD (↑k : Int).toNat []).length ≤ 1000000) ∧ (I64 (↑k + 1)) ∧ ((↑k : Int) + 1 = (↑(k + 1) : Int)) ∧ (packTo l k ++ [ofI8 ((↑(l.getD (↑k : Int).toNat []).length : Int) / 256), ofI8 (↑(l.getD (↑k : Int).toNat []).length : Int)] ++ l.getD (↑k : Int).toNat [] = packTo l (k + 1))) ⟨(by omega), (by decide), (by (have := packTo_le (l := l) (k := k) (by omega); omega)), (by (have := packTo_le (l := l) (k := k) (by omega); simp only [List.length_append, List.length_cons, List.length_nil, Int.toNat_natCast] at *; omega)), (by (have := packTo_two l l.length (Nat.le_refl _); unfold I64; omega)), rfl, (by exact pk3 ‹_›)⟩ (show QI l (k + 1) ∧ l.length - (k + 1) < l.length - k from (by exact QI.next ‹_› ‹_› ‹_›))
 ·have h2 := of_decide_eq_false h2
  refine v_leave (.ex 0) True trivial ?_
  exact v_ret () [2] ((0 = packE l) ∧ (l = l) ∧ (packTo l k = packR l)) ⟨(by exact (pk2 ‹_› ‹_›).2), rfl, (by exact (pk2 ‹_› ‹_›).1)⟩ trivial
noncomputable def ccK1_86 : Code := (Tryd.f86.body).getD .skip
theorem packr_ok (l : List (List UInt8)) (hp : (packTo l l.length).length ≤ 900000) : FOk EN 86 ⟨[.rd 22 l], [.n 0], Unit, fun _ => ([.rd 22 l, .ow 5 (packTo l l.length)], .n 1), fun _ => True⟩ := by
 refine v_fun Tryd.f86 ccK1_86 MX (fun ν F σ w => ?_) Tryd.func86
 refine v_nl ?_
 refine v_loop (fun k : Nat => ([(4, .i k), (3, .n 2)], [.ow 5 (packTo l k)])) (fun k => k ≤ l.length) (fun k => l.length - k) 0 [1] (((0 : Int) = (↑(0 : Nat) : Int)) ∧ ([] = packTo l 0)) ⟨rfl, rfl⟩ (by omega) (fun k hk1 => ?_)
 refine v_if (decide ((↑k : Int) < (↑l.length : Int))) True trivial (fun h2 => ?_) (fun h2 => ?_)
 ·have h2 := of_decide_eq_true h2
  refine v_plan (.fs [0, 1, 2, 3, 4, 5, 6, 7, 8, 9, 10, 11, 12, 13, 14] (.o 15 (.o 16 (.fs [17] .e)))) [] True trivial ?_
  exact v_back (k + 1) [11] ((0 ≤ (↑k : Int) ∧ (↑k : Int) < (↑l.length : Int)) ∧ ((0 : Int) ≤ (↑(l.getD (↑k : Int).toNat []).length : Int) ∧ (↑(l.getD (↑k : Int).toNat []).length : Int) < (9223372036854775808 : Int) ∧ (0 : Int) < (256 : Int)) ∧ (0 ≤ (↑k : Int) ∧ (↑k : Int) < (↑l.length : Int)) ∧ ((0 : Int) ≤ (↑(l.getD (↑k : Int).toNat []).length : Int) ∧ (0 : Int) < (256 : Int)) ∧ ((packTo l k).length + 2 ≤ 1000000) ∧ (0 ≤ (↑k : Int) ∧ (↑k : Int) < (↑l.length : Int)) ∧ ((packTo l k ++ [ofI8 ((↑(l.getD (↑k : Int).toNat []).length : Int) / 256), ofI8 ((↑(l.getD (↑k : Int).toNat []).length : Int) % 256)]).length + (l.getD (↑k : Int).toNat []).length ≤ 1000000) ∧ (I64 (↑k + 1)) ∧ ((↑k : Int) + 1 = (↑(k + 1) : Int)) ∧ (packTo l k ++ [ofI8 ((↑(l.getD (↑k : Int).toNat []).length : Int) / 256), ofI8 ((↑(l.getD (↑k : Int).toNat []).length : Int) % 256)] ++ l.getD (↑k : Int).toNat [] = packTo l (k + 1))) ⟨(by omega), (by (have := packTo_le (l := l) (k := k) (by omega); simp only [List.length_append, List.length_cons, List.length_nil, Int.toNat_natCast] at *; omega)), (by omega), (by omega), (by (have := packTo_le (l := l) (k := k) (by omega); omega)), (by omega), (by (have := packTo_le (l := l) (k := k) (by omega); simp only [List.length_append, List.length_cons, List.length_nil, Int.toNat_natCast] at *; omega)), (by (have := packTo_two l l.length (Nat.le_refl _); unfold I64; omega)), rfl, (by exact pk4 ‹_›)⟩ (show k + 1 ≤ l.length ∧ l.length - (k + 1) < l.length - k from (by omega))
 ·have h2 := of_decide_eq_false h2
  refine v_leave (.ex 0) True trivial ?_
  exact v_ret () [2] ((l = l) ∧ (packTo l k = packTo l l.length)) ⟨rfl, (by (congr 1; omega))⟩ trivial
theorem pcR_lt {b : List UInt8} (h : ¬ b.length = 0) : (pcR b).length < b.length := by
  unfold pcR; split
  · simp; omega
  · simp; omega
def unpk (out : List (List UInt8)) (b : List UInt8) : List (List UInt8) × Int :=
  if h : b.length = 0 then (out, 0)
  else if pcE b ≠ 0 then ([], pcE b)
  else unpk (out ++ [pcV b]) (pcR b)
termination_by b.length
decreasing_by exact pcR_lt h
section
variable {X : List (List UInt8) × Int} {out : List (List UInt8)} {b b0 : List UInt8}
theorem un1 (hk : X = unpk out b ∧ out.length + b.length ≤ b0.length) (h : ¬ (0 : Int) < b.length) : out = X.1 ∧ 0 = X.2 := by rw [hk.1, unpk, dif_pos (by omega)]; exact ⟨rfl, rfl⟩
theorem un2 (hk : X = unpk out b ∧ out.length + b.length ≤ b0.length) (h : (0 : Int) < b.length) (h1 : pcE b ≠ 0) : [] = X.1 ∧ pcE b = X.2 := by rw [hk.1, unpk, dif_neg (by omega), if_pos h1]; exact ⟨rfl, rfl⟩
theorem un3 (hk : X = unpk out b ∧ out.length + b.length ≤ b0.length) (h : (0 : Int) < b.length) (h1 : ¬ pcE b ≠ 0) : (X = unpk (out ++ [pcV b]) (pcR b) ∧ (out ++ [pcV b]).length + (pcR b).length ≤ b0.length) ∧ (pcR b).length < b.length := by
  have := pcR_lt (b := b) (by omega)
  refine ⟨⟨by rw [hk.1, unpk, dif_neg (by omega), if_neg h1], ?_⟩, this⟩
  have := hk.2; simp only [List.length_append, List.length_cons, List.length_nil] at *; omega
theorem pcB_E (b : List UInt8) : pcB b = decide (pcE b = 0) := by unfold pcB pcE; split <;> rfl
theorem un4 (hk : X = unpk out b ∧ out.length + b.length ≤ b0.length) (h : (0 : Int) < b.length) (h1 : pcB b = false) : [] = X.1 ∧ 4 = X.2 := by
  rw [pcB_E] at h1
  have h2 : pcE b ≠ 0 := of_decide_eq_false h1
  have e : pcE b = 4 := by unfold pcE at h2 ⊢; split at h2 <;> simp_all
  have := un2 hk h h2; rw [e] at this; exact this
theorem un5 (hk : X = unpk out b ∧ out.length + b.length ≤ b0.length) (h : (0 : Int) < b.length) (h1 : pcB b = true) : (X = unpk (out ++ [pcV b]) (pcR b) ∧ (out ++ [pcV b]).length + (pcR b).length ≤ b0.length) ∧ (pcR b).length < b.length := by
  rw [pcB_E] at h1; exact un3 hk h (by simpa using h1)
end
noncomputable def ccK1_88 : Code := (Tryd.f88.body).getD .skip
theorem unpack_ok (b : List UInt8) (h : b.length ≤ 900000) : FOk EN 88 ⟨[.rd 5 (b)], [.n 0], Unit, fun _ => ([.rd 5 (b), .ow 22 (unpk [] b).1], .t [.n 1, .i (unpk [] b).2]), fun _ => True⟩ := by
 refine v_fun Tryd.f88 ccK1_88 MX (fun ν F σ w => ?_) Tryd.func88
 refine v_nl ?_
 refine v_loop (fun k : List (List UInt8) × List UInt8 => ([(4, .n 2), (0, .n 3)], [.ow 22 k.1, .rd 5 (k.2)])) (fun k => unpk [] b = unpk k.1 k.2 ∧ k.1.length + k.2.length ≤ b.length) (fun k => k.2.length) ([], b) [1, 0] ((Eq (α := List (List UInt8)) [] []) ∧ (b = b)) ⟨rfl, rfl⟩ (by exact ⟨rfl, by simp⟩) (fun k hk1 => ?_)
 refine v_if (decide (0 < (↑k.snd.length : Int))) True trivial (fun h2 => ?_) (fun h2 => ?_)
 ·have h2 := of_decide_eq_true h2
  refine v_call _ [3] (piece_ok (k.snd) (by omega)) ((k.snd = k.snd)) rfl (fun g3 p4 => ?_)
  have p4 : True := p4
  refine v_if (decide (pcE k.snd ≠ 0)) True trivial (fun h5 => ?_) (fun h5 => ?_)
  ·have h5 := of_decide_eq_true h5
   refine v_leave .rt True trivial ?_
   exact v_ret () [1] ((pcE k.snd = (unpk [] b).snd) ∧ (b = b) ∧ ([] = (unpk [] b).fst)) ⟨(by exact (un2 ‹_› ‹_› ‹_›).2), rfl, (by exact (un2 ‹_› ‹_› ‹_›).1)⟩ trivial
  ·have h5 := of_decide_eq_false h5
   exact v_back ((k.fst ++ [pcV k.snd], pcR k.snd)) [9, 5] ((0 + (pcV k.snd).length ≤ 1000000) ∧ (k.fst.length + 1 ≤ 1000000) ∧ (k.fst ++ [[] ++ pcV k.snd] = k.fst ++ [pcV k.snd]) ∧ (pcR k.snd = pcR k.snd)) ⟨(by (have := pcVR_len k.2; omega)), (by omega), rfl, rfl⟩ (show (unpk [] b = unpk (k.fst ++ [pcV k.snd]) (pcR k.snd) ∧ (k.fst ++ [pcV k.snd]).length + (pcR k.snd).length ≤ b.length) ∧ (pcR k.snd).length < k.snd.length from (by exact un3 ‹_› ‹_› ‹_›))
 ·have h2 := of_decide_eq_false h2
  refine v_leave (.ex 0) True trivial ?_
  exact v_ret () [2] ((0 = (unpk [] b).snd) ∧ (b = b) ∧ (k.fst = (unpk [] b).fst)) ⟨(by exact (un1 ‹_› ‹_›).2), rfl, (by exact (un1 ‹_› ‹_›).1)⟩ trivial
noncomputable def ccK1_91 : Code := (Tryd.f91.body).getD .skip
theorem unpackr_ok (b : List UInt8) (h : b.length ≤ 900000) : FOk EN 91 ⟨[.rd 5 (b)], [.n 0], Unit, fun _ => ([.rd 5 (b), .ow 22 (unpk [] b).1], .t [.n 1, .i (unpk [] b).2]), fun _ => True⟩ := by
 refine v_fun Tryd.f91 ccK1_91 MX (fun ν F σ w => ?_) Tryd.func91
 refine v_nl ?_
 refine v_loop (fun k : List (List UInt8) × List UInt8 => ([(4, .n 2), (0, .n 3)], [.ow 22 k.1, .rd 5 (k.2)])) (fun k => unpk [] b = unpk k.1 k.2 ∧ k.1.length + k.2.length ≤ b.length) (fun k => k.2.length) ([], b) [1, 0] ((Eq (α := List (List UInt8)) [] []) ∧ (b = b)) ⟨rfl, rfl⟩ (by exact ⟨rfl, by simp⟩) (fun k hk1 => ?_)
 refine v_if (decide (0 < (↑k.snd.length : Int))) True trivial (fun h2 => ?_) (fun h2 => ?_)
 ·have h2 := of_decide_eq_true h2
  refine v_call _ [3] (piecer_ok (k.snd) (by omega)) ((k.snd = k.snd)) rfl (fun g3 p4 => ?_)
  have p4 : True := p4
  refine v_if (!pcB k.snd) True trivial (fun h5 => ?_) (fun h5 => ?_)
  ·have h5 := (nt h5)
   refine v_leave .rt True trivial ?_
   exact v_ret () [1] ((4 = (unpk [] b).snd) ∧ (b = b) ∧ ([] = (unpk [] b).fst)) ⟨(by exact (un4 ‹_› ‹_› ‹_›).2), rfl, (by exact (un4 ‹_› ‹_› ‹_›).1)⟩ trivial
  ·have h5 := (nf h5)
   exact v_back ((k.fst ++ [pcV k.snd], pcR k.snd)) [7, 5] ((k.fst.length + 1 ≤ 1000000) ∧ (k.fst ++ [pcV k.snd] = k.fst ++ [pcV k.snd]) ∧ (pcR k.snd = pcR k.snd)) ⟨(by omega), rfl, rfl⟩ (show (unpk [] b = unpk (k.fst ++ [pcV k.snd]) (pcR k.snd) ∧ (k.fst ++ [pcV k.snd]).length + (pcR k.snd).length ≤ b.length) ∧ (pcR k.snd).length < k.snd.length from (by exact un5 ‹_› ‹_› ‹_›))
 ·have h2 := of_decide_eq_false h2
  refine v_leave (.ex 0) True trivial ?_
  exact v_ret () [2] ((0 = (unpk [] b).snd) ∧ (b = b) ∧ (k.fst = (unpk [] b).fst)) ⟨(by exact (un1 ‹_› ‹_›).2), rfl, (by exact (un1 ‹_› ‹_›).1)⟩ trivial
abbrev kT : Turn := ⟨0, 0, false, zero32⟩
def tnB (t : Turn) : List UInt8 := putF (if t.right = true then putF (putF (putF [] 1 (numTo (ofI t.height) 8)) 2 (numTo t.size 8)) 3 [1] else putF (putF [] 1 (numTo (ofI t.height) 8)) 2 (numTo t.size 8)) 4 t.other.l
def tnBad (t : Turn) : Bool := decide (t.height < 1 ∨ 64 < t.height)
theorem putF_len (b : List UInt8) (t : UInt8) (v : List UInt8) : (putF b t v).length ≤ b.length + v.length + 3 := by
  unfold putF; split
  · simp
  · split
    · omega
    · simp; omega
section
variable {n m : UInt64} {o : Sum32} {b : List UInt8}
theorem q1 : (putF [] 1 (numTo n 8)).length ≤ 11 := by have := putF_len [] 1 (numTo n 8); have := numTo_len n 8; simp only [List.length_nil] at *; omega
theorem q2 : (putF (putF [] 1 (numTo n 8)) 2 (numTo m 8)).length ≤ 22 := by have := putF_len (putF [] 1 (numTo n 8)) 2 (numTo m 8); have := numTo_len m 8; have := q1 (n := n); omega
theorem q3 : (putF (putF (putF [] 1 (numTo n 8)) 2 (numTo m 8)) 3 [1]).length ≤ 26 := by have := putF_len (putF (putF [] 1 (numTo n 8)) 2 (numTo m 8)) 3 [1]; have := q2 (n := n) (m := m); simp only [List.length_cons, List.length_nil] at *; omega
theorem f1 : ([] : List UInt8).length + (numTo n 8).length ≤ 900000 := by have := numTo_len n 8; simp only [List.length_nil]; omega
theorem f2 : (putF [] 1 (numTo n 8)).length + (numTo m 8).length ≤ 900000 := by have := numTo_len m 8; have := q1 (n := n); omega
theorem f3 : (putF (putF [] 1 (numTo n 8)) 2 (numTo m 8)).length + ([1] : List UInt8).length ≤ 900000 := by have := q2 (n := n) (m := m); simp only [List.length_cons, List.length_nil]; omega
theorem f4 : (putF (putF (putF [] 1 (numTo n 8)) 2 (numTo m 8)) 3 [1]).length + o.l.length ≤ 900000 := by have := q3 (n := n) (m := m); have := o.h; omega
theorem f5 : (putF (putF [] 1 (numTo n 8)) 2 (numTo m 8)).length + o.l.length ≤ 900000 := by have := q2 (n := n) (m := m); have := o.h; omega
theorem tnB_len (t : Turn) : (tnB t).length ≤ 61 := by
  unfold tnB
  split
  · have := putF_len (putF (putF (putF [] 1 (numTo (ofI t.height) 8)) 2 (numTo t.size 8)) 3 [1]) 4 t.other.l
    have := q3 (n := ofI t.height) (m := t.size); have := t.other.h; omega
  · have := putF_len (putF (putF [] 1 (numTo (ofI t.height) 8)) 2 (numTo t.size 8)) 4 t.other.l
    have := q2 (n := ofI t.height) (m := t.size); have := t.other.h; omega
end
theorem packTo_tn (ts : List Turn) : ∀ k, k ≤ ts.length → (packTo (ts.map tnB) k).length ≤ 63 * k
  | 0, _ => Nat.le_refl _
  | k + 1, h => by
    have := packTo_tn ts k (by omega)
    rw [packTo_succ (by rw [List.length_map]; omega)]
    have e : (ts.map tnB).getD k [] = tnB (ts[k]'(by omega)) := by rw [List.getD_eq_getElem?_getD, List.getElem?_map, List.getElem?_eq_getElem (by omega)]; rfl
    have := tnB_len (ts[k]'(by omega))
    simp only [encV, List.length_append, List.length_cons, List.length_nil, e] at *; omega
theorem pack_tn {ts : List Turn} (h : ts.length ≤ 64) : (packTo (ts.map tnB) (ts.map tnB).length).length ≤ 4032 := by
  rw [List.length_map]; have := packTo_tn ts ts.length (Nat.le_refl _); omega
theorem packL_tn (ts : List Turn) : packL (ts.map tnB) = false := by
  unfold packL
  rw [List.any_eq_false]
  intro v hv
  obtain ⟨t, _, rfl⟩ := List.mem_map.1 hv
  have := tnB_len t
  simp; omega
def tnP (p : Proof) : List UInt8 := packTo (p.turns.map tnB) p.turns.length
def encE (p : Proof) : Int := if 64 < p.turns.length then 3 else if p.turns.any tnBad = true then 12 else if putE p.key ≠ 0 then 3 else if putE p.value ≠ 0 then 3 else 0
def encB (p : Proof) : List UInt8 := if 64 < p.turns.length then [] else if p.turns.any tnBad = true then [] else if putE p.key ≠ 0 then [] else if putE p.value ≠ 0 then [] else putF (putF (putF [] 1 p.key) 2 p.value) 3 (tnP p)
def NJ (ts : List Turn) (k : Nat) : Prop := ts.length ≤ 64 ∧ k ≤ ts.length ∧ ∀ j, j < k → tnBad (ts.getD j kT) = false
section
variable {ts : List Turn} {k : Nat} {p : Proof}
theorem NJ.start (h : ¬ (64 : Int) < ts.length) : NJ ts 0 := ⟨by omega, Nat.zero_le _, fun j h => absurd h (by omega)⟩
theorem NJ.next (h : NJ ts k) (hk : (k : Int) < ts.length) (h1 : ¬ (ts.getD (k : Int).toNat kT).height < 1) (h2 : ¬ 64 < (ts.getD (k : Int).toNat kT).height) : NJ ts (k + 1) ∧ ts.length - (k + 1) < ts.length - k := by
  rw [Int.toNat_natCast] at h1 h2
  refine ⟨⟨h.1, by omega, fun j hj => ?_⟩, by omega⟩
  rcases Nat.lt_or_ge j k with c | c
  · exact h.2.2 j c
  · have : j = k := by omega
    subst this; exact decide_eq_false (by omega)
theorem NJ.hit (h : NJ ts k) (hk : (k : Int) < ts.length) (hb : tnBad (ts.getD (k : Int).toNat kT) = true) : ts.any tnBad = true := by
  rw [Int.toNat_natCast] at hb
  have hk' : k < ts.length := by omega
  rw [List.any_eq_true]
  refine ⟨ts[k], List.getElem_mem hk', ?_⟩
  rw [List.getD_eq_getElem?_getD, List.getElem?_eq_getElem hk'] at hb; exact hb
theorem NJ.stop (h : NJ ts k) (hk : ¬ (k : Int) < ts.length) : ts.any tnBad = false := by
  rw [List.any_eq_false]
  intro v hv
  obtain ⟨j, hj, rfl⟩ := List.getElem_of_mem hv
  have := h.2.2 j (by have := h.2.1; omega)
  rw [List.getD_eq_getElem?_getD, List.getElem?_eq_getElem hj] at this
  simpa using this
theorem tn_step (hk : (k : Int) < ts.length) {x : List UInt8} (hx : x = tnB (ts.getD (k : Int).toNat kT)) : (ts.take k).map tnB ++ [x] = (ts.take (k + 1)).map tnB := by
  rw [hx, Int.toNat_natCast, List.take_add_one, List.getD_eq_getElem?_getD, List.getElem?_eq_getElem (by omega)]; simp only [Option.toList, List.map_append, List.map_cons, List.map_nil, Option.getD_some]
theorem tn_r (hk : (k : Int) < ts.length) (h : (ts.getD (k : Int).toNat kT).right = true) : (ts.take k).map tnB ++ [putF (putF (putF (putF [] 1 (numTo (ofI (ts.getD (k : Int).toNat kT).height) 8)) 2 (numTo (ts.getD (k : Int).toNat kT).size 8)) 3 [1]) 4 (ts.getD (k : Int).toNat kT).other.l] = (ts.take (k + 1)).map tnB :=
  tn_step hk (by unfold tnB; rw [if_pos h])
theorem tn_l (hk : (k : Int) < ts.length) (h : (ts.getD (k : Int).toNat kT).right = false) : (ts.take k).map tnB ++ [putF (putF (putF [] 1 (numTo (ofI (ts.getD (k : Int).toNat kT).height) 8)) 2 (numTo (ts.getD (k : Int).toNat kT).size 8)) 4 (ts.getD (k : Int).toNat kT).other.l] = (ts.take (k + 1)).map tnB :=
  tn_step hk (by unfold tnB; rw [if_neg (by rw [h]; decide)])
theorem NJ.all (h : NJ ts k) (hk : ¬ (k : Int) < ts.length) : (ts.take k).map tnB = ts.map tnB := by rw [List.take_of_length_le (by omega)]
theorem NJ.pk (h : NJ ts k) (hk : ¬ (k : Int) < ts.length) : (packTo ((ts.take k).map tnB) ((ts.take k).map tnB).length).length ≤ 900000 := by rw [h.all hk]; exact Nat.le_trans (pack_tn h.1) (by decide)
theorem NJ.pr (h : NJ ts k) (hk : ¬ (k : Int) < ts.length) : packR ((ts.take k).map tnB) = packTo (ts.map tnB) ts.length := by
  rw [h.all hk]; unfold packR; rw [if_neg (by rw [packL_tn]; decide), List.length_map]
theorem NJ.pl (h : NJ ts k) (hk : ¬ (k : Int) < ts.length) : (packR ((ts.take k).map tnB)).length ≤ 4032 := by
  rw [h.pr hk]; have := pack_tn h.1; rwa [List.length_map] at this
theorem en0 (h : (64 : Int) < p.turns.length) : [] = encB p ∧ 3 = encE p := by
  refine ⟨?_, ?_⟩
  · unfold encB; rw [if_pos (by omega)]
  · unfold encE; rw [if_pos (by omega)]
theorem en1 (h : NJ p.turns k) (hk : (k : Int) < p.turns.length) (hb : (p.turns.getD (k : Int).toNat kT).height < 1 ∨ 64 < (p.turns.getD (k : Int).toNat kT).height) : [] = encB p ∧ 12 = encE p := by
  have := h.hit hk (decide_eq_true hb)
  refine ⟨?_, ?_⟩
  · unfold encB; rw [if_neg (by have := h.1; omega), if_pos this]
  · unfold encE; rw [if_neg (by have := h.1; omega), if_pos this]
theorem putE_ne {v : List UInt8} : putE v ≠ 0 ↔ 65535 < v.length := by unfold putE; split <;> simp_all
theorem putE_3 {v : List UInt8} (h : putE v ≠ 0) : putE v = 3 := by unfold putE at *; split <;> simp_all
theorem en2 (h : NJ p.turns k) (hk : ¬ (k : Int) < p.turns.length) (hb : ¬ putE p.key = 0) : putF [] 1 p.key = encB p ∧ putE p.key = encE p := by
  have := h.stop hk
  have e : putF [] 1 p.key = [] := by unfold putF; rw [if_pos (putE_ne.1 hb)]
  refine ⟨?_, ?_⟩
  · unfold encB; rw [if_neg (by have := h.1; omega), if_neg (by rw [this]; decide), if_pos hb]; exact e
  · unfold encE; rw [if_neg (by have := h.1; omega), if_neg (by rw [this]; decide), if_pos hb]; exact putE_3 hb
theorem en3 (h : NJ p.turns k) (hk : ¬ (k : Int) < p.turns.length) (h1 : putE p.key = 0) (hb : ¬ putE p.value = 0) : putF (putF [] 1 p.key) 2 p.value = encB p ∧ putE p.value = encE p := by
  have := h.stop hk
  have e : ∀ b, putF b 2 p.value = [] := fun b => by unfold putF; rw [if_pos (putE_ne.1 hb)]
  refine ⟨?_, ?_⟩
  · unfold encB; rw [if_neg (by have := h.1; omega), if_neg (by rw [this]; decide), if_neg (fun q => q h1), if_pos hb]; exact e _
  · unfold encE; rw [if_neg (by have := h.1; omega), if_neg (by rw [this]; decide), if_neg (fun q => q h1), if_pos hb]; exact putE_3 hb
theorem en4 (h : NJ p.turns k) (hk : ¬ (k : Int) < p.turns.length) (h1 : putE p.key = 0) (h2 : putE p.value = 0) : putF (putF (putF [] 1 p.key) 2 p.value) 3 (packR ((p.turns.take k).map tnB)) = encB p ∧ putE (packR ((p.turns.take k).map tnB)) = encE p := by
  have := h.stop hk
  have hl := h.pl hk
  have e : putE (packR ((p.turns.take k).map tnB)) = 0 := by unfold putE; rw [if_neg (by omega)]
  rw [e, h.pr hk]
  refine ⟨?_, ?_⟩
  · unfold encB; rw [if_neg (by have := h.1; omega), if_neg (by rw [this]; decide), if_neg (fun q => q h1), if_neg (fun q => q h2)]; rfl
  · unfold encE; rw [if_neg (by have := h.1; omega), if_neg (by rw [this]; decide), if_neg (fun q => q h1), if_neg (fun q => q h2)]
end
noncomputable def ccK2_33 : Code := (Tryd.f33.body).getD .skip
theorem Encode_ok (p : Proof) (h1 : p.key.length ≤ 200000) (h2 : p.value.length ≤ 200000) (h3 : p.turns.length ≤ 1000000) : FOk EN 33 ⟨[.rd 5 (p.key), .rd 5 (p.value), .rd 121 p.turns], [.a [.n 0, .n 1, .n 2]], Unit, fun _ => ([.rd 5 (p.key), .rd 5 (p.value), .rd 121 p.turns, .ow 5 (encB p)], .t [.n 3, .i (encE p)]), fun _ => True⟩ := by
 refine v_fun Tryd.f33 ccK2_33 MX (fun ν F σ w => ?_) Tryd.func33
 refine v_nl ?_
 refine v_if (decide (64 < (↑p.turns.length : Int))) True trivial (fun h1 => ?_) (fun h1 => ?_)
 ·have h1 := of_decide_eq_true h1
  exact v_ret () [3] ((3 = encE p) ∧ (p.key = p.key) ∧ (p.value = p.value) ∧ (p.turns = p.turns) ∧ ([] = encB p)) ⟨(by exact (en0 ‹_›).2), rfl, rfl, rfl, (by exact (en0 ‹_›).1)⟩ trivial
 ·have h1 := of_decide_eq_false h1
  refine v_loop (fun k : Nat => ([(20, .i k), (4, .n 5)], [.ow 22 ((p.turns.take k).map tnB)])) (fun k => NJ p.turns k) (fun k => p.turns.length - k) 0 [3] (((0 : Int) = (↑(0 : Nat) : Int)) ∧ ([] = List.map tnB (List.take 0 p.turns))) ⟨rfl, rfl⟩ (by exact (NJ.start ‹_›)) (fun k hk2 => ?_)
  refine v_if (decide ((↑k : Int) < (↑p.turns.length : Int))) True trivial (fun h3 => ?_) (fun h3 => ?_)
  ·have h3 := of_decide_eq_true h3
   refine v_guard 27 (decide ((p.turns.getD (↑k : Int).toNat (Turn.mk 0 0 false zero32)).height < 1)) ((0 ≤ (↑k : Int) ∧ (↑k : Int) < (↑p.turns.length : Int))) (by omega) (fun h4 => ?_) (fun h4 => ?_)
   ·have h4 := of_decide_eq_true h4
    refine v_leave .rt True trivial ?_
    exact v_ret () [3] ((12 = encE p) ∧ (p.key = p.key) ∧ (p.value = p.value) ∧ (p.turns = p.turns) ∧ ([] = encB p)) ⟨(by exact (en1 ‹_› ‹_› (Or.inl ‹_›)).2), rfl, rfl, rfl, (by exact (en1 ‹_› ‹_› (Or.inl ‹_›)).1)⟩ trivial
   ·have h4 := of_decide_eq_false h4
    refine v_if (decide (64 < (p.turns.getD (↑k : Int).toNat (Turn.mk 0 0 false zero32)).height)) True trivial (fun h5 => ?_) (fun h5 => ?_)
    ·have h5 := of_decide_eq_true h5
     refine v_leave .rt True trivial ?_
     exact v_ret () [3] ((12 = encE p) ∧ (p.key = p.key) ∧ (p.value = p.value) ∧ (p.turns = p.turns) ∧ ([] = encB p)) ⟨(by exact (en1 ‹_› ‹_› (Or.inr ‹_›)).2), rfl, rfl, rfl, (by exact (en1 ‹_› ‹_› (Or.inr ‹_›)).1)⟩ trivial
    ·have h5 := of_decide_eq_false h5
     refine v_call _ [] (num_ok (ofI (p.turns.getD (↑k : Int).toNat (Turn.mk 0 0 false zero32)).height)) ((ofI (p.turns.getD (↑k : Int).toNat (Turn.mk 0 0 false zero32)).height = ofI (p.turns.getD (↑k : Int).toNat (Turn.mk 0 0 false zero32)).height)) rfl (fun g6 p7 => ?_)
     have p7 : True := p7
     refine v_call _ [3, 8] (put_ok ([]) (1) (numTo (ofI (p.turns.getD (↑k : Int).toNat (Turn.mk 0 0 false zero32)).height) 8) (by exact f1)) (((1 : UInt8) = (1 : UInt8)) ∧ (Eq (α := List UInt8) [] []) ∧ (numTo (ofI (p.turns.getD (↑k : Int).toNat (Turn.mk 0 0 false zero32)).height) 8 = numTo (ofI (p.turns.getD (↑k : Int).toNat (Turn.mk 0 0 false zero32)).height) 8)) ⟨rfl, rfl, rfl⟩ (fun g8 p9 => ?_)
     have p9 : True := p9
     refine v_call _ [] (num_ok ((p.turns.getD (↑k : Int).toNat (Turn.mk 0 0 false zero32)).size)) (((p.turns.getD (↑k : Int).toNat (Turn.mk 0 0 false zero32)).size = (p.turns.getD (↑k : Int).toNat (Turn.mk 0 0 false zero32)).size)) rfl (fun g10 p11 => ?_)
     have p11 : True := p11
     refine v_call _ [9, 10] (put_ok (putF [] 1 (numTo (ofI (p.turns.getD (↑k : Int).toNat (Turn.mk 0 0 false zero32)).height) 8)) (2) (numTo (p.turns.getD (↑k : Int).toNat (Turn.mk 0 0 false zero32)).size 8) (by exact f2)) (((2 : UInt8) = (2 : UInt8)) ∧ (putF [] 1 (numTo (ofI (p.turns.getD (↑k : Int).toNat (Turn.mk 0 0 false zero32)).height) 8) = putF [] 1 (numTo (ofI (p.turns.getD (↑k : Int).toNat (Turn.mk 0 0 false zero32)).height) 8)) ∧ (numTo (p.turns.getD (↑k : Int).toNat (Turn.mk 0 0 false zero32)).size 8 = numTo (p.turns.getD (↑k : Int).toNat (Turn.mk 0 0 false zero32)).size 8)) ⟨rfl, rfl, rfl⟩ (fun g12 p13 => ?_)
     have p13 : True := p13
     refine v_if ((p.turns.getD (↑k : Int).toNat (Turn.mk 0 0 false zero32)).right) True trivial (fun h14 => ?_) (fun h14 => ?_)
     ·skip
      refine v_call _ [11, 12] (put_ok (putF (putF [] 1 (numTo (ofI (p.turns.getD (↑k : Int).toNat (Turn.mk 0 0 false zero32)).height) 8)) 2 (numTo (p.turns.getD (↑k : Int).toNat (Turn.mk 0 0 false zero32)).size 8)) (3) ([1]) (by exact f3)) (((3 : UInt8) = (3 : UInt8)) ∧ (putF (putF [] 1 (numTo (ofI (p.turns.getD (↑k : Int).toNat (Turn.mk 0 0 false zero32)).height) 8)) 2 (numTo (p.turns.getD (↑k : Int).toNat (Turn.mk 0 0 false zero32)).size 8) = putF (putF [] 1 (numTo (ofI (p.turns.getD (↑k : Int).toNat (Turn.mk 0 0 false zero32)).height) 8)) 2 (numTo (p.turns.getD (↑k : Int).toNat (Turn.mk 0 0 false zero32)).size 8)) ∧ ([(1 : UInt8)] = [(1 : UInt8)])) ⟨rfl, rfl, rfl⟩ (fun g15 p16 => ?_)
      have p16 : True := p16
      refine v_call _ [13, 14] (put_ok (putF (putF (putF [] 1 (numTo (ofI (p.turns.getD (↑k : Int).toNat (Turn.mk 0 0 false zero32)).height) 8)) 2 (numTo (p.turns.getD (↑k : Int).toNat (Turn.mk 0 0 false zero32)).size 8)) 3 [1]) (4) ((p.turns.getD (↑k : Int).toNat (Turn.mk 0 0 false zero32)).other.l) (by exact f4)) (((p.turns.getD (↑k : Int).toNat (Turn.mk 0 0 false zero32)).other.l.length = 32 ∧ 32 ≤ 1000000) ∧ ((4 : UInt8) = (4 : UInt8)) ∧ (putF (putF (putF [] 1 (numTo (ofI (p.turns.getD (↑k : Int).toNat (Turn.mk 0 0 false zero32)).height) 8)) 2 (numTo (p.turns.getD (↑k : Int).toNat (Turn.mk 0 0 false zero32)).size 8)) 3 [1] = putF (putF (putF [] 1 (numTo (ofI (p.turns.getD (↑k : Int).toNat (Turn.mk 0 0 false zero32)).height) 8)) 2 (numTo (p.turns.getD (↑k : Int).toNat (Turn.mk 0 0 false zero32)).size 8)) 3 [1]) ∧ ((p.turns.getD (↑k : Int).toNat (Turn.mk 0 0 false zero32)).other.l = (p.turns.getD (↑k : Int).toNat (Turn.mk 0 0 false zero32)).other.l)) ⟨(by exact ⟨Sum32.h _, by decide⟩), rfl, rfl, rfl⟩ (fun g17 p18 => ?_)
      have p18 : True := p18
      exact v_back (k + 1) [17] (((List.map tnB (List.take k p.turns)).length + 1 ≤ 1000000) ∧ (I64 (↑k + 1)) ∧ ((↑k : Int) + 1 = (↑(k + 1) : Int)) ∧ (List.map tnB (List.take k p.turns) ++ [putF (putF (putF (putF [] 1 (numTo (ofI (p.turns.getD (↑k : Int).toNat (Turn.mk 0 0 false zero32)).height) 8)) 2 (numTo (p.turns.getD (↑k : Int).toNat (Turn.mk 0 0 false zero32)).size 8)) 3 [1]) 4 (p.turns.getD (↑k : Int).toNat (Turn.mk 0 0 false zero32)).other.l] = List.map tnB (List.take (k + 1) p.turns))) ⟨(by (simp; omega)), (by (unfold I64; omega)), rfl, (by exact tn_r ‹_› ‹_›)⟩ (show NJ p.turns (k + 1) ∧ p.turns.length - (k + 1) < p.turns.length - k from (by exact NJ.next ‹_› ‹_› ‹_› ‹_›))
     ·skip
      refine v_call _ [11, 12] (put_ok (putF (putF [] 1 (numTo (ofI (p.turns.getD (↑k : Int).toNat (Turn.mk 0 0 false zero32)).height) 8)) 2 (numTo (p.turns.getD (↑k : Int).toNat (Turn.mk 0 0 false zero32)).size 8)) (4) ((p.turns.getD (↑k : Int).toNat (Turn.mk 0 0 false zero32)).other.l) (by exact f5)) (((p.turns.getD (↑k : Int).toNat (Turn.mk 0 0 false zero32)).other.l.length = 32 ∧ 32 ≤ 1000000) ∧ ((4 : UInt8) = (4 : UInt8)) ∧ (putF (putF [] 1 (numTo (ofI (p.turns.getD (↑k : Int).toNat (Turn.mk 0 0 false zero32)).height) 8)) 2 (numTo (p.turns.getD (↑k : Int).toNat (Turn.mk 0 0 false zero32)).size 8) = putF (putF [] 1 (numTo (ofI (p.turns.getD (↑k : Int).toNat (Turn.mk 0 0 false zero32)).height) 8)) 2 (numTo (p.turns.getD (↑k : Int).toNat (Turn.mk 0 0 false zero32)).size 8)) ∧ ((p.turns.getD (↑k : Int).toNat (Turn.mk 0 0 false zero32)).other.l = (p.turns.getD (↑k : Int).toNat (Turn.mk 0 0 false zero32)).other.l)) ⟨(by exact ⟨Sum32.h _, by decide⟩), rfl, rfl, rfl⟩ (fun g19 p20 => ?_)
      have p20 : True := p20
      exact v_back (k + 1) [15] (((List.map tnB (List.take k p.turns)).length + 1 ≤ 1000000) ∧ (I64 (↑k + 1)) ∧ ((↑k : Int) + 1 = (↑(k + 1) : Int)) ∧ (List.map tnB (List.take k p.turns) ++ [putF (putF (putF [] 1 (numTo (ofI (p.turns.getD (↑k : Int).toNat (Turn.mk 0 0 false zero32)).height) 8)) 2 (numTo (p.turns.getD (↑k : Int).toNat (Turn.mk 0 0 false zero32)).size 8)) 4 (p.turns.getD (↑k : Int).toNat (Turn.mk 0 0 false zero32)).other.l] = List.map tnB (List.take (k + 1) p.turns))) ⟨(by (simp; omega)), (by (unfold I64; omega)), rfl, (by exact tn_l ‹_› ‹_›)⟩ (show NJ p.turns (k + 1) ∧ p.turns.length - (k + 1) < p.turns.length - k from (by exact NJ.next ‹_› ‹_› ‹_› ‹_›))
  ·have h3 := of_decide_eq_false h3
   refine v_leave (.ex 0) True trivial ?_
   refine v_call _ [5] (pack_ok (List.map tnB (List.take k p.turns)) (by exact NJ.pk ‹_› ‹_›)) ((List.map tnB (List.take k p.turns) = List.map tnB (List.take k p.turns))) rfl (fun g21 p22 => ?_)
   have p22 : True := p22
   refine v_call _ [3, 0] (put_ok ([]) (1) (p.key) (by (simp; omega))) (((1 : UInt8) = (1 : UInt8)) ∧ (Eq (α := List UInt8) [] []) ∧ (p.key = p.key)) ⟨rfl, rfl, rfl⟩ (fun g23 p24 => ?_)
   have p24 : True := p24
   refine v_if (decide (putE p.key = 0)) True trivial (fun h25 => ?_) (fun h25 => ?_)
   ·have h25 := of_decide_eq_true h25
    refine v_call _ [7, 1] (put_ok (putF [] 1 p.key) (2) (p.value) (by (have hz := putF_len [] 1 p.key; rw [List.length_nil] at hz; omega))) (((2 : UInt8) = (2 : UInt8)) ∧ (putF [] 1 p.key = putF [] 1 p.key) ∧ (p.value = p.value)) ⟨rfl, rfl, rfl⟩ (fun g26 p27 => ?_)
    have p27 : True := p27
    refine v_if (decide (putE p.value = 0)) True trivial (fun h28 => ?_) (fun h28 => ?_)
    ·have h28 := of_decide_eq_true h28
     refine v_call _ [8, 6] (put_ok (putF (putF [] 1 p.key) 2 p.value) (3) (packR (List.map tnB (List.take k p.turns))) (by (have hz := putF_len [] 1 p.key; rw [List.length_nil] at hz; have hy := putF_len (putF [] 1 p.key) 2 p.value; have hx := NJ.pl (ts := p.turns) (k := k) ‹_› ‹_›; omega))) (((3 : UInt8) = (3 : UInt8)) ∧ (putF (putF [] 1 p.key) 2 p.value = putF (putF [] 1 p.key) 2 p.value) ∧ (packR (List.map tnB (List.take k p.turns)) = packR (List.map tnB (List.take k p.turns)))) ⟨rfl, rfl, rfl⟩ (fun g29 p30 => ?_)
     have p30 : True := p30
     exact v_ret () [9] ((putE (packR (List.map tnB (List.take k p.turns))) = encE p) ∧ (p.key = p.key) ∧ (p.value = p.value) ∧ (p.turns = p.turns) ∧ (putF (putF (putF [] 1 p.key) 2 p.value) 3 (packR (List.map tnB (List.take k p.turns))) = encB p)) ⟨(by exact (en4 ‹_› ‹_› ‹_› ‹_›).2), rfl, rfl, rfl, (by exact (en4 ‹_› ‹_› ‹_› ‹_›).1)⟩ trivial
    ·have h28 := of_decide_eq_false h28
     exact v_ret () [8] ((putE p.value = encE p) ∧ (p.key = p.key) ∧ (p.value = p.value) ∧ (p.turns = p.turns) ∧ (putF (putF [] 1 p.key) 2 p.value = encB p)) ⟨(by exact (en3 ‹_› ‹_› ‹_› ‹_›).2), rfl, rfl, rfl, (by exact (en3 ‹_› ‹_› ‹_› ‹_›).1)⟩ trivial
   ·have h25 := of_decide_eq_false h25
    refine v_if (decide (putE p.key = 0)) True trivial (fun h31 => ?_) (fun h31 => ?_)
    ·have h31 := of_decide_eq_true h31
     omega
    ·have h31 := of_decide_eq_false h31
     exact v_ret () [7] ((putE p.key = encE p) ∧ (p.key = p.key) ∧ (p.value = p.value) ∧ (p.turns = p.turns) ∧ (putF [] 1 p.key = encB p)) ⟨(by exact (en2 ‹_› ‹_› ‹_›).2), rfl, rfl, rfl, (by exact (en2 ‹_› ‹_› ‹_›).1)⟩ trivial
theorem dropZ_snoc (x : UInt8) : ∀ l : List UInt8, dropZ (l ++ [x]) = if dropZ l = [] then (if x = 0 then [] else [x]) else dropZ l ++ [x]
  | [] => by simp [dropZ]
  | y :: l => by
    by_cases h : y = 0
    · have := dropZ_snoc x l
      simp only [List.cons_append, dropZ, if_pos h]; exact this
    · simp only [List.cons_append, dropZ, if_neg h, List.cons_ne_nil, if_false]
theorem numTo_eq (n : UInt64) : ∀ k : Nat, numTo n k = dropZ (eightTo n k)
  | 0 => rfl
  | k + 1 => by
    have e : (8 * (7 - (k : Int))).toNat = (56 - 8 * (k : Int)).toNat := by omega
    have ih := numTo_eq n k
    unfold numTo eightTo
    rw [dropZ_snoc, ← ih, numStep, e]
    by_cases hl : numTo n k = []
    · rw [hl, if_pos rfl]
      by_cases hx : (n >>> (56 - 8 * (k : Int)).toNat.toUInt64).toUInt8 = 0
      · rw [if_neg (by simp [hx]), if_pos hx]
      · rw [if_pos (.inl hx), if_neg hx]; rfl
    · rw [if_neg hl, if_pos (.inr (List.length_pos_iff.2 hl))]
theorem putR_eq {b : List UInt8} {t : UInt8} {v : List UInt8} (h : v.length ≤ 65535) : putR b t v = putF b t v := by
  unfold putR putF
  rw [if_neg (show ¬ 65535 < v.length by omega)]
  split
  · rfl
  · have e : ofI8 ((v.length : Int) % 256) = lo v.length := by
      unfold lo ofI8
      apply UInt8.toNat_inj.1
      rw [UInt8.toNat_ofNat', UInt8.toNat_ofNat']
      omega
    rw [e]; rfl
def tnR (t : Turn) : List UInt8 := putR (if t.right = true then putR (putR (putR [] 1 (dropZ (eightTo (ofI t.height) 8))) 2 (dropZ (eightTo t.size 8))) 3 [1] else putR (putR [] 1 (dropZ (eightTo (ofI t.height) 8))) 2 (dropZ (eightTo t.size 8))) 4 t.other.l
theorem tnR_eq (t : Turn) : tnR t = tnB t := by
  have h1 := numTo_len (ofI t.height) 8
  have h2 := numTo_len t.size 8
  have h3 := t.other.h
  unfold tnR tnB
  rw [← numTo_eq, ← numTo_eq, putR_eq (v := t.other.l) (by omega), putR_eq (v := numTo (ofI t.height) 8) (by omega), putR_eq (v := numTo t.size 8) (by omega), putR_eq (v := [1]) (by decide)]
theorem map_tnR (ts : List Turn) : ts.map tnR = ts.map tnB := by congr 1; funext t; exact tnR_eq t
section
variable {n m : UInt64} {o : Sum32} {ts : List Turn} {k : Nat} {p : Proof}
theorem dz (n : UInt64) : (dropZ (eightTo n 8)).length ≤ 8 := by rw [← numTo_eq]; exact numTo_len n 8
theorem putR_len (b : List UInt8) (t : UInt8) (v : List UInt8) : (putR b t v).length ≤ b.length + v.length + 3 := by
  unfold putR; split
  · omega
  · simp; omega
theorem r1 : (putR [] 1 (dropZ (eightTo n 8))).length ≤ 11 := by have := putR_len [] 1 (dropZ (eightTo n 8)); have := dz n; simp only [List.length_nil] at *; omega
theorem r2 : (putR (putR [] 1 (dropZ (eightTo n 8))) 2 (dropZ (eightTo m 8))).length ≤ 22 := by have := putR_len (putR [] 1 (dropZ (eightTo n 8))) 2 (dropZ (eightTo m 8)); have := dz m; have := r1 (n := n); omega
theorem r3 : (putR (putR (putR [] 1 (dropZ (eightTo n 8))) 2 (dropZ (eightTo m 8))) 3 [1]).length ≤ 26 := by have := putR_len (putR (putR [] 1 (dropZ (eightTo n 8))) 2 (dropZ (eightTo m 8))) 3 [1]; have := r2 (n := n) (m := m); simp only [List.length_cons, List.length_nil] at *; omega
theorem g1 : ([] : List UInt8).length + (dropZ (eightTo n 8)).length ≤ 900000 := by have := dz n; simp only [List.length_nil]; omega
theorem g2 : (putR [] 1 (dropZ (eightTo n 8))).length + (dropZ (eightTo m 8)).length ≤ 900000 := by have := dz m; have := r1 (n := n); omega
theorem g3 : (putR (putR [] 1 (dropZ (eightTo n 8))) 2 (dropZ (eightTo m 8))).length + ([1] : List UInt8).length ≤ 900000 := by have := r2 (n := n) (m := m); simp only [List.length_cons, List.length_nil]; omega
theorem g4 : (putR (putR (putR [] 1 (dropZ (eightTo n 8))) 2 (dropZ (eightTo m 8))) 3 [1]).length + o.l.length ≤ 900000 := by have := r3 (n := n) (m := m); have := o.h; omega
theorem g5 : (putR (putR [] 1 (dropZ (eightTo n 8))) 2 (dropZ (eightTo m 8))).length + o.l.length ≤ 900000 := by have := r2 (n := n) (m := m); have := o.h; omega
theorem tq_step (hk : (k : Int) < ts.length) {x : List UInt8} (hx : x = tnR (ts.getD (k : Int).toNat kT)) : (ts.take k).map tnR ++ [x] = (ts.take (k + 1)).map tnR := by
  rw [map_tnR, map_tnR]; exact tn_step hk (by rw [hx, tnR_eq])
theorem tq_r (hk : (k : Int) < ts.length) (h : (ts.getD (k : Int).toNat kT).right = true) : (ts.take k).map tnR ++ [putR (putR (putR (putR [] 1 (dropZ (eightTo (ofI (ts.getD (k : Int).toNat kT).height) 8))) 2 (dropZ (eightTo (ts.getD (k : Int).toNat kT).size 8))) 3 [1]) 4 (ts.getD (k : Int).toNat kT).other.l] = (ts.take (k + 1)).map tnR :=
  tq_step hk (by unfold tnR; rw [if_pos h])
theorem tq_l (hk : (k : Int) < ts.length) (h : (ts.getD (k : Int).toNat kT).right = false) : (ts.take k).map tnR ++ [putR (putR (putR [] 1 (dropZ (eightTo (ofI (ts.getD (k : Int).toNat kT).height) 8))) 2 (dropZ (eightTo (ts.getD (k : Int).toNat kT).size 8))) 4 (ts.getD (k : Int).toNat kT).other.l] = (ts.take (k + 1)).map tnR :=
  tq_step hk (by unfold tnR; rw [if_neg (by rw [h]; decide)])
theorem NJ.pkR (h : NJ ts k) (hk : ¬ (k : Int) < ts.length) : (packTo ((ts.take k).map tnR) ((ts.take k).map tnR).length).length ≤ 4032 := by
  rw [map_tnR, h.all hk]; exact pack_tn h.1
theorem NJ.prR (h : NJ ts k) (hk : ¬ (k : Int) < ts.length) : packTo ((ts.take k).map tnR) ((ts.take k).map tnR).length = packTo (ts.map tnB) ts.length := by
  rw [map_tnR, h.all hk, List.length_map]
theorem eR2 (h : NJ p.turns k) (hk : ¬ (k : Int) < p.turns.length) (hb : 65535 < p.key.length) : [] = encB p ∧ 3 = encE p := by
  have := en2 h hk (putE_ne.2 hb)
  have e : putF [] 1 p.key = [] := by unfold putF; rw [if_pos hb]
  rw [e, putE_3 (putE_ne.2 hb)] at this; exact this
theorem eR3 (h : NJ p.turns k) (hk : ¬ (k : Int) < p.turns.length) (h1 : ¬ 65535 < p.key.length) (hb : 65535 < p.value.length) : [] = encB p ∧ 3 = encE p := by
  have := en3 h hk (by unfold putE; rw [if_neg h1]) (putE_ne.2 hb)
  have e : putF (putF [] 1 p.key) 2 p.value = [] := by rw [putF, if_pos hb]
  rw [e, putE_3 (putE_ne.2 hb)] at this; exact this
theorem eR4 (h : NJ p.turns k) (hk : ¬ (k : Int) < p.turns.length) (h1 : ¬ 65535 < p.key.length) (h2 : ¬ 65535 < p.value.length) : putR (putR (putR [] 1 p.key) 2 p.value) 3 (packTo ((p.turns.take k).map tnR) ((p.turns.take k).map tnR).length) = encB p ∧ 0 = encE p := by
  have := en4 h hk (by unfold putE; rw [if_neg h1]) (by unfold putE; rw [if_neg h2])
  have hl := h.pkR hk
  have hp := h.pl hk
  rw [h.pr hk] at this hp
  rw [h.prR hk] at hl ⊢
  rw [putR_eq (v := packTo _ _) (by omega), putR_eq (v := p.key) (by omega), putR_eq (v := p.value) (by omega)]
  have e : putE (packTo (p.turns.map tnB) p.turns.length) = 0 := by unfold putE; rw [if_neg (by omega)]
  rw [e] at this; exact this
end
noncomputable def ccK3_34 : Code := (Tryd.f34.body).getD .skip
theorem EncodeProof_ok (p : Proof) (h1 : p.key.length ≤ 200000) (h2 : p.value.length ≤ 200000) (h3 : p.turns.length ≤ 1000000) : FOk EN 34 ⟨[.rd 5 (p.key), .rd 5 (p.value), .rd 121 p.turns], [.a [.n 0, .n 1, .n 2]], Unit, fun _ => ([.rd 5 (p.key), .rd 5 (p.value), .rd 121 p.turns, .rd 5 (encB p)], .t [.n 3, .i (encE p)]), fun _ => True⟩ := by
 refine v_fun Tryd.f34 ccK3_34 MX (fun ν F σ w => ?_) Tryd.func34
 refine v_nl ?_
 refine v_if (decide (64 < (↑p.turns.length : Int))) True trivial (fun h1 => ?_) (fun h1 => ?_)
 ·have h1 := of_decide_eq_true h1
  exact v_ret () [3] ((3 = encE p) ∧ (p.key = p.key) ∧ (p.value = p.value) ∧ (p.turns = p.turns) ∧ ([] = encB p)) ⟨(by exact (en0 ‹_›).2), rfl, rfl, rfl, (by exact (en0 ‹_›).1)⟩ trivial
 ·have h1 := of_decide_eq_false h1
  refine v_loop (fun k : Nat => ([(5, .i k), (4, .n 5)], [.ow 22 ((p.turns.take k).map tnR)])) (fun k => NJ p.turns k) (fun k => p.turns.length - k) 0 [3] (((0 : Int) = (↑(0 : Nat) : Int)) ∧ ([] = List.map tnR (List.take 0 p.turns))) ⟨rfl, rfl⟩ (by exact (NJ.start ‹_›)) (fun k hk2 => ?_)
  refine v_if (decide ((↑k : Int) < (↑p.turns.length : Int))) True trivial (fun h3 => ?_) (fun h3 => ?_)
  ·have h3 := of_decide_eq_true h3
   refine v_guard 27 (decide ((p.turns.getD (↑k : Int).toNat (Turn.mk 0 0 false zero32)).height < 1)) ((0 ≤ (↑k : Int) ∧ (↑k : Int) < (↑p.turns.length : Int))) (by omega) (fun h4 => ?_) (fun h4 => ?_)
   ·have h4 := of_decide_eq_true h4
    refine v_leave .rt True trivial ?_
    exact v_ret () [3] ((12 = encE p) ∧ (p.key = p.key) ∧ (p.value = p.value) ∧ (p.turns = p.turns) ∧ ([] = encB p)) ⟨(by exact (en1 ‹_› ‹_› (Or.inl ‹_›)).2), rfl, rfl, rfl, (by exact (en1 ‹_› ‹_› (Or.inl ‹_›)).1)⟩ trivial
   ·have h4 := of_decide_eq_false h4
    refine v_if (decide (64 < (p.turns.getD (↑k : Int).toNat (Turn.mk 0 0 false zero32)).height)) True trivial (fun h5 => ?_) (fun h5 => ?_)
    ·have h5 := of_decide_eq_true h5
     refine v_leave .rt True trivial ?_
     exact v_ret () [3] ((12 = encE p) ∧ (p.key = p.key) ∧ (p.value = p.value) ∧ (p.turns = p.turns) ∧ ([] = encB p)) ⟨(by exact (en1 ‹_› ‹_› (Or.inr ‹_›)).2), rfl, rfl, rfl, (by exact (en1 ‹_› ‹_› (Or.inr ‹_›)).1)⟩ trivial
    ·have h5 := of_decide_eq_false h5
     refine v_plan (.fs [0, 1, 2, 5, 6] (.o 3 (.o 4 (.o 7 (.o 8 (.fs [9] .e)))))) [4, 5, 7] True trivial ?_
     refine v_call _ [] (numr_ok (ofI (p.turns.getD (↑k : Int).toNat (Turn.mk 0 0 false zero32)).height)) ((ofI (p.turns.getD (↑k : Int).toNat (Turn.mk 0 0 false zero32)).height = ofI (p.turns.getD (↑k : Int).toNat (Turn.mk 0 0 false zero32)).height)) rfl (fun g6 p7 => ?_)
     have p7 : True := p7
     refine v_call _ [3, 8] (putr_ok ([]) (1) (dropZ (eightTo (ofI (p.turns.getD (↑k : Int).toNat (Turn.mk 0 0 false zero32)).height) 8)) (by exact g1)) (((1 : UInt8) = (1 : UInt8)) ∧ (Eq (α := List UInt8) [] []) ∧ (dropZ (eightTo (ofI (p.turns.getD (↑k : Int).toNat (Turn.mk 0 0 false zero32)).height) 8) = dropZ (eightTo (ofI (p.turns.getD (↑k : Int).toNat (Turn.mk 0 0 false zero32)).height) 8))) ⟨rfl, rfl, rfl⟩ (fun g8 p9 => ?_)
     have p9 : True := p9
     refine v_call _ [] (numr_ok ((p.turns.getD (↑k : Int).toNat (Turn.mk 0 0 false zero32)).size)) (((p.turns.getD (↑k : Int).toNat (Turn.mk 0 0 false zero32)).size = (p.turns.getD (↑k : Int).toNat (Turn.mk 0 0 false zero32)).size)) rfl (fun g10 p11 => ?_)
     have p11 : True := p11
     refine v_call _ [9, 10] (putr_ok (putR [] 1 (dropZ (eightTo (ofI (p.turns.getD (↑k : Int).toNat (Turn.mk 0 0 false zero32)).height) 8))) (2) (dropZ (eightTo (p.turns.getD (↑k : Int).toNat (Turn.mk 0 0 false zero32)).size 8)) (by exact g2)) (((2 : UInt8) = (2 : UInt8)) ∧ (putR [] 1 (dropZ (eightTo (ofI (p.turns.getD (↑k : Int).toNat (Turn.mk 0 0 false zero32)).height) 8)) = putR [] 1 (dropZ (eightTo (ofI (p.turns.getD (↑k : Int).toNat (Turn.mk 0 0 false zero32)).height) 8))) ∧ (dropZ (eightTo (p.turns.getD (↑k : Int).toNat (Turn.mk 0 0 false zero32)).size 8) = dropZ (eightTo (p.turns.getD (↑k : Int).toNat (Turn.mk 0 0 false zero32)).size 8))) ⟨rfl, rfl, rfl⟩ (fun g12 p13 => ?_)
     have p13 : True := p13
     refine v_if ((p.turns.getD (↑k : Int).toNat (Turn.mk 0 0 false zero32)).right) True trivial (fun h14 => ?_) (fun h14 => ?_)
     ·skip
      refine v_call _ [11, 12] (putr_ok (putR (putR [] 1 (dropZ (eightTo (ofI (p.turns.getD (↑k : Int).toNat (Turn.mk 0 0 false zero32)).height) 8))) 2 (dropZ (eightTo (p.turns.getD (↑k : Int).toNat (Turn.mk 0 0 false zero32)).size 8))) (3) ([1]) (by exact g3)) (((3 : UInt8) = (3 : UInt8)) ∧ (putR (putR [] 1 (dropZ (eightTo (ofI (p.turns.getD (↑k : Int).toNat (Turn.mk 0 0 false zero32)).height) 8))) 2 (dropZ (eightTo (p.turns.getD (↑k : Int).toNat (Turn.mk 0 0 false zero32)).size 8)) = putR (putR [] 1 (dropZ (eightTo (ofI (p.turns.getD (↑k : Int).toNat (Turn.mk 0 0 false zero32)).height) 8))) 2 (dropZ (eightTo (p.turns.getD (↑k : Int).toNat (Turn.mk 0 0 false zero32)).size 8))) ∧ ([(1 : UInt8)] = [(1 : UInt8)])) ⟨rfl, rfl, rfl⟩ (fun g15 p16 => ?_)
      have p16 : True := p16
      refine v_call _ [13, 14] (putr_ok (putR (putR (putR [] 1 (dropZ (eightTo (ofI (p.turns.getD (↑k : Int).toNat (Turn.mk 0 0 false zero32)).height) 8))) 2 (dropZ (eightTo (p.turns.getD (↑k : Int).toNat (Turn.mk 0 0 false zero32)).size 8))) 3 [1]) (4) ((p.turns.getD (↑k : Int).toNat (Turn.mk 0 0 false zero32)).other.l) (by exact g4)) (((p.turns.getD (↑k : Int).toNat (Turn.mk 0 0 false zero32)).other.l.length = 32 ∧ 32 ≤ 1000000) ∧ ((4 : UInt8) = (4 : UInt8)) ∧ (putR (putR (putR [] 1 (dropZ (eightTo (ofI (p.turns.getD (↑k : Int).toNat (Turn.mk 0 0 false zero32)).height) 8))) 2 (dropZ (eightTo (p.turns.getD (↑k : Int).toNat (Turn.mk 0 0 false zero32)).size 8))) 3 [1] = putR (putR (putR [] 1 (dropZ (eightTo (ofI (p.turns.getD (↑k : Int).toNat (Turn.mk 0 0 false zero32)).height) 8))) 2 (dropZ (eightTo (p.turns.getD (↑k : Int).toNat (Turn.mk 0 0 false zero32)).size 8))) 3 [1]) ∧ ((p.turns.getD (↑k : Int).toNat (Turn.mk 0 0 false zero32)).other.l = (p.turns.getD (↑k : Int).toNat (Turn.mk 0 0 false zero32)).other.l)) ⟨(by exact ⟨Sum32.h _, by decide⟩), rfl, rfl, rfl⟩ (fun g17 p18 => ?_)
      have p18 : True := p18
      exact v_back (k + 1) [17] (((List.map tnR (List.take k p.turns)).length + 1 ≤ 1000000) ∧ (I64 (↑k + 1)) ∧ ((↑k : Int) + 1 = (↑(k + 1) : Int)) ∧ (List.map tnR (List.take k p.turns) ++ [putR (putR (putR (putR [] 1 (dropZ (eightTo (ofI (p.turns.getD (↑k : Int).toNat (Turn.mk 0 0 false zero32)).height) 8))) 2 (dropZ (eightTo (p.turns.getD (↑k : Int).toNat (Turn.mk 0 0 false zero32)).size 8))) 3 [1]) 4 (p.turns.getD (↑k : Int).toNat (Turn.mk 0 0 false zero32)).other.l] = List.map tnR (List.take (k + 1) p.turns))) ⟨(by (simp; omega)), (by (unfold I64; omega)), rfl, (by exact tq_r ‹_› ‹_›)⟩ (show NJ p.turns (k + 1) ∧ p.turns.length - (k + 1) < p.turns.length - k from (by exact NJ.next ‹_› ‹_› ‹_› ‹_›))
     ·skip
      refine v_call _ [11, 12] (putr_ok (putR (putR [] 1 (dropZ (eightTo (ofI (p.turns.getD (↑k : Int).toNat (Turn.mk 0 0 false zero32)).height) 8))) 2 (dropZ (eightTo (p.turns.getD (↑k : Int).toNat (Turn.mk 0 0 false zero32)).size 8))) (4) ((p.turns.getD (↑k : Int).toNat (Turn.mk 0 0 false zero32)).other.l) (by exact g5)) (((p.turns.getD (↑k : Int).toNat (Turn.mk 0 0 false zero32)).other.l.length = 32 ∧ 32 ≤ 1000000) ∧ ((4 : UInt8) = (4 : UInt8)) ∧ (putR (putR [] 1 (dropZ (eightTo (ofI (p.turns.getD (↑k : Int).toNat (Turn.mk 0 0 false zero32)).height) 8))) 2 (dropZ (eightTo (p.turns.getD (↑k : Int).toNat (Turn.mk 0 0 false zero32)).size 8)) = putR (putR [] 1 (dropZ (eightTo (ofI (p.turns.getD (↑k : Int).toNat (Turn.mk 0 0 false zero32)).height) 8))) 2 (dropZ (eightTo (p.turns.getD (↑k : Int).toNat (Turn.mk 0 0 false zero32)).size 8))) ∧ ((p.turns.getD (↑k : Int).toNat (Turn.mk 0 0 false zero32)).other.l = (p.turns.getD (↑k : Int).toNat (Turn.mk 0 0 false zero32)).other.l)) ⟨(by exact ⟨Sum32.h _, by decide⟩), rfl, rfl, rfl⟩ (fun g19 p20 => ?_)
      have p20 : True := p20
      exact v_back (k + 1) [15] (((List.map tnR (List.take k p.turns)).length + 1 ≤ 1000000) ∧ (I64 (↑k + 1)) ∧ ((↑k : Int) + 1 = (↑(k + 1) : Int)) ∧ (List.map tnR (List.take k p.turns) ++ [putR (putR (putR [] 1 (dropZ (eightTo (ofI (p.turns.getD (↑k : Int).toNat (Turn.mk 0 0 false zero32)).height) 8))) 2 (dropZ (eightTo (p.turns.getD (↑k : Int).toNat (Turn.mk 0 0 false zero32)).size 8))) 4 (p.turns.getD (↑k : Int).toNat (Turn.mk 0 0 false zero32)).other.l] = List.map tnR (List.take (k + 1) p.turns))) ⟨(by (simp; omega)), (by (unfold I64; omega)), rfl, (by exact tq_l ‹_› ‹_›)⟩ (show NJ p.turns (k + 1) ∧ p.turns.length - (k + 1) < p.turns.length - k from (by exact NJ.next ‹_› ‹_› ‹_› ‹_›))
  ·have h3 := of_decide_eq_false h3
   refine v_leave (.ex 0) True trivial ?_
   refine v_guard 57 (decide (65535 < (↑p.key.length : Int))) True trivial (fun h21 => ?_) (fun h21 => ?_)
   ·have h21 := of_decide_eq_true h21
    exact v_ret () [3] ((3 = encE p) ∧ (p.key = p.key) ∧ (p.value = p.value) ∧ (p.turns = p.turns) ∧ ([] = encB p)) ⟨(by exact (eR2 ‹_› ‹_› (by omega)).2), rfl, rfl, rfl, (by exact (eR2 ‹_› ‹_› (by omega)).1)⟩ trivial
   ·have h21 := of_decide_eq_false h21
    refine v_if (decide (65535 < (↑p.value.length : Int))) True trivial (fun h22 => ?_) (fun h22 => ?_)
    ·have h22 := of_decide_eq_true h22
     exact v_ret () [3] ((3 = encE p) ∧ (p.key = p.key) ∧ (p.value = p.value) ∧ (p.turns = p.turns) ∧ ([] = encB p)) ⟨(by exact (eR3 ‹_› ‹_› (by omega) (by omega)).2), rfl, rfl, rfl, (by exact (eR3 ‹_› ‹_› (by omega) (by omega)).1)⟩ trivial
    ·have h22 := of_decide_eq_false h22
     refine v_plan (.fs [0, 1, 3, 4, 6] (.o 2 (.o 5 (.o 7 (.o 8 (.fs [9, 10] .e)))))) [4, 5] True trivial ?_
     refine v_call _ [3, 0] (putr_ok ([]) (1) (p.key) (by (simp; omega))) (((1 : UInt8) = (1 : UInt8)) ∧ (Eq (α := List UInt8) [] []) ∧ (p.key = p.key)) ⟨rfl, rfl, rfl⟩ (fun g23 p24 => ?_)
     have p24 : True := p24
     refine v_call _ [6, 1] (putr_ok (putR [] 1 p.key) (2) (p.value) (by (have hz := putR_len [] 1 p.key; rw [List.length_nil] at hz; omega))) (((2 : UInt8) = (2 : UInt8)) ∧ (putR [] 1 p.key = putR [] 1 p.key) ∧ (p.value = p.value)) ⟨rfl, rfl, rfl⟩ (fun g25 p26 => ?_)
     have p26 : True := p26
     refine v_call _ [5] (packr_ok (List.map tnR (List.take k p.turns)) (by (have hz := putR_len [] 1 p.key; rw [List.length_nil] at hz; have hy := putR_len (putR [] 1 p.key) 2 p.value; have hx := NJ.pkR (ts := p.turns) (k := k) ‹_› ‹_›; omega))) ((List.map tnR (List.take k p.turns) = List.map tnR (List.take k p.turns))) rfl (fun g27 p28 => ?_)
     have p28 : True := p28
     refine v_call _ [7, 8] (putr_ok (putR (putR [] 1 p.key) 2 p.value) (3) (packTo (List.map tnR (List.take k p.turns)) (List.map tnR (List.take k p.turns)).length) (by (have hz := putR_len [] 1 p.key; rw [List.length_nil] at hz; have hy := putR_len (putR [] 1 p.key) 2 p.value; have hx := NJ.pkR (ts := p.turns) (k := k) ‹_› ‹_›; omega))) (((3 : UInt8) = (3 : UInt8)) ∧ (putR (putR [] 1 p.key) 2 p.value = putR (putR [] 1 p.key) 2 p.value) ∧ (packTo (List.map tnR (List.take k p.turns)) (List.map tnR (List.take k p.turns)).length = packTo (List.map tnR (List.take k p.turns)) (List.map tnR (List.take k p.turns)).length)) ⟨rfl, rfl, rfl⟩ (fun g29 p30 => ?_)
     have p30 : True := p30
     exact v_ret () [9] ((0 = encE p) ∧ (p.key = p.key) ∧ (p.value = p.value) ∧ (p.turns = p.turns) ∧ (putR (putR (putR [] 1 p.key) 2 p.value) 3 (packTo (List.map tnR (List.take k p.turns)) (List.map tnR (List.take k p.turns)).length) = encB p)) ⟨(by exact (eR4 ‹_› ‹_› (by omega) (by omega)).2), rfl, rfl, rfl, (by exact (eR4 ‹_› ‹_› (by omega) (by omega)).1)⟩ trivial
def lastT (out : List Field) : Int := match out.reverse with | [] => -1 | f :: _ => (f.tag.toNat : Int)
theorem lastT_snoc (out : List Field) (f : Field) : lastT (out ++ [f]) = (f.tag.toNat : Int) := by unfold lastT; rw [List.reverse_append]; rfl
theorem lastT_iff {out : List Field} {x : UInt8} : ((x.toNat : Int) ≤ lastT out) ↔ ((0 : Int) < out.length ∧ x ≤ (out.getD ((out.length : Int) - 1).toNat ⟨0, []⟩).tag) := by
  rcases List.eq_nil_or_concat out with rfl | ⟨l, f, rfl⟩
  · simp [lastT]; omega
  · rw [List.concat_eq_append, lastT_snoc]
    have e : (((l ++ [f]).length : Int) - 1).toNat = l.length := by simp
    rw [e]
    have e2 : (l ++ [f]).getD l.length ⟨0, []⟩ = f := by simp [List.getD_eq_getElem?_getD]
    rw [e2, UInt8.le_iff_toNat_le]
    simp
section
variable {X : List Field × Int} {out : List Field} {b b0 : List UInt8}
theorem rp_b (hk : X = parse out b ∧ out.length + b.length ≤ b0.length) (h : (0 : Int) < b.length) (h1 : pcB (b.drop 1) = false) : [] = X.1 ∧ 4 = X.2 := by
  rw [pcB_E] at h1
  have h2 : pcE (b.drop 1) ≠ 0 := of_decide_eq_false h1
  have e : pcE (b.drop 1) = 4 := by unfold pcE at h2 ⊢; split at h2 <;> simp_all
  have := parse_b hk h h2; rw [e] at this; exact this
theorem pcB_t (h1 : pcB (b.drop 1) = true) : ¬ pcE (b.drop 1) ≠ 0 := by rw [pcB_E] at h1; simpa using h1
theorem rp_c (hk : X = parse out b ∧ out.length + b.length ≤ b0.length) (h : (0 : Int) < b.length) (h1 : pcB (b.drop 1) = true) (h2 : ((pcV (b.drop 1)).length : Int) = 0) : [] = X.1 ∧ 6 = X.2 := parse_c hk h (pcB_t h1) h2
theorem rp_d (hk : X = parse out b ∧ out.length + b.length ≤ b0.length) (h : (0 : Int) < b.length) (h1 : pcB (b.drop 1) = true) (h2 : ¬ ((pcV (b.drop 1)).length : Int) = 0) (h3 : ((b.getD 0 0).toNat : Int) ≤ lastT out) : [] = X.1 ∧ 5 = X.2 := parse_d hk h (pcB_t h1) h2 (lastT_iff.1 h3).1 (lastT_iff.1 h3).2
theorem ofI8_nat (x : UInt8) : ofI8 (x.toNat : Int) = x := by
  unfold ofI8
  apply UInt8.toNat_inj.1
  rw [UInt8.toNat_ofNat']
  have := x.toNat_lt
  omega
theorem rp_e (hk : X = parse out b ∧ out.length + b.length ≤ b0.length) (h : (0 : Int) < b.length) (h1 : pcB (b.drop 1) = true) (h2 : ¬ ((pcV (b.drop 1)).length : Int) = 0) (h3 : ¬ ((b.getD 0 0).toNat : Int) ≤ lastT out) :
    (X = parse (out ++ [⟨b.getD 0 0, pcV (b.drop 1)⟩]) (pcR (b.drop 1)) ∧ (out ++ [(⟨b.getD 0 0, pcV (b.drop 1)⟩ : Field)]).length + (pcR (b.drop 1)).length ≤ b0.length) ∧ (pcR (b.drop 1)).length < b.length := parse_e hk h (pcB_t h1) h2 (fun q => h3 (lastT_iff.2 q))
theorem rp_f {x : UInt8} {v : List UInt8} : (x.toNat : Int) = lastT (out ++ [⟨x, v⟩]) := (lastT_snoc out ⟨x, v⟩).symm
theorem rp_g : out ++ [(⟨ofI8 ((b.getD 0 0).toNat : Int), pcV (b.drop 1)⟩ : Field)] = out ++ [⟨b.getD 0 0, pcV (b.drop 1)⟩] := by rw [ofI8_nat]
end
noncomputable def ccK4_90 : Code := (Tryd.f90.body).getD .skip
theorem rparse_ok (b : List UInt8) (h : b.length ≤ 900000) : FOk EN 90 ⟨[.rd 5 (b)], [.n 0], Unit, fun _ => ([.rd 5 (b), .ow 167 (parse [] b).1], .t [.n 1, .i (parse [] b).2]), fun _ => True⟩ := by
 refine v_fun Tryd.f90 ccK4_90 MX (fun ν F σ w => ?_) Tryd.func90
 refine v_nl ?_
 refine v_loop (fun k : List Field × List UInt8 => ([(4, .n 2), (5, .i (lastT k.1)), (0, .n 3)], [.ow 167 k.1, .rd 5 (k.2)])) (fun k => parse [] b = parse k.1 k.2 ∧ k.1.length + k.2.length ≤ b.length) (fun k => k.2.length) ([], b) [1, 0] ((-1 = lastT []) ∧ (Eq (α := List Field) [] []) ∧ (b = b)) ⟨rfl, rfl, rfl⟩ (by exact ⟨rfl, by simp⟩) (fun k hk1 => ?_)
 refine v_if (decide (0 < (↑k.snd.length : Int))) True trivial (fun h2 => ?_) (fun h2 => ?_)
 ·have h2 := of_decide_eq_true h2
  refine v_call _ [5] (piecer_ok (List.drop 1 k.snd) (by (simp; omega))) (((0 : Int) ≤ (0 : Int) ∧ (0 : Int) < (↑k.snd.length : Int)) ∧ ((0 : Int) ≤ (1 : Int) ∧ (1 : Int) ≤ (↑k.snd.length : Int)) ∧ (List.drop 1 k.snd = List.drop 1 k.snd)) ⟨(by omega), (by omega), rfl⟩ (fun g3 p4 => ?_)
  have p4 : True := p4
  refine v_if (!pcB (List.drop 1 k.snd)) True trivial (fun h5 => ?_) (fun h5 => ?_)
  ·have h5 := (nt h5)
   refine v_leave .rt True trivial ?_
   exact v_ret () [1] ((4 = (parse [] b).snd) ∧ (b = b) ∧ ([] = (parse [] b).fst)) ⟨(by exact (rp_b ‹_› ‹_› ‹_›).2), rfl, (by exact (rp_b ‹_› ‹_› ‹_›).1)⟩ trivial
  ·have h5 := (nf h5)
   refine v_if (decide ((↑(pcV (List.drop 1 k.snd)).length : Int) = 0)) True trivial (fun h6 => ?_) (fun h6 => ?_)
   ·have h6 := of_decide_eq_true h6
    refine v_leave .rt True trivial ?_
    exact v_ret () [1] ((6 = (parse [] b).snd) ∧ (b = b) ∧ ([] = (parse [] b).fst)) ⟨(by exact (rp_c ‹_› ‹_› ‹_› ‹_›).2), rfl, (by exact (rp_c ‹_› ‹_› ‹_› ‹_›).1)⟩ trivial
   ·have h6 := of_decide_eq_false h6
    refine v_if (decide (↑(k.snd.getD 0 0).toNat ≤ lastT k.fst)) True trivial (fun h7 => ?_) (fun h7 => ?_)
    ·have h7 := of_decide_eq_true h7
     refine v_leave .rt True trivial ?_
     exact v_ret () [1] ((5 = (parse [] b).snd) ∧ (b = b) ∧ ([] = (parse [] b).fst)) ⟨(by exact (rp_d ‹_› ‹_› ‹_› ‹_› ‹_›).2), rfl, (by exact (rp_d ‹_› ‹_› ‹_› ‹_› ‹_›).1)⟩ trivial
    ·have h7 := of_decide_eq_false h7
     exact v_back ((k.fst ++ [Field.mk (k.snd.getD 0 0) (pcV (List.drop 1 k.snd))], pcR (List.drop 1 k.snd))) [9, 7] ((k.fst.length + 1 ≤ 1000000) ∧ (↑(k.snd.getD 0 0).toNat = lastT (k.fst ++ [Field.mk (k.snd.getD 0 0) (pcV (List.drop 1 k.snd))])) ∧ (k.fst ++ [Field.mk (ofI8 ↑(k.snd.getD 0 0).toNat) (pcV (List.drop 1 k.snd))] = k.fst ++ [Field.mk (k.snd.getD 0 0) (pcV (List.drop 1 k.snd))]) ∧ (pcR (List.drop 1 k.snd) = pcR (List.drop 1 k.snd))) ⟨(by omega), (by exact rp_f), (by exact rp_g), rfl⟩ (show (parse [] b = parse (k.fst ++ [Field.mk (k.snd.getD 0 0) (pcV (List.drop 1 k.snd))]) (pcR (List.drop 1 k.snd)) ∧ (k.fst ++ [Field.mk (k.snd.getD 0 0) (pcV (List.drop 1 k.snd))]).length + (pcR (List.drop 1 k.snd)).length ≤ b.length) ∧ (pcR (List.drop 1 k.snd)).length < k.snd.length from (by exact rp_e ‹_› ‹_› ‹_› ‹_› ‹_›))
 ·have h2 := of_decide_eq_false h2
  refine v_leave (.ex 0) True trivial ?_
  exact v_ret () [2] ((0 = (parse [] b).snd) ∧ (b = b) ∧ (k.fst = (parse [] b).fst)) ⟨(by exact (parse_a ‹_› ‹_›).2), rfl, (by exact (parse_a ‹_› ‹_›).1)⟩ trivial
def cpTo (b : List UInt8) (k : Nat) : List UInt8 := b.take k ++ List.replicate (32 - k) 0
theorem cpTo_len {b : List UInt8} {k : Nat} (h : b.length = 32) (hk : k ≤ 32) : (cpTo b k).length = 32 := by simp [cpTo]; omega
theorem cpTo_step {b : List UInt8} {k : Nat} (h : (b.length : Int) = 32) (hk : (k : Int) < 32) : (cpTo b k).set (0 + (k : Int).toNat) (b.getD (k : Int).toNat 0) = cpTo b (k + 1) := by
  have hb : b.length = 32 := by omega
  have hk' : k < 32 := by omega
  rw [Nat.zero_add, Int.toNat_natCast]
  have eg : b.getD k 0 = b[k]'(by omega) := by rw [List.getD_eq_getElem?_getD, List.getElem?_eq_getElem (by omega)]; rfl
  rw [eg]
  have e1 : b.take (k + 1) = b.take k ++ [b[k]'(by omega)] := by rw [List.take_add_one, List.getElem?_eq_getElem (by omega)]; rfl
  have e2 : List.replicate (32 - k) (0 : UInt8) = 0 :: List.replicate (32 - (k + 1)) 0 := by rw [← List.replicate_succ]; congr 1; omega
  have e3 : (b.take k).length = k := by rw [List.length_take]; omega
  unfold cpTo
  rw [e1, e2, List.set_append, if_neg (by omega), e3, Nat.sub_self, List.set_cons_zero, List.append_assoc]; rfl
def sumR (b : List UInt8) : List UInt8 := if b.length = 32 then b else List.replicate 32 0
theorem sumR_no {b : List UInt8} (h : (b.length : Int) ≠ 32) : List.replicate 32 0 = sumR b ∧ false = decide (b.length = 32) := by
  have : ¬ b.length = 32 := by omega
  unfold sumR; rw [if_neg this]; simp [this]
theorem sumR_yes {b : List UInt8} {k : Nat} (h : ¬ (b.length : Int) ≠ 32) (h1 : k ≤ 32) (h2 : ¬ (k : Int) < 32) : cpTo b k = sumR b ∧ true = decide (b.length = 32) := by
  have hb : b.length = 32 := by omega
  have : k = 32 := by omega
  subst this
  unfold sumR cpTo; rw [if_pos hb]; simp [hb, List.take_of_length_le]
noncomputable def ccK4_120 : Code := (Tryd.f120.body).getD .skip
theorem sum5_ok (b : List UInt8) : FOk EN 120 ⟨[.rd 5 (b)], [.n 0], Unit, fun _ => ([.rd 5 (b)], .t [.a [.h 32 (sumR b)], .b (decide (b.length = 32))]), fun _ => True⟩ := by
 refine v_fun Tryd.f120 ccK4_120 MX (fun ν F σ w => ?_) Tryd.func120
 refine v_nl ?_
 refine v_if (decide ((↑b.length : Int) ≠ 32)) True trivial (fun h1 => ?_) (fun h1 => ?_)
 ·have h1 := of_decide_eq_true h1
  exact v_ret () [] ((List.replicate 32 0 = sumR b) ∧ (false = decide (b.length = 32)) ∧ (b = b)) ⟨(by exact (sumR_no ‹_›).1), (by (simp; omega)), rfl⟩ trivial
 ·have h1 := of_decide_eq_false h1
  refine v_loop (fun k : Nat => ([(5, .i k), (4, .p 4 0)], [.bx 52 [.h 32 (cpTo b k)]])) (fun k => k ≤ 32) (fun k => 32 - k) 0 [3] (((0 : Int) = (↑(0 : Nat) : Int)) ∧ (List.replicate 32 0 = cpTo b 0)) ⟨rfl, rfl⟩ (by decide) (fun k hk2 => ?_)
  refine v_if (decide ((↑k : Int) < 32)) True trivial (fun h3 => ?_) (fun h3 => ?_)
  ·have h3 := of_decide_eq_true h3
   exact v_back (k + 1) [4] ((0 ≤ (↑k : Int) ∧ (↑k : Int) < (↑b.length : Int)) ∧ ((0 : Int) ≤ (↑k : Int) ∧ (↑k : Int) < (↑(32 : Nat) : Int)) ∧ (0 + (↑k : Int).toNat < 32) ∧ (0 + (↑k : Int).toNat < (cpTo b k).length) ∧ (I64 (↑k + 1)) ∧ ((↑k : Int) + 1 = (↑(k + 1) : Int)) ∧ ((cpTo b k).set (0 + (↑k : Int).toNat) (b.getD (↑k : Int).toNat 0) = cpTo b (k + 1))) ⟨(by omega), (by omega), (by omega), (by (rw [cpTo_len (by omega) (by omega)]; omega)), (by (unfold I64; omega)), rfl, (by exact cpTo_step (by omega) ‹_›)⟩ (show k + 1 ≤ 32 ∧ 32 - (k + 1) < 32 - k from (by omega))
  ·have h3 := of_decide_eq_false h3
   refine v_leave (.ex 0) True trivial ?_
   exact v_ret () [] ((cpTo b k = sumR b) ∧ (true = decide (b.length = 32)) ∧ (b = b)) ⟨(by exact (sumR_yes ‹_› ‹_› ‹_›).1), (by (simp; omega)), rfl⟩ trivial
theorem parse0_aux : FOk EN 87 ⟨[.rd 5 []], [.n 0], Unit, fun _ => ([.rd 5 [], .nl], .t [.n 1, .i 0]), fun _ => True⟩ := by
 refine v_fun Tryd.f87 c87 MX (fun ν F σ w => ?_) Tryd.func87
 refine v_nl ?_
 refine v_loop (fun k : Unit => ([(0, .n 0), (4, .v (.slice none 0 0))], [])) (fun k => True) (fun k => 0) () [] ((Value.slice none 0 0 = Value.slice none 0 0)) rfl trivial (fun k hk1 => ?_)
 refine v_if (decide ((0 : Int) < (↑(0 : Nat) : Int))) True trivial (fun h2 => ?_) (fun h2 => ?_)
 ·have h2 := of_decide_eq_true h2
  omega
 ·have h2 := of_decide_eq_false h2
  refine v_leave (.ex 0) True trivial ?_
  exact v_ret () [1] (((0 : Int) = (0 : Int)) ∧ (Eq (α := List UInt8) [] [])) ⟨rfl, rfl⟩ trivial
theorem or256 (x : UInt64) (c : UInt8) : x <<< 8 ||| c.toUInt64 = x * 256 + c.toUInt64 := by
  apply UInt64.toNat_inj.1
  rw [UInt64.toNat_or, UInt64.toNat_shiftLeft, UInt64.toNat_add, UInt64.toNat_mul, UInt8.toNat_toUInt64]
  have hc := c.toNat_lt
  have e8 : (8 : UInt64).toNat % 64 = 8 := rfl
  have e256 : (256 : UInt64).toNat = 256 := rfl
  rw [e8, e256]
  have h1 : x.toNat <<< 8 % 2 ^ 64 = (x.toNat % 2 ^ 56) <<< 8 := by rw [Nat.shiftLeft_eq, Nat.shiftLeft_eq]; omega
  rw [h1, ← Nat.shiftLeft_add_eq_or_of_lt (by omega), Nat.shiftLeft_eq]
  omega
theorem valTo_eq (b : List UInt8) : ∀ k, valRTo b k = valTo b k
  | 0 => rfl
  | k + 1 => by unfold valRTo valTo; rw [valTo_eq b k, or256]
theorem valRV_eq (b : List UInt8) : valRV b = valV b := by unfold valRV valV; rw [valTo_eq]
theorem valB_eq (b : List UInt8) : valB b = decide (valE b = 0) := by
  unfold valB valE; split
  · rfl
  · split <;> rfl
abbrev kF : Field := ⟨0, []⟩
def hMin (n : UInt64) : Int := if n < 1048576 then (n.toNat : Int) else 1048576
theorem hMin_eq (n : UInt64) : (((if 1048576 < n then 1048576 else n : UInt64)).toNat : Int) = hMin n := by
  unfold hMin
  by_cases h : n < 1048576
  · rw [if_pos h, if_neg (fun q => by have := UInt64.lt_iff_toNat_lt.1 h; have := UInt64.lt_iff_toNat_lt.1 q; omega)]
  · rw [if_neg h]
    by_cases q : (1048576 : UInt64) < n
    · rw [if_pos q]; rfl
    · rw [if_neg q]
      have h1 : ¬ n.toNat < (1048576 : UInt64).toNat := fun r => h (UInt64.lt_iff_toNat_lt.2 r)
      have h2 : ¬ (1048576 : UInt64).toNat < n.toNat := fun r => q (UInt64.lt_iff_toNat_lt.2 r)
      have e : (1048576 : UInt64).toNat = 1048576 := rfl
      omega
def fErr (f : Field) : Int :=
  if f.tag = 1 then valE f.value else if f.tag = 2 then valE f.value
  else if f.tag = 3 then (if valV f.value ≠ 1 then 7 else valE f.value)
  else if f.tag = 4 then (if (f.value.length : Int) ≠ 32 then 7 else 0) else 8
def fSet (t : Turn) (f : Field) : Turn :=
  if f.tag = 1 then ⟨hMin (valV f.value), t.size, t.right, t.other⟩ else if f.tag = 2 then ⟨t.height, valV f.value, t.right, t.other⟩
  else if f.tag = 3 then ⟨t.height, t.size, true, t.other⟩ else if f.tag = 4 then ⟨t.height, t.size, t.right, mk32 f.value⟩ else t
def fTo (l : List Field) (k : Nat) : Turn := (l.take k).foldl fSet kT
theorem fTo_succ {l : List Field} {k : Nat} (hk : (k : Int) < l.length) : fTo l (k + 1) = fSet (fTo l k) (l.getD (k : Int).toNat kF) := by
  unfold fTo
  rw [Int.toNat_natCast, List.take_add_one, List.getD_eq_getElem?_getD, List.getElem?_eq_getElem (by omega)]
  simp only [Option.toList, List.foldl_append, List.foldl_cons, List.foldl_nil, Option.getD_some]
def fFirst : List Field → Int
  | [] => 0
  | f :: l => if fErr f ≠ 0 then fErr f else fFirst l
def fEnd (l : List Field) : Bool := decide (0 < l.length) && decide ((l.getD ((l.length : Int) - 1).toNat kF).tag = 4)
def tnE (b : List UInt8) : Int := if (parse [] b).2 ≠ 0 then (parse [] b).2 else if fFirst (parse [] b).1 ≠ 0 then fFirst (parse [] b).1 else if fEnd (parse [] b).1 = true then 0 else 8
def tnV (b : List UInt8) : Turn := if (parse [] b).2 ≠ 0 then kT else if fFirst (parse [] b).1 ≠ 0 then kT else if fEnd (parse [] b).1 = true then fTo (parse [] b).1 (parse [] b).1.length else kT
def FJ (l : List Field) (k : Nat) : Prop := k ≤ l.length ∧ fFirst l = fFirst (l.drop k)
section
variable {b : List UInt8} {l : List Field} {k : Nat}
theorem FJ.start : FJ l 0 := ⟨Nat.zero_le _, rfl⟩
theorem FJ.at (h : FJ l k) (hk : (k : Int) < l.length) : fFirst l = if fErr (l.getD (k : Int).toNat kF) ≠ 0 then fErr (l.getD (k : Int).toNat kF) else fFirst (l.drop (k + 1)) := by
  rw [h.2, List.drop_eq_getElem_cons (by omega), fFirst, Int.toNat_natCast, List.getD_eq_getElem?_getD, List.getElem?_eq_getElem (by omega)]; rfl
theorem FJ.next (h : FJ l k) (hk : (k : Int) < l.length) (he : fErr (l.getD (k : Int).toNat kF) = 0) : FJ l (k + 1) ∧ l.length - (k + 1) < l.length - k := by
  refine ⟨⟨by omega, ?_⟩, by omega⟩
  rw [h.at hk, if_neg (by rw [he]; decide)]
theorem FJ.hit (h : FJ l k) (hk : (k : Int) < l.length) {e : Int} (he : fErr (l.getD (k : Int).toNat kF) = e) (h0 : e ≠ 0) : fFirst l = e := by
  rw [h.at hk, if_pos (by rw [he]; exact h0), he]
theorem FJ.stop (h : FJ l k) (hk : ¬ (k : Int) < l.length) : fFirst l = 0 := by
  rw [h.2, List.drop_of_length_le (by omega)]; rfl
theorem tn1 (h : (parse [] b).2 ≠ 0) : kT = tnV b ∧ (parse [] b).2 = tnE b := by
  refine ⟨?_, ?_⟩
  · unfold tnV; rw [if_pos h]
  · unfold tnE; rw [if_pos h]
theorem tn2 (h : ¬ (parse [] b).2 ≠ 0) {e : Int} (h1 : fFirst (parse [] b).1 = e) (h0 : e ≠ 0) : kT = tnV b ∧ e = tnE b := by
  refine ⟨?_, ?_⟩
  · unfold tnV; rw [if_neg h, if_pos (by rw [h1]; exact h0)]
  · unfold tnE; rw [if_neg h, if_pos (by rw [h1]; exact h0), h1]
theorem tn3 (h : ¬ (parse [] b).2 ≠ 0) (h1 : fFirst (parse [] b).1 = 0) (h2 : fEnd (parse [] b).1 = false) : kT = tnV b ∧ 8 = tnE b := by
  refine ⟨?_, ?_⟩
  · unfold tnV; rw [if_neg h, if_neg (by rw [h1]; decide), if_neg (by rw [h2]; decide)]
  · unfold tnE; rw [if_neg h, if_neg (by rw [h1]; decide), if_neg (by rw [h2]; decide)]
theorem tn4 (h : ¬ (parse [] b).2 ≠ 0) (h1 : fFirst (parse [] b).1 = 0) (h2 : fEnd (parse [] b).1 = true) : fTo (parse [] b).1 (parse [] b).1.length = tnV b ∧ 0 = tnE b := by
  refine ⟨?_, ?_⟩
  · unfold tnV; rw [if_neg h, if_neg (by rw [h1]; decide), if_pos h2]
  · unfold tnE; rw [if_neg h, if_neg (by rw [h1]; decide), if_pos h2]
theorem parse_lenG : ∀ (n : Nat) (out : List Field) (x : List UInt8), x.length ≤ n → (parse out x).1.length ≤ out.length + x.length := by
  intro n
  induction n with
  | zero => intro out x hx; rw [parse, dif_pos (by omega)]; simp
  | succ n ih =>
    intro out x hx
    rw [parse]
    split
    · simp
    · rename_i h1
      have := pcR_len (x.drop 1); have := drop1_lt h1
      split
      · simp
      · split
        · simp
        · split
          · simp
          · refine Nat.le_trans (ih _ _ (by omega)) ?_
            simp only [List.length_append, List.length_cons, List.length_nil]; omega
theorem parse_len (b : List UInt8) : (parse [] b).1.length ≤ b.length := by have := parse_lenG b.length [] b (Nat.le_refl _); simpa using this
theorem parse_ne (hb : ¬ b = []) (h : ¬ (parse [] b).2 ≠ 0) : 0 < (parse [] b).1.length := by
  have h0 : ¬ b.length = 0 := fun q => hb (List.eq_nil_of_length_eq_zero q)
  have key : ∀ (n : Nat) (out : List Field) (x : List UInt8), x.length ≤ n → 0 < out.length → ¬ (parse out x).2 ≠ 0 → 0 < (parse out x).1.length := by
    intro n
    induction n with
    | zero => intro out x hx ho _; rw [parse, dif_pos (by omega)]; exact ho
    | succ n ih =>
      intro out x hx ho hp
      rw [parse] at hp ⊢
      split
      · exact ho
      · rename_i h1
        rw [dif_neg h1] at hp
        split
        · rename_i h2; rw [if_pos h2] at hp; exact absurd hp (fun q => q h2)
        · rename_i h2
          rw [if_neg h2] at hp
          split
          · rename_i h3; rw [if_pos h3] at hp; exact absurd hp (by decide)
          · rename_i h3
            rw [if_neg h3] at hp
            split
            · rename_i h4; rw [if_pos h4] at hp; exact absurd hp (by decide)
            · rename_i h4
              rw [if_neg h4] at hp
              exact ih _ _ (by have := pcR_len (x.drop 1); have := drop1_lt h1; omega) (by simp) hp
  rw [parse] at h ⊢
  rw [dif_neg h0] at h ⊢
  split
  · rename_i h2; rw [if_pos h2] at h; exact absurd h (fun q => q h2)
  · rename_i h2
    rw [if_neg h2] at h
    split
    · rename_i h3; rw [if_pos h3] at h; exact absurd h (by decide)
    · rename_i h3
      rw [if_neg h3] at h
      split
      · rename_i h4; exact absurd h4.1 (by simp)
      · rename_i h4
        rw [if_neg h4] at h
        exact key _ _ _ (Nat.le_refl _) (by simp) h
end
section
variable {b : List UInt8} {l : List Field} {k : Nat} {f : Field}
theorem fe1 (h : f.tag = 1) : fErr f = valE f.value := by unfold fErr; rw [if_pos h]
theorem fe2 (h1 : ¬ f.tag = 1) (h : f.tag = 2) : fErr f = valE f.value := by unfold fErr; rw [if_neg h1, if_pos h]
theorem fe3 (h1 : ¬ f.tag = 1) (h2 : ¬ f.tag = 2) (h : f.tag = 3) (hv : valV f.value ≠ 1) : fErr f = 7 := by unfold fErr; rw [if_neg h1, if_neg h2, if_pos h, if_pos hv]
theorem fe3a (h1 : ¬ f.tag = 1) (h2 : ¬ f.tag = 2) (h : f.tag = 3) (hv : ¬ valV f.value ≠ 1) : fErr f = valE f.value := by unfold fErr; rw [if_neg h1, if_neg h2, if_pos h, if_neg hv]
theorem fe4 (h1 : ¬ f.tag = 1) (h2 : ¬ f.tag = 2) (h3 : ¬ f.tag = 3) (h : f.tag = 4) (hv : (f.value.length : Int) ≠ 32) : fErr f = 7 := by unfold fErr; rw [if_neg h1, if_neg h2, if_neg h3, if_pos h, if_pos hv]
theorem fe4a (h1 : ¬ f.tag = 1) (h2 : ¬ f.tag = 2) (h3 : ¬ f.tag = 3) (h : f.tag = 4) (hv : ¬ (f.value.length : Int) ≠ 32) : fErr f = 0 := by unfold fErr; rw [if_neg h1, if_neg h2, if_neg h3, if_pos h, if_neg hv]
theorem fe5 (h1 : ¬ f.tag = 1) (h2 : ¬ f.tag = 2) (h3 : ¬ f.tag = 3) (h : ¬ f.tag = 4) : fErr f = 8 := by unfold fErr; rw [if_neg h1, if_neg h2, if_neg h3, if_neg h]
theorem nn {x : Int} (h : ¬ x ≠ 0) : x = 0 := Decidable.not_not.1 h
theorem er {e : Int} (hp : ¬ (parse [] b).2 ≠ 0) (hF : FJ (parse [] b).1 k) (hk : (k : Int) < (parse [] b).1.length) (he : fErr ((parse [] b).1.getD (k : Int).toNat kF) = e) (h0 : e ≠ 0) : kT = tnV b ∧ e = tnE b := tn2 hp (hF.hit hk he h0) h0
theorem s1 (hk : (k : Int) < l.length) (h : (l.getD (k : Int).toNat kF).tag = 1) : fTo l (k + 1) = ⟨hMin (valV (l.getD (k : Int).toNat kF).value), (fTo l k).size, (fTo l k).right, (fTo l k).other⟩ := by rw [fTo_succ hk, fSet, if_pos h]
theorem s2 (hk : (k : Int) < l.length) (h1 : ¬ (l.getD (k : Int).toNat kF).tag = 1) (h : (l.getD (k : Int).toNat kF).tag = 2) : fTo l (k + 1) = ⟨(fTo l k).height, valV (l.getD (k : Int).toNat kF).value, (fTo l k).right, (fTo l k).other⟩ := by rw [fTo_succ hk, fSet, if_neg h1, if_pos h]
theorem s3 (hk : (k : Int) < l.length) (h1 : ¬ (l.getD (k : Int).toNat kF).tag = 1) (h2 : ¬ (l.getD (k : Int).toNat kF).tag = 2) (h : (l.getD (k : Int).toNat kF).tag = 3) : fTo l (k + 1) = ⟨(fTo l k).height, (fTo l k).size, true, (fTo l k).other⟩ := by rw [fTo_succ hk, fSet, if_neg h1, if_neg h2, if_pos h]
theorem s4 (hk : (k : Int) < l.length) (h1 : ¬ (l.getD (k : Int).toNat kF).tag = 1) (h2 : ¬ (l.getD (k : Int).toNat kF).tag = 2) (h3 : ¬ (l.getD (k : Int).toNat kF).tag = 3) (h : (l.getD (k : Int).toNat kF).tag = 4) (hv : ¬ ((l.getD (k : Int).toNat kF).value.length : Int) ≠ 32) : fTo l (k + 1) = ⟨(fTo l k).height, (fTo l k).size, (fTo l k).right, mk32 (l.getD (k : Int).toNat kF).value⟩ := by rw [fTo_succ hk, fSet, if_neg h1, if_neg h2, if_neg h3, if_pos h]
theorem tk32 {v : List UInt8} (h : ¬ (v.length : Int) ≠ 32) : v.take 32 = (mk32 v).l := by
  have e : v.length = 32 := by omega
  rw [List.take_of_length_le (by omega)]; exact (mk32_of e).symm
theorem hMin_lt (n : UInt64) : (if 1048576 < n then 1048576 else n : UInt64) < 9223372036854775808 := by
  apply UInt64.lt_iff_toNat_lt.2
  have e2 : (1048576 : UInt64).toNat = 1048576 := rfl
  have e3 : (9223372036854775808 : UInt64).toNat = 9223372036854775808 := rfl
  split
  · omega
  · rename_i h
    have : ¬ (1048576 : UInt64).toNat < n.toNat := fun q => h (UInt64.lt_iff_toNat_lt.2 q)
    omega
theorem FJ.i64 (h : (k : Int) < (parse [] b).1.length) (hl : b.length ≤ 900000) : I64 ((k : Int) + 1) := by have := parse_len b; unfold I64; omega
theorem tnG (hp : ¬ (parse [] b).2 ≠ 0) (hF : FJ (parse [] b).1 k) (hk : ¬ (k : Int) < (parse [] b).1.length) (h0 : 0 < (parse [] b).1.length) (h : ((parse [] b).1.getD (((parse [] b).1.length : Int) - 1).toNat kF).tag ≠ 4) : kT = tnV b ∧ 8 = tnE b :=
  tn3 hp (hF.stop hk) (by unfold fEnd; rw [decide_eq_false h]; simp)
theorem tnH (hp : ¬ (parse [] b).2 ≠ 0) (hF : FJ (parse [] b).1 k) (hk : ¬ (k : Int) < (parse [] b).1.length) (h0 : 0 < (parse [] b).1.length) (h : ¬ ((parse [] b).1.getD (((parse [] b).1.length : Int) - 1).toNat kF).tag ≠ 4) : fTo (parse [] b).1 k = tnV b ∧ 0 = tnE b := by
  have e : k = (parse [] b).1.length := by have := hF.1; omega
  have := tn4 (b := b) hp (hF.stop hk) (by unfold fEnd; rw [decide_eq_true h0, decide_eq_true (Decidable.not_not.1 h)]; rfl)
  rw [← e] at this; exact this
end
noncomputable def ccK6_89 : Code := (Tryd.f89.body).getD .skip
theorem turn1_aux (b : List UInt8) (hb : ¬ b = []) (hlb : b.length ≤ 900000) : FOk EN 89 ⟨[.rd 5 (b)], [.n 0], Unit, fun _ => ([.rd 5 (b)], .t [.a [.i (tnV b).height, .u (tnV b).size, .b (tnV b).right, .h 32 (tnV b).other.l], .i (tnE b)]), fun _ => True⟩ := by
 refine v_fun Tryd.f89 ccK6_89 MX (fun ν F σ w => ?_) Tryd.func89
 refine v_nl ?_
 refine v_call _ [0] (parse_ok (b) ‹_›) ((b = b)) rfl (fun g1 p2 => ?_)
 have p2 : True := p2
 refine v_if (decide ((parse [] b).snd ≠ 0)) True trivial (fun h3 => ?_) (fun h3 => ?_)
 ·have h3 := of_decide_eq_true h3
  exact v_ret () [] ((0 = (tnV b).height) ∧ (0 = (tnV b).size) ∧ (false = (tnV b).right) ∧ (List.replicate 32 0 = (tnV b).other.l) ∧ ((parse [] b).snd = tnE b) ∧ (b = b)) ⟨(by (rw [← (tn1 ‹_›).1] <;> rfl)), (by (rw [← (tn1 ‹_›).1] <;> rfl)), (by (rw [← (tn1 ‹_›).1] <;> rfl)), (by (rw [← (tn1 ‹_›).1] <;> rfl)), (by exact (tn1 ‹_›).2), rfl⟩ trivial
 ·have h3 := of_decide_eq_false h3
  refine v_loop (fun k : Nat => ([(22, .i k), (6, .p 5 0)], [.bx 121 [.i (fTo (parse [] b).1 k).height, .u (fTo (parse [] b).1 k).size, .b (fTo (parse [] b).1 k).right, .h 32 (fTo (parse [] b).1 k).other.l]])) (fun k => FJ (parse [] b).1 k) (fun k => (parse [] b).1.length - k) 0 [4] (((0 : Int) = (↑(0 : Nat) : Int)) ∧ (0 = (fTo (parse [] b).fst 0).height) ∧ (0 = (fTo (parse [] b).fst 0).size) ∧ (false = (fTo (parse [] b).fst 0).right) ∧ (List.replicate 32 0 = (fTo (parse [] b).fst 0).other.l)) ⟨rfl, rfl, rfl, rfl, rfl⟩ (by exact FJ.start) (fun k hk4 => ?_)
  refine v_if (decide ((↑k : Int) < (↑(parse [] b).fst.length : Int))) True trivial (fun h5 => ?_) (fun h5 => ?_)
  ·have h5 := of_decide_eq_true h5
   refine v_call _ [6] (value_ok (((parse [] b).fst.getD (↑k : Int).toNat (Field.mk 0 [])).value)) ((0 ≤ (↑k : Int) ∧ (↑k : Int) < (↑(parse [] b).fst.length : Int)) ∧ (((parse [] b).fst.getD (↑k : Int).toNat (Field.mk 0 [])).value = ((parse [] b).fst.getD (↑k : Int).toNat (Field.mk 0 [])).value)) ⟨(by omega), rfl⟩ (fun g6 p7 => ?_)
   have p7 : True := p7
   refine v_if (decide (((parse [] b).fst.getD (↑k : Int).toNat (Field.mk 0 [])).tag = 1)) True trivial (fun h8 => ?_) (fun h8 => ?_)
   ·have h8 := of_decide_eq_true h8
    refine v_if (decide (valE ((parse [] b).fst.getD (↑k : Int).toNat (Field.mk 0 [])).value ≠ 0)) (((if 1048576 < valV ((parse [] b).fst.getD (↑k : Int).toNat (Field.mk 0 [])).value then 1048576 else valV ((parse [] b).fst.getD (↑k : Int).toNat (Field.mk 0 [])).value) < 9223372036854775808)) (by exact hMin_lt _) (fun h9 => ?_) (fun h9 => ?_)
    ·have h9 := of_decide_eq_true h9
     refine v_leave .rt True trivial ?_
     exact v_ret () [] ((0 = (tnV b).height) ∧ (0 = (tnV b).size) ∧ (false = (tnV b).right) ∧ (List.replicate 32 0 = (tnV b).other.l) ∧ (valE ((parse [] b).fst.getD (↑k : Int).toNat (Field.mk 0 [])).value = tnE b) ∧ (b = b)) ⟨(by (rw [← (er (b := b) (k := k) ‹_› ‹_› ‹_› (by first | exact fe1 ‹_› | exact fe2 ‹_› ‹_› | exact fe3 ‹_› ‹_› ‹_› ‹_› | exact fe3a ‹_› ‹_› ‹_› ‹_› | exact fe4 ‹_› ‹_› ‹_› ‹_› ‹_› | exact fe5 ‹_› ‹_› ‹_› ‹_›) (by first | assumption | decide)).1] <;> rfl)), (by (rw [← (er (b := b) (k := k) ‹_› ‹_› ‹_› (by first | exact fe1 ‹_› | exact fe2 ‹_› ‹_› | exact fe3 ‹_› ‹_› ‹_› ‹_› | exact fe3a ‹_› ‹_› ‹_› ‹_› | exact fe4 ‹_› ‹_› ‹_› ‹_› ‹_› | exact fe5 ‹_› ‹_› ‹_› ‹_›) (by first | assumption | decide)).1] <;> rfl)), (by (rw [← (er (b := b) (k := k) ‹_› ‹_› ‹_› (by first | exact fe1 ‹_› | exact fe2 ‹_› ‹_› | exact fe3 ‹_› ‹_› ‹_› ‹_› | exact fe3a ‹_› ‹_› ‹_› ‹_› | exact fe4 ‹_› ‹_› ‹_› ‹_› ‹_› | exact fe5 ‹_› ‹_› ‹_› ‹_›) (by first | assumption | decide)).1] <;> rfl)), (by (rw [← (er (b := b) (k := k) ‹_› ‹_› ‹_› (by first | exact fe1 ‹_› | exact fe2 ‹_› ‹_› | exact fe3 ‹_› ‹_› ‹_› ‹_› | exact fe3a ‹_› ‹_› ‹_› ‹_› | exact fe4 ‹_› ‹_› ‹_› ‹_› ‹_› | exact fe5 ‹_› ‹_› ‹_› ‹_›) (by first | assumption | decide)).1] <;> rfl)), (by exact (er (b := b) (k := k) ‹_› ‹_› ‹_› (by first | exact fe1 ‹_› | exact fe2 ‹_› ‹_› | exact fe3 ‹_› ‹_› ‹_› ‹_› | exact fe3a ‹_› ‹_› ‹_› ‹_› | exact fe4 ‹_› ‹_› ‹_› ‹_› ‹_› | exact fe5 ‹_› ‹_› ‹_› ‹_›) (by first | assumption | decide)).2), rfl⟩ trivial
    ·have h9 := of_decide_eq_false h9
     exact v_back (k + 1) [5] ((I64 (↑k + 1)) ∧ ((↑k : Int) + 1 = (↑(k + 1) : Int)) ∧ ((↑(if 1048576 < valV ((parse [] b).fst.getD (↑k : Int).toNat (Field.mk 0 [])).value then 1048576 else valV ((parse [] b).fst.getD (↑k : Int).toNat (Field.mk 0 [])).value).toNat : Int) = (fTo (parse [] b).fst (k + 1)).height) ∧ ((fTo (parse [] b).fst k).size = (fTo (parse [] b).fst (k + 1)).size) ∧ ((fTo (parse [] b).fst k).right = (fTo (parse [] b).fst (k + 1)).right) ∧ ((fTo (parse [] b).fst k).other.l = (fTo (parse [] b).fst (k + 1)).other.l)) ⟨(by exact FJ.i64 ‹_› ‹_›), rfl, (by ((first | rw [s1 ‹_› ‹_›] | rw [s2 ‹_› ‹_› ‹_›] | rw [s3 ‹_› ‹_› ‹_› ‹_›] | rw [s4 ‹_› ‹_› ‹_› ‹_› ‹_› (by first | assumption | omega)]) <;> (first | rfl | exact (hMin_eq _) | exact (hR1 ‹_›) | exact (hR2 ‹_›) | exact (valRV_eq _) | exact tk32 ‹_›))), (by ((first | rw [s1 ‹_› ‹_›] | rw [s2 ‹_› ‹_› ‹_›] | rw [s3 ‹_› ‹_› ‹_› ‹_›] | rw [s4 ‹_› ‹_› ‹_› ‹_› ‹_› (by first | assumption | omega)]) <;> (first | rfl | exact (hMin_eq _) | exact (hR1 ‹_›) | exact (hR2 ‹_›) | exact (valRV_eq _) | exact tk32 ‹_›))), (by ((first | rw [s1 ‹_› ‹_›] | rw [s2 ‹_› ‹_› ‹_›] | rw [s3 ‹_› ‹_› ‹_› ‹_›] | rw [s4 ‹_› ‹_› ‹_› ‹_› ‹_› (by first | assumption | omega)]) <;> (first | rfl | exact (hMin_eq _) | exact (hR1 ‹_›) | exact (hR2 ‹_›) | exact (valRV_eq _) | exact tk32 ‹_›))), (by ((first | rw [s1 ‹_› ‹_›] | rw [s2 ‹_› ‹_› ‹_›] | rw [s3 ‹_› ‹_› ‹_› ‹_›] | rw [s4 ‹_› ‹_› ‹_› ‹_› ‹_› (by first | assumption | omega)]) <;> (first | rfl | exact (hMin_eq _) | exact (hR1 ‹_›) | exact (hR2 ‹_›) | exact (valRV_eq _) | exact tk32 ‹_›)))⟩ (show FJ (parse [] b).fst (k + 1) ∧ (parse [] b).fst.length - (k + 1) < (parse [] b).fst.length - k from (by exact FJ.next ‹_› ‹_› (by first | exact (fe1 ‹_›).trans (nn ‹_›) | exact (fe2 ‹_› ‹_›).trans (nn ‹_›) | exact (fe3a ‹_› ‹_› ‹_› ‹_›).trans (nn ‹_›) | exact fe4a ‹_› ‹_› ‹_› ‹_› ‹_›)))
   ·have h8 := of_decide_eq_false h8
    refine v_if (decide (((parse [] b).fst.getD (↑k : Int).toNat (Field.mk 0 [])).tag = 2)) True trivial (fun h10 => ?_) (fun h10 => ?_)
    ·have h10 := of_decide_eq_true h10
     refine v_if (decide (valE ((parse [] b).fst.getD (↑k : Int).toNat (Field.mk 0 [])).value ≠ 0)) True trivial (fun h11 => ?_) (fun h11 => ?_)
     ·have h11 := of_decide_eq_true h11
      refine v_leave .rt True trivial ?_
      exact v_ret () [] ((0 = (tnV b).height) ∧ (0 = (tnV b).size) ∧ (false = (tnV b).right) ∧ (List.replicate 32 0 = (tnV b).other.l) ∧ (valE ((parse [] b).fst.getD (↑k : Int).toNat (Field.mk 0 [])).value = tnE b) ∧ (b = b)) ⟨(by (rw [← (er (b := b) (k := k) ‹_› ‹_› ‹_› (by first | exact fe1 ‹_› | exact fe2 ‹_› ‹_› | exact fe3 ‹_› ‹_› ‹_› ‹_› | exact fe3a ‹_› ‹_› ‹_› ‹_› | exact fe4 ‹_› ‹_› ‹_› ‹_› ‹_› | exact fe5 ‹_› ‹_› ‹_› ‹_›) (by first | assumption | decide)).1] <;> rfl)), (by (rw [← (er (b := b) (k := k) ‹_› ‹_› ‹_› (by first | exact fe1 ‹_› | exact fe2 ‹_› ‹_› | exact fe3 ‹_› ‹_› ‹_› ‹_› | exact fe3a ‹_› ‹_› ‹_› ‹_› | exact fe4 ‹_› ‹_› ‹_› ‹_› ‹_› | exact fe5 ‹_› ‹_› ‹_› ‹_›) (by first | assumption | decide)).1] <;> rfl)), (by (rw [← (er (b := b) (k := k) ‹_› ‹_› ‹_› (by first | exact fe1 ‹_› | exact fe2 ‹_› ‹_› | exact fe3 ‹_› ‹_› ‹_› ‹_› | exact fe3a ‹_› ‹_› ‹_› ‹_› | exact fe4 ‹_› ‹_› ‹_› ‹_› ‹_› | exact fe5 ‹_› ‹_› ‹_› ‹_›) (by first | assumption | decide)).1] <;> rfl)), (by (rw [← (er (b := b) (k := k) ‹_› ‹_› ‹_› (by first | exact fe1 ‹_› | exact fe2 ‹_› ‹_› | exact fe3 ‹_› ‹_› ‹_› ‹_› | exact fe3a ‹_› ‹_› ‹_› ‹_› | exact fe4 ‹_› ‹_› ‹_› ‹_› ‹_› | exact fe5 ‹_› ‹_› ‹_› ‹_›) (by first | assumption | decide)).1] <;> rfl)), (by exact (er (b := b) (k := k) ‹_› ‹_› ‹_› (by first | exact fe1 ‹_› | exact fe2 ‹_› ‹_› | exact fe3 ‹_› ‹_› ‹_› ‹_› | exact fe3a ‹_› ‹_› ‹_› ‹_› | exact fe4 ‹_› ‹_› ‹_› ‹_› ‹_› | exact fe5 ‹_› ‹_› ‹_› ‹_›) (by first | assumption | decide)).2), rfl⟩ trivial
     ·have h11 := of_decide_eq_false h11
      exact v_back (k + 1) [5] ((I64 (↑k + 1)) ∧ ((↑k : Int) + 1 = (↑(k + 1) : Int)) ∧ ((fTo (parse [] b).fst k).height = (fTo (parse [] b).fst (k + 1)).height) ∧ (valV ((parse [] b).fst.getD (↑k : Int).toNat (Field.mk 0 [])).value = (fTo (parse [] b).fst (k + 1)).size) ∧ ((fTo (parse [] b).fst k).right = (fTo (parse [] b).fst (k + 1)).right) ∧ ((fTo (parse [] b).fst k).other.l = (fTo (parse [] b).fst (k + 1)).other.l)) ⟨(by exact FJ.i64 ‹_› ‹_›), rfl, (by ((first | rw [s1 ‹_› ‹_›] | rw [s2 ‹_› ‹_› ‹_›] | rw [s3 ‹_› ‹_› ‹_› ‹_›] | rw [s4 ‹_› ‹_› ‹_› ‹_› ‹_› (by first | assumption | omega)]) <;> (first | rfl | exact (hMin_eq _) | exact (hR1 ‹_›) | exact (hR2 ‹_›) | exact (valRV_eq _) | exact tk32 ‹_›))), (by ((first | rw [s1 ‹_› ‹_›] | rw [s2 ‹_› ‹_› ‹_›] | rw [s3 ‹_› ‹_› ‹_› ‹_›] | rw [s4 ‹_› ‹_› ‹_› ‹_› ‹_› (by first | assumption | omega)]) <;> (first | rfl | exact (hMin_eq _) | exact (hR1 ‹_›) | exact (hR2 ‹_›) | exact (valRV_eq _) | exact tk32 ‹_›))), (by ((first | rw [s1 ‹_› ‹_›] | rw [s2 ‹_› ‹_› ‹_›] | rw [s3 ‹_› ‹_› ‹_› ‹_›] | rw [s4 ‹_› ‹_› ‹_› ‹_› ‹_› (by first | assumption | omega)]) <;> (first | rfl | exact (hMin_eq _) | exact (hR1 ‹_›) | exact (hR2 ‹_›) | exact (valRV_eq _) | exact tk32 ‹_›))), (by ((first | rw [s1 ‹_› ‹_›] | rw [s2 ‹_› ‹_› ‹_›] | rw [s3 ‹_› ‹_› ‹_› ‹_›] | rw [s4 ‹_› ‹_› ‹_› ‹_› ‹_› (by first | assumption | omega)]) <;> (first | rfl | exact (hMin_eq _) | exact (hR1 ‹_›) | exact (hR2 ‹_›) | exact (valRV_eq _) | exact tk32 ‹_›)))⟩ (show FJ (parse [] b).fst (k + 1) ∧ (parse [] b).fst.length - (k + 1) < (parse [] b).fst.length - k from (by exact FJ.next ‹_› ‹_› (by first | exact (fe1 ‹_›).trans (nn ‹_›) | exact (fe2 ‹_› ‹_›).trans (nn ‹_›) | exact (fe3a ‹_› ‹_› ‹_› ‹_›).trans (nn ‹_›) | exact fe4a ‹_› ‹_› ‹_› ‹_› ‹_›)))
    ·have h10 := of_decide_eq_false h10
     refine v_if (decide (((parse [] b).fst.getD (↑k : Int).toNat (Field.mk 0 [])).tag = 3)) True trivial (fun h12 => ?_) (fun h12 => ?_)
     ·have h12 := of_decide_eq_true h12
      refine v_if (decide (valV ((parse [] b).fst.getD (↑k : Int).toNat (Field.mk 0 [])).value ≠ 1)) True trivial (fun h13 => ?_) (fun h13 => ?_)
      ·have h13 := of_decide_eq_true h13
       refine v_leave .rt True trivial ?_
       exact v_ret () [] ((0 = (tnV b).height) ∧ (0 = (tnV b).size) ∧ (false = (tnV b).right) ∧ (List.replicate 32 0 = (tnV b).other.l) ∧ (7 = tnE b) ∧ (b = b)) ⟨(by (rw [← (er (b := b) (k := k) ‹_› ‹_› ‹_› (by first | exact fe1 ‹_› | exact fe2 ‹_› ‹_› | exact fe3 ‹_› ‹_› ‹_› ‹_› | exact fe3a ‹_› ‹_› ‹_› ‹_› | exact fe4 ‹_› ‹_› ‹_› ‹_› ‹_› | exact fe5 ‹_› ‹_› ‹_› ‹_›) (by first | assumption | decide)).1] <;> rfl)), (by (rw [← (er (b := b) (k := k) ‹_› ‹_› ‹_› (by first | exact fe1 ‹_› | exact fe2 ‹_› ‹_› | exact fe3 ‹_› ‹_› ‹_› ‹_› | exact fe3a ‹_› ‹_› ‹_› ‹_› | exact fe4 ‹_› ‹_› ‹_› ‹_› ‹_› | exact fe5 ‹_› ‹_› ‹_› ‹_›) (by first | assumption | decide)).1] <;> rfl)), (by (rw [← (er (b := b) (k := k) ‹_› ‹_› ‹_› (by first | exact fe1 ‹_› | exact fe2 ‹_› ‹_› | exact fe3 ‹_› ‹_› ‹_› ‹_› | exact fe3a ‹_› ‹_› ‹_› ‹_› | exact fe4 ‹_› ‹_› ‹_› ‹_› ‹_› | exact fe5 ‹_› ‹_› ‹_› ‹_›) (by first | assumption | decide)).1] <;> rfl)), (by (rw [← (er (b := b) (k := k) ‹_› ‹_› ‹_› (by first | exact fe1 ‹_› | exact fe2 ‹_› ‹_› | exact fe3 ‹_› ‹_› ‹_› ‹_› | exact fe3a ‹_› ‹_› ‹_› ‹_› | exact fe4 ‹_› ‹_› ‹_› ‹_› ‹_› | exact fe5 ‹_› ‹_› ‹_› ‹_›) (by first | assumption | decide)).1] <;> rfl)), (by exact (er (b := b) (k := k) ‹_› ‹_› ‹_› (by first | exact fe1 ‹_› | exact fe2 ‹_› ‹_› | exact fe3 ‹_› ‹_› ‹_› ‹_› | exact fe3a ‹_› ‹_› ‹_› ‹_› | exact fe4 ‹_› ‹_› ‹_› ‹_› ‹_› | exact fe5 ‹_› ‹_› ‹_› ‹_›) (by first | assumption | decide)).2), rfl⟩ trivial
      ·have h13 := of_decide_eq_false h13
       refine v_if (decide (valE ((parse [] b).fst.getD (↑k : Int).toNat (Field.mk 0 [])).value ≠ 0)) True trivial (fun h14 => ?_) (fun h14 => ?_)
       ·have h14 := of_decide_eq_true h14
        refine v_leave .rt True trivial ?_
        exact v_ret () [] ((0 = (tnV b).height) ∧ (0 = (tnV b).size) ∧ (false = (tnV b).right) ∧ (List.replicate 32 0 = (tnV b).other.l) ∧ (valE ((parse [] b).fst.getD (↑k : Int).toNat (Field.mk 0 [])).value = tnE b) ∧ (b = b)) ⟨(by (rw [← (er (b := b) (k := k) ‹_› ‹_› ‹_› (by first | exact fe1 ‹_› | exact fe2 ‹_› ‹_› | exact fe3 ‹_› ‹_› ‹_› ‹_› | exact fe3a ‹_› ‹_› ‹_› ‹_› | exact fe4 ‹_› ‹_› ‹_› ‹_› ‹_› | exact fe5 ‹_› ‹_› ‹_› ‹_›) (by first | assumption | decide)).1] <;> rfl)), (by (rw [← (er (b := b) (k := k) ‹_› ‹_› ‹_› (by first | exact fe1 ‹_› | exact fe2 ‹_› ‹_› | exact fe3 ‹_› ‹_› ‹_› ‹_› | exact fe3a ‹_› ‹_› ‹_› ‹_› | exact fe4 ‹_› ‹_› ‹_› ‹_› ‹_› | exact fe5 ‹_› ‹_› ‹_› ‹_›) (by first | assumption | decide)).1] <;> rfl)), (by (rw [← (er (b := b) (k := k) ‹_› ‹_› ‹_› (by first | exact fe1 ‹_› | exact fe2 ‹_› ‹_› | exact fe3 ‹_› ‹_› ‹_› ‹_› | exact fe3a ‹_› ‹_› ‹_› ‹_› | exact fe4 ‹_› ‹_› ‹_› ‹_› ‹_› | exact fe5 ‹_› ‹_› ‹_› ‹_›) (by first | assumption | decide)).1] <;> rfl)), (by (rw [← (er (b := b) (k := k) ‹_› ‹_› ‹_› (by first | exact fe1 ‹_› | exact fe2 ‹_› ‹_› | exact fe3 ‹_› ‹_› ‹_› ‹_› | exact fe3a ‹_› ‹_› ‹_› ‹_› | exact fe4 ‹_› ‹_› ‹_› ‹_› ‹_› | exact fe5 ‹_› ‹_› ‹_› ‹_›) (by first | assumption | decide)).1] <;> rfl)), (by exact (er (b := b) (k := k) ‹_› ‹_› ‹_› (by first | exact fe1 ‹_› | exact fe2 ‹_› ‹_› | exact fe3 ‹_› ‹_› ‹_› ‹_› | exact fe3a ‹_› ‹_› ‹_› ‹_› | exact fe4 ‹_› ‹_› ‹_› ‹_› ‹_› | exact fe5 ‹_› ‹_› ‹_› ‹_›) (by first | assumption | decide)).2), rfl⟩ trivial
       ·have h14 := of_decide_eq_false h14
        exact v_back (k + 1) [5] ((I64 (↑k + 1)) ∧ ((↑k : Int) + 1 = (↑(k + 1) : Int)) ∧ ((fTo (parse [] b).fst k).height = (fTo (parse [] b).fst (k + 1)).height) ∧ ((fTo (parse [] b).fst k).size = (fTo (parse [] b).fst (k + 1)).size) ∧ (true = (fTo (parse [] b).fst (k + 1)).right) ∧ ((fTo (parse [] b).fst k).other.l = (fTo (parse [] b).fst (k + 1)).other.l)) ⟨(by exact FJ.i64 ‹_› ‹_›), rfl, (by ((first | rw [s1 ‹_› ‹_›] | rw [s2 ‹_› ‹_› ‹_›] | rw [s3 ‹_› ‹_› ‹_› ‹_›] | rw [s4 ‹_› ‹_› ‹_› ‹_› ‹_› (by first | assumption | omega)]) <;> (first | rfl | exact (hMin_eq _) | exact (hR1 ‹_›) | exact (hR2 ‹_›) | exact (valRV_eq _) | exact tk32 ‹_›))), (by ((first | rw [s1 ‹_› ‹_›] | rw [s2 ‹_› ‹_› ‹_›] | rw [s3 ‹_› ‹_› ‹_› ‹_›] | rw [s4 ‹_› ‹_› ‹_› ‹_› ‹_› (by first | assumption | omega)]) <;> (first | rfl | exact (hMin_eq _) | exact (hR1 ‹_›) | exact (hR2 ‹_›) | exact (valRV_eq _) | exact tk32 ‹_›))), (by ((first | rw [s1 ‹_› ‹_›] | rw [s2 ‹_› ‹_› ‹_›] | rw [s3 ‹_› ‹_› ‹_› ‹_›] | rw [s4 ‹_› ‹_› ‹_› ‹_› ‹_› (by first | assumption | omega)]) <;> (first | rfl | exact (hMin_eq _) | exact (hR1 ‹_›) | exact (hR2 ‹_›) | exact (valRV_eq _) | exact tk32 ‹_›))), (by ((first | rw [s1 ‹_› ‹_›] | rw [s2 ‹_› ‹_› ‹_›] | rw [s3 ‹_› ‹_› ‹_› ‹_›] | rw [s4 ‹_› ‹_› ‹_› ‹_› ‹_› (by first | assumption | omega)]) <;> (first | rfl | exact (hMin_eq _) | exact (hR1 ‹_›) | exact (hR2 ‹_›) | exact (valRV_eq _) | exact tk32 ‹_›)))⟩ (show FJ (parse [] b).fst (k + 1) ∧ (parse [] b).fst.length - (k + 1) < (parse [] b).fst.length - k from (by exact FJ.next ‹_› ‹_› (by first | exact (fe1 ‹_›).trans (nn ‹_›) | exact (fe2 ‹_› ‹_›).trans (nn ‹_›) | exact (fe3a ‹_› ‹_› ‹_› ‹_›).trans (nn ‹_›) | exact fe4a ‹_› ‹_› ‹_› ‹_› ‹_›)))
     ·have h12 := of_decide_eq_false h12
      refine v_if (decide (((parse [] b).fst.getD (↑k : Int).toNat (Field.mk 0 [])).tag = 4)) True trivial (fun h15 => ?_) (fun h15 => ?_)
      ·have h15 := of_decide_eq_true h15
       refine v_if (decide ((↑((parse [] b).fst.getD (↑k : Int).toNat (Field.mk 0 [])).value.length : Int) ≠ 32)) True trivial (fun h16 => ?_) (fun h16 => ?_)
       ·have h16 := of_decide_eq_true h16
        refine v_leave .rt True trivial ?_
        exact v_ret () [] ((0 = (tnV b).height) ∧ (0 = (tnV b).size) ∧ (false = (tnV b).right) ∧ (List.replicate 32 0 = (tnV b).other.l) ∧ (7 = tnE b) ∧ (b = b)) ⟨(by (rw [← (er (b := b) (k := k) ‹_› ‹_› ‹_› (by first | exact fe1 ‹_› | exact fe2 ‹_› ‹_› | exact fe3 ‹_› ‹_› ‹_› ‹_› | exact fe3a ‹_› ‹_› ‹_› ‹_› | exact fe4 ‹_› ‹_› ‹_› ‹_› ‹_› | exact fe5 ‹_› ‹_› ‹_› ‹_›) (by first | assumption | decide)).1] <;> rfl)), (by (rw [← (er (b := b) (k := k) ‹_› ‹_› ‹_› (by first | exact fe1 ‹_› | exact fe2 ‹_› ‹_› | exact fe3 ‹_› ‹_› ‹_› ‹_› | exact fe3a ‹_› ‹_› ‹_› ‹_› | exact fe4 ‹_› ‹_› ‹_› ‹_› ‹_› | exact fe5 ‹_› ‹_› ‹_› ‹_›) (by first | assumption | decide)).1] <;> rfl)), (by (rw [← (er (b := b) (k := k) ‹_› ‹_› ‹_› (by first | exact fe1 ‹_› | exact fe2 ‹_› ‹_› | exact fe3 ‹_› ‹_› ‹_› ‹_› | exact fe3a ‹_› ‹_› ‹_› ‹_› | exact fe4 ‹_› ‹_› ‹_› ‹_› ‹_› | exact fe5 ‹_› ‹_› ‹_› ‹_›) (by first | assumption | decide)).1] <;> rfl)), (by (rw [← (er (b := b) (k := k) ‹_› ‹_› ‹_› (by first | exact fe1 ‹_› | exact fe2 ‹_› ‹_› | exact fe3 ‹_› ‹_› ‹_› ‹_› | exact fe3a ‹_› ‹_› ‹_› ‹_› | exact fe4 ‹_› ‹_› ‹_› ‹_› ‹_› | exact fe5 ‹_› ‹_› ‹_› ‹_›) (by first | assumption | decide)).1] <;> rfl)), (by exact (er (b := b) (k := k) ‹_› ‹_› ‹_› (by first | exact fe1 ‹_› | exact fe2 ‹_› ‹_› | exact fe3 ‹_› ‹_› ‹_› ‹_› | exact fe3a ‹_› ‹_› ‹_› ‹_› | exact fe4 ‹_› ‹_› ‹_› ‹_› ‹_› | exact fe5 ‹_› ‹_› ‹_› ‹_›) (by first | assumption | decide)).2), rfl⟩ trivial
       ·have h16 := of_decide_eq_false h16
        refine v_if (decide ((0 : Int) ≠ (0 : Int))) ((0 < 32 ∧ 32 ≤ ((parse [] b).fst.getD (↑k : Int).toNat (Field.mk 0 [])).value.length)) (by omega) (fun h17 => ?_) (fun h17 => ?_)
        ·have h17 := of_decide_eq_true h17
         omega
        ·have h17 := of_decide_eq_false h17
         exact v_back (k + 1) [5] ((I64 (↑k + 1)) ∧ ((↑k : Int) + 1 = (↑(k + 1) : Int)) ∧ ((fTo (parse [] b).fst k).height = (fTo (parse [] b).fst (k + 1)).height) ∧ ((fTo (parse [] b).fst k).size = (fTo (parse [] b).fst (k + 1)).size) ∧ ((fTo (parse [] b).fst k).right = (fTo (parse [] b).fst (k + 1)).right) ∧ (List.take 32 ((parse [] b).fst.getD (↑k : Int).toNat (Field.mk 0 [])).value = (fTo (parse [] b).fst (k + 1)).other.l)) ⟨(by exact FJ.i64 ‹_› ‹_›), rfl, (by ((first | rw [s1 ‹_› ‹_›] | rw [s2 ‹_› ‹_› ‹_›] | rw [s3 ‹_› ‹_› ‹_› ‹_›] | rw [s4 ‹_› ‹_› ‹_› ‹_› ‹_› (by first | assumption | omega)]) <;> (first | rfl | exact (hMin_eq _) | exact (hR1 ‹_›) | exact (hR2 ‹_›) | exact (valRV_eq _) | exact tk32 ‹_›))), (by ((first | rw [s1 ‹_› ‹_›] | rw [s2 ‹_› ‹_› ‹_›] | rw [s3 ‹_› ‹_› ‹_› ‹_›] | rw [s4 ‹_› ‹_› ‹_› ‹_› ‹_› (by first | assumption | omega)]) <;> (first | rfl | exact (hMin_eq _) | exact (hR1 ‹_›) | exact (hR2 ‹_›) | exact (valRV_eq _) | exact tk32 ‹_›))), (by ((first | rw [s1 ‹_› ‹_›] | rw [s2 ‹_› ‹_› ‹_›] | rw [s3 ‹_› ‹_› ‹_› ‹_›] | rw [s4 ‹_› ‹_› ‹_› ‹_› ‹_› (by first | assumption | omega)]) <;> (first | rfl | exact (hMin_eq _) | exact (hR1 ‹_›) | exact (hR2 ‹_›) | exact (valRV_eq _) | exact tk32 ‹_›))), (by ((first | rw [s1 ‹_› ‹_›] | rw [s2 ‹_› ‹_› ‹_›] | rw [s3 ‹_› ‹_› ‹_› ‹_›] | rw [s4 ‹_› ‹_› ‹_› ‹_› ‹_› (by first | assumption | omega)]) <;> (first | rfl | exact (hMin_eq _) | exact (hR1 ‹_›) | exact (hR2 ‹_›) | exact (valRV_eq _) | exact tk32 ‹_›)))⟩ (show FJ (parse [] b).fst (k + 1) ∧ (parse [] b).fst.length - (k + 1) < (parse [] b).fst.length - k from (by exact FJ.next ‹_› ‹_› (by first | exact (fe1 ‹_›).trans (nn ‹_›) | exact (fe2 ‹_› ‹_›).trans (nn ‹_›) | exact (fe3a ‹_› ‹_› ‹_› ‹_›).trans (nn ‹_›) | exact fe4a ‹_› ‹_› ‹_› ‹_› ‹_›)))
      ·have h15 := of_decide_eq_false h15
       refine v_leave .rt True trivial ?_
       exact v_ret () [] ((0 = (tnV b).height) ∧ (0 = (tnV b).size) ∧ (false = (tnV b).right) ∧ (List.replicate 32 0 = (tnV b).other.l) ∧ (8 = tnE b) ∧ (b = b)) ⟨(by (rw [← (er (b := b) (k := k) ‹_› ‹_› ‹_› (by first | exact fe1 ‹_› | exact fe2 ‹_› ‹_› | exact fe3 ‹_› ‹_› ‹_› ‹_› | exact fe3a ‹_› ‹_› ‹_› ‹_› | exact fe4 ‹_› ‹_› ‹_› ‹_› ‹_› | exact fe5 ‹_› ‹_› ‹_› ‹_›) (by first | assumption | decide)).1] <;> rfl)), (by (rw [← (er (b := b) (k := k) ‹_› ‹_› ‹_› (by first | exact fe1 ‹_› | exact fe2 ‹_› ‹_› | exact fe3 ‹_› ‹_› ‹_› ‹_› | exact fe3a ‹_› ‹_› ‹_› ‹_› | exact fe4 ‹_› ‹_› ‹_› ‹_› ‹_› | exact fe5 ‹_› ‹_› ‹_› ‹_›) (by first | assumption | decide)).1] <;> rfl)), (by (rw [← (er (b := b) (k := k) ‹_› ‹_› ‹_› (by first | exact fe1 ‹_› | exact fe2 ‹_› ‹_› | exact fe3 ‹_› ‹_› ‹_› ‹_› | exact fe3a ‹_› ‹_› ‹_› ‹_› | exact fe4 ‹_› ‹_› ‹_› ‹_› ‹_› | exact fe5 ‹_› ‹_› ‹_› ‹_›) (by first | assumption | decide)).1] <;> rfl)), (by (rw [← (er (b := b) (k := k) ‹_› ‹_› ‹_› (by first | exact fe1 ‹_› | exact fe2 ‹_› ‹_› | exact fe3 ‹_› ‹_› ‹_› ‹_› | exact fe3a ‹_› ‹_› ‹_› ‹_› | exact fe4 ‹_› ‹_› ‹_› ‹_› ‹_› | exact fe5 ‹_› ‹_› ‹_› ‹_›) (by first | assumption | decide)).1] <;> rfl)), (by exact (er (b := b) (k := k) ‹_› ‹_› ‹_› (by first | exact fe1 ‹_› | exact fe2 ‹_› ‹_› | exact fe3 ‹_› ‹_› ‹_› ‹_› | exact fe3a ‹_› ‹_› ‹_› ‹_› | exact fe4 ‹_› ‹_› ‹_› ‹_› ‹_› | exact fe5 ‹_› ‹_› ‹_› ‹_›) (by first | assumption | decide)).2), rfl⟩ trivial
  ·have h5 := of_decide_eq_false h5
   refine v_leave (.ex 0) True trivial ?_
   refine v_if (decide (((parse [] b).fst.getD ((↑(parse [] b).fst.length : Int) - 1).toNat (Field.mk 0 [])).tag ≠ 4)) ((0 < (parse [] b).fst.length) ∧ (I64 (↑(parse [] b).fst.length - 1)) ∧ (0 ≤ (↑(parse [] b).fst.length : Int) - 1 ∧ (↑(parse [] b).fst.length : Int) - 1 < (↑(parse [] b).fst.length : Int))) ⟨(by exact parse_ne ‹_› ‹_›), (by (have hz := parse_ne (b := b) ‹_› ‹_›; have hy := parse_len b; unfold I64; omega)), (by (have hz := parse_ne (b := b) ‹_› ‹_›; omega))⟩ (fun h18 => ?_) (fun h18 => ?_)
   ·have h18 := of_decide_eq_true h18
    exact v_ret () [] ((0 = (tnV b).height) ∧ (0 = (tnV b).size) ∧ (false = (tnV b).right) ∧ (List.replicate 32 0 = (tnV b).other.l) ∧ (8 = tnE b) ∧ (b = b)) ⟨(by (rw [← (tnG (b := b) (k := k) ‹_› ‹_› ‹_› (parse_ne ‹_› ‹_›) ‹_›).1] <;> rfl)), (by (rw [← (tnG (b := b) (k := k) ‹_› ‹_› ‹_› (parse_ne ‹_› ‹_›) ‹_›).1] <;> rfl)), (by (rw [← (tnG (b := b) (k := k) ‹_› ‹_› ‹_› (parse_ne ‹_› ‹_›) ‹_›).1] <;> rfl)), (by (rw [← (tnG (b := b) (k := k) ‹_› ‹_› ‹_› (parse_ne ‹_› ‹_›) ‹_›).1] <;> rfl)), (by exact (tnG (b := b) (k := k) ‹_› ‹_› ‹_› (parse_ne ‹_› ‹_›) ‹_›).2), rfl⟩ trivial
   ·have h18 := of_decide_eq_false h18
    exact v_ret () [] (((fTo (parse [] b).fst k).height = (tnV b).height) ∧ ((fTo (parse [] b).fst k).size = (tnV b).size) ∧ ((fTo (parse [] b).fst k).right = (tnV b).right) ∧ ((fTo (parse [] b).fst k).other.l = (tnV b).other.l) ∧ (0 = tnE b) ∧ (b = b)) ⟨(by (rw [← (tnH (b := b) (k := k) ‹_› ‹_› ‹_› (parse_ne ‹_› ‹_›) ‹_›).1])), (by (rw [← (tnH (b := b) (k := k) ‹_› ‹_› ‹_› (parse_ne ‹_› ‹_›) ‹_›).1])), (by (rw [← (tnH (b := b) (k := k) ‹_› ‹_› ‹_› (parse_ne ‹_› ‹_›) ‹_›).1])), (by (rw [← (tnH (b := b) (k := k) ‹_› ‹_› ‹_› (parse_ne ‹_› ‹_›) ‹_›).1])), (by exact (tnH (b := b) (k := k) ‹_› ‹_› ‹_› (parse_ne ‹_› ‹_›) ‹_›).2), rfl⟩ trivial
theorem parse_nil : parse [] [] = ([], 0) := by rw [parse, dif_pos (show ([] : List UInt8).length = 0 from rfl)]
theorem t0 : kT = tnV [] ∧ 8 = tnE [] := tn3 (by rw [parse_nil]; decide) (by rw [parse_nil]; rfl) (by rw [parse_nil]; rfl)
noncomputable def ccK7_89 : Code := (Tryd.f89.body).getD .skip
theorem turn0_aux (hp : FOk EN 87 ⟨[.rd 5 []], [.n 0], Unit, fun _ => ([.rd 5 [], .nl], .t [.n 1, .i 0]), fun _ => True⟩) : FOk EN 89 ⟨[.rd 5 (([] : List UInt8))], [.n 0], Unit, fun _ => ([.rd 5 (([] : List UInt8))], .t [.a [.i (tnV []).height, .u (tnV []).size, .b (tnV []).right, .h 32 (tnV []).other.l], .i (tnE [])]), fun _ => True⟩ := by
 refine v_fun Tryd.f89 ccK7_89 MX (fun ν F σ w => ?_) Tryd.func89
 refine v_nl ?_
 refine v_call _ [0] (hp) ((Eq (α := List UInt8) [] [])) rfl (fun g1 p2 => ?_)
 have p2 : True := p2
 refine v_if (decide ((0 : Int) ≠ (0 : Int))) True trivial (fun h3 => ?_) (fun h3 => ?_)
 ·have h3 := of_decide_eq_true h3
  omega
 ·have h3 := of_decide_eq_false h3
  refine v_loop (fun k : Unit => ([(22, .i 0)], [])) (fun k => True) (fun k => 0) () [] (((0 : Int) = (0 : Int))) rfl trivial (fun k hk4 => ?_)
  refine v_if (decide ((0 : Int) < (↑(0 : Nat) : Int))) True trivial (fun h5 => ?_) (fun h5 => ?_)
  ·have h5 := of_decide_eq_true h5
   omega
  ·have h5 := of_decide_eq_false h5
   refine v_leave (.ex 0) True trivial ?_
   exact v_ret () [] ((0 = (tnV []).height) ∧ (0 = (tnV []).size) ∧ (false = (tnV []).right) ∧ (List.replicate 32 0 = (tnV []).other.l) ∧ (8 = tnE []) ∧ (Eq (α := List UInt8) [] [])) ⟨(by (rw [← t0.1] <;> rfl)), (by (rw [← t0.1] <;> rfl)), (by (rw [← t0.1] <;> rfl)), (by (rw [← t0.1] <;> rfl)), (by exact t0.2), rfl⟩ trivial
theorem turn_ok (b : List UInt8) (hlb : b.length ≤ 900000) : FOk EN 89 ⟨[.rd 5 b], [.n 0], Unit, fun _ => ([.rd 5 b], .t [.a [.i (tnV b).height, .u (tnV b).size, .b (tnV b).right, .h 32 (tnV b).other.l], .i (tnE b)]), fun _ => True⟩ := by
  by_cases hb : b = []
  · subst hb; exact turn0_aux parse0_aux
  · exact turn1_aux b hb hlb
end Go.Proofs.YtnicmjipbnhciaaDoor.X
