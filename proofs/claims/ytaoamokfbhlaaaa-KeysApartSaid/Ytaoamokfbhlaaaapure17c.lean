/- Plain laws of layer 17: unlike keys; their order. -/
import Derived.Test.Ytaoamokfbhlaaaapure17b
import Derived.Test.YtaoamokfbhlaaaaE10
set_option linter.unusedVariables false
set_option linter.unusedSimpArgs false
namespace Go.Proofs.Ytaoamokfbhlaaaa.E
open Go

abbrev Bytes := List UInt8
def putAll (l : List Bytes) : List (Bytes × Bool) := l.foldl (fun m k => mput m k true) []
theorem putAll_snoc (l : List Bytes) (k : Bytes) : putAll (l ++ [k]) = mput (putAll l) k true := by
  unfold putAll
  rw [List.foldl_append]; rfl
def four1 (x : Int) (n : UInt64) : List Bytes := [ofL 99 x [n], ofL 97 x [n], ofL 114 x [n], ofL 119 x [n]]
def four0 (x : Int) : List Bytes := [ofL 115 x [], ofL 110 x [], ofL 107 x [], ofL 120 x []]
def midK (x : Int) (n m : UInt64) (j : Nat) : List Bytes := ([n, m].take j).flatMap (four1 x)
def outK (c d : Int) (n m : UInt64) (i : Nat) : List Bytes := ([c, d].take i).flatMap (fun x => midK x n m 2 ++ four0 x)
theorem midK_succ (x : Int) (n m : UInt64) (j : Nat) (hj : j < [n, m].length) : midK x n m j ++ four1 x ([n, m][j]'hj) = midK x n m (j + 1) := by
  unfold midK
  rw [List.take_succ_eq_append_getElem hj, List.flatMap_append]
  simp
theorem outK_succ (c d : Int) (n m : UInt64) (i : Nat) (hi : i < [c, d].length) : outK c d n m i ++ (midK ([c, d][i]'hi) n m 2 ++ four0 ([c, d][i]'hi)) = outK c d n m (i + 1) := by
  unfold outK
  rw [List.take_succ_eq_append_getElem hi, List.flatMap_append]
  simp
theorem put_step {A X : List Bytes} {q : Nat} (hq : q < X.length) : mput (putAll (A ++ X.take q)) (X[q]'hq) true = putAll (A ++ X.take (q + 1)) := by
  rw [← putAll_snoc, List.take_succ_eq_append_getElem hq, List.append_assoc]

/-! ### how many unlike ones -/
section
variable {α β : Type} [DecidableEq α]
def newN (seen : List α) : List α → Nat
  | [] => 0
  | a :: r => if a ∈ seen then newN seen r else 1 + newN (a :: seen) r
theorem newN_congr : ∀ (l : List α) (s t : List α), (∀ a, a ∈ s ↔ a ∈ t) → newN s l = newN t l
  | [], _, _, _ => rfl
  | a :: r, s, t, h => by
    unfold newN
    by_cases e : a ∈ s
    · rw [if_pos e, if_pos ((h a).1 e)]; exact newN_congr r s t h
    · rw [if_neg e, if_neg (fun k => e ((h a).2 k))]
      rw [newN_congr r (a :: s) (a :: t) (fun b => by simp [h b])]
theorem mput_in (m : List (α × β)) (a : α) (b : β) : a ∈ m.map (·.1) → (mput m a b).length = m.length ∧ (mput m a b).map (·.1) = m.map (·.1) := by
  induction m with
  | nil => intro h; simp at h
  | cons p r ih =>
    intro h
    unfold mput
    by_cases e : p.1 = a
    · simp [e]
    · rw [if_neg e]
      have : a ∈ r.map (·.1) := by
        rw [List.map_cons, List.mem_cons] at h
        exact h.resolve_left (fun k => e k.symm)
      obtain ⟨h1, h2⟩ := ih this
      simp only [List.length_cons, h1, List.map_cons, h2, and_self]
theorem mput_out (m : List (α × β)) (a : α) (b : β) : a ∉ m.map (·.1) → mput m a b = m ++ [(a, b)] := by
  induction m with
  | nil => intro _; rfl
  | cons p r ih =>
    intro h
    rw [List.map_cons, List.mem_cons, not_or] at h
    unfold mput
    rw [if_neg (fun e => h.1 e.symm), ih h.2]; rfl
theorem fold_len (l : List α) : ∀ (m : List (α × Bool)), (l.foldl (fun m k => mput m k true) m).length = m.length + newN (m.map (·.1)) l := by
  induction l with
  | nil => intro m; rfl
  | cons a r ih =>
    intro m
    rw [List.foldl_cons, ih]
    have hn : newN (m.map (·.1)) (a :: r) = if a ∈ m.map (·.1) then newN (m.map (·.1)) r else 1 + newN (a :: m.map (·.1)) r := rfl
    rw [hn]
    by_cases e : a ∈ m.map (·.1)
    · rw [if_pos e, (mput_in m a true e).1, (mput_in m a true e).2]
    · rw [if_neg e, mput_out m a true e]
      rw [newN_congr r ((m ++ [(a, true)]).map (·.1)) (a :: m.map (·.1)) (fun b => by simp [or_comm])]
      simp only [List.length_append, List.length_cons, List.length_nil]
      omega
theorem newN_map {γ : Type} [DecidableEq γ] (f : α → γ) (S : List α) (hf : ∀ a ∈ S, ∀ b ∈ S, f a = f b → a = b) : ∀ (l s : List α), (∀ a ∈ l, a ∈ S) → (∀ a ∈ s, a ∈ S) → newN (s.map f) (l.map f) = newN s l
  | [], _, _, _ => rfl
  | a :: r, s, hl, hs => by
    have ha := hl a (List.mem_cons_self)
    have hmem : f a ∈ s.map f ↔ a ∈ s := by
      rw [List.mem_map]
      constructor
      · rintro ⟨b, hb, e⟩
        rw [hf a ha b (hs b hb) e.symm]; exact hb
      · intro h; exact ⟨a, h, rfl⟩
    unfold newN
    rw [List.map_cons]
    show (if f a ∈ s.map f then newN (s.map f) (r.map f) else 1 + newN (f a :: s.map f) (r.map f)) = _
    by_cases e : a ∈ s
    · rw [if_pos e, if_pos (hmem.2 e)]
      exact newN_map f S hf r s (fun b hb => hl b (List.mem_cons_of_mem _ hb)) hs
    · rw [if_neg e, if_neg (fun k => e (hmem.1 k)), ← List.map_cons]
      rw [newN_map f S hf r (a :: s) (fun b hb => hl b (List.mem_cons_of_mem _ hb)) (fun b hb => by
        rcases List.mem_cons.1 hb with rfl | h
        · exact ha
        · exact hs b h)]
end

/-! ### a key says what it is of -/
theorem digit (x : UInt8) (hx : x < 10) : ((48 : UInt64) + ofI ((x.toNat : Nat) : Int) % 10).toUInt8 = 48 + x := by
  have h1 : x.toNat < 10 := by simpa [UInt8.lt_iff_toNat_lt] using hx
  apply UInt8.toNat_inj.1
  have h2 : (ofI ((x.toNat : Nat) : Int)).toNat = x.toNat := by
    unfold ofI
    rw [UInt64.toNat_ofNat']
    have h : (2 ^ 64 : Nat) = 18446744073709551616 := by decide
    rw [h]; omega
  rw [UInt64.toNat_toUInt8, UInt64.toNat_add, UInt64.toNat_mod, h2, UInt8.toNat_add]
  have h3 : (10 : UInt64).toNat = 10 := rfl
  have h4 : (48 : UInt64).toNat = 48 := rfl
  have h5 : (48 : UInt8).toNat = 48 := rfl
  rw [h3, h4, h5]
  have h : (2 ^ 64 : Nat) = 18446744073709551616 := by decide
  have h' : (2 ^ 8 : Nat) = 256 := by decide
  rw [h, h']
  omega
abbrev KT := UInt8 × UInt8 × Option UInt64
def kb (k : KT) : Bytes := ofL k.1 ((k.2.1.toNat : Nat) : Int) k.2.2.toList
theorem eight_inj {n m : UInt64} (h : eight n = eight m) : n = m := by
  rw [← numTo_eight n, ← numTo_eight m, h]
theorem kb_inj {a b : KT} (ha : a.2.1 < 10) (hb : b.2.1 < 10) (h : kb a = kb b) : a = b := by
  obtain ⟨k, x, o⟩ := a
  obtain ⟨k', x', o'⟩ := b
  unfold kb ofL head17 at h
  simp only [List.cons_append, List.nil_append, List.cons.injEq, true_and] at h
  obtain ⟨h1, h2, h3⟩ := h
  subst h1
  rw [digit x ha, digit x' hb] at h2
  have hx : x = x' := by
    have := congrArg (fun z => z - 48) h2
    simpa [UInt8.add_comm] using this
  subst hx
  cases o with
  | none => cases o' with
    | none => rfl
    | some m => simp at h3
  | some n => cases o' with
    | none => simp at h3
    | some m =>
      simp at h3
      rw [eight_inj h3]
def kt1 (x : UInt8) (n : UInt64) : List KT := [(99, x, some n), (97, x, some n), (114, x, some n), (119, x, some n)]
def kt0 (x : UInt8) : List KT := [(115, x, none), (110, x, none), (107, x, none), (120, x, none)]
def ktRow (x : UInt8) (n m : UInt64) : List KT := kt1 x n ++ (kt1 x m ++ kt0 x)
theorem outK_kb (c d : UInt8) (n m : UInt64) : outK ((c.toNat : Nat) : Int) ((d.toNat : Nat) : Int) n m 2 = (ktRow c n m ++ ktRow d n m).map kb := rfl
theorem ktRow_mem {x : UInt8} {n m : UInt64} {a : KT} (h : a ∈ ktRow x n m) : a.2.1 = x := by
  simp [ktRow, kt1, kt0] at h
  rcases h with h | h | h | h | h | h | h | h | h | h | h | h <;> rw [h]
theorem count_of (c d : UInt8) (hc : c < 10) (hd : d < 10) (n m : UInt64) : (putAll (outK ((c.toNat : Nat) : Int) ((d.toNat : Nat) : Int) n m 2)).length = newN [] (ktRow c n m ++ ktRow d n m) := by
  unfold putAll
  rw [fold_len, outK_kb]
  have hS : ∀ a ∈ ktRow c n m ++ ktRow d n m, a.2.1 < 10 := by
    intro a ha
    rcases List.mem_append.1 ha with h | h
    · rw [ktRow_mem h]; exact hc
    · rw [ktRow_mem h]; exact hd
  have := newN_map kb (ktRow c n m ++ ktRow d n m) (fun a ha b hb => kb_inj (hS a ha) (hS b hb)) (ktRow c n m ++ ktRow d n m) [] (fun a h => h) (fun a h => by simp at h)
  simp only [List.map_nil, List.length_nil, Nat.zero_add] at this ⊢
  exact this
theorem mod10 (c : UInt8) : c % 10 < 10 := by
  rw [UInt8.lt_iff_toNat_lt, UInt8.toNat_mod]
  exact Nat.mod_lt _ (by decide)
theorem count24 {c d : UInt8} {n m : UInt64} (h1 : ¬ n = m) (h2 : ¬ c = d) : newN [] (ktRow c n m ++ ktRow d n m) = 24 := by
  have h1' : ¬ m = n := fun h => h1 h.symm
  have h2' : ¬ d = c := fun h => h2 h.symm
  simp [ktRow, kt1, kt0, newN, h1, h2, h1', h2']
theorem count12 {c : UInt8} {n m : UInt64} (h1 : ¬ n = m) : newN [] (ktRow c n m ++ ktRow c n m) = 12 := by
  have h1' : ¬ m = n := fun h => h1 h.symm
  simp [ktRow, kt1, kt0, newN, h1, h1']
theorem count16 {c d : UInt8} {n : UInt64} (h2 : ¬ c = d) : newN [] (ktRow c n n ++ ktRow d n n) = 16 := by
  have h2' : ¬ d = c := fun h => h2 h.symm
  simp [ktRow, kt1, kt0, newN, h2, h2']
theorem count8 {c : UInt8} {n : UInt64} : newN [] (ktRow c n n ++ ktRow c n n) = 8 := by
  simp [ktRow, kt1, kt0, newN]

/-! ### their order -/
def valN : Bytes → Nat
  | [] => 0
  | a :: x => a.toNat * 256 ^ x.length + valN x
theorem valN_lt : ∀ b : Bytes, valN b < 256 ^ b.length
  | [] => by simp [valN]
  | a :: x => by
    have := valN_lt x
    have ha := a.toNat_lt
    simp only [valN, List.length_cons, Nat.pow_succ]
    generalize 256 ^ x.length = q at *
    have h1 : a.toNat * q + q ≤ 256 * q := by
      rw [← Nat.succ_mul]
      exact Nat.mul_le_mul_right _ (by omega)
    omega
theorem less_val : ∀ a b : Bytes, a.length = b.length → Op.bytesLess a b = decide (valN a < valN b)
  | [], [], _ => by simp [Op.bytesLess]
  | [], _ :: _, h => by simp at h
  | _ :: _, [], h => by simp at h
  | a :: x, b :: y, h => by
    have hl : x.length = y.length := by simpa using h
    unfold Op.bytesLess
    rw [less_val x y hl, Bool.eq_iff_iff]
    simp only [Bool.or_eq_true, decide_eq_true_eq, Bool.and_eq_true, beq_iff_eq, valN, hl]
    have h1 := valN_lt x
    have h2 := valN_lt y
    rw [hl] at h1
    generalize 256 ^ y.length = q at *
    rw [UInt8.lt_iff_toNat_lt, ← UInt8.toNat_inj]
    constructor
    · rintro (h | ⟨h, h3⟩)
      · have : a.toNat * q + q ≤ b.toNat * q := by
          rw [← Nat.succ_mul]
          exact Nat.mul_le_mul_right _ h
        omega
      · rw [h]; omega
    · intro h3
      by_cases e : a.toNat < b.toNat
      · exact .inl e
      · by_cases e2 : a.toNat = b.toNat
        · rw [e2] at h3
          exact .inr ⟨e2, by omega⟩
        · exfalso
          have : b.toNat * q + q ≤ a.toNat * q := by
            rw [← Nat.succ_mul]
            exact Nat.mul_le_mul_right _ (by omega)
          omega
theorem fold_val : ∀ (b : Bytes) (acc : Nat), b.foldl (fun n c => n * 256 + c.toNat) acc = acc * 256 ^ b.length + valN b
  | [], acc => by simp [valN]
  | a :: x, acc => by
    rw [List.foldl_cons, fold_val x]
    simp only [valN, List.length_cons, Nat.pow_succ, Nat.add_mul]
    rw [Nat.mul_assoc, Nat.mul_comm 256, Nat.add_assoc]
theorem val_eight (n : UInt64) : valN (eight n) = n.toNat := by
  have h := numN_eight n 8 (Nat.le_refl _)
  unfold numN at h
  rw [List.take_of_length_le (by rw [eight_len]; exact Nat.le_refl _), fold_val] at h
  simpa using h
theorem less_prefix (a b : Bytes) : ∀ p : Bytes, Op.bytesLess (p ++ a) (p ++ b) = Op.bytesLess a b
  | [] => rfl
  | c :: p => by
    rw [List.cons_append, List.cons_append]
    have h : Op.bytesLess (c :: (p ++ a)) (c :: (p ++ b)) = (decide (c < c) || (c == c && Op.bytesLess (p ++ a) (p ++ b))) := rfl
    rw [h, less_prefix a b p]
    have : ¬ c < c := by rw [UInt8.lt_iff_toNat_lt]; omega
    simp [this]
theorem less_key (k : UInt8) (c : Int) (n m : UInt64) : Op.bytesLess (ofL k c [n]) (ofL k c [m]) = decide (n < m) := by
  have e : ∀ n : UInt64, ofL k c [n] = (head17 k c ++ [47]) ++ eight n := by
    intro n; unfold ofL; simp
  rw [e, e, less_prefix, less_val _ _ (by rw [eight_len, eight_len]), val_eight, val_eight, Bool.eq_iff_iff]
  simp [UInt64.lt_iff_toNat_lt]
theorem str_lss (a b : Bytes) : Op.bytesLess (⟨a.toArray⟩ : ByteArray).toList (⟨b.toArray⟩ : ByteArray).toList = Op.bytesLess a b := by rw [ba_toList, ba_toList]
end Go.Proofs.Ytaoamokfbhlaaaa.E
