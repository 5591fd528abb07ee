/- What the law RelayProofs needs: the engine, the walks of what it reaches, plain laws; part 1. -/
import Derived.Calls
import Derived.Orders
import Derived.KernelRfl
import Derived.Below
import Derived.Laws.AppendOwn
import Derived.Laws.Cells
import Derived.Laws.CopyRow
import Derived.Laws.Entries
import Derived.Tactics
import Derived.Deep.LoopGhost
import Derived.OwnWalk
import Derived.Laws.BytesArg
import Derived.Laws.IdiomStrings
import Derived.Laws.Strings
import Derived.Laws.StructEq
import Derived.OrdersHeld
import Derived.OpenShut
import Derived.SizedLaws
import Derived.ChangeArms
import Derived.MapKept
import Derived.Carry
import Derived.Lib.Bytealg
import Derived.Stop.BytesEq
set_option linter.unnecessarySimpa false
set_option linter.deprecated false
set_option linter.unusedVariables false
set_option linter.unusedSimpArgs false
namespace Go.Proofs.YtkpnjjacbhicgaaDoor.E
open Go
abbrev Sl:=List (Nat × Value)
structure Fr (a:Act) (n:Nat) (l:Sl):Prop where
  d:a.defers=[]
  s:a.tmps.size=n
  h:∀ t v,l.lookup t=some v→a.tmps.getD t undef=v
def sel (ks:List Nat) (l:Sl):Sl:=ks.filterMap fun k=>(l.lookup k).map fun v=>(k,v)
theorem lookup_sel (l:Sl) (t:Nat) (v:Value):∀(ks:List Nat),(sel ks l).lookup t=some v→l.lookup t=some v:=by
  intro ks
  induction ks with
  | nil=>intro h;simp[sel] at h
  | cons k ks ih =>
    intro h
    unfold sel at h
    rw[List.filterMap_cons] at h
    cases hk:l.lookup k with
    | none=>rw[hk] at h;exact ih h
    | some u =>
      rw[hk] at h
      simp only[Option.map_some] at h
      rw[List.lookup_cons] at h
      by_cases e:t=k
      · subst e;simp at h;rw[hk,h]
      · have : (t == k) = false := by simpa using e
        rw[this] at h
        exact ih h
theorem Fr.keep {a:Act} {n:Nat} {l:Sl} (h:Fr a n l) (ks:List Nat) (l':Sl) (e:sel ks l=l'):Fr a n l' :=
  ⟨h.d,h.s,fun t v hv=>h.h t v (lookup_sel l t v ks (e ▸ hv))⟩
theorem Fr.put {a:Act} {n:Nat} {l:Sl} (h:Fr a n l) (d:Nat) (v:Value) (hd:d<n):Fr (a.put (some d) v) n ((d,v)::l):=by
  refine⟨h.d,by simp[Act.put,h.s],fun t u hu=>?_⟩
  rw[List.lookup_cons] at hu
  by_cases e:t=d
  · subst e
    simp at hu
    subst hu
    simp[Act.put,h.s,hd]
  · have : (t == d) = false := by simpa using e
    rw[this] at hu
    have:=h.h t u hu
    rw[← this]
    simp only[Act.put,Array.getD_eq_getD_getElem?]
    rw[Array.getElem?_setIfInBounds_ne (Ne.symm e)]
theorem Fr.set {a:Act} {n:Nat} {l:Sl} (h:Fr a n l) (t:Nat) (v v':Value) (hl:l.lookup t=some v) (e:v=v'):Fr a n ((t,v')::l):=by
  refine⟨h.d,h.s,fun t' u hu=>?_⟩
  rw[List.lookup_cons] at hu
  by_cases c:t'=t
  · subst c
    simp at hu
    subst hu;subst e
    exact h.h _ _ hl
  · have : (t' == t) = false := by simpa using c
    rw[this] at hu
    exact h.h _ _ hu
/-- A slot's value is another's by an equation. -/
theorem Fr.to {a:Act} {n:Nat} {l l':Sl} (h:Fr a n l) (e:l=l'):Fr a n l':=e ▸ h
def putS (d:Option Nat) (v:Value) (l:Sl):Sl:=match d with | some d=>(d,v)::l | none=>l
def evl (l:Sl):Operand→Value
  | .tmp t=>(l.lookup t).getD undef
  | .const v=>v
  | .global g=>.pointer (some ⟨g,0,none⟩)
  | .func f=>.func (.func f) #[] #[]
def known (l:Sl):Operand→Bool
  | .tmp t=>(l.lookup t).isSome
  | _=>true
theorem Fr.ev {a:Act} {n:Nat} {l:Sl} (h:Fr a n l) (x:Operand) (hk:known l x=true):a.eval x=evl l x:=by
  cases x with
  | tmp t =>
    simp only[known] at hk
    cases e:l.lookup t with
    | none=>simp[e] at hk
    | some v=>simp only[Act.eval,evl,e,Option.getD_some];exact h.h t v e
  | _=>rfl
def opOk (l:Sl) (o:Oper):Bool:=o.op.operands.toList.all (known l) && (match o.op with | .select .. => false | _=>true)
theorem opOk_exec {a:Act} {n:Nat} {l:Sl} (h:Fr a n l) {o:Oper} (hk:opOk l o=true):execOp a.eval o=execOp (evl l) o:=by
  simp only[opOk,Bool.and_eq_true,List.all_eq_true] at hk
  refine execOp_congr o (fun cs b e=>by rw[e] at hk;simp at hk) (fun x hx=>h.ev x (hk.1 x (by simpa using hx)))
/-- Is the operation to be run? The guard's operation has left a bool. -/
def guardOn (ops:Array Oper) (l:Sl) (o:Oper):Option Bool :=
  match o.guard with
  | none=>some true
  | some (j, want) =>
    match(ops[j]?).bind (·.dst) with
    | none=>none
    | some d => match l.lookup d with
      | some (.bool b)=>some (b == want)
      | some _=>some false
      | none=>none
theorem guardOn_spec {a:Act} {n:Nat} {l:Sl} (h:Fr a n l) {ops:Array Oper} {o:Oper} {b:Bool} (hb:∀ d,(l.lookup d).isSome→d<n) (hg:guardOn ops l o=some b):Region.wanted o (yielded ops a.tmps)=b:=by
  unfold guardOn at hg
  unfold Region.wanted
  split at hg
  · rename_i e;rw[e];simpa using hg
  · rename_i j want e
    rw[e]
    split at hg
    · simp at hg
    · rename_i d hd
      have at_d:∀ v,l.lookup d=some v→a.tmps[d]? = some v:=by
        intro v hv
        have h1:=h.h d v hv
        have hlt:d<n:=hb d (by rw[hv];rfl)
        have hs:d<a.tmps.size:=by rw[h.s];exact hlt
        rw[Array.getElem?_eq_getElem hs]
        simp only[Array.getD_eq_getD_getElem?,Array.getElem?_eq_getElem hs,Option.getD_some] at h1
        rw[h1]
      split at hg
      · rename_i c hc
        simp only[yielded,hd,Option.bind_some,at_d _ hc]
        simp only[Option.some.injEq] at hg
        rw[← hg]
        cases c <;> cases want <;> rfl
      · rename_i v hnb hv
        simp only[yielded,hd,Option.bind_some,at_d _ hv]
        simp only[Option.some.injEq] at hg
        rw[← hg]
        cases v <;> first | rfl | exact absurd rfl (hnb _)
      · simp at hg
def allLt (n:Nat) (l:Sl):Bool:=l.all fun p=>decide (p.1<n)
theorem allLt_spec {n:Nat} {l:Sl} (h:allLt n l=true):∀ d,(l.lookup d).isSome→d<n:=by
  intro d hd
  simp only[allLt,List.all_eq_true,decide_eq_true_eq] at h
  cases e:l.lookup d with
  | none=>rw[e] at hd;simp at hd
  | some v =>
    obtain⟨l1,l2,hl,_⟩:=List.lookup_eq_some_iff.1 e
    exact h (d,v) (by rw[hl];simp)
/-- The operations of one list, run behind one another over a frame that is known in part. -/
def runAll (ops:Array Oper):List Oper→Sl→Sem Sl
  | [],l=>pure l
  | o :: os, l =>
    match guardOn ops l o with
    | none=>stuck "guard"
    | some false=>runAll ops os (putS o.dst undef l)
    | some true =>
      if opOk l o then do
        match ← execOp (evl l) o with
        | .value v=>runAll ops os (putS o.dst v l)
        | .skip => match o.dst with
          | some _=>stuck "dst"
          | none=>runAll ops os l
        | _=>stuck "no value"
      else stuck "operand"
def dstOk (n:Nat) (o:Oper):Bool:=match o.dst with | some d=>decide (d<n) | none=>true
theorem Fr.putD {a:Act} {n:Nat} {l:Sl} (h:Fr a n l) {o:Oper} (ho:dstOk n o=true) (v:Value) :
    Fr (a.put o.dst v) n (putS o.dst v l):=by
  unfold dstOk at ho
  cases e:o.dst with
  | none=>exact h
  | some d=>rw[e] at ho;simp only[decide_eq_true_eq] at ho;exact h.put d v ho
theorem allLt_put {n:Nat} {l:Sl} (h:allLt n l=true) {o:Oper} (ho:dstOk n o=true) (v:Value):allLt n (putS o.dst v l)=true:=by
  unfold dstOk at ho
  unfold putS
  cases e:o.dst with
  | none=>exact h
  | some d =>
    rw[e] at ho
    simp only[allLt,List.all_cons,Bool.and_eq_true]
    exact⟨ho,h⟩
theorem wp_runAll {P:Program} {ops:Array Oper} {Q:Exit→Act→World→Prop} {n:Nat} {l':Sl} {w':World} {rest:List Oper} :
    ∀ (os : List Oper) (l : Sl) (a : Act) (w : World), Fr a n l → allLt n l = true → os.all (dstOk n) = true → (runAll ops os l).run P w = .ok l' w' →
      (∀ a',Fr a' n l'→wpList P ops Q rest a' w')→wpList P ops Q (os++rest) a w:=by
  intro os
  induction os with
  | nil =>
    intro l a w hF _ _ hr k
    simp only[runAll,Sem.run_pure] at hr
    obtain⟨rfl,rfl⟩:l=l'∧w=w':=by injection hr with h1 h2;exact⟨h1,h2⟩
    exact k a hF
  | cons o os ih =>
    intro l a w hF hn hds hr k
    simp only[List.all_cons,Bool.and_eq_true] at hds
    simp only[runAll] at hr
    have hsp:=allLt_spec hn
    show wpList P ops Q (o::(os++rest)) a w
    unfold wpList
    split at hr
    · simp at hr
    · rename_i hg
      rw[guardOn_spec hF hsp hg]
      simp only[Bool.false_eq_true,if_false]
      exact ih _ _ _ (hF.putD hds.1 undef) (allLt_put hn hds.1 undef) hds.2 hr k
    · rename_i hg
      rw[guardOn_spec hF hsp hg]
      simp only[if_true]
      split at hr
      · rename_i hk
        left
        unfold Oper.wp
        rw[opOk_exec hF hk]
        rw[Sem.run_bind] at hr
        cases hx:(execOp (evl l) o).run P w with
        | halt h w1=>rw[hx] at hr;simp at hr
        | ok nx w1 =>
          rw[hx] at hr
          simp only[Result.andThen_ok] at hr
          cases nx with
          | value v =>
            simp only[Oper.upon_value]
            exact ih _ _ _ (hF.putD hds.1 v) (allLt_put hn hds.1 v) hds.2 hr k
          | skip =>
            simp only[Oper.upon_skip]
            cases hd:o.dst with
            | none => 
              rw[hd] at hr
              have h2:=hF.putD hds.1 undef
              rw[hd] at h2
              exact ih _ _ _ h2 hn hds.2 hr k
            | some d=>rw[hd] at hr;simp at hr
          | _=>simp at hr
      · simp at hr
/-- 'k' operations, run by the kernel. -/
theorem st_run {P:Program} {ops:Array Oper} {Q:Exit→Act→World→Prop} {n:Nat} {l l':Sl} {a:Act} {w w':World} {os:List Oper} (k:Nat)
    (hF:Fr a n l) (hc:(allLt n l && (os.take k).all (dstOk n))=true) (hr:(runAll ops (os.take k) l).run P w=.ok l' w')
    (K:∀ a',Fr a' n l'→wpList P ops Q (os.drop k) a' w'):wpList P ops Q os a w:=by
  have h:=wp_runAll (rest:=os.drop k) (Q:=Q) (os.take k) l a w hF (by simp only[Bool.and_eq_true] at hc;exact hc.1) (by simp only[Bool.and_eq_true] at hc;exact hc.2) hr K
  rwa [List.take_append_drop] at h
def sub:Code→List Nat→Code
  | c,[]=>c
  | .seq a b,i::p=>if i=0 then sub a p else sub b p
  | .cond _ t e,i::p=>if i=0 then sub t p else sub e p
  | .block _ b,_::p=>sub b p
  | .loop b,_::p=>sub b p
  | .scope b,_::p=>sub b p
  | .rangeFunc _ _ x b,i::p=>if i=0 then sub x p else sub b p
  | _,_=>.skip
theorem sub_nil (C:Code):sub C []=C:=by cases C <;> rfl
def opsOf:Code→Array Oper
  | .region _ ops _=>ops
  | _=>#[]
section rules
variable {P:Program} {Q:Exit→Act→World→Prop} {a:Act} {w:World} {C:Code}
theorem c_seq {p:List Nat} (p0 p1:List Nat) (h:sub C p=.seq (sub C p0) (sub C p1)) (k:(sub C p0).wp P (Exit.then ((sub C p1).wp P Q) Q) a w):(sub C p).wp P Q a w:=by
  rw[h];exact wp_seq k
theorem c_block {p:List Nat} (p0:List Nat) (id:Nat) (h:sub C p=.block id (sub C p0)) (k:(sub C p0).wp P (Exit.inBlock id Q) a w):(sub C p).wp P Q a w:=by
  rw[h];exact wp_block k
theorem c_skip {p:List Nat} (h:sub C p=.skip) (k:Q .normal a w):(sub C p).wp P Q a w:=by
  rw[h];exact wp_skip k
theorem c_ret {p:List Nat} (h:sub C p=.ret) (k:Q .ret a w):(sub C p).wp P Q a w:=by
  rw[h];exact wp_ret k
theorem c_exit {p:List Nat} (id:Nat) (h:sub C p=.exit id) (k:Q (.exit id) a w):(sub C p).wp P Q a w:=by
  rw[h];exact wp_exit k
theorem c_region {p:List Nat} (id:Nat) (h:sub C p=.region id (opsOf (sub C p)) false) (k:wpList P (opsOf (sub C p)) Q (opsOf (sub C p)).toList a w):(sub C p).wp P Q a w:=by
  rw[h];exact wp_region_list k
theorem c_cond {p:List Nat} (p0 p1:List Nat) (t:Nat) (h:sub C p=.cond (.tmp t) (sub C p0) (sub C p1)) {n:Nat} {l:Sl} (hF:Fr a n l) (b:Bool) (hl:l.lookup t=some (.bool b))
    (k1:b=true→(sub C p0).wp P Q a w) (k2:b=false→(sub C p1).wp P Q a w):(sub C p).wp P Q a w:=by
  rw[h];exact wp_cond_split (hF.h t _ hl) k1 k2
theorem c_cond_true {p:List Nat} (p0 p1:List Nat) (t:Nat) (h:sub C p=.cond (.tmp t) (sub C p0) (sub C p1)) {n:Nat} {l:Sl} (hF:Fr a n l) (hl:l.lookup t=some (.bool true))
    (k1:(sub C p0).wp P Q a w):(sub C p).wp P Q a w:=by
  rw[h];exact wp_cond_true (hF.h t _ hl) k1
theorem c_cond_false {p:List Nat} (p0 p1:List Nat) (t:Nat) (h:sub C p=.cond (.tmp t) (sub C p0) (sub C p1)) {n:Nat} {l:Sl} (hF:Fr a n l) (hl:l.lookup t=some (.bool false))
    (k1:(sub C p1).wp P Q a w):(sub C p).wp P Q a w:=by
  rw[h];exact wp_cond_false (hF.h t _ hl) k1
/-- A loop, by a ghost. -/
theorem c_loop {p:List Nat} (p0:List Nat) (h:sub C p=.loop (sub C p0)) {ι:Type} (I:ι→Act→World→Prop) (μ:ι→Nat) (i0:ι) (h0:I i0 a w)
    (round:∀ i a w,I i a w→(sub C p0).wp P (Exit.then (fun a' w'=>∃ j,I j a' w'∧μ j<μ i) Q) a w):(sub C p).wp P Q a w:=by
  rw[h]
  refine wp_loop_ghost (fun m a w=>∃ i,μ i=m∧I i a w) (μ i0) ⟨i0,rfl,h0⟩ ?_
  rintro m a w ⟨i,rfl,hI⟩
  refine wp_mono (round i a w hI) ?_
  intro e a' w' hq
  cases e with
  | normal=>obtain⟨j,hj,hlt⟩:=hq;exact⟨μ j,hlt,j,rfl,hj⟩
  | _=>exact hq
end rules
end Go.Proofs.YtkpnjjacbhicgaaDoor.E
set_option linter.unusedVariables false
set_option linter.unusedSimpArgs false
namespace Go.Proofs.YtkpnjjacbhicgaaDoor.E
open Go Go.RowKit
structure Stp (M:Nat→Prop) (σ:Nat→Nat) (w:World) (σ':Nat→Nat) (w':World):Prop where
  os:w'.os=w.os
  tape:w'.tape=w.tape
  output:w'.output=w.output
  size:w.heap.size≤w'.heap.size
  block:∀ b,b<w.heap.size→¬ M b→w'.heap[b]? = w.heap[b]?
  wm:∀ b,b<w.heap.size→¬ M b→σ' b=σ b
  cell:∀ b o,b<w.heap.size→o<σ b→w'.cell? ⟨b,o,none⟩=w.cell? ⟨b,o,none⟩
  wmm:∀ b,b<w.heap.size→σ b≤σ' b
def noM:Nat→Prop:=fun _=>False
def upd (σ:Nat→Nat) (b k:Nat):Nat→Nat:=fun x=>if x=b then k else σ x
theorem upd_same (σ:Nat→Nat) (b k:Nat):upd σ b k b=k:=by simp[upd]
theorem upd_ne (σ:Nat→Nat) {b x:Nat} (k:Nat) (h:x≠b):upd σ b k x=σ x:=by simp[upd,h]
section
variable {M M' M'':Nat→Prop} {σ σ1 σ2:Nat→Nat} {w w1 w2:World}
theorem Stp.refl (M:Nat→Prop) (σ:Nat→Nat) (w:World):Stp M σ w σ w:=⟨rfl,rfl,rfl,Nat.le_refl _,fun _ _ _=>rfl,fun _ _ _=>rfl,fun _ _ _ _=>rfl,fun _ _=>Nat.le_refl _⟩
theorem Stp.trans (h:Stp M σ w σ1 w1) (k:Stp M' σ1 w1 σ2 w2) (hM:∀ b,b<w.heap.size→(M b∨M' b)→M'' b):Stp M'' σ w σ2 w2:=by
  refine⟨k.os.trans h.os,k.tape.trans h.tape,k.output.trans h.output,Nat.le_trans h.size k.size,?_,?_,?_,?_⟩
  · intro b hb hn
    rw[k.block b (Nat.lt_of_lt_of_le hb h.size) (fun e=>hn (hM b hb (.inr e))),h.block b hb (fun e=>hn (hM b hb (.inl e)))]
  · intro b hb hn
    rw[k.wm b (Nat.lt_of_lt_of_le hb h.size) (fun e=>hn (hM b hb (.inr e))),h.wm b hb (fun e=>hn (hM b hb (.inl e)))]
  · intro b o hb ho
    rw[k.cell b o (Nat.lt_of_lt_of_le hb h.size) (Nat.lt_of_lt_of_le ho (h.wmm b hb)),h.cell b o hb ho]
  · intro b hb
    exact Nat.le_trans (h.wmm b hb) (k.wmm b (Nat.lt_of_lt_of_le hb h.size))
theorem Stp.mono (h:Stp M σ w σ1 w1) (hM:∀ b,b<w.heap.size→M b→M' b):Stp M' σ w σ1 w1 :=
  ⟨h.os,h.tape,h.output,h.size,fun b hb hn=>h.block b hb (fun e=>hn (hM b hb e)),fun b hb hn=>h.wm b hb (fun e=>hn (hM b hb e)),h.cell,h.wmm⟩
/-- Behind another step that writes nothing of what was there at the beginning. -/
theorem Stp.and (h:Stp M σ w σ1 w1) (k:Stp M' σ1 w1 σ2 w2) (hM:∀ b,M' b→w.heap.size≤b):Stp M σ w σ2 w2 :=
  h.trans k fun b hb e=>e.elim id fun e=>absurd (hM b e) (by omega)
theorem Stp.then (h:Stp M σ w σ1 w1) (k:Stp noM σ1 w1 σ2 w2):Stp M σ w σ2 w2:=h.and k fun _ e=>e.elim
theorem Stp.lt (h:Stp M σ w σ1 w1) {b:Nat} (hb:b<w.heap.size):b<w1.heap.size:=Nat.lt_of_lt_of_le hb h.size
theorem Stp.below (h:Stp noM σ w σ1 w1):Below w.heap.size w w1:=⟨h.os,h.tape,h.output,h.size,fun b hb=>h.block b hb id⟩
theorem Stp.alloc (σ:Nat→Nat) (w:World) (o:Obj) (k:Nat):Stp noM σ w (upd σ w.heap.size k) (w.alloc o) :=
  ⟨rfl,rfl,rfl,by simp,fun b hb _=>Below.heap_alloc w o b hb,fun b hb _=>upd_ne σ k (Nat.ne_of_lt hb),
   fun b i hb _=>World.cell?_of_block (w:=w) (Below.heap_alloc w o b hb),fun b hb=>by rw[upd_ne σ k (Nat.ne_of_lt hb)];exact Nat.le_refl _⟩
theorem Stp.drew (σ:Nat→Nat) (w:World):Stp noM σ w σ { w with drawn:=w.drawn+1 } :=
  ⟨rfl,rfl,rfl,Nat.le_refl _,fun _ _ _=>rfl,fun _ _ _=>rfl,fun _ _ _ _=>rfl,fun _ _=>Nat.le_refl _⟩
/-- What is finished is published: the watermark of one's own block goes up. -/
theorem Stp.publish (σ:Nat→Nat) (w:World) (b k:Nat) (h:σ b≤k):Stp (· = b) σ w (upd σ b k) w :=
  ⟨rfl,rfl,rfl,Nat.le_refl _,fun _ _ _=>rfl,fun x _ hx=>upd_ne σ k hx,fun _ _ _ _=>rfl,fun x _=>by
    by_cases e:x=b
    · subst e;rw[upd_same];exact h
    · rw[upd_ne σ k e];exact Nat.le_refl _⟩
end
structure Seg (σ:Nat→Nat) (w:World) (b o:Nat) (cs:List Value):Prop where
  lt:cs=[]∨b<w.heap.size
  h:∀ j v,cs[j]? = some v→o+j<σ b∧w.cell? ⟨b,o+j,none⟩=some v
section
variable {M:Nat→Prop} {σ σ1:Nat→Nat} {w w1:World} {b o:Nat} {cs:List Value}
theorem Seg.step (h:Seg σ w b o cs) (s:Stp M σ w σ1 w1):Seg σ1 w1 b o cs:=by
  rcases h.lt with e | hb
  · subst e;exact⟨.inl rfl,fun j v hv=>by simp at hv⟩
  · refine ⟨.inr (s.lt hb), fun j v hv => ?_⟩
    obtain⟨h1,h2⟩:=h.h j v hv
    exact⟨Nat.lt_of_lt_of_le h1 (s.wmm b hb),(s.cell b _ hb h1).trans h2⟩
theorem Seg.part (h:Seg σ w b o cs) (i:Nat) {c:List Value} (hc:∀ j v,c[j]? = some v→cs[i+j]? = some v):Seg σ w b (o+i) c:=by
  refine⟨?_,fun j v hv=>?_⟩
  · rcases h.lt with e | hb
    · subst e
      left
      rcases c with _ | ⟨v,c⟩
      · rfl
      · have:=hc 0 v rfl;simp at this
    · exact .inr hb
  · have := h.h (i + j) v (hc j v hv)
    rwa [← Nat.add_assoc] at this
theorem Seg.cells (h:Seg σ w b o cs):∀ j v,cs[j]? = some v→w.cell? ((⟨b,o,none⟩:Addr).add j)=some v:=by
  intro j v hv
  rw[Addr.add_lit]
  exact(h.h j v hv).2
end
structure Ty (α:Type) where
  sz:Nat
  by_:Nat
  rep:(Nat→Nat)→World→α→List Value→Prop
  len:∀ {σ w x cs},rep σ w x cs→cs.length=sz
  one:∀ {σ w x cs},rep σ w x cs→∀ v∈cs,v.oneCell'=true
  step:∀ {M σ w σ' w' x cs},Stp M σ w σ' w'→rep σ w x cs→rep σ' w' x cs
def Ty.flat {α:Type} (enc:α→List Value) (sz by_:Nat) (hl:∀ x,(enc x).length=sz) (h1:∀ x,∀ v∈enc x,v.oneCell'=true):Ty α where
  sz:=sz
  by_:=by_
  rep:=fun _ _ x cs=>cs=enc x
  len:=fun h=>by rw[h];exact hl _
  one:=fun h=>by rw[h];exact h1 _
  step:=fun _ h=>h
def Reps {α:Type} (R:α→List Value→Prop):List α→List Value→Prop
  | [],cs=>cs=[]
  | x::xs,cs=>∃ c r,cs=c++r∧R x c∧Reps R xs r
section
variable {α:Type} {R R':α→List Value→Prop}
theorem Reps.mono (h:∀ x c,R x c→R' x c):∀(xs:List α) (cs:List Value),Reps R xs cs→Reps R' xs cs
  | [],_,e=>e
  | _::xs,_,⟨c,r,e,hx,hr⟩=>⟨c,r,e,h _ _ hx,Reps.mono h xs r hr⟩
theorem Reps.append:∀ {xs ys:List α} {cs ds:List Value},Reps R xs cs→Reps R ys ds→Reps R (xs++ys) (cs++ds)
  | [],_,_,_,e,k=>by have e':=e;simp only[Reps] at e';subst e';exact k
  | _::xs,_,_,_,⟨c,r,e,hx,hr⟩,k=>⟨c,r++_,by rw[e,List.append_assoc],hx,Reps.append hr k⟩
theorem Reps.length {sz:Nat} (hs:∀ x c,R x c→c.length=sz):∀ {xs:List α} {cs:List Value},Reps R xs cs→cs.length=xs.length*sz
  | [],_,e=>by have e':=e;simp only[Reps] at e';subst e';simp
  | _::xs,_,⟨c,r,e,hx,hr⟩=>by rw[e,List.length_append,hs _ _ hx,Reps.length hs hr,List.length_cons,Nat.add_mul];omega
theorem Reps.all {p:Value→Prop} (hs:∀ x c,R x c→∀ v∈c,p v):∀ {xs:List α} {cs:List Value},Reps R xs cs→∀ v∈cs,p v
  | [],_,e=>by have e':=e;simp only[Reps] at e';subst e';simp
  | _ :: xs, _, ⟨c, r, e, hx, hr⟩ => by
    intro v hv
    rw[e] at hv
    rcases List.mem_append.1 hv with h | h
    · exact hs _ _ hx v h
    · exact Reps.all hs hr v h
theorem Reps.get {sz:Nat} (hs:∀ x c,R x c→c.length=sz):∀ {xs:List α} {cs:List Value},Reps R xs cs→∀(i:Nat) (hi:i<xs.length),∃ c,R (xs[i]'hi) c∧∀ j v,c[j]? = some v→cs[i*sz+j]? = some v
  | [],_,_,i,hi=>by simp at hi
  | x :: xs, cs, ⟨c, r, e, hx, hr⟩, 0, hi => ⟨c, hx, fun j v hv => by
      have hj:j<c.length:=(List.getElem?_eq_some_iff.1 hv).1
      rw[e,Nat.zero_mul,Nat.zero_add,List.getElem?_append_left hj];exact hv⟩
  | x :: xs, cs, ⟨c, r, e, hx, hr⟩, i + 1, hi => by
      obtain⟨c',h1,h2⟩:=Reps.get hs hr i (by simpa using hi)
      refine⟨c',h1,fun j v hv=>?_⟩
      have hl:=hs _ _ hx
      rw[e,List.getElem?_append_right (by rw[hl,Nat.add_mul];omega),hl,show(i+1)*sz+j - sz=i*sz+j by rw[Nat.add_mul];omega]
      exact h2 j v hv
theorem Reps.drop {sz:Nat} (hs:∀ x c,R x c→c.length=sz):∀(k:Nat) {xs:List α} {cs:List Value},Reps R xs cs→Reps R (xs.drop k) (cs.drop (k*sz))
  | 0,xs,cs,h=>by simpa using h
  | k+1,[],cs,e=>by have e':=e;simp only[Reps] at e';subst e';simp[Reps]
  | k + 1, x :: xs, cs, ⟨c, r, e, hx, hr⟩ => by
      have hl:=hs _ _ hx
      have:=Reps.drop hs k hr
      rw[List.drop_succ_cons,e,Nat.add_mul,Nat.one_mul,Nat.add_comm,← List.drop_drop,← hl,List.drop_left,hl]
      exact this
theorem Reps.take {sz:Nat} (hs:∀ x c,R x c→c.length=sz):∀(k:Nat) {xs:List α} {cs:List Value},Reps R xs cs→Reps R (xs.take k) (cs.take (k*sz))
  | 0,xs,cs,h=>by simp[Reps]
  | k+1,[],cs,e=>by have e':=e;simp only[Reps] at e';subst e';simp[Reps]
  | k + 1, x :: xs, cs, ⟨c, r, e, hx, hr⟩ => by
      have hl:=hs _ _ hx
      refine⟨c,r.take (k*sz),?_,hx,Reps.take hs k hr⟩
      rw[e,Nat.add_mul,Nat.one_mul,Nat.add_comm,← hl,List.take_length_add_append]
theorem Reps.one {x:α} {c:List Value} (h:R x c):Reps R [x] c:=⟨c,[],by simp,h,rfl⟩
theorem Reps.flat {enc:α→List Value}:∀(xs:List α),Reps (fun x cs=>cs=enc x) xs (xs.flatMap enc)
  | []=>rfl
  | x::xs=>⟨enc x,xs.flatMap enc,by simp,rfl,Reps.flat xs⟩
end
def big:Nat:=140737488355328
def Rd {α:Type} (T:Ty α) (σ:Nat→Nat) (w:World) (v:Value) (xs:List α):Prop :=
  ∃ a cap, v = .slice a xs.length cap ∧ xs.length ≤ cap ∧ xs.length * T.by_ ≤ big ∧
    (xs=[]∨∃ b o cs,a=some ⟨b,o,none⟩∧Seg σ w b o cs∧Reps (T.rep σ w) xs cs)
section
variable {α:Type} {T:Ty α} {M:Nat→Prop} {σ σ1:Nat→Nat} {w w1:World} {v:Value} {xs:List α}
theorem Rd.nil (T:Ty α) (σ:Nat→Nat) (w:World) (a:Option Addr) (c:Nat):Rd T σ w (.slice a 0 c) []:=⟨a,c,rfl,Nat.zero_le _,by simp,.inl rfl⟩
theorem Rd.step (h:Rd T σ w v xs) (s:Stp M σ w σ1 w1):Rd T σ1 w1 v xs:=by
  obtain⟨a,cap,e,hc,hb,h⟩:=h
  refine⟨a,cap,e,hc,hb,h.imp id ?_⟩
  rintro ⟨b,o,cs,e2,hs,hr⟩
  exact⟨b,o,cs,e2,hs.step s,Reps.mono (fun x c hx=>T.step s hx) _ _ hr⟩
theorem Rd.form (h:Rd T σ w v xs):∃ a cap,v=.slice a xs.length cap∧xs.length≤cap:=by
  obtain⟨a,cap,e,hc,_⟩:=h
  exact⟨a,cap,e,hc⟩
theorem Rd.bd (h:Rd T σ w v xs):xs.length*T.by_≤140737488355328:=by
  obtain⟨a,cap,e,hc,hb,_⟩:=h
  exact hb
theorem Rd.at {a:Option Addr} {n cap:Nat} (h:Rd T σ w (.slice a n cap) xs) (i:Nat) (hi:i<xs.length) :
    ∃ b o c,a=some ⟨b,o,none⟩∧Seg σ w b (o+i*T.sz) c∧T.rep σ w (xs[i]'hi) c:=by
  obtain⟨a',cap',e,hc,hb,h⟩:=h
  injection e with e1 e2 e3
  subst e1
  rcases h with h | ⟨b,o,cs,e2,hs,hr⟩
  · subst h;simp at hi
  · obtain ⟨c, h1, h2⟩ := Reps.get (fun x c hx => T.len hx) hr i hi
    exact⟨b,o,c,e2,hs.part _ h2,h1⟩
/-- A piece: 'v[lo:hi]' up to the length. -/
theorem Rd.cut {a:Option Addr} {n cap:Nat} (h:Rd T σ w (.slice a n cap) xs) (lo hi:Nat) (h1:lo≤hi) (h2:hi≤xs.length) (m:Nat) (hm:hi≤m) (hmc:m≤cap) :
    Rd T σ w (.slice (if m=lo then a else a.map (·.add (lo*T.sz))) (hi - lo) (m - lo)) ((xs.take hi).drop lo):=by
  obtain⟨a',cap',e,hc,hb,h⟩:=h
  injection e with e1 e2 e3
  subst e1
  have hl:((xs.take hi).drop lo).length=hi - lo:=by simp;omega
  refine⟨_,_,by rw[hl],by omega,?_,?_⟩
  · rw[hl];exact Nat.le_trans (Nat.mul_le_mul_right _ (by omega)) hb
  · by_cases e0 : lo = hi
    · left;exact List.eq_nil_of_length_eq_zero (by rw[hl];omega)
    · right
      rcases h with h | ⟨b,o,cs,e2,hs,hr⟩
      · subst h;simp at h2;omega
      · have hml : m ≠ lo := by omega
        have hr1:=Reps.drop (fun x c hx=>T.len hx) lo (Reps.take (fun x c hx=>T.len hx) hi hr)
        refine⟨b,o+lo*T.sz,(cs.take (hi*T.sz)).drop (lo*T.sz),?_,hs.part _ ?_,hr1⟩
        · simp only[hml,if_false,e2,Option.map_some,Addr.add_lit]
        · intro j u hj
          rw[List.getElem?_drop] at hj
          rw[List.getElem?_take] at hj
          split at hj
          · exact hj
          · simp at hj
end
def Own {α:Type} (T:Ty α) (e:TypeId) (B:Nat) (σ:Nat→Nat) (w:World) (v:Value) (xs:List α):Prop :=
  ∃ cs,w.ownsRow B e T.sz v xs.length cs∧Reps (T.rep σ w) xs cs∧xs.length*T.by_≤big∧(∀ g,v.ownBlock=some g→σ g=xs.length*T.sz)
section
variable {α:Type} {T:Ty α} {e:TypeId} {B:Nat} {M:Nat→Prop} {σ σ1:Nat→Nat} {w w1:World} {v:Value} {xs:List α}
theorem Own.nil (T:Ty α) (e:TypeId) (B:Nat) (σ:Nat→Nat) (w:World):Own T e B σ w (.slice none 0 0) [] :=
  ⟨[],World.ownsRow_nil _ _ _ _,rfl,by simp,fun g hg=>by simp[Value.ownBlock] at hg⟩
theorem Own.lt (h:Own T e B σ w v xs) {g:Nat} (hg:v.ownBlock=some g):g<w.heap.size:=by
  obtain⟨cs,ho,_⟩:=h;exact(ho.lt g hg).2
theorem Own.ge (h:Own T e B σ w v xs) {g:Nat} (hg:v.ownBlock=some g):B≤g:=by
  obtain⟨cs,ho,_⟩:=h;exact(ho.lt g hg).1
theorem Own.rd (h:Own T e B σ w v xs):Rd T σ w v xs:=by
  obtain⟨cs,ho,hr,hb,hs⟩:=h
  have ho':=ho
  rcases ho'.2 with⟨rfl,h0⟩ | ⟨g,cap,cur,rfl,hbg,hg,hnc,hcm,hcs,htake⟩
  · have : xs = [] := List.eq_nil_of_length_eq_zero h0
    subst this
    exact Rd.nil _ _ _ _ _
  · refine ⟨_, cap, rfl, hnc, hb, .inr ⟨g, 0, cs, rfl, ⟨.inr (Array.getElem?_eq_some_iff.1 hg).1, fun j u hj => ?_⟩, hr⟩⟩
    have hl:=Reps.length (fun x c hx=>T.len hx) hr
    have hlt:j<cs.length:=(List.getElem?_eq_some_iff.1 hj).1
    refine⟨by rw[hs g rfl,Nat.zero_add];omega,?_⟩
    have:=ho.cells (g:=g) rfl j u hj
    rwa [Addr.add_lit] at this
theorem Own.step (h:Own T e B σ w v xs) (s:Stp M σ w σ1 w1) (hM:∀ g,v.ownBlock=some g→¬ M g):Own T e B σ1 w1 v xs:=by
  have hlt:=fun g hg=>h.lt (g:=g) hg
  obtain⟨cs,ho,hr,hb,hs⟩:=h
  refine⟨cs,?_,Reps.mono (fun x c hx=>T.step s hx) _ _ hr,hb,fun g hg=>by rw[s.wm g (hlt g hg) (hM g hg)];exact hs g hg⟩
  refine⟨ho.1,ho.2.imp id ?_⟩
  rintro ⟨g,cap,cur,rfl,hbg,hg,rest⟩
  refine⟨g,cap,cur,rfl,hbg,?_,rest⟩
  rw[s.block g (hlt g rfl) (hM g rfl)]
  exact hg
theorem Own.step' (h:Own T e B σ w v xs) (s:Stp noM σ w σ1 w1):Own T e B σ1 w1 v xs:=h.step s fun _ _ e=>e
theorem Own.base {B':Nat} (h:Own T e B σ w v xs) (hB:∀ g,v.ownBlock=some g→B'≤g):Own T e B' σ w v xs:=by
  obtain⟨cs,ho,rest⟩:=h
  refine⟨cs,⟨ho.1,ho.2.imp id ?_⟩,rest⟩
  rintro ⟨g,cap,cur,rfl,hbg,hg,rest⟩
  exact⟨g,cap,cur,rfl,hB g rfl,hg,rest⟩
theorem Own.le {B':Nat} (h:Own T e B σ w v xs) (hB:B'≤B):Own T e B' σ w v xs:=h.base fun g hg=>Nat.le_trans hB (h.ge hg)
end
/-- A slice that was built with its elements. -/
theorem Own.built {α:Type} (T:Ty α) (e:TypeId) (σ:Nat→Nat) (w:World) (xs:List α) (cs:List Value) (hr:Reps (T.rep σ w) xs cs) (hb:xs.length*T.by_≤big) (hm:xs.length≤maxLen) :
    Own T e w.heap.size (upd σ w.heap.size (xs.length*T.sz)) (w.alloc (.cells cs.toArray e)) (.slice (some ⟨w.heap.size,0,none⟩) xs.length xs.length) xs:=by
  have hl:=Reps.length (fun x c hx=>T.len hx) hr
  refine⟨cs,⟨hl,.inr ⟨w.heap.size,xs.length,cs.toArray,rfl,Nat.le_refl _,heap_alloc_new w _,Nat.le_refl _,hm,by simp[hl],?_⟩⟩,Reps.mono (fun x c hx=>T.step (Stp.alloc σ w _ _) hx) _ _ hr,hb,?_⟩
  · rw[← hl];simp
  · intro g hg
    simp only[Value.ownBlock,Option.some.injEq] at hg
    subst hg
    rw[upd_same]
structure Bx (σ:Nat→Nat) (w:World) (b:Nat) (cs:List Value) (e:TypeId):Prop where
  h:w.heap[b]? = some (.cells cs.toArray e (0,0))
  z:σ b=0
section
variable {M:Nat→Prop} {σ σ1:Nat→Nat} {w w1:World} {b:Nat} {cs:List Value} {e:TypeId}
theorem Bx.lt (h:Bx σ w b cs e):b<w.heap.size:=(Array.getElem?_eq_some_iff.1 h.h).1
theorem Bx.step (h:Bx σ w b cs e) (s:Stp M σ w σ1 w1) (hM:¬ M b):Bx σ1 w1 b cs e :=
  ⟨(s.block b h.lt hM).trans h.h,(s.wm b h.lt hM).trans h.z⟩
theorem Bx.step' (h:Bx σ w b cs e) (s:Stp noM σ w σ1 w1):Bx σ1 w1 b cs e:=h.step s id
theorem Bx.new (σ:Nat→Nat) (w:World) (cs:List Value) (e:TypeId):Bx (upd σ w.heap.size 0) (w.alloc (.cells cs.toArray e)) w.heap.size cs e :=
  ⟨heap_alloc_new w _,upd_same _ _ _⟩
theorem Bx.cell (h:Bx σ w b cs e) (j:Nat):w.cell? ⟨b,j,none⟩=cs[j]?:=by
  simp[World.cell?,h.h]
theorem Bx.free (h:Bx σ w b cs e) (j:Nat):w.frozen? ⟨b,j,none⟩=false:=by
  simp[World.frozen?,h.h]
/-- Published: from now on it is settled. -/
theorem Bx.publish (h:Bx σ w b cs e):Stp (· = b) σ w (upd σ b cs.length) w∧Seg (upd σ b cs.length) w b 0 cs:=by
  refine⟨Stp.publish σ w b _ (by rw[h.z];exact Nat.zero_le _),.inr h.lt,fun j v hv=>?_⟩
  have hj:j<cs.length:=(List.getElem?_eq_some_iff.1 hv).1
  rw[upd_same,Nat.zero_add,h.cell]
  exact⟨hj,hv⟩
end
def wpAt (P:Program) (ops:Array Oper) (Q:Exit→Act→World→Prop) (i:Nat) (a:Act) (w:World):Prop:=wpList P ops Q (ops.toList.drop i) a w
section
variable {P:Program} {ops:Array Oper} {Q:Exit→Act→World→Prop} {Kp:Act→World→Prop} {n i:Nat} {l l':Sl} {a:Act} {w w':World} {C:Code}
theorem c_reg {p:List Nat} (id:Nat) (h:sub C p=.region id (opsOf (sub C p)) false) (k:wpAt P (opsOf (sub C p)) Q 0 a w):(sub C p).wp P Q a w:=c_region id h k
theorem r_end (h:ops.size=i) (k:Q .normal a w):wpAt P ops Q i a w:=by
  unfold wpAt
  rw[List.drop_of_length_le (by simp[h])]
  exact k
theorem drop_of {o:Oper} (h:ops[i]? = some o):ops.toList.drop i=o::ops.toList.drop (i+1):=by
  have h':ops.toList[i]? = some o:=by simpa using h
  obtain⟨hlt,e⟩:=List.getElem?_eq_some_iff.1 h'
  rw[List.drop_eq_getElem_cons hlt,e]
theorem r_run (k:Nat) (hF:Fr a n l) (hc:(allLt n l && ((ops.toList.drop i).take k).all (dstOk n))=true) (hr:(runAll ops ((ops.toList.drop i).take k) l).run P w=.ok l' w')
    (K:∀ a',Fr a' n l'→wpAt P ops Q (i+k) a' w'):wpAt P ops Q i a w:=by
  refine st_run k hF hc hr fun a' hF'=>?_
  rw[List.drop_drop]
  exact K a' hF'
/-- What an operation is, as far as it counts. -/
def opAt (ops:Array Oper) (i:Nat) (d:Option Nat) (op:Op):Prop:=∃ o,ops[i]? = some o∧o.dst=d∧o.op=op
theorem opAt_of {d:Option Nat} {op:Op} (h:(ops[i]?).map (fun o=>(o.dst,o.op))=some (d,op)):opAt ops i d op:=by
  obtain⟨o,ho,e⟩:=Option.map_eq_some_iff.1 h
  injection e with e1 e2
  exact⟨o,ho,e1,e2⟩
def okAt (ops:Array Oper) (i n:Nat) (l:Sl):Bool :=
  match ops[i]? with
  | some o=>allLt n l && opOk l o && dstOk n o && (match guardOn ops l o with | some true=>true | _=>false)
  | none=>false
theorem wpOp_on {o:Oper} (h1:ops[i]? = some o) (hw:Region.wanted o (yielded ops a.tmps)=true) (h:o.wp P a w Kp Q):wpOp P ops Q i Kp a w:=by
  unfold wpOp
  rw[h1]
  simp only[hw,if_true]
  exact .inl h
/-- One operation of a region that stands in order. -/
theorem r_at (h:wpOp P ops Q i (wpAt P ops Q (i+1)) a w):wpAt P ops Q i a w:=by
  unfold wpAt at *
  unfold wpOp at h
  cases e:ops[i]? with
  | none =>
    rw[e] at h
    have hl:ops.size≤i:=by
      rcases Nat.lt_or_ge i ops.size with c | c
      · rw[Array.getElem?_eq_getElem c] at e;simp at e
      · exact c
    rw[List.drop_of_length_le (by simp;omega)] at h
    rw[List.drop_of_length_le (by simpa using hl)]
    exact h
  | some o =>
    rw[e] at h
    rw[drop_of e]
    exact h
theorem r_val {d:Nat} {op:Op} (hF:Fr a n l) (ho:(ops[i]?).map (fun o=>(o.dst,o.op))=some (some d,op)) (hk:okAt ops i n l=true) (v:Value) (w':World)
    (hr:∀ o:Oper,o.op=op→(execOp (evl l) o).run P w=.ok (.value v) w')
    (K:∀ a',Fr a' n ((d,v)::l)→Kp a' w'):wpOp P ops Q i Kp a w:=by
  obtain⟨o,h1,h2,h3⟩:=opAt_of ho
  unfold okAt at hk
  rw[h1] at hk
  simp only[Bool.and_eq_true] at hk
  have hg:guardOn ops l o=some true:=by
    have:=hk.2
    split at this <;> simp_all
  refine wpOp_on h1 (guardOn_spec hF (allLt_spec hk.1.1.1) hg) ?_
  unfold Oper.wp
  rw[opOk_exec hF hk.1.1.2,hr o h3,Oper.upon_value]
  have hF':=hF.putD hk.1.2 v
  rw[h2] at hF'
  rw[h2]
  exact K _ hF'
theorem r_skip {op:Op} (hF:Fr a n l) (ho:(ops[i]?).map (fun o=>(o.dst,o.op))=some (none,op)) (hk:okAt ops i n l=true) (w':World)
    (hr:∀ o:Oper,o.op=op→(execOp (evl l) o).run P w=.ok .skip w')
    (K:∀ a',Fr a' n l→Kp a' w'):wpOp P ops Q i Kp a w:=by
  obtain⟨o,h1,h2,h3⟩:=opAt_of ho
  unfold okAt at hk
  rw[h1] at hk
  simp only[Bool.and_eq_true] at hk
  have hg:guardOn ops l o=some true:=by
    have:=hk.2
    split at this <;> simp_all
  refine wpOp_on h1 (guardOn_spec hF (allLt_spec hk.1.1.1) hg) ?_
  unfold Oper.wp
  rw[opOk_exec hF hk.1.1.2,hr o h3,Oper.upon_skip]
  have hF':=hF.putD hk.1.2 undef
  rw[h2] at hF'
  rw[h2]
  exact K _ hF'
end
structure Lay (P:Program) (t:TypeId) (agg:Bool) (k:Nat):Prop where
  a:∀ w,(isAgg t).run P w=.ok agg w
  s:∀ w,(sizeOf t).run P w=.ok k w
def vOf (agg:Bool) (cs:List Value):Value:=if agg then .agg cs.toArray else cs.headD undef
theorem run_loadVar_cs {P:Program} {w:World} {t:TypeId} {agg:Bool} {b o:Nat} {cs:List Value} (L:Lay P t agg cs.length) (ha:agg=true∨cs.length=1)
    (hc:∀ j v,cs[j]? = some v→w.cell? ⟨b,o+j,none⟩=some v):(loadVar t ⟨b,o,none⟩).run P w=.ok (vOf agg cs) w:=by
  have hc':∀ j v,cs[j]? = some v→w.cell? ((⟨b,o,none⟩:Addr).add j)=some v:=fun j v h=>by rw[Addr.add_lit];exact hc j v h
  unfold loadVar
  simp only[Sem.run_bind,L.a,Result.andThen_ok]
  cases agg with
  | true =>
    simp only[if_true,Sem.run_bind,L.s,Result.andThen_ok,run_loadCells_list w _ cs hc',Sem.run_pure,vOf]
  | false =>
    have h1:cs.length=1:=by simpa using ha
    rcases cs with _ | ⟨v,_ | ⟨u,r⟩⟩
    · simp at h1
    · have := hc 0 v rfl
      simp only[Nat.add_zero] at this
      simp only[Bool.false_eq_true,if_false,run_load,this,vOf,List.headD]
    · simp at h1
theorem exec_load {P:Program} {w:World} {l:Sl} {t:TypeId} {x:Operand} {agg:Bool} {b o:Nat} {cs:List Value} (L:Lay P t agg cs.length) (ha:agg=true∨cs.length=1)
    (hx:evl l x=.pointer (some ⟨b,o,none⟩)) (hc:∀ j v,cs[j]? = some v→w.cell? ⟨b,o+j,none⟩=some v) :
    ∀ op:Oper,op.op=.load t x→(execOp (evl l) op).run P w=.ok (.value (vOf agg cs)) w:=by
  intro op e
  simp only[execOp,e,hx,Instr.loadAt,Instr.sureAddr,Sem.run_bind,Sem.run_pure,Result.andThen_ok,run_loadVar_cs L ha hc]
section
variable {P:Program} {ops:Array Oper} {Q:Exit→Act→World→Prop} {Kp:Act→World→Prop} {n i:Nat} {l l':Sl} {a:Act} {w w':World} {C:Code} {M:Nat→Prop} {σ:Nat→Nat}
theorem Seg.cell {b o:Nat} {cs:List Value} (h:Seg σ w b o cs):∀ j v,cs[j]? = some v→w.cell? ⟨b,o+j,none⟩=some v:=fun j v e=>(h.h j v e).2
theorem Seg.sub {b o:Nat} {cs:List Value} (h:Seg σ w b o cs) (k m:Nat) (c:List Value) (hc:(cs.drop k).take m=c):Seg σ w b (o+k) c:=by
  refine h.part k fun j v e=>?_
  rw[← hc,List.getElem?_take] at e
  split at e
  · rwa [List.getElem?_drop] at e
  · simp at e
theorem Bx.cells {b:Nat} {all:List Value} {e:TypeId} (h:Bx σ w b all e) (off m:Nat) (c:List Value) (hc:(all.drop off).take m=c):∀ j v,c[j]? = some v→w.cell? ⟨b,off+j,none⟩=some v:=by
  intro j v e
  rw[h.cell,← List.getElem?_drop]
  rw[← hc,List.getElem?_take] at e
  split at e
  · exact e
  · simp at e
theorem storeAt_run {t:TypeId} {b off:Nat} {old vs:List Value} {e:TypeId} (hg:w.heap[b]? = some (.cells old.toArray e (0,0))) (hs:∀ w,(sizeOf t).run P w=.ok vs.length w) (v:Value) (hv:v.cells.toList=vs)
    (h1:∀ u∈vs,u.oneCell'=true) (hfit:off+vs.length≤old.length) :
    (Instr.storeAt t (.pointer (some ⟨b,off,none⟩)) v).run P w=.ok () (w.setRow b (old.take off++vs++old.drop (off+vs.length)).toArray):=by
  have hsz:v.cells.size=vs.length:=by rw[← hv];simp
  have hst:=run_storeCells_at P b off e vs 0 old.toArray w hg (by simpa using hfit) h1
  simp only[Nat.add_zero] at hst
  unfold Instr.storeAt storeVar
  simp only[Instr.sureAddr,Sem.run_bind,Sem.run_pure,Result.andThen_ok,hs,hsz,ne_eq,not_true_eq_false,if_false,hv]
  exact hst
/-- A store into a variable of one's own. -/
theorem r_store {t:TypeId} {x y:Operand} (hF:Fr a n l) (ho:(ops[i]?).map (fun o=>(o.dst,o.op))=some (none,.store t x y)) (hk:okAt ops i n l=true)
    {b:Nat} {old:List Value} {e:TypeId} (hB:Bx σ w b old e) (off:Nat) (vs new:List Value) (hx:evl l x=.pointer (some ⟨b,off,none⟩)) (hv:(evl l y).cells.toList=vs)
    (k:Nat) (agg:Bool) (L:Lay P t agg k) (hkl:vs.length=k) (h1:vs.all (·.oneCell')=true) (hfit:off+vs.length≤old.length) (hnew:old.take off++vs++old.drop (off+vs.length)=new)
    (K:∀ a' w',Stp (· = b) σ w σ w'→Bx σ w' b new e→Fr a' n l→Kp a' w'):wpOp P ops Q i Kp a w:=by
  subst hkl
  refine r_skip hF ho hk (w.setRow b new.toArray) ?_ fun a' hF'=>K a' _ ?_ ?_ hF'
  · intro o e
    simp only[execOp,e,hx,Sem.run_bind]
    rw[storeAt_run hB.h L.s _ hv (by simpa using h1) hfit,hnew]
    rfl
  · refine ⟨rfl, rfl, rfl, by simp, fun x _ hx => setRow_other w b x _ hx, fun _ _ _ => rfl, fun x o hx ho => ?_, fun _ _ => Nat.le_refl _⟩
    have hne:x≠b:=by rintro rfl;rw[hB.z] at ho;omega
    exact World.cell?_of_block (setRow_other w b x _ hne)
  · exact⟨setRow_heap w b _ _ e _ hB.h,hB.z⟩
/-- A new variable: 'box', 'alloc'. -/
theorem r_new {d:Nat} {op:Op} (hF:Fr a n l) (ho:(ops[i]?).map (fun o=>(o.dst,o.op))=some (some d,op)) (hk:okAt ops i n l=true) (σ:Nat→Nat) (cs:List Value) (e:TypeId)
    (hr:∀ o:Oper,o.op=op→(execOp (evl l) o).run P w=.ok (.value (.pointer (some ⟨w.heap.size,0,none⟩))) (w.alloc (.cells cs.toArray e)))
    (K:∀ a' σ' w' b,b=w.heap.size→Stp noM σ w σ' w'→Bx σ' w' b cs e→Fr a' n ((d,.pointer (some ⟨b,0,none⟩))::l)→Kp a' w'):wpOp P ops Q i Kp a w :=
  r_val hF ho hk _ _ hr fun a' hF'=>K a' _ _ _ rfl (Stp.alloc σ w _ 0) (Bx.new σ w cs e) hF'
theorem exec_alloc {t:TypeId} (cs:List Value) (hz:∀ w,(zeroValue t).run P w=.ok (.agg cs.toArray) w∨∃ v,cs=[v]∧v.oneCell'=true∧(zeroValue t).run P w=.ok v w) :
    ∀ o:Oper,o.op=.alloc t→(execOp (evl l) o).run P w=.ok (.value (.pointer (some ⟨w.heap.size,0,none⟩))) (w.alloc (.cells cs.toArray t)):=by
  intro o e
  simp only[execOp,e,Instr.alloc,Sem.run_bind]
  rcases hz w with h | ⟨v,rfl,hv,h⟩
  · rw[h];rfl
  · rw [h]
    cases v <;> first | rfl | (simp[Value.oneCell'] at hv)
/-- A slice that is built with its elements. -/
theorem r_lit {α:Type} (T:Ty α) {d:Nat} {t e:TypeId} {m:Nat} {parts:Array (Nat × Operand)} (hF:Fr a n l) (ho:(ops[i]?).map (fun o=>(o.dst,o.op))=some (some d,.buildSlice t m parts)) (hk:okAt ops i n l=true)
    (σ:Nat→Nat) (xs:List α) (cs:List Value) (hr:Reps (T.rep σ w) xs cs) (hm:xs.length=m) (hb:m*T.by_≤big)
    (hrun:∀ o:Oper,o.op=.buildSlice t m parts→(execOp (evl l) o).run P w=.ok (.value (.slice (some ⟨w.heap.size,0,none⟩) m m)) (w.alloc (.cells cs.toArray e))) (hmm:m≤maxLen)
    (K:∀ a' σ' w' g,g=w.heap.size→Stp noM σ w σ' w'→Own T e g σ' w' (.slice (some ⟨g,0,none⟩) m m) xs→Fr a' n ((d,.slice (some ⟨g,0,none⟩) m m)::l)→Kp a' w'):wpOp P ops Q i Kp a w:=by
  subst hm
  exact r_val hF ho hk _ _ hrun fun a' hF'=>K a' _ _ _ rfl (Stp.alloc σ w _ _) (Own.built T e σ w xs cs hr hb hmm) hF'
theorem exec_index {t e:TypeId} {x y:Operand} {ad:Option Addr} {len cap b off:Nat} (he:ad=some ⟨b,off,none⟩) (hx:evl l x=.slice ad len cap) {kd:IntKind} (j:Nat) (hy:evl l y=.int kd (j:Int)) (hj:j<len) (k:Nat)
    (hu:P.underlying t=some (.slice e)) (hs:∀ w,(sizeOf e).run P w=.ok k w):∀ o:Oper,o.op=.indexAddr t x y→(execOp (evl l) o).run P w=.ok (.value (.pointer (some ⟨b,off+j*k,none⟩))) w:=by
  intro op hop
  subst he
  have h0:(0:Int)≤(j:Int):=by omega
  have h1:(j:Int)<((len:Nat):Int):=by omega
  simp only[execOp,hop,hx,hy,Instr.indexAt,asIntOf,Sem.run_bind,Sem.run_pure,Result.andThen_ok,run_underlying hu,h0,h1,and_self,if_true,hs,Int.toNat_natCast,Addr.add_lit]
end
def Ctr (P:Program) (f:FuncId) (vs:List Value) (M:Nat→Prop) (σ:Nat→Nat) (w:World) (Post:(Nat→Nat)→World→Value→Prop):Prop :=
  Calls P f vs.toArray w fun e w'=>∃ σ' v,e=.returned v∧Stp M σ w σ' w'∧Post σ' w' v
theorem Ctr.mono {P:Program} {f:FuncId} {vs:List Value} {M M':Nat→Prop} {σ:Nat→Nat} {w:World} {Post Post':(Nat→Nat)→World→Value→Prop}
    (h:Ctr P f vs M σ w Post) (hM:∀ b,b<w.heap.size→M b→M' b) (hp:∀ σ' w' v,Stp M σ w σ' w'→Post σ' w' v→Post' σ' w' v):Ctr P f vs M' σ w Post' :=
  Calls.mono h fun e w' ⟨σ',v,h1,h2,h3⟩=>⟨σ',v,h1,h2.mono hM,hp σ' w' v h2 h3⟩
def callable (P:Program) (f:FuncId):Bool :=
  match P.funcs[f]? with
  | some fn=>!(fn.name == "runtime.NumGoroutine") && fn.body.isSome
  | none=>false
theorem run_callFunc {P:Program} {f:FuncId} (h:callable P f=true) (args:Array Value) (w:World):(callFunc f args).run P w=.ok (.enter f args) w:=by
  unfold callable at h
  unfold callFunc
  simp only[Sem.run_bind,run_program,Result.andThen_ok]
  cases e:P.funcs[f]? with
  | none=>rw[e] at h;simp at h
  | some fn =>
    rw[e] at h
    simp only[Bool.and_eq_true,Bool.not_eq_true'] at h
    have hb:fn.body.isNone=false:=by cases hb:fn.body with | none=>rw[hb] at h;simp at h | some _=>rfl
    simp[h.1,hb]
section
variable {P:Program} {ops:Array Oper} {Q:Exit→Act→World→Prop} {Kp:Act→World→Prop} {n i:Nat} {l l':Sl} {a:Act} {w w':World} {C:Code} {M:Nat→Prop} {σ:Nat→Nat}
theorem r_enter {d:Option Nat} {op:Op} (hF:Fr a n l) (ho:(ops[i]?).map (fun o=>(o.dst,o.op))=some (d,op)) (hk:okAt ops i n l=true) {f:FuncId} {vs:List Value}
    (hr:∀ o:Oper,o.op=op→(execOp (evl l) o).run P w=.ok (.enter f vs.toArray) w) {Post:(Nat→Nat)→World→Value→Prop} (hc:Ctr P f vs M σ w Post)
    (K:∀ a' σ' w' v,Stp M σ w σ' w'→Post σ' w' v→Fr a' n (putS d v l)→Kp a' w'):wpOp P ops Q i Kp a w:=by
  obtain⟨o,h1,h2,h3⟩:=opAt_of ho
  unfold okAt at hk
  rw[h1] at hk
  simp only[Bool.and_eq_true] at hk
  have hg:guardOn ops l o=some true:=by
    have:=hk.2
    split at this <;> simp_all
  refine wpOp_on h1 (guardOn_spec hF (allLt_spec hk.1.1.1) hg) ?_
  unfold Oper.wp
  rw[opOk_exec hF hk.1.1.2,hr o h3,Oper.upon_enter]
  refine Calls.mono hc fun e w' ⟨σ',v,e1,h4,h5⟩=>?_
  subst e1
  refine K _ σ' w' v h4 h5 ?_
  rw[← h2]
  exact hF.putD hk.1.2 v
theorem r_call {d:Option Nat} {f:FuncId} {args:Array Operand} {tys:Array TypeId} (hF:Fr a n l) (ho:(ops[i]?).map (fun o=>(o.dst,o.op))=some (d,.call ⟨.value (.func f),args,tys⟩)) (hk:okAt ops i n l=true)
    (hf:callable P f=true) (vs:List Value) (hv:(args.map (evl l)).toList=vs) {Post:(Nat→Nat)→World→Value→Prop} (hc:Ctr P f vs M σ w Post)
    (K:∀ a' σ' w' v,Stp M σ w σ' w'→Post σ' w' v→Fr a' n (putS d v l)→Kp a' w'):wpOp P ops Q i Kp a w:=by
  refine r_enter hF ho hk (fun o e=>?_) hc K
  have hv':args.map (evl l)=vs.toArray:=by rw[← hv]
  simp only[execOp,e,resolve,evl,Deferred.ofValue,Sem.run_bind,Sem.run_pure,Result.andThen_ok,invoke,Array.append_empty,Array.empty_append]
  have:(fun x=>evl l x)=evl l:=rfl
  rw[hv',run_callFunc hf]
end
def zipS:Nat→List Value→Sl
  | _,[]=>[]
  | k,v::vs=>(k,v)::zipS (k+1) vs
theorem zipS_lookup:∀(vs:List Value) (k t:Nat) (v:Value),(zipS k vs).lookup t=some v→k≤t∧vs[t - k]? = some v
  | [],k,t,v,h=>by simp[zipS] at h
  | u :: vs, k, t, v, h => by
    simp only[zipS,List.lookup_cons] at h
    by_cases e:t=k
    · subst e;simp at h;subst h;simp
    · have : (t == k) = false := by simpa using e
      rw[this] at h
      obtain⟨h1,h2⟩:=zipS_lookup vs (k+1) t v h
      refine⟨by omega,?_⟩
      rw[show t - k=(t - (k+1))+1 by omega,List.getElem?_cons_succ]
      exact h2
theorem ctr_enter {P:Program} {f:FuncId} {vs:List Value} {M:Nat→Prop} {σ:Nat→Nat} {w:World} {Post:(Nat→Nat)→World→Value→Prop} {fn:Func} (hf:P.funcs[f]? = some fn) (C:Code) (hb:fn.body=some C) (n:Nat) (hn:fn.ntmps=n) (hl:vs.length≤n)
    (l:Sl) (hz:zipS 0 vs=l) (h:∀ a,Fr a n l→(sub C []).wp P (bodyPost P fn (fun e w'=>∃ σ' v,e=.returned v∧Stp M σ w σ' w'∧Post σ' w' v)) a w):Ctr P f vs M σ w Post:=by
  refine calls_of_wp hf hb ?_
  rw[← sub_nil C]
  refine h _ ?_
  subst hz
  refine⟨rfl,by simp;omega,fun t v ht=>?_⟩
  obtain⟨_,h2⟩:=zipS_lookup vs 0 t v ht
  simp only[Nat.sub_zero] at h2
  have hlt:t<vs.length:=(List.getElem?_eq_some_iff.1 h2).1
  simp only[Array.getD_eq_getD_getElem?]
  rw[Array.getElem?_append_left (by simpa using hlt)]
  simp[h2]
inductive RVs (P:Program) (a:Act) (w:World):List ResultVar→List Value→Prop
  | nil:RVs P a w [] []
  | tmp {t:Nat} {rs:List ResultVar} {v:Value} {vs:List Value} (h:a.tmps.getD t undef=v) (k:RVs P a w rs vs):RVs P a w (.tmp t::rs) (v::vs)
  | cell {t:Nat} {ty:TypeId} {rs:List ResultVar} {v:Value} {vs:List Value} {ad:Addr} (h:a.tmps.getD t undef=.pointer (some ad)) (hl:(loadVar ty ad).run P w=.ok v w) (k:RVs P a w rs vs):RVs P a w (.cell t ty::rs) (v::vs)
def rvF (a:Act):ResultVar→Sem Value
  | .tmp t=>pure (a.tmps.getD t undef)
  | .cell ad t=>do loadVar t (← asAddr (a.tmps.getD ad undef))
theorem RVs.run {P:Program} {a:Act} {w:World} {rs:List ResultVar} {vs:List Value} (h:RVs P a w rs vs):(rs.mapM (rvF a)).run P w=.ok vs w:=by
  induction h with
  | nil=>rfl
  | tmp h k ih=>simp only[List.mapM_cons,rvF,Sem.run_bind,Sem.run_pure,Result.andThen_ok,h,ih]
  | @cell _ _ _ _ _ ad h hl k ih =>
    rw[List.mapM_cons]
    have e:(asAddr (Value.pointer (some ad))).run P w=.ok ad w:=rfl
    simp only[Sem.run_bind,rvF,h,e,Result.andThen_ok,hl,ih,Sem.run_pure]
theorem results_eq (fn:Func) (a:Act):results fn a.tmps=(do let vs ← fn.results.mapM (rvF a);pure (if h:vs.size=1 then vs[0] else .tuple vs)):=by
  unfold results
  congr 1
theorem results_of {P:Program} {fn:Func} {a:Act} {w:World} {rs:List ResultVar} {vs:List Value} (hr:fn.results=rs.toArray) (h:RVs P a w rs vs) (v:Value) (hv:(if h:vs.toArray.size=1 then vs.toArray[0] else .tuple vs.toArray)=v) :
    (results fn a.tmps).run P w=.ok v w:=by
  subst hv
  rw[results_eq,hr,List.mapM_toArray,Sem.run_bind,Sem.run_map,h.run]
  rfl
section
variable {P:Program} {fn:Func} {a:Act} {n:Nat} {l:Sl} {M:Nat→Prop} {σ0 σ:Nat→Nat} {w0 w:World} {Post:(Nat→Nat)→World→Value→Prop}
theorem f_ret (hF:Fr a n l) (rs:List ResultVar) (hr:fn.results=rs.toArray) (vs:List Value) (h:RVs P a w rs vs) (v:Value) (hv:(if h:vs.toArray.size=1 then vs.toArray[0] else .tuple vs.toArray)=v)
    (σ:Nat→Nat) (hs:Stp M σ0 w0 σ w) (hp:Post σ w v):bodyPost P fn (fun e w'=>∃ σ' v,e=.returned v∧Stp M σ0 w0 σ' w'∧Post σ' w' v) .ret a w :=
  ⟨hF.d,v,results_of hr h v hv,σ,v,rfl,hs,hp⟩
theorem f_ret1 (hF:Fr a n l) (t:Nat) (hr:fn.results=#[.tmp t]) (v:Value) (hl:l.lookup t=some v) (σ:Nat→Nat) (hs:Stp M σ0 w0 σ w) (hp:Post σ w v) :
    bodyPost P fn (fun e w'=>∃ σ' v,e=.returned v∧Stp M σ0 w0 σ' w'∧Post σ' w' v) .ret a w :=
  f_ret hF [.tmp t] hr [v] (.tmp (hF.h t v hl) .nil) v rfl σ hs hp
end
abbrev bv (b:UInt8):Value:=.int .u8 (b.toNat:Int)
abbrev uv (x:UInt64):Value:=.int .u64 (x.toNat:Int)
abbrev wv (x:UInt32):Value:=.int .u32 (x.toNat:Int)
abbrev iv (x:Int):Value:=.int .i64 x
abbrev sv (s:List UInt8):Value:=.string ⟨s.toArray⟩
def tU8:Ty UInt8:=Ty.flat (fun b=>[bv b]) 1 1 (fun _=>rfl) (fun _ v hv=>by simp at hv;subst hv;rfl)
def tU64:Ty UInt64:=Ty.flat (fun b=>[uv b]) 1 8 (fun _=>rfl) (fun _ v hv=>by simp at hv;subst hv;rfl)
def tI64:Ty Int:=Ty.flat (fun b=>[iv b]) 1 8 (fun _=>rfl) (fun _ v hv=>by simp at hv;subst hv;rfl)
def tBool:Ty Bool:=Ty.flat (fun b=>[.bool b]) 1 1 (fun _=>rfl) (fun _ v hv=>by simp at hv;subst hv;rfl)
def tStr:Ty (List UInt8):=Ty.flat (fun b=>[sv b]) 1 16 (fun _=>rfl) (fun _ v hv=>by simp at hv;subst hv;rfl)
/-- A slice as an element. -/
def tSl {α:Type} (T:Ty α):Ty (List α) where
  sz:=1
  by_:=24
  rep:=fun σ w xs cs=>∃ v,cs=[v]∧Rd T σ w v xs
  len:=fun⟨v,e,_⟩=>by rw[e];rfl
  one:=fun⟨v,e,h⟩ u hu=>by
    obtain⟨a,c,rfl,_⟩:=h
    rw[e] at hu;simp at hu;subst hu;rfl
  step:=fun s ⟨v,e,h⟩=>⟨v,e,h.step s⟩
theorem reps_u8 (σ:Nat→Nat) (w:World):∀(bs:List UInt8),Reps (tU8.rep σ w) bs (bs.map bv)
  | []=>rfl
  | b::bs=>⟨[bv b],bs.map bv,rfl,rfl,reps_u8 σ w bs⟩
theorem reps_u8_eq {σ:Nat→Nat} {w:World}:∀ {bs:List UInt8} {cs:List Value},Reps (tU8.rep σ w) bs cs→cs=bs.map bv
  | [],_,h=>h
  | b :: bs, cs, ⟨c, r, e, hb, hr⟩ => by
    have hb':c=[bv b]:=hb
    rw[e,hb',reps_u8_eq hr];rfl
section
variable {α:Type} {T:Ty α} {σ:Nat→Nat} {w:World} {v:Value} {xs:List α}
theorem Own.form {e:TypeId} {B:Nat} (h:Own T e B σ w v xs):∃ a cap,v=.slice a xs.length cap∧xs.length≤cap:=h.rd.form
theorem Own.bd {e:TypeId} {B:Nat} (h:Own T e B σ w v xs):xs.length*T.by_≤140737488355328:=h.rd.bd
theorem Rd.formL (h:Rd T σ w v xs):∃ a n cap,v=.slice a n cap∧xs.length=n:=by
  obtain⟨a,cap,e,_⟩:=h.form;exact⟨a,_,cap,e,rfl⟩
theorem Own.formL {e:TypeId} {B:Nat} (h:Own T e B σ w v xs):∃ a n cap,v=.slice a n cap∧xs.length=n:=h.rd.formL
theorem Rd.ln {a:Option Addr} {n cap:Nat} (h:Rd T σ w (.slice a n cap) xs):xs.length=n:=by
  obtain⟨_,_,e,_⟩:=h.form;injection e with _ e2 _;exact e2.symm
theorem Own.ln {e:TypeId} {B:Nat} {a:Option Addr} {n cap:Nat} (h:Own T e B σ w (.slice a n cap) xs):xs.length=n:=h.rd.ln
theorem Own.cast {e:TypeId} {B:Nat} {a:Option Addr} {n n' cap:Nat} {xs':List α} (h:Own T e B σ w (.slice a n cap) xs) (en:n=n') (ex:xs=xs'):Own T e B σ w (.slice a n' cap) xs':=by
  subst en;subst ex;exact h
theorem Rd.cast {a:Option Addr} {n n' cap:Nat} {xs':List α} (h:Rd T σ w (.slice a n cap) xs) (en:n=n') (ex:xs=xs'):Rd T σ w (.slice a n' cap) xs':=by
  subst en;subst ex;exact h
/-- What is read, as cells. -/
theorem Rd.cells {a:Option Addr} {n cap:Nat} (h:Rd T σ w (.slice a n cap) xs):∃ cs,cs.length=n*T.sz∧n=xs.length∧Reps (T.rep σ w) xs cs∧(xs=[]∨∃ ad,a=some ad∧∀ j v,cs[j]? = some v→w.cell? (ad.add j)=some v):=by
  obtain⟨a',cap',e,hc,hb,h⟩:=h
  injection e with e1 e2 e3
  subst e1;subst e2
  rcases h with h | ⟨b,o,cs,e2,hs,hr⟩
  · subst h;exact⟨[],by simp,rfl,rfl,.inl rfl⟩
  · exact⟨cs,Reps.length (fun x c hx=>T.len hx) hr,rfl,hr,.inr ⟨_,e2,hs.cells⟩⟩
end
structure SlT (P:Program) (t e:TypeId) (sz by_:Nat) (z:Value):Prop where
  u:P.underlying t=some (.slice e)
  i:(P.info? e).map (fun i=>(i.zero,i.size,i.bytes))=some (some z,sz,by_)
  z:z.cells.size=sz
  p:0<sz
theorem run_app {P:Program} {α:Type} (T:Ty α) {t e:TypeId} {z:Value} (S:SlT P t e T.sz T.by_ z) {B:Nat} {σ:Nat→Nat} {w:World} {v u:Value} {xs ys:List α} (ty:TypeId)
    (ho:Own T e B σ w v xs) (hu:Rd T σ w u ys) (hb:(xs.length+ys.length)*T.by_≤140737488355328) (hm:xs.length+ys.length≤140737488355328) (hB:B≤w.heap.size) :
    ∃ v' σ' w',(Builtin.append_ #[t,t] ty #[v,u]).run P w=.ok v' w'∧Own T e B σ' w' v' (xs++ys)∧Stp (fun b=>v.ownBlock=some b) σ w σ' w'∧(∀ b,b<w.heap.size→v'.ownBlock=some b→v.ownBlock=some b):=by
  obtain⟨i,hi,hz,hsz,hby⟩:=info_parts S.i
  obtain⟨ua,uc,hue,huc⟩:=hu.form
  subst hue
  obtain⟨news,hnl,_,hnr,hnc⟩:=hu.cells
  by_cases hy:ys=[]
  · -- nothing is appended
    subst hy
    simp only[List.length_nil,Nat.add_zero,List.append_nil] at *
    refine⟨v,σ,w,?_,ho,Stp.refl _ _ _,fun _ _ h=>h⟩
    obtain⟨va,vc,hve,hvc⟩:=ho.form
    subst hve
    have hf:(Builtin.firstCells i.size 0 (.slice ua 0 uc)).run P w=.ok #[] w:=by
      cases ua with
      | none=>exact run_firstCells_none w _ _ _ _
      | some ad=>exact run_firstCells_some w i.size 0 ad 0 uc [] (by simp) (fun j v h=>by simp at h)
    cases va with
    | none=>simp[Builtin.append_,run_underlying S.u,sizeOf,typeInfo,hi,Builtin.lenOf,hf,hvc]
    | some ad=>simp[Builtin.append_,run_underlying S.u,sizeOf,typeInfo,hi,Builtin.lenOf,hf,hvc,storeCells]
  · obtain ⟨ad, rfl, hcell⟩ := hnc.resolve_left hy
    have h0:0<ys.length:=List.length_pos_iff.2 hy
    have hn1:∀ u∈news,u.oneCell'=true:=Reps.all (fun x c hx=>T.one hx) hnr
    obtain⟨cs,how,hcr,hob,hos⟩:=ho
    have how':=how
    have hcl:=Reps.length (fun x c hx=>T.len hx) hcr
    have hmax:xs.length+ys.length≤maxLen:=by simp only[maxLen];omega
    have h63:((xs.length+ys.length:Nat):Int)≤9223372036854775807:=by omega
    have hlen:(cs++news).length=(xs.length+ys.length)*T.sz:=by rw[List.length_append,hcl,hnl,Nat.add_mul]
    -- a new row
    have grown:∀(old:Nat),old<xs.length+ys.length→∀ row:Array Value,row=(cs.toArray++news.toArray++Builtin.zeroCells z.cells (grownCap w (xs.length+ys.length) old e - (xs.length+ys.length))) →
        Own T e B (upd σ w.heap.size ((xs.length+ys.length)*T.sz)) (w.drew.alloc (.cells row e)) (.slice (some ⟨w.heap.size,0,none⟩) (xs.length+ys.length) (grownCap w (xs.length+ys.length) old e)) (xs++ys) ∧
        Stp noM σ w (upd σ w.heap.size ((xs.length+ys.length)*T.sz)) (w.drew.alloc (.cells row e)):=by
      intro old hold row hrow
      have hge:=grownCap_ge w (xs.length+ys.length) old e
      have hcm:grownCap w (xs.length+ys.length) old e≤maxLen:=grownCap_le_maxLen w (xs.length+ys.length) old e hmax
      have hstp:Stp noM σ w (upd σ w.heap.size ((xs.length+ys.length)*T.sz)) (w.drew.alloc (.cells row e)):=(Stp.drew σ w).then (Stp.alloc σ w.drew (.cells row e) ((xs.length+ys.length)*T.sz))
      refine⟨⟨cs++news,⟨by rw[List.length_append (as:=xs)];exact hlen,.inr ⟨w.heap.size,_,row,by rw[List.length_append],hB,heap_alloc_new w.drew _,by rw[List.length_append];exact hge,hcm,?_,?_⟩⟩,?_,by rw[List.length_append];exact hb,?_⟩,hstp⟩
      · rw [hrow]
        simp only[Array.size_append,List.size_toArray,size_zeroCells,S.z,hcl,hnl,← Nat.add_mul]
        congr 1
        omega
      · rw [hrow]
        simp only[Array.toList_append,List.length_append (as:=xs)]
        rw[← hlen]
        exact List.take_left
      · exact Reps.append (Reps.mono (fun x c hx=>T.step hstp hx) _ _ hcr) (Reps.mono (fun x c hx=>T.step hstp hx) _ _ hnr)
      · intro g hg
        simp only[Value.ownBlock,Option.some.injEq] at hg
        subst hg
        rw[upd_same,List.length_append]
    rcases how.2 with⟨rfl,hx0⟩ | ⟨g,cap,cur,rfl,hbg,hg,hnc,hcm,hcs,htake⟩
    · have hx : xs = [] := List.eq_nil_of_length_eq_zero hx0
      subst hx
      have hc0:cs=[]:=List.eq_nil_of_length_eq_zero (by simpa using hcl)
      subst hc0
      simp only[List.length_nil,Nat.zero_add] at *
      have hr:=run_append_nil (P:=P) w t ty e i z S.u hi hz ad ys.length uc news (by rw[hnl,hsz]) hcell h0 h63 (by rw[hby];omega)
      obtain⟨g1,g2⟩:=grown 0 h0 _ rfl
      simp only[List.nil_append,Array.empty_append] at g1 g2 ⊢
      refine⟨_,_,_,hr,g1,g2.mono (fun b _ e=>e.elim),fun b hb' e=>?_⟩
      simp only[Value.ownBlock,Option.some.injEq] at e
      omega
    · by_cases hroom : xs.length + ys.length ≤ cap
      · have hfit : xs.length * i.size + news.length ≤ cur.size := by rw [hnl, hcs, hsz, ← Nat.add_mul]; exact Nat.mul_le_mul_right _ hroom
        have hr:=run_append_room (P:=P) w t ty e i S.u hi g xs.length cap cur hg ad ys.length uc news (by rw[hnl,hsz]) hcell hn1 hroom hfit
        rw[hsz] at hr hfit
        have hσg:σ g=xs.length*T.sz:=hos g rfl
        have hgl:g<w.heap.size:=(Array.getElem?_eq_some_iff.1 hg).1
        have hheap:=setRow_heap w g cur (cur.toList.take (xs.length*T.sz)++news++cur.toList.drop (xs.length*T.sz+news.length)).toArray e (0,0) hg
        have hstp:Stp (fun b=>Value.ownBlock (.slice (some ⟨g,0,none⟩) xs.length cap)=some b) σ w (upd σ g ((xs.length+ys.length)*T.sz)) (w.setRow g (cur.toList.take (xs.length*T.sz)++news++cur.toList.drop (xs.length*T.sz+news.length)).toArray):=by
          refine⟨rfl,rfl,rfl,by simp,fun b _ hb'=>setRow_other w g b _ (fun e=>hb' (by simp[Value.ownBlock,e])),fun b _ hb'=>upd_ne σ _ (fun e=>hb' (by simp[Value.ownBlock,e])),fun b o hb' hlt=>?_,fun b _=>?_⟩
          · by_cases eb : b = g
            · subst eb
              rw[hσg] at hlt
              rw[cell_of_row _ b o _ e (0,0) hheap,cell_of_row _ b o _ e (0,0) hg]
              rw[List.getElem?_toArray,List.append_assoc,List.getElem?_append_left (by simp;omega),List.getElem?_take]
              simp[hlt]
            · exact World.cell?_of_block (setRow_other w g b _ eb)
          · by_cases eb : b = g
            · subst eb;rw[upd_same,hσg];exact Nat.mul_le_mul_right _ (by omega)
            · rw[upd_ne σ _ eb];exact Nat.le_refl _
        refine⟨_,_,_,hr,⟨cs++news,⟨by rw[List.length_append (as:=xs)];exact hlen,.inr ⟨g,cap,_,by rw[List.length_append],hbg,hheap,by rw[List.length_append];exact hroom,hcm,?_,?_⟩⟩,?_,by rw[List.length_append];exact hb,?_⟩,hstp,fun b _ e=>e⟩
        · simp only [List.size_toArray, List.length_append, List.length_take, List.length_drop, Array.length_toList]
          omega
        · rw [htake, List.length_append (as := xs), ← hlen]
          exact List.take_left
        · exact Reps.append (Reps.mono (fun x c hx=>T.step hstp hx) _ _ hcr) (Reps.mono (fun x c hx=>T.step hstp hx) _ _ hnr)
        · intro g' hg'
          simp only[Value.ownBlock,Option.some.injEq] at hg'
          subst hg'
          rw[upd_same,List.length_append]
      · have holds : ∀ j u, cs[j]? = some u → w.cell? ((⟨g, 0, none⟩ : Addr).add j) = some u := how'.cells (g := g) rfl
        have hr:=run_append_grow (P:=P) w t ty e i z S.u hi hz ⟨g,0,none⟩ xs.length cap cs (by rw[hcl,hsz]) holds ad ys.length uc news (by rw[hnl,hsz]) hcell (by omega) h63 (growslice_fits (by omega) (by rw[hby];exact hb))
        obtain⟨g1,g2⟩:=grown cap (by omega) _ rfl
        refine⟨_,_,_,hr,g1,g2.mono (fun b _ e=>e.elim),fun b hb' e=>?_⟩
        simp only[Value.ownBlock,Option.some.injEq] at e
        omega
section
variable {P:Program} {ops:Array Oper} {Q:Exit→Act→World→Prop} {Kp:Act→World→Prop} {n i:Nat} {l l':Sl} {a:Act} {w w':World} {C:Code} {M:Nat→Prop} {σ:Nat→Nat}
theorem r_append {α:Type} (T:Ty α) {t e:TypeId} {z:Value} (S:SlT P t e T.sz T.by_ z) {d:Nat} {x y:Operand} (hF:Fr a n l) (ho:(ops[i]?).map (fun o=>(o.dst,o.op))=some (some d,.call ⟨.builtin .append,#[x,y],#[t,t]⟩)) (hk:okAt ops i n l=true)
    {B:Nat} {v u:Value} {xs ys:List α} (hx:evl l x=v) (hy:evl l y=u) (hO:Own T e B σ w v xs) (hR:Rd T σ w u ys) (hb:(xs.length+ys.length)*T.by_≤140737488355328) (hm:xs.length+ys.length≤140737488355328) (hB:B≤w.heap.size)
    (K:∀ a' σ' w' v',Stp (fun b=>v.ownBlock=some b) σ w σ' w'→Own T e B σ' w' v' (xs++ys)→(∀ b,b<w.heap.size→v'.ownBlock=some b→v.ownBlock=some b)→Fr a' n ((d,v')::l)→Kp a' w'):wpOp P ops Q i Kp a w:=by
  obtain⟨o,h1,h2,h3⟩:=opAt_of ho
  obtain⟨v',σ',w',hr,h4,h5,h6⟩:=run_app T S o.type hO hR hb hm hB
  refine r_val hF ho hk v' w' ?_ fun a' hF'=>K a' σ' w' v' h5 h4 h6 hF'
  intro o' e'
  obtain⟨v'',σ'',w'',hr',_⟩:=run_app T S o'.type hO hR hb hm hB
  have hsame:(Builtin.append_ #[t,t] o'.type #[v,u])=(Builtin.append_ #[t,t] o.type #[v,u]):=rfl
  simp only[execOp,e',resolve,List.map_toArray,List.map_cons,List.map_nil,hx,hy,Sem.run_bind,Sem.run_pure,Result.andThen_ok,invoke,builtin,hsame,hr]
/-- 'string(b)'. -/
theorem exec_b2s {t s e:TypeId} {x:Operand} (ht:P.underlying t=some (.slice e)) (he:P.underlying e=some (.int .u8)) (hs:P.underlying s=some .string) {v:Value} {bs:List UInt8} (hx:evl l x=v) (hR:Rd tU8 σ w v bs) :
    ∀ o:Oper,o.op=.convert t s x→(execOp (evl l) o).run P w=.ok (.value (sv bs)) w:=by
  intro o e'
  obtain⟨ad,cap,rfl,hc⟩:=hR.form
  have hrun:(convert t s (.slice ad bs.length cap)).run P w=.ok (sv bs) w:=by
    cases ad with
    | none =>
      obtain⟨a',cap',e2,_,_,h⟩:=hR
      injection e2 with e3 _ _
      subst e3
      rcases h with h | ⟨b,o,cs,e4,_⟩
      · subst h
        exact run_convert_bytes_nil w t e ht he _ _ s hs
      · simp at e4
    | some ad =>
      refine run_convert_bytes_back w t s e ad cap bs ht he hs (fun j hj=>?_)
      obtain⟨b,o',c,e2,hseg,hrep⟩:=hR.at j hj
      injection e2 with e2
      subst e2
      have hrep':c=[bv bs[j]]:=hrep
      subst hrep'
      have:=(hseg.h 0 _ rfl).2
      rw[Addr.add_lit]
      simpa [tU8,Ty.flat] using this
  simp only[execOp,e',hx,Sem.run_bind,hrun,Result.andThen_ok,Sem.run_pure]
/-- 'v[lo:hi]'. -/
theorem exec_slice {α:Type} {T:Ty α} {t e:TypeId} {x:Operand} {lo hi:Option Operand}
    {ad:Option Addr} {len cap:Nat} {xs:List α} (hR:Rd T σ w (.slice ad len cap) xs) (hx:evl l x=.slice ad len cap) (hu:P.underlying t=some (.slice e)) (hs:∀ w,(sizeOf e).run P w=.ok T.sz w)
    (p q:Nat) (hlo:lo.map (evl l)=some (.int .i64 (p:Int))∨(lo=none∧p=0)) (hhi:hi.map (evl l)=some (.int .i64 (q:Int))∨(hi=none∧q=xs.length)) (hpq:p≤q) (hq:q≤xs.length) :
    ∀ o:Oper,o.op=.slice t x lo hi none→(execOp (evl l) o).run P w=.ok (.value (.slice (if cap=p then ad else ad.map (·.add (p*T.sz))) (q - p) (cap - p))) w:=by
  obtain⟨_,_,e2,hcap⟩:=hR.form
  injection e2 with e3 e4 e5
  subst e4;subst e5
  intro o e'
  have hq1:(0:Int)≤(q:Int)∧(q:Int)≤((cap:Nat):Int):=⟨by omega,by omega⟩
  have hp1:(0:Int)≤(p:Int)∧(p:Int)≤((q:Nat):Int):=⟨by omega,by omega⟩
  have hp0:(0:Int)≤(p:Int)∧(p:Int)≤((xs.length:Nat):Int):=⟨by omega,by omega⟩
  have hb:(Instr.sliceBounds true xs.length cap (lo.map (evl l)) (hi.map (evl l)) none).run P w=.ok (p,q,cap) w:=by
    rcases hlo with h1 | ⟨h1,h1'⟩ <;> rcases hhi with h2 | ⟨h2,h2'⟩
    · rw [h1, h2]
      simp[Instr.sliceBounds,Instr.sliceBound,asIntOf,hq1.1,hq1.2,hp1.1,hp1.2,hpq,Int.ofNat_le.1 hq1.2]
    · rw [h1]; subst h2; subst h2'
      simp[Instr.sliceBounds,Instr.sliceBound,asIntOf,hpq]
    · rw [h2]; subst h1; subst h1'
      simp[Instr.sliceBounds,Instr.sliceBound,asIntOf,Int.ofNat_le.1 hq1.2]
    · subst h1; subst h1'; subst h2; subst h2'
      simp[Instr.sliceBounds]
  have hat:(Instr.sliceAt t (.slice ad xs.length cap) (lo.map (evl l)) (hi.map (evl l)) none).run P w=.ok (.slice (if cap=p then ad else ad.map (·.add (p*T.sz))) (q - p) (cap - p)) w:=by
    simp only[Instr.sliceAt,Instr.slice,Sem.run_bind,run_underlying hu,Result.andThen_ok,hb,hs,Sem.run_pure]
  simp only[execOp,e',hx,Option.map_none,Sem.run_bind,hat,Result.andThen_ok,Sem.run_pure]
end
section
variable {P:Program} {ops:Array Oper} {Q:Exit→Act→World→Prop} {n i:Nat} {l:Sl} {a:Act} {w:World}
theorem r_one {d:Nat} {v0 v:Value} (hF:Fr a n l) (hc:(allLt n l && ((ops.toList.drop i).take 1).all (dstOk n))=true) (hr:(runAll ops ((ops.toList.drop i).take 1) l).run P w=.ok ((d,v0)::l) w) (e:v0=v)
    (K:∀ a',Fr a' n ((d,v)::l)→wpAt P ops Q (i+1) a' w):wpAt P ops Q i a w:=by
  subst e
  exact r_run 1 hF hc hr K
end
theorem app_small {a b k:Nat} (h:a+b≤1000000) (hk:k≤1000):(a+b)*k≤140737488355328 :=
  Nat.le_trans (Nat.mul_le_mul h hk) (by decide)
theorem wrap_u {k:IntKind} (hk:k.signed=false) (x:Int):k.wrap x=x % (2 ^ k.bits:Int):=by
  unfold IntKind.wrap
  simp[hk]
theorem i64_eq {x y:Int} (h1 : -9223372036854775808≤x) (h2:x<9223372036854775808) (e:x=y):IntKind.i64.wrap x=y:=by
  subst e
  unfold IntKind.wrap
  simp only[IntKind.bits,IntKind.signed,Bool.true_and]
  show(if decide (x % (2 ^ 64:Int)≥(2 ^ (64 - 1):Int))=true then x % (2 ^ 64:Int) - (2 ^ 64:Int) else x % (2 ^ 64:Int))=x
  split <;> simp_all <;> omega
def ofI (x:Int):UInt64:=UInt64.ofNat (x % 18446744073709551616).toNat
theorem i64_u64 (x:Int):IntKind.u64.wrap x=((ofI x).toNat:Int):=by
  rw[wrap_u rfl]
  unfold ofI
  rw[UInt64.toNat_ofNat']
  show x % (2 ^ 64:Int)=_
  have h:(2 ^ 64:Int)=18446744073709551616:=by decide
  rw[h]
  omega
theorem u64_u8 (x:UInt64):IntKind.u8.wrap ((x).toNat:Int)=((x.toUInt8).toNat:Int):=by
  rw[wrap_u rfl,UInt64.toNat_toUInt8]
  show((x.toNat:Int)) % (2 ^ 8:Int)=_
  omega
theorem u64_u32 (x:UInt64):IntKind.u32.wrap ((x).toNat:Int)=((x.toUInt32).toNat:Int):=by
  rw[wrap_u rfl,UInt64.toNat_toUInt32]
  show((x.toNat:Int)) % (2 ^ 32:Int)=_
  have h:(2 ^ 32:Int)=4294967296:=by decide
  rw[h]
  omega
theorem u32_u8 (x:UInt32):IntKind.u8.wrap ((x).toNat:Int)=((x.toUInt8).toNat:Int):=by
  rw[wrap_u rfl,UInt32.toNat_toUInt8]
  show((x.toNat:Int)) % (2 ^ 8:Int)=_
  omega
theorem u8_u64 (x:UInt8):IntKind.u64.wrap ((x).toNat:Int)=((x.toUInt64).toNat:Int):=by
  rw[wrap_u rfl,UInt8.toNat_toUInt64]
  show((x.toNat:Int)) % (2 ^ 64:Int)=_
  have h:(2 ^ 64:Int)=18446744073709551616:=by decide
  have:=x.toNat_lt
  rw[h]
  omega
theorem u8_u32 (x:UInt8):IntKind.u32.wrap ((x).toNat:Int)=((x.toUInt32).toNat:Int):=by
  rw[wrap_u rfl,UInt8.toNat_toUInt32]
  show((x.toNat:Int)) % (2 ^ 32:Int)=_
  have h:(2 ^ 32:Int)=4294967296:=by decide
  have:=x.toNat_lt
  rw[h]
  omega
theorem u8_i64 (x:UInt8):IntKind.i64.wrap ((x).toNat:Int)=((x.toNat:Nat):Int):=by
  have:=x.toNat_lt
  exact i64_eq (by omega) (by omega) rfl
theorem u32_i64 (x:UInt32):IntKind.i64.wrap ((x).toNat:Int)=((x.toNat:Nat):Int):=by
  have:=x.toNat_lt
  exact i64_eq (by omega) (by omega) rfl
theorem cmp_nat_neq (a b:Nat):((a:Int) != (b:Int)) = !decide (a=b):=by rw[Bool.eq_iff_iff];simp;omega
theorem cmp_nat_lss (a b:Nat):decide ((a:Int)<(b:Int))=decide (a<b):=by rw[Bool.eq_iff_iff];simp
theorem cmp_nat_gtr (a b:Nat):decide ((a:Int)>(b:Int))=decide (a>b):=by rw[Bool.eq_iff_iff];simp
theorem cmp_int_eql (a b:Int):(a == b)=decide (a=b):=by rw[Bool.eq_iff_iff];simp
theorem cmp_int_geq (a b:Int):decide (a≥b)=decide (a≥b):=rfl
theorem cmp_u8_eql (a b:UInt8):((a.toNat:Int) == (b.toNat:Int))=decide (a=b):=by rw[Bool.eq_iff_iff];simp[← UInt8.toNat_inj];omega
theorem cmp_u8_neq (a b:UInt8):((a.toNat:Int) != (b.toNat:Int)) = !decide (a=b):=by rw[Bool.eq_iff_iff];simp[← UInt8.toNat_inj];omega
theorem cmp_u8_lss (a b:UInt8):decide ((a.toNat:Int)<(b.toNat:Int))=decide (a<b):=by rw[Bool.eq_iff_iff];simp[UInt8.lt_iff_toNat_lt]
theorem cmp_u8_leq (a b:UInt8):decide ((a.toNat:Int)≤(b.toNat:Int))=decide (a≤b):=by rw[Bool.eq_iff_iff];simp[UInt8.le_iff_toNat_le]
theorem cmp_u8_gtr (a b:UInt8):decide ((a.toNat:Int)>(b.toNat:Int))=decide (a>b):=by rw[Bool.eq_iff_iff];simp[UInt8.lt_iff_toNat_lt]
theorem cmp_u8_geq (a b:UInt8):decide ((a.toNat:Int)≥(b.toNat:Int))=decide (a≥b):=by rw[Bool.eq_iff_iff];simp[UInt8.le_iff_toNat_le]
theorem cmp_u64_eql (a b:UInt64):((a.toNat:Int) == (b.toNat:Int))=decide (a=b):=by rw[Bool.eq_iff_iff];simp[← UInt64.toNat_inj];omega
theorem cmp_u64_neq (a b:UInt64):((a.toNat:Int) != (b.toNat:Int)) = !decide (a=b):=by rw[Bool.eq_iff_iff];simp[← UInt64.toNat_inj];omega
theorem cmp_u64_lss (a b:UInt64):decide ((a.toNat:Int)<(b.toNat:Int))=decide (a<b):=by rw[Bool.eq_iff_iff];simp[UInt64.lt_iff_toNat_lt]
theorem cmp_u64_leq (a b:UInt64):decide ((a.toNat:Int)≤(b.toNat:Int))=decide (a≤b):=by rw[Bool.eq_iff_iff];simp[UInt64.le_iff_toNat_le]
theorem cmp_u64_gtr (a b:UInt64):decide ((a.toNat:Int)>(b.toNat:Int))=decide (a>b):=by rw[Bool.eq_iff_iff];simp[UInt64.lt_iff_toNat_lt]
theorem cmp_u64_geq (a b:UInt64):decide ((a.toNat:Int)≥(b.toNat:Int))=decide (a≥b):=by rw[Bool.eq_iff_iff];simp[UInt64.le_iff_toNat_le]
theorem cmp_u32_eql (a b:UInt32):((a.toNat:Int) == (b.toNat:Int))=decide (a=b):=by rw[Bool.eq_iff_iff];simp[← UInt32.toNat_inj];omega
theorem cmp_u32_neq (a b:UInt32):((a.toNat:Int) != (b.toNat:Int)) = !decide (a=b):=by rw[Bool.eq_iff_iff];simp[← UInt32.toNat_inj];omega
theorem ba_toList (l:List UInt8):(⟨l.toArray⟩:ByteArray).toList=l:=by
  exact Go.ByteArray.toList_mk l
theorem str_eql (a b:List UInt8):((⟨a.toArray⟩:ByteArray).toList == (⟨b.toArray⟩:ByteArray).toList)=decide (a=b):=by
  rw[ba_toList,ba_toList,Bool.eq_iff_iff];simp
theorem u64_add (a b:UInt64):IntKind.u64.wrap ((a.toNat:Int)+(b.toNat:Int))=((a+b).toNat:Int):=by
  rw[wrap_u rfl,UInt64.toNat_add]
  show _ % (2 ^ 64:Int)=_
  have h:(2 ^ 64:Int)=18446744073709551616:=by decide
  have h':(2 ^ 64:Nat)=18446744073709551616:=by decide
  rw[h,h']
  omega
theorem u64_sub (a b:UInt64):IntKind.u64.wrap ((a.toNat:Int) - (b.toNat:Int))=((a - b).toNat:Int):=by
  rw[wrap_u rfl,UInt64.toNat_sub]
  show _ % (2 ^ 64:Int)=_
  have h:(2 ^ 64:Int)=18446744073709551616:=by decide
  have h':(2 ^ 64:Nat)=18446744073709551616:=by decide
  have:=a.toNat_lt
  have:=b.toNat_lt
  rw[h,h']
  omega
theorem u64_mul (a b:UInt64):IntKind.u64.wrap ((a.toNat:Int)*(b.toNat:Int))=((a*b).toNat:Int):=by
  rw[wrap_u rfl,UInt64.toNat_mul]
  show _ % (2 ^ 64:Int)=_
  rw[← Int.natCast_mul]
  have h:(2 ^ 64:Int)=((2 ^ 64:Nat):Int):=by decide
  rw[h]
  exact(Int.natCast_emod _ _).symm
theorem u64_rem (a b:UInt64) (hb:b.toNat≠0):Int.tmod (a.toNat:Int) (b.toNat:Int)=((a % b).toNat:Int):=by
  rw[UInt64.toNat_mod]
  exact(Int.ofNat_tmod _ _).symm
theorem u64_quo (a b:UInt64) (hb:b.toNat≠0):IntKind.u64.wrap (Int.tdiv (a.toNat:Int) (b.toNat:Int))=((a / b).toNat:Int):=by
  rw[wrap_u rfl,UInt64.toNat_div]
  have h1:Int.tdiv (a.toNat:Int) (b.toNat:Int)=((a.toNat / b.toNat:Nat):Int):=(Int.ofNat_tdiv _ _).symm
  rw[h1]
  show _ % (2 ^ 64:Int)=_
  have h:(2 ^ 64:Int)=18446744073709551616:=by decide
  have h3:=a.toNat_lt
  have h2:a.toNat / b.toNat≤a.toNat:=Nat.div_le_self _ _
  rw[h]
  generalize a.toNat / b.toNat=q at *
  omega
theorem u64_shr (x:UInt64) (m:Nat) (hm:m<64):Int.fdiv (x.toNat:Int) (2 ^ (min (Int.toNat (m:Int)) 64))=((x >>> m.toUInt64).toNat:Int):=by
  have h0:min (Int.toNat (m:Int)) 64=m:=by omega
  rw[h0,UInt64.toNat_shiftRight]
  have h1:m.toUInt64.toNat % 64=m:=by
    have:m.toUInt64.toNat=m:=by
      show(UInt64.ofNat m).toNat=m
      rw[UInt64.toNat_ofNat']
      have h':(2 ^ 64:Nat)=18446744073709551616:=by decide
      rw[h'];omega
    rw[this];omega
  rw[h1,Nat.shiftRight_eq_div_pow]
  have h2:(2 ^ m:Int)=((2 ^ m:Nat):Int):=by rw[Int.natCast_pow];rfl
  rw[h2]
  rw[Int.fdiv_eq_ediv_of_nonneg _ (Int.natCast_nonneg _)]
  exact(Int.natCast_ediv _ _).symm
theorem ofInt_u64 (x:UInt64):BitVec.ofInt 64 (x.toNat:Int)=x.toBitVec:=by
  apply BitVec.eq_of_toNat_eq
  rw[BitVec.toNat_ofInt]
  have:=x.toNat_lt
  show(((x.toNat:Int)) % ((2 ^ 64:Nat):Int)).toNat=x.toNat
  have h':(2 ^ 64:Nat)=18446744073709551616:=by decide
  rw[h'];omega
theorem wrap_u64 (x:UInt64):IntKind.u64.wrap (x.toBitVec.toNat:Int)=(x.toNat:Int):=by
  rw[wrap_u rfl]
  have:=x.toNat_lt
  show((x.toNat:Int)) % (2 ^ 64:Int)=_
  have h:(2 ^ 64:Int)=18446744073709551616:=by decide
  rw[h];omega
theorem u64_or (a b:UInt64):IntKind.u64.wrap ((BitVec.ofInt 64 (a.toNat:Int) ||| BitVec.ofInt 64 (b.toNat:Int)).toNat:Int)=((a ||| b).toNat:Int):=by
  rw[ofInt_u64,ofInt_u64];exact wrap_u64 (a ||| b)
theorem u64_and (a b:UInt64):IntKind.u64.wrap ((BitVec.ofInt 64 (a.toNat:Int) &&& BitVec.ofInt 64 (b.toNat:Int)).toNat:Int)=((a &&& b).toNat:Int):=by
  rw[ofInt_u64,ofInt_u64];exact wrap_u64 (a &&& b)
theorem u64_xor (a b:UInt64):IntKind.u64.wrap ((BitVec.ofInt 64 (a.toNat:Int) ^^^ BitVec.ofInt 64 (b.toNat:Int)).toNat:Int)=((a ^^^ b).toNat:Int):=by
  rw[ofInt_u64,ofInt_u64];exact wrap_u64 (a ^^^ b)
theorem u64_shl (x:UInt64) (m:Nat) (hm:m<64):IntKind.u64.wrap ((x.toNat:Int)*(2 ^ (min (Int.toNat (m:Int)) 64)))=((x <<< m.toUInt64).toNat:Int):=by
  have h0:min (Int.toNat (m:Int)) 64=m:=by omega
  rw[h0,UInt64.toNat_shiftLeft,wrap_u rfl]
  have h1:m.toUInt64.toNat % 64=m:=by
    have:m.toUInt64.toNat=m:=by
      show(UInt64.ofNat m).toNat=m
      rw[UInt64.toNat_ofNat']
      have h':(2 ^ 64:Nat)=18446744073709551616:=by decide
      rw[h'];omega
    rw[this];omega
  rw[h1,Nat.shiftLeft_eq]
  have h2:(2 ^ m:Int)=((2 ^ m:Nat):Int):=by rw[Int.natCast_pow];rfl
  rw[h2,← Int.natCast_mul]
  show _ % (2 ^ 64:Int)=_
  have h:(2 ^ 64:Int)=((2 ^ 64:Nat):Int):=by decide
  rw[h]
  exact(Int.natCast_emod _ _).symm
theorem exec_shr {P:Program} {w:World} {l:Sl} {x y:Operand} {t u:TypeId} {n:UInt64} {k:IntKind} {s:Int} (hx:evl l x=uv n) (hy:evl l y=.int k s) (h0:0≤s) (h1:s<64) (m:Nat) (hm:s.toNat=m) :
    ∀ o:Oper,o.op=.binOp .shr t x y u→(execOp (evl l) o).run P w=.ok (.value (uv (n >>> m.toUInt64))) w:=by
  intro o e
  subst hm
  have hn:¬ s<0:=by omega
  have h2:=u64_shr n s.toNat (by omega)
  rw[Int.toNat_natCast] at h2
  simp only[execOp,e,hx,hy,eqGuard,binOp,Op.shift,hn,if_false,Sem.run_bind,Sem.run_pure,Result.andThen_ok]
  show Result.ok (Next.value (Value.int .u64 (Int.fdiv (n.toNat:Int) (2 ^ (min s.toNat 64))))) w=_
  rw[h2]
/-- What a region may have changed since its begin. -/
def Since (M:Nat→Prop) (σ:Nat→Nat) (w:World):World→Prop:=fun w'=>∃ σ',Stp M σ w σ' w'
section
variable {P:Program} {ops:Array Oper} {Q:Exit→Act→World→Prop} {S:World→Prop} {n i:Nat} {l:Sl} {a:Act} {w:World} {C:Code} {listed:Array Bool} {fuel:Nat}
theorem run1 {o:Oper} {d:Nat} {v:Value} {w':World} (hd:o.dst=some d) (hF:Fr a n l) (hn:allLt n l=true) (hr:(runAll ops [o] l).run P w=.ok ((d,v)::l) w') :
    (Region.wanted o (yielded ops a.tmps)=true∧(execOp a.eval o).run P w=.ok (.value v) w')∨(Region.wanted o (yielded ops a.tmps)=false∧v=undef∧w'=w):=by
  simp only[runAll,hd,putS] at hr
  have hsp:=allLt_spec hn
  cases hg:guardOn ops l o with
  | none=>rw[hg] at hr;simp at hr
  | some b =>
    rw[hg] at hr
    have hw:=guardOn_spec hF hsp hg
    cases b with
    | false =>
      right
      simp only[Sem.run_pure] at hr
      injection hr with h1 h0
      injection h1 with h2 _
      injection h2 with _ h3
      exact⟨hw,h3.symm,h0.symm⟩
    | true =>
      left
      refine⟨hw,?_⟩
      simp only[] at hr
      split at hr
      · rename_i hk
        rw[opOk_exec hF hk]
        rw[Sem.run_bind] at hr
        cases hx:(execOp (evl l) o).run P w with
        | halt h w1=>rw[hx] at hr;simp at hr
        | ok nx w1 =>
          rw[hx] at hr
          simp only[Result.andThen_ok] at hr
          cases nx with
          | value u =>
            simp only[Sem.run_pure] at hr
            injection hr with h2 h3
            injection h2 with h4 _
            injection h4 with _ h5
            rw[h5,h3]
          | _=>simp at hr
      · simp at hr
theorem wpAnyH_mono {S':World→Prop} (hS:∀ w,S' w→S w):∀(fuel:Nat) (listed:Array Bool) (a:Act) (w:World),wpAnyH P .any ops Q S' fuel listed a w→wpAnyH P .any ops Q S fuel listed a w
  | 0,_,_,_,h=>h
  | fuel+1,_,_,_,h=>⟨h.1,fun i hi=>wpOp_mono (fun a' w' h'=>⟨hS _ h'.1,wpAnyH_mono hS fuel _ a' w' h'.2⟩) (h.2 i hi)⟩
/-- Behind an operation: what holds since then holds since the region's begin. -/
theorem d_next {M M':Nat→Prop} {σ σ':Nat→Nat} {w w':World} (st:Stp M' σ w σ' w') (hM:∀ b,M' b→M b) (k:wpAnyH P .any ops Q (Since M σ' w') fuel listed a w') :
    Since M σ w w'∧wpAnyH P .any ops Q (Since M σ w) fuel listed a w' :=
  ⟨⟨σ',st.mono fun b _=>hM b⟩,wpAnyH_mono (fun w2 ⟨σ2,h2⟩=>⟨σ2,st.trans h2 fun b _ e=>e.elim (hM b) id⟩) _ _ _ _ k⟩
theorem since_refl (M:Nat→Prop) (σ:Nat→Nat) (w:World):Since M σ w w:=⟨σ,Stp.refl _ _ _⟩
end
def maskOf:List Nat→Nat
  | []=>0
  | t::l=>(1 <<< t) ||| maskOf l
theorem one_bit (t s:Nat):(1 <<< t).testBit s=decide (t=s):=by
  rw[Nat.one_shiftLeft,Nat.testBit_two_pow]
theorem maskOf_bit (t:Nat):∀ l:List Nat,(maskOf l).testBit t=decide (t∈l)
  | []=>by simp[maskOf]
  | s :: l => by
    rw[maskOf,Nat.testBit_or,one_bit,maskOf_bit t l]
    by_cases h:s=t
    · subst h;simp
    · have : t ≠ s := fun e => h e.symm
      simp[h,this]
abbrev OI:=Nat × Nat × Nat
def presOf (o:Oper):List Nat:=(o.after.toList.filter (fun e=>Region.binds .any e)).map (·.on)
def opInfo (ops:Array Oper) (o:Oper):OI:=(maskOf (presOf o),(match o.dst with | some d=>1 <<< d | none=>0),maskOf (o.looksAt ops))
def infoOf (ops:Array Oper):List OI:=ops.toList.map (opInfo ops)
def allIdx (f:Nat→OI→Bool):List OI→Nat→Bool
  | [],_=>true
  | x::l,j=>f j x && allIdx f l (j+1)
theorem allIdx_spec (f:Nat→OI→Bool):∀(l:List OI) (j:Nat),allIdx f l j=true→∀(k:Nat) (x:OI),l[k]? = some x→f (j+k) x=true
  | [],_,_,k,x,h=>by simp at h
  | y :: l, j, h, 0, x, e => by
    simp only[allIdx,Bool.and_eq_true] at h
    simp at e;subst e;exact h.1
  | y :: l, j, h, k + 1, x, e => by
    simp only[allIdx,Bool.and_eq_true] at h
    have:=allIdx_spec f l (j+1) h.2 k x (by simpa using e)
    rwa [show j+(k+1)=j+1+k by omega]
def freeM (I:List OI) (m i:Nat) (x:OI):Bool :=
  allIdx (fun j y=>j == i || m.testBit j || y.1.testBit i || (((x.2.1 &&& y.2.2) == 0) && ((x.2.1 &&& y.2.1) == 0) && ((y.2.1 &&& x.2.2) == 0))) I 0
def onlyM (I:List OI) (m i:Nat):Bool :=
  allIdx (fun j y=>j == i || m.testBit j || !((y.1 &&& m) == y.1)) I 0
def planOk (I:List OI):List (Nat × Bool)→Nat→Bool
  | [],m=>allIdx (fun j _=>m.testBit j) I 0
  | (i, fl) :: r, m =>
    match I[i]? with
    | none=>false
    | some x=>!m.testBit i && ((x.1 &&& m) == x.1) && (if fl then freeM I m i x else onlyM I m i) && planOk I r (m ||| 1 <<< i)
structure Rel (ops:Array Oper) (listed:Array Bool) (m:Nat):Prop where
  s:listed.size=ops.size
  b:∀ j,j<ops.size→listed[j]? = some (m.testBit j)
  o:∀ j,ops.size≤j→m.testBit j=false
section
variable {ops:Array Oper} {listed:Array Bool} {m:Nat}
theorem info_get {j:Nat} {x:OI} (h:(infoOf ops)[j]? = some x):∃ o,ops[j]? = some o∧x=opInfo ops o:=by
  unfold infoOf at h
  rw[List.getElem?_map] at h
  obtain⟨o,ho,e⟩:=Option.map_eq_some_iff.1 h
  exact⟨o,by simpa using ho,e.symm⟩
theorem info_of {j:Nat} {o:Oper} (h:ops[j]? = some o):(infoOf ops)[j]? = some (opInfo ops o):=by
  unfold infoOf
  rw[List.getElem?_map]
  have:ops.toList[j]? = some o:=by simpa using h
  rw[this];rfl
theorem sub_mask {p m:Nat} (h:((p &&& m) == p)=true) {t:Nat} (ht:p.testBit t=true):m.testBit t=true:=by
  have e:p &&& m=p:=by simpa using h
  rw[← e,Nat.testBit_and] at ht
  simp only[Bool.and_eq_true] at ht
  exact ht.2
theorem sub_mask' {p m:Nat} (h:∀ t,p.testBit t=true→m.testBit t=true):((p &&& m) == p)=true:=by
  have:p &&& m=p:=by
    apply Nat.eq_of_testBit_eq
    intro t
    rw[Nat.testBit_and]
    cases hp:p.testBit t with
    | false=>rfl
    | true=>rw[h t hp];rfl
  simpa using this
theorem Rel.ready (R:Rel ops listed m) {j:Nat}:j∈Region.ready .any ops listed↔∃ o,ops[j]? = some o∧m.testBit j=false∧∀ t∈presOf o,m.testBit t=true:=by
  rw[mem_ready]
  constructor
  · rintro ⟨h0, o, ho, h⟩
    have hlt:j<ops.size:=(Array.getElem?_eq_some_iff.1 ho).1
    refine⟨o,ho,?_,fun t ht=>?_⟩
    · rw[Array.getD_eq_getD_getElem?,R.b j hlt] at h0;simpa using h0
    · simp only [presOf, List.mem_map, List.mem_filter] at ht
      obtain⟨e,⟨he,hb⟩,rfl⟩:=ht
      have h1:=h e (by simpa using he) hb
      rcases Nat.lt_or_ge e.on ops.size with hl | hl
      · rw[Array.getD_eq_getD_getElem?,R.b _ hl] at h1;simpa using h1
      · rw[Array.getD_eq_getD_getElem?,Array.getElem?_eq_none (by rw[R.s];exact hl)] at h1;simp at h1
  · rintro ⟨o, ho, h0, h⟩
    have hlt:j<ops.size:=(Array.getElem?_eq_some_iff.1 ho).1
    refine⟨by rw[Array.getD_eq_getD_getElem?,R.b j hlt];simpa using h0,o,ho,fun e he hb=>?_⟩
    have h1:=h e.on (by simp only[presOf,List.mem_map,List.mem_filter];exact⟨e,⟨by simpa using he,hb⟩,rfl⟩)
    have hl:e.on<ops.size:=by
      rcases Nat.lt_or_ge e.on ops.size with hl | hl
      · exact hl
      · rw[R.o _ hl] at h1;simp at h1
    rw[Array.getD_eq_getD_getElem?,R.b _ hl];simpa using h1
theorem Rel.set (R:Rel ops listed m) {i:Nat} (hi:i<ops.size):Rel ops (listed.setIfInBounds i true) (m ||| 1 <<< i):=by
  refine⟨by simp[R.s],fun j hj=>?_,fun j hj=>?_⟩
  · rw [Nat.testBit_or, one_bit]
    by_cases e:i=j
    · subst e
      rw[Array.getElem?_setIfInBounds_self_of_lt (by rw[R.s];exact hi)];simp
    · rw[Array.getElem?_setIfInBounds_ne e,R.b j hj];simp[e]
  · rw [Nat.testBit_or, one_bit, R.o j hj]
    have:i≠j:=by omega
    simp[this]
theorem dst_mask {o p:Oper} {d:Nat} (ho:o.dst=some d) {q:Nat} (h:((opInfo ops o).2.1 &&& q == 0)=true):q.testBit d=false:=by
  have e:(opInfo ops o).2.1 &&& q=0:=by simpa using h
  have h1:((opInfo ops o).2.1 &&& q).testBit d=false:=by rw[e];simp
  rw[Nat.testBit_and] at h1
  have h2:((opInfo ops o).2.1).testBit d=true:=by
    simp only[opInfo,ho];rw[one_bit];simp
  rw[h2] at h1
  simpa using h1
theorem Rel.free (R:Rel ops listed m) {i:Nat} {oi:Oper} (hi:ops[i]? = some oi) (h:freeM (infoOf ops) m i (opInfo ops oi)=true):Region.free .any ops listed i=true:=by
  unfold Region.free
  rw[hi]
  simp only[List.all_eq_true,List.mem_range]
  intro j hj
  have ho:ops[j]? = some ops[j]:=Array.getElem?_eq_getElem hj
  have h1:=allIdx_spec _ _ _ h j _ (info_of ho)
  simp only[Nat.zero_add,Bool.or_eq_true,Bool.and_eq_true] at h1
  rw[ho]
  simp only[Bool.or_eq_true]
  rcases h1 with((h1 | h1) | h1) | h1
  · exact .inl (.inl h1)
  · left; right
    rw[Array.getD_eq_getD_getElem?,R.b j hj];simpa using h1
  · right; left
    have h2:i∈presOf ops[j]:=by
      have:=h1
      simp only[opInfo] at this
      rw[maskOf_bit] at this
      simpa using this
    simp only[presOf,List.mem_map,List.mem_filter] at h2
    obtain⟨e,⟨he,hb⟩,e2⟩:=h2
    rw[Array.any_eq_true']
    exact⟨e,by simpa using he,by simp[hb,e2]⟩
  · right; right
    obtain⟨⟨ha,hb⟩,hc⟩:=h1
    unfold Oper.apart
    simp only[Bool.and_eq_true]
    constructor
    · cases hd : oi.dst with
      | none=>rfl
      | some d =>
        have h2:=dst_mask (p:=oi) hd ha
        have h3:=dst_mask (p:=oi) hd hb
        simp only[opInfo] at h2 h3
        rw[maskOf_bit] at h2
        simp only[Bool.and_eq_true,Bool.not_eq_true',bne_iff_ne,ne_eq]
        refine⟨by simpa using h2,fun e=>?_⟩
        rw[e] at h3
        simp only[one_bit] at h3
        simp at h3
    · cases hd : ops[j].dst with
      | none=>rfl
      | some d =>
        have h2:=dst_mask (p:=oi) hd hc
        simp only[opInfo] at h2
        rw[maskOf_bit] at h2
        simpa using h2
end
/-- What is to be shown, along a plan. -/
def wpPlan (P:Program) (ops:Array Oper) (Q:Exit→Act→World→Prop) (M:Nat→Prop):List (Nat × Bool)→(Nat→Nat)→Act→World→Prop
  | [],_,a,w=>Q .normal a w
  | (i,true)::r,σ,a,w=>∃ o v,ops[i]? = some o∧YieldsIf P ops (Since M σ w) o v a∧(∀ c a w,Q (.panic c) (a.put o.dst v) w→Q (.panic c) a w)∧wpPlan P ops Q M r σ (a.put o.dst v) w
  | (i,false)::r,σ,a,w=>wpOp P ops Q i (fun a' w'=>∃ σ',Stp M σ w σ' w'∧wpPlan P ops Q M r σ' a' w') a w
theorem plan_sound {P:Program} {ops:Array Oper} {Q:Exit→Act→World→Prop} {M:Nat→Prop} (hs:Region.noSelect ops=true) :
    ∀ (π : List (Nat × Bool)) (m : Nat) (listed : Array Bool) (σ : Nat → Nat) (a : Act) (w : World), planOk (infoOf ops) π m = true → Rel ops listed m → wpPlan P ops Q M π σ a w →
      wpAnyH P .any ops Q (Since M σ w) π.length listed a w:=by
  intro π
  induction π with
  | nil =>
    intro m listed σ a w hp R h
    refine wpAnyH_done ?_ h 0
    apply List.eq_nil_iff_forall_not_mem.2
    intro j hj
    obtain⟨o,ho,h0,_⟩:=R.ready.1 hj
    have:=allIdx_spec _ _ _ hp j _ (info_of ho)
    simp only[Nat.zero_add] at this
    rw[this] at h0;simp at h0
  | cons p r ih =>
    obtain⟨i,fl⟩:=p
    intro m listed σ a w hp R h
    simp only[planOk] at hp
    cases hx:(infoOf ops)[i]? with
    | none=>rw[hx] at hp;simp at hp
    | some x =>
      rw[hx] at hp
      obtain⟨o,ho,rfl⟩:=info_get hx
      simp only[Bool.and_eq_true,Bool.not_eq_true'] at hp
      have hlt:i<ops.size:=(Array.getElem?_eq_some_iff.1 ho).1
      have hrdy:i∈Region.ready .any ops listed:=R.ready.2 ⟨o,ho,hp.1.1.1,fun t ht=>sub_mask hp.1.1.2 (by simp only[opInfo];rw[maskOf_bit];simpa using ht)⟩
      have R':=R.set hlt
      cases fl with
      | true =>
        obtain⟨o',v,ho',hy,hQ,hr⟩:=h
        have:o=o':=by rw[ho] at ho';injection ho'
        subst this
        refine wpAnyH_take ho hs (R.free ho (by simpa using hp.1.2)) (by simpa using hrdy) hQ hy (since_refl _ _ _) ?_
        exact ih _ _ _ _ _ hp.2 R' hr
      | false =>
        have honly:onlyM (infoOf ops) m i=true:=by simpa using hp.1.2
        refine⟨fun h0=>(by rw[h0] at hrdy;cases hrdy),fun j hj=>?_⟩
        have hji:j=i:=by
          obtain⟨oj,hoj,hj0,hjp⟩:=R.ready.1 hj
          have h1:=allIdx_spec _ _ _ honly j _ (info_of hoj)
          simp only[Nat.zero_add,Bool.or_eq_true,hj0,Bool.false_eq_true,or_false] at h1
          rcases h1 with h1 | h1
          · simpa using h1
          · exfalso
            have h2:(((opInfo ops oj).1 &&& m) == (opInfo ops oj).1)=true:=sub_mask' fun t ht=>by
              refine hjp t ?_
              simp only[opInfo] at ht
              rw[maskOf_bit] at ht
              simpa using ht
            rw[h2] at h1;simp at h1
        subst hji
        refine wpOp_mono (fun a' w'=>?_) h
        rintro ⟨σ',st,hr⟩
        exact d_next st (fun _ e=>e) (ih _ _ _ _ _ hp.2 R' hr)
section
variable {P:Program} {ops:Array Oper} {Q:Exit→Act→World→Prop} {M:Nat→Prop} {σ:Nat→Nat} {n i:Nat} {l:Sl} {a:Act} {w:World} {C:Code} {r:List (Nat × Bool)}
theorem rel0 (ops:Array Oper):Rel ops (Array.replicate ops.size false) 0 :=
  ⟨by simp,fun j hj=>by simp[hj],fun j _=>by simp⟩
theorem c_plan {p:List Nat} (id:Nat) (h:sub C p=.region id (opsOf (sub C p)) true) (hm:P.follows .mixedOrders=true) (σ:Nat→Nat) (M:Nat→Prop) (π:List (Nat × Bool)) (I:List OI) (hI:infoOf (opsOf (sub C p))=I)
    (hs:Region.noSelect (opsOf (sub C p))=true) (hp:planOk I π 0=true) (hl:(opsOf (sub C p)).size=π.length)
    (k:∀ w',Stp noM σ w σ w'→wpPlan P (opsOf (sub C p)) Q M π σ a w'):(sub C p).wp P Q a w:=by
  rw[h]
  refine wp_region_held (S:=Since M σ { w with drawn:=w.drawn+1 }) hm ?_
  have h1:=plan_sound (P:=P) (Q:=Q) (M:=M) hs π 0 _ σ a { w with drawn:=w.drawn+1 } (by rw[hI];exact hp) (rel0 _) (k _ (Stp.drew σ w))
  rw[← hl] at h1
  exact h1
theorem p_run {d:Nat} {v:Value} (hF:Fr a n l) (hc:(allLt n l && ((ops.toList.drop i).take 1).all (fun o=>dstOk n o && o.dst == some d))=true)
    (hr:∀ w',(runAll ops ((ops.toList.drop i).take 1) l).run P w'=.ok ((d,v)::l) w') (hQ:∀ c a w,Q (.panic c) (a.put (some d) v) w→Q (.panic c) a w)
    (K:∀ a',Fr a' n ((d,v)::l)→wpPlan P ops Q M r σ a' w):wpPlan P ops Q M ((i,true)::r) σ a w:=by
  cases e:ops[i]? with
  | none =>
    have hz:(ops.toList.drop i).take 1=[]:=by
      rcases Nat.lt_or_ge i ops.size with c | c
      · rw[Array.getElem?_eq_getElem c] at e;simp at e
      · rw[List.drop_of_length_le (by simpa using c)];rfl
    have:=hr w
    rw[hz] at this
    simp only[runAll,Sem.run_pure] at this
    injection this with h1 _
    exact absurd (congrArg List.length h1) (by simp)
  | some o =>
    have hz:(ops.toList.drop i).take 1=[o]:=by rw[drop_of e];rfl
    rw[hz] at hc hr
    simp only[Bool.and_eq_true,List.all_cons,List.all_nil,Bool.and_true,beq_iff_eq] at hc
    have hd:o.dst=some d:=hc.2.2
    refine⟨o,v,e,?_,by rw[hd];exact hQ,?_⟩
    · rcases run1 hd hF hc.1 (hr w) with ⟨hw, hx⟩ | ⟨hw, hv, _⟩
      · refine .inl ⟨hw, fun w' _ => ?_⟩
        rcases run1 hd hF hc.1 (hr w') with⟨_,hx⟩ | ⟨hw',_⟩
        · exact hx
        · rw[hw] at hw';simp at hw'
      · exact .inr ⟨hw,hv⟩
    · rw[hd];exact K _ (hF.put d v (by have:=hc.2.1;unfold dstOk at this;rw[hd] at this;simpa using this))
theorem p_val {d:Nat} {op:Op} {v:Value} (hF:Fr a n l) (ho:(ops[i]?).map (fun o=>(o.dst,o.op))=some (some d,op)) (hk:okAt ops i n l=true)
    (hv:∀ w',Since M σ w w'→∀ o:Oper,o.op=op→(execOp (evl l) o).run P w'=.ok (.value v) w')
    (hQ:∀ c a w,Q (.panic c) (a.put (some d) v) w→Q (.panic c) a w)
    (K:∀ a',Fr a' n ((d,v)::l)→wpPlan P ops Q M r σ a' w):wpPlan P ops Q M ((i,true)::r) σ a w:=by
  obtain⟨o,h1,h2,h3⟩:=opAt_of ho
  unfold okAt at hk
  rw[h1] at hk
  simp only[Bool.and_eq_true] at hk
  have hg:guardOn ops l o=some true:=by
    have:=hk.2
    split at this <;> simp_all
  refine⟨o,v,h1,.inl ⟨guardOn_spec hF (allLt_spec hk.1.1.1) hg,fun w' hw'=>?_⟩,by rw[h2];exact hQ,?_⟩
  · rw [opOk_exec hF hk.1.1.2]
    exact hv w' hw' o h3
  · rw [h2]
    exact K _ (hF.put d _ (by have:=hk.1.2;unfold dstOk at this;rw[h2] at this;simpa using this))
theorem p_do (h:wpOp P ops Q i (fun a' w'=>∃ σ',Stp M σ w σ' w'∧wpPlan P ops Q M r σ' a' w') a w):wpPlan P ops Q M ((i,false)::r) σ a w:=h
theorem p_end (h:Q .normal a w):wpPlan P ops Q M [] σ a w:=h
end
/-- At the begin all that is in memory is settled. -/
def sig0 (w:World):Nat→Nat:=fun b=>match w.heap[b]? with | some (.cells c _ _)=>c.size | _=>0
theorem sig0_lt {w:World} {b o:Nat} {v:Value} (h:w.cell? ⟨b,o,none⟩=some v):o<sig0 w b:=by
  unfold World.cell? at h
  unfold sig0
  split at h
  · rename_i c e f hb
    simp only[] at hb
    rw[hb]
    simp only[Option.isSome_none,Bool.false_eq_true,if_false] at h
    exact(Array.getElem?_eq_some_iff.1 h).1
  · simp at h
theorem wf_u8 {a:Int} (h:(Lit.int .u8 a).wf=true):∃ n:UInt8,a=(n.toNat:Int):=by
  have h':0≤a∧a≤255:=by
    have:=h
    simp only[Lit.wf,IntKind.min,IntKind.max,IntKind.signed,IntKind.bits,decide_eq_true_eq,Bool.and_eq_true] at this
    simpa using this
  refine⟨UInt8.ofNat a.toNat,?_⟩
  rw[UInt8.toNat_ofNat']
  omega
theorem ba_eta (a:ByteArray):(⟨a.data.toList.toArray⟩:ByteArray)=a:=by cases a;simp
theorem sv_of (a:ByteArray):Value.string a=sv a.data.toList:=by unfold sv;rw[ba_eta]
def Opens {α:Type} (P:Program) (t:TypeId) (T:Ty α):Prop :=
  ∀ {H : Type} {enc : TypeId × Value → H} {w : World} {sp : Nat → Bool} {held : Bool} {fuel : Nat} {cs : List Value} {x : DataW H × List MemPlace},
    DataW.trod enc P w 0 sp held fuel t cs=some x→(∀ n∈x.1.weights P t,n≤reachBytes)→∃ a,T.rep (sig0 w) w a cs
theorem opens_u8 {P:Program} {t:TypeId} (ht:P.underlying t=some (.int .u8)):Opens P t tU8:=by
  intro H enc w sp held fuel cs x h _
  obtain⟨n,rfl,_,hw⟩:=DataW.trod_int ht h
  obtain⟨m,rfl⟩:=wf_u8 hw
  exact⟨m,rfl⟩
theorem cells_some {w:World} {base:Nat} {a:Addr} {n:Nat} {cs:List Value} (h:w.cells? base a n=some cs):cs.length=n∧∀ j v,cs[j]? = some v→w.cell? (a.add j)=some v:=by
  unfold World.cells? at h
  split at h
  · have gen:∀(l:List Nat) (cs:List Value),l.mapM (fun i=>w.cell? (a.add i))=some cs→cs.length=l.length∧∀(j:Nat) (v:Value),cs[j]? = some v→∃ i:Nat,l[j]? = some i∧w.cell? (a.add i)=some v:=by
      intro l
      induction l with
      | nil=>intro cs h;simp at h;subst h;simp
      | cons i l ih =>
        intro cs h
        rw[List.mapM_cons] at h
        cases hc:w.cell? (a.add i) with
        | none=>rw[hc] at h;simp at h
        | some u =>
          rw[hc] at h
          cases hr:l.mapM (fun i=>w.cell? (a.add i)) with
          | none=>rw[hr] at h;simp at h
          | some r =>
            rw[hr] at h
            simp at h
            subst h
            obtain⟨h1,h2⟩:=ih r hr
            refine⟨by simp[h1],fun j v hv=>?_⟩
            cases j with
            | zero=>simp at hv;subst hv;exact⟨i,rfl,hc⟩
            | succ j=>simpa using h2 j v (by simpa using hv)
    obtain⟨h1,h2⟩:=gen _ _ h
    refine⟨by simpa using h1,fun j v hv=>?_⟩
    obtain⟨i,hi,hc⟩:=h2 j v hv
    have hj:j<n:=by
      have:=(List.getElem?_eq_some_iff.1 hi).1
      simpa using this
    rw[List.getElem?_range hj] at hi
    injection hi with hi
    subst hi
    exact hc
  · simp at h
theorem collect {α:Type} {R:α→List Value→Prop} {S:Nat→Value→Prop} {sz:Nat} (hs:∀ x c,R x c→c.length=sz):∀(n:Nat),(∀ i,i<n→∃ a c,R a c∧∀ j v,c[j]? = some v→S (i*sz+j) v) →
    ∃ xs cs,xs.length=n∧Reps R xs cs∧∀ j v,cs[j]? = some v→S j v
  | 0,_=>⟨[],[],rfl,rfl,fun j v h=>by simp at h⟩
  | n + 1, h => by
    obtain⟨xs,cs,hl,hr,hc⟩:=collect hs n (fun i hi=>h i (by omega))
    obtain⟨a,c,ha,hac⟩:=h n (by omega)
    refine⟨xs++[a],cs++c,by simp[hl],Reps.append hr (Reps.one ha),fun j v hv=>?_⟩
    have hcl:=Reps.length hs hr
    by_cases hj:j<cs.length
    · rw[List.getElem?_append_left hj] at hv;exact hc j v hv
    · rw [List.getElem?_append_right (by omega)] at hv
      have:=hac (j - cs.length) v hv
      rwa [show n*sz+(j - cs.length)=j by rw[hcl,hl];rw[hcl,hl] at hj;omega] at this
theorem weights_all {H:Type} {P:Program} {e:TypeId} {n:Nat}:∀ {l:List (DataW H)} {d:DataW H},d∈l→n∈d.weights P e→n∈DataW.weightsAll P e l
  | a :: l, d, hd, hn => by
    simp only[DataW.weightsAll,List.mem_append]
    rcases List.mem_cons.1 hd with rfl | h
    · exact .inl hn
    · exact .inr (weights_all h hn)
theorem opens_slice {α:Type} {P:Program} {t e:TypeId} {T:Ty α} (ht:P.underlying t=some (.slice e)) (hsz:P.cellsOf e=T.sz) (hby:P.bytesOf e=T.by_) (h0:0<T.sz) (O:Opens P e T):Opens P t (tSl T):=by
  intro H enc w sp held fuel cs x h hw
  rcases DataW.trod_slice ht h with⟨rfl,rfl⟩ | ⟨a,len,cap,elems,rest,n,rfl,rfl,rfl,hb,hl,hm,hlen,hel,_,_⟩
  · exact⟨[],_,rfl,Rd.nil _ _ _ _ _⟩
  · have hbytes:len*T.by_≤big:=by
      have:=hw ((elems.length+rest.length)*P.bytesOf e) (by simp[DataW.weights,ht])
      rw[hby] at this
      have h2:len*T.by_≤(elems.length+rest.length)*T.by_:=Nat.mul_le_mul_right _ (by omega)
      have h3:=reachBytes_lt
      have h4:(2:Nat) ^ 47=140737488355328:=by decide
      simp only[big];omega
    by_cases hz:len=0
    · subst hz
      exact⟨[],_,rfl,⟨_,cap,rfl,hl,by simp,.inl rfl⟩⟩
    · -- where it lies
      have hplain:∃ b o,a=⟨b,o,none⟩:=by
        have h1:=hel 0 (by omega)
        rw[List.getElem?_eq_getElem (by omega)] at h1
        obtain⟨c,hc,_⟩:=Option.bind_eq_some_iff.1 h1
        obtain⟨hcl,hcc⟩:=cells_some hc
        have hp:0<c.length:=by omega
        have h2:=hcc 0 _ (List.getElem?_eq_getElem hp)
        simp only[Nat.zero_mul] at h2
        have h3:(a.add 0).add 0=a:=by simp[Addr.add]
        rw[h3] at h2
        refine⟨a.block,a.off,?_⟩
        cases hs:a.spot with
        | none=>cases a;simp_all
        | some s =>
          unfold World.cell? at h2
          rw[hs] at h2
          simp only[Option.isSome_some,if_true] at h2
          split at h2 <;> simp at h2
      obtain⟨b,o,rfl⟩:=hplain
      obtain⟨xs,ds,hxl,hxr,hxc⟩:=collect (R:=T.rep (sig0 w) w) (S:=fun j v=>o+j<sig0 w b∧w.cell? ⟨b,o+j,none⟩=some v) (sz:=T.sz) (fun x c hx=>T.len hx) len (fun i hi=>by
        have h1:=hel i hi
        rw[List.getElem?_eq_getElem (by omega)] at h1
        obtain⟨c,hc,hy⟩:=Option.bind_eq_some_iff.1 h1
        obtain⟨hcl,hcc⟩:=cells_some hc
        obtain⟨y,hyr⟩:=O hy (fun m hm=>hw m (by
          simp only[DataW.weights,ht,List.mem_cons,List.mem_append]
          right;left
          exact weights_all (List.mem_map.2 ⟨elems[i],List.getElem_mem _,rfl⟩) hm))
        refine⟨y,c,hyr,fun j v hv=>?_⟩
        have h2:=hcc j v hv
        rw[Addr.add_lit,Addr.add_lit,hsz,Nat.add_assoc] at h2
        exact⟨sig0_lt h2,h2⟩)
      refine⟨xs,_,rfl,_,cap,by rw[hxl],by omega,by rw[hxl];exact hbytes,.inr ⟨b,o,ds,rfl,⟨?_,hxc⟩,hxr⟩⟩
      right
      have hp:0<ds.length:=by
        rw[Reps.length (fun x c hx=>T.len hx) hxr,hxl]
        exact Nat.mul_pos (by omega) h0
      exact World.block_lt_of_cell? w _ (hxc 0 _ (List.getElem?_eq_getElem hp)).2
/-- An argument that is a slice. -/
theorem arg_slice {α:Type} {H:Type} {P:Program} {enc:TypeId × Value→H} {w:World} {sp:Nat→Bool} {held:Bool} {t:TypeId} {T:Ty α} {v:Value} {d:DataW H} {ps:List MemPlace} {ts:List TypeId} {ds:List (DataW H)} {j:Nat} (O:Opens P t (tSl T))
    (h:DataW.Trod enc P w 0 sp held t v d ps) (hv:v.oneCell'=true) (hsz:(DataW.weightsEach P ts ds).all (·≤reachBytes)=true) (ht:ts[j]? = some t) (hd:ds[j]? = some d):∃ xs,Rd T (sig0 w) w v xs:=by
  obtain⟨fuel,hf⟩:=h
  obtain⟨xs,u,hu,hr⟩:=O hf (fun n hn=>by
    have:=List.all_eq_true.1 hsz n (DataW.weights_mem_each ht hd n hn)
    simpa using this)
  have:v.cells.toList=[v]:=by cases v <;> first | rfl | (simp[Value.oneCell'] at hv)
  rw[this] at hu
  injection hu with hu _
  subst hu
  exact⟨xs,hr⟩
theorem u8_add (a b:UInt8):IntKind.u8.wrap ((a.toNat:Int)+(b.toNat:Int))=((a+b).toNat:Int):=by
  rw[wrap_u rfl,UInt8.toNat_add]
  show _ % (2 ^ 8:Int)=_
  omega
theorem u8_sub (a b:UInt8):IntKind.u8.wrap ((a.toNat:Int) - (b.toNat:Int))=((a - b).toNat:Int):=by
  rw[wrap_u rfl,UInt8.toNat_sub]
  have:=a.toNat_lt
  have:=b.toNat_lt
  show _ % (2 ^ 8:Int)=_
  omega
theorem u8_mul (a b:UInt8):IntKind.u8.wrap ((a.toNat:Int)*(b.toNat:Int))=((a*b).toNat:Int):=by
  rw[wrap_u rfl,UInt8.toNat_mul]
  show _ % (2 ^ 8:Int)=_
  rw[← Int.natCast_mul]
  have h:(2 ^ 8:Int)=((2 ^ 8:Nat):Int):=by decide
  rw[h]
  exact(Int.natCast_emod _ _).symm
theorem u8_rem (a b:UInt8) (hb:b.toNat≠0):Int.tmod (a.toNat:Int) (b.toNat:Int)=((a % b).toNat:Int):=by
  rw[UInt8.toNat_mod]
  exact(Int.ofNat_tmod _ _).symm
theorem u8_quo (a b:UInt8) (hb:b.toNat≠0):IntKind.u8.wrap (Int.tdiv (a.toNat:Int) (b.toNat:Int))=((a / b).toNat:Int):=by
  rw[wrap_u rfl,UInt8.toNat_div]
  have h1:Int.tdiv (a.toNat:Int) (b.toNat:Int)=((a.toNat / b.toNat:Nat):Int):=(Int.ofNat_tdiv _ _).symm
  rw[h1]
  show _ % (2 ^ 8:Int)=_
  have h3:=a.toNat_lt
  have h2:a.toNat / b.toNat≤a.toNat:=Nat.div_le_self _ _
  generalize a.toNat / b.toNat=q at *
  omega
theorem weights_each {H:Type} {P:Program} {m:Nat}:∀ {ts:List TypeId} {ds:List (DataW H)} {i:Nat} {t:TypeId} {d:DataW H},ts[i]? = some t→ds[i]? = some d→m∈d.weights P t→m∈DataW.weightsEach P ts ds
  | [],_,i,t,d,h,_,_=>by simp at h
  | _::_,[],i,t,d,_,h,_=>by simp at h
  | u :: ts, e :: ds, 0, t, d, h1, h2, h => by
    simp only[List.getElem?_cons_zero,Option.some.injEq] at h1 h2
    subst h1;subst h2
    simp only[DataW.weightsEach,List.mem_append]
    exact .inl h
  | u :: ts, e :: ds, i + 1, t, d, h1, h2, h => by
    simp only[List.getElem?_cons_succ] at h1 h2
    simp only[DataW.weightsEach,List.mem_append]
    exact .inr (weights_each h1 h2 h)
theorem opens_field {P:Program} {t:TypeId} {fs:Array Field} (ht:P.underlying t=some (.struct fs)) {H:Type} {enc:TypeId × Value→H} {w:World} {sp:Nat→Bool} {held:Bool} {fuel:Nat} {cs:List Value} {x:DataW H × List MemPlace}
    (h:DataW.trod enc P w 0 sp held fuel t cs=some x) (hw:∀ n∈x.1.weights P t,n≤reachBytes) :
    cs.length=P.cellsOf t∧∀(i:Nat) (f:Field),fs[i]? = some f→∀ {α:Type} {T:Ty α},Opens P f.type T→∀ off sz,f.offset=off→P.cellsOf f.type=sz→∃ a,T.rep (sig0 w) w a ((cs.drop off).take sz):=by
  obtain⟨xs,n,_,rfl,hl,hlen,hf⟩:=DataW.trod_struct ht h
  refine⟨hl,fun i f hi α T O off sz ho hs=>?_⟩
  subst ho;subst hs
  have h1:=hf i f hi
  have hlt:i<xs.length:=by
    rw[hlen]
    exact(Array.getElem?_eq_some_iff.1 hi).1
  rw[List.getElem?_eq_getElem hlt] at h1
  refine O h1 fun m hm=>hw m ?_
  simp only[DataW.weights,ht]
  refine weights_each (i:=i) (t:=f.type) (d:=(xs[i]).1) ?_ ?_ hm
  · rw[List.getElem?_map,Array.getElem?_toList,hi];rfl
  · rw[List.getElem?_map,List.getElem?_eq_getElem hlt];rfl
section
variable {α β:Type} [DecidableEq α]
end
/-- A map's own block, and what it holds. -/
def Mp {α β:Type} (w:World) (b:Nat) (enc:α→Value) (ev:β→Value) (l:List (α × β)):Prop :=
  ∃ es clock,w.heap[b]? = some (.map es clock)∧es.toList.map (fun e=>(e.key,e.val))=l.map (fun p=>(enc p.1,ev p.2))
section
variable {α β:Type} {M:Nat→Prop} {σ σ1:Nat→Nat} {w w1:World} {b:Nat} {enc:α→Value} {ev:β→Value} {l:List (α × β)}
theorem Mp.lt (h:Mp w b enc ev l):b<w.heap.size:=by
  obtain⟨es,c,h,_⟩:=h
  exact(Array.getElem?_eq_some_iff.1 h).1
theorem Mp.step (h:Mp w b enc ev l) (s:Stp M σ w σ1 w1) (hM:¬ M b):Mp w1 b enc ev l:=by
  have hlt:=h.lt
  obtain⟨es,c,h,hl⟩:=h
  exact⟨es,c,(s.block b hlt hM).trans h,hl⟩
theorem Mp.step' (h:Mp w b enc ev l) (s:Stp noM σ w σ1 w1):Mp w1 b enc ev l:=h.step s id
theorem Mp.new (w:World) (enc:α→Value) (ev:β→Value):Mp (w.alloc (.map #[] 0)) w.heap.size enc ev [] :=
  ⟨#[],0,heap_alloc_new w _,rfl⟩
end
section
variable {P:Program} {α β:Type} [DecidableEq α] {enc:α→Value} {ev:β→Value} {w:World} {b:Nat} {m:List (α × β)} {σ:Nat→Nat}
end
section
variable {P:Program} {ops:Array Oper} {Q:Exit→Act→World→Prop} {Kp:Act→World→Prop} {n i:Nat} {l l':Sl} {a:Act} {w w':World} {M:Nat→Prop} {σ:Nat→Nat}
end
section
variable {P:Program} {Q:Exit→Act→World→Prop} {a:Act} {w:World} {C:Code} {p:List Nat} {n:Nat} {l:Sl}
def regId:Code→Nat
  | .region id _ _=>id
  | _=>0
theorem q_seq (k:(sub C (p++[0])).wp P (Exit.then ((sub C (p++[1])).wp P Q) Q) a w) (h:sub C p=.seq (sub C (p++[0])) (sub C (p++[1])):=by kernel_rfl):(sub C p).wp P Q a w:=c_seq _ _ h k
theorem q_block (id:Nat) (k:(sub C (p++[0])).wp P (Exit.inBlock id Q) a w) (h:sub C p=.block id (sub C (p++[0])):=by kernel_rfl):(sub C p).wp P Q a w:=c_block _ id h k
theorem q_skip (k:Q .normal a w) (h:sub C p=.skip:=by kernel_rfl):(sub C p).wp P Q a w:=c_skip h k
theorem q_ret (k:Q .ret a w) (h:sub C p=.ret:=by kernel_rfl):(sub C p).wp P Q a w:=c_ret h k
theorem q_exit (id:Nat) (k:Q (.exit id) a w) (h:sub C p=.exit id:=by kernel_rfl):(sub C p).wp P Q a w:=c_exit id h k
theorem q_reg (k:wpAt P (opsOf (sub C p)) Q 0 a w) (h:sub C p=.region (regId (sub C p)) (opsOf (sub C p)) false:=by kernel_rfl):(sub C p).wp P Q a w:=c_reg _ h k
theorem q_cond (t:Nat) (hF:Fr a n l) (b:Bool) (k1:b=true→(sub C (p++[0])).wp P Q a w) (k2:b=false→(sub C (p++[1])).wp P Q a w)
    (h:sub C p=.cond (.tmp t) (sub C (p++[0])) (sub C (p++[1])):=by kernel_rfl) (hl:l.lookup t=some (.bool b):=by kernel_rfl):(sub C p).wp P Q a w:=c_cond _ _ t h hF b hl k1 k2
theorem q_true (t:Nat) (hF:Fr a n l) (k:(sub C (p++[0])).wp P Q a w)
    (h:sub C p=.cond (.tmp t) (sub C (p++[0])) (sub C (p++[1])):=by kernel_rfl) (hl:l.lookup t=some (.bool true):=by kernel_rfl):(sub C p).wp P Q a w:=c_cond_true _ _ t h hF hl k
theorem q_false (t:Nat) (hF:Fr a n l) (k:(sub C (p++[1])).wp P Q a w)
    (h:sub C p=.cond (.tmp t) (sub C (p++[0])) (sub C (p++[1])):=by kernel_rfl) (hl:l.lookup t=some (.bool false):=by kernel_rfl):(sub C p).wp P Q a w:=c_cond_false _ _ t h hF hl k
theorem q_loop {ι:Type} (I:ι→Act→World→Prop) (μ:ι→Nat) (i0:ι) (h0:I i0 a w)
    (round:∀ i a w,I i a w→(sub C (p++[0])).wp P (Exit.then (fun a' w'=>∃ j,I j a' w'∧μ j<μ i) Q) a w) (h:sub C p=.loop (sub C (p++[0])):=by kernel_rfl):(sub C p).wp P Q a w:=c_loop _ h I μ i0 h0 round
end
section
variable {P:Program} {ops:Array Oper} {Q:Exit→Act→World→Prop} {Kp:Act→World→Prop} {n i:Nat} {l l':Sl} {a:Act} {w w':World} {C:Code} {M:Nat→Prop} {σ:Nat→Nat} {r:List (Nat × Bool)}
theorem q_end (k:Q .normal a w) (h:ops.size=i:=by kernel_rfl):wpAt P ops Q i a w:=r_end h k
theorem q_run (k:Nat) (new:Sl) (hF:Fr a n l) (K:∀ a',Fr a' n (new++l)→wpAt P ops Q (i+k) a' w) (hc:(allLt n l && ((ops.toList.drop i).take k).all (dstOk n))=true:=by kernel_rfl)
    (hr:(runAll ops ((ops.toList.drop i).take k) l).run P w=.ok (new++l) w:=by kernel_rfl):wpAt P ops Q i a w:=r_run k hF hc hr K
theorem q_one (d:Nat) {v0 v:Value} (e:v0=v) (hF:Fr a n l) (K:∀ a',Fr a' n ((d,v)::l)→wpAt P ops Q (i+1) a' w) (hc:(allLt n l && ((ops.toList.drop i).take 1).all (dstOk n))=true:=by kernel_rfl)
    (hr:(runAll ops ((ops.toList.drop i).take 1) l).run P w=.ok ((d,v0)::l) w:=by kernel_rfl):wpAt P ops Q i a w:=r_one hF hc hr e K
theorem q_val (d:Nat) (op:Op) (hF:Fr a n l) (v:Value) (hr:∀ o:Oper,o.op=op→(execOp (evl l) o).run P w=.ok (.value v) w) (K:∀ a',Fr a' n ((d,v)::l)→Kp a' w)
    (ho:(ops[i]?).map (fun o=>(o.dst,o.op))=some (some d,op):=by kernel_rfl) (hk:okAt ops i n l=true:=by kernel_rfl):wpOp P ops Q i Kp a w:=r_val hF ho hk v w hr K
theorem q_loadS (d:Nat) (x:Operand) {t:TypeId} {agg:Bool} {m b o:Nat} {all:List Value} (L:Lay P t agg m) (hF:Fr a n l) (h:Seg σ w b o all) (k:Nat) (K:∀ a',Fr a' n ((d,vOf agg ((all.drop k).take m))::l)→Kp a' w)
    (ho:(ops[i]?).map (fun o=>(o.dst,o.op))=some (some d,.load t x):=by kernel_rfl) (hk:okAt ops i n l=true:=by kernel_rfl) (hx:evl l x=.pointer (some ⟨b,o+k,none⟩):=by kernel_rfl)
    (hm:((all.drop k).take m).length=m:=by kernel_rfl) (ha:(agg || m == 1)=true:=by kernel_rfl):wpOp P ops Q i Kp a w :=
  r_val hF ho hk _ w (exec_load (cs:=(all.drop k).take m) (by rw[hm];exact L) (by rw[hm];simpa using ha) hx (h.sub k m _ rfl).cell) K
theorem q_new (d:Nat) (op:Op) (hF:Fr a n l) (σ:Nat→Nat) (cs:List Value) (e:TypeId)
    (hr:∀ o:Oper,o.op=op→(execOp (evl l) o).run P w=.ok (.value (.pointer (some ⟨w.heap.size,0,none⟩))) (w.alloc (.cells cs.toArray e)))
    (K:∀ a' σ' w' b,b=w.heap.size→Stp noM σ w σ' w'→Bx σ' w' b cs e→Fr a' n ((d,.pointer (some ⟨b,0,none⟩))::l)→Kp a' w')
    (ho:(ops[i]?).map (fun o=>(o.dst,o.op))=some (some d,op):=by kernel_rfl) (hk:okAt ops i n l=true:=by kernel_rfl):wpOp P ops Q i Kp a w:=r_new hF ho hk σ cs e hr K
theorem q_store {t:TypeId} (x y:Operand) (hF:Fr a n l) {b:Nat} {old:List Value} {e:TypeId} (hB:Bx σ w b old e) (off:Nat) (new:List Value) (k:Nat) {agg:Bool} (L:Lay P t agg k)
    (K:∀ a' w',Stp (· = b) σ w σ w'→Bx σ w' b new e→Fr a' n l→Kp a' w')
    (ho:(ops[i]?).map (fun o=>(o.dst,o.op))=some (none,.store t x y):=by kernel_rfl) (hk:okAt ops i n l=true:=by kernel_rfl)
    (hx:evl l x=.pointer (some ⟨b,off,none⟩):=by kernel_rfl) (hkl:(evl l y).cells.toList.length=k:=by kernel_rfl) (h1:(evl l y).cells.toList.all (·.oneCell')=true:=by kernel_rfl) (hfit:Nat.ble (off+(evl l y).cells.toList.length) old.length=true:=by kernel_rfl)
    (hnew:old.take off++(evl l y).cells.toList++old.drop (off+(evl l y).cells.toList.length)=new:=by kernel_rfl):wpOp P ops Q i Kp a w :=
  r_store hF ho hk hB off _ new hx rfl k agg L hkl h1 (Nat.le_of_ble_eq_true hfit) hnew K
theorem q_call (d:Option Nat) {f:FuncId} (args:Array Operand) (tys:Array TypeId) (hF:Fr a n l) (hf:callable P f=true) (vs:List Value) {Post:(Nat→Nat)→World→Value→Prop} (hc:Ctr P f vs M σ w Post)
    (K:∀ a' σ' w' v,Stp M σ w σ' w'→Post σ' w' v→Fr a' n (putS d v l)→Kp a' w')
    (ho:(ops[i]?).map (fun o=>(o.dst,o.op))=some (d,.call ⟨.value (.func f),args,tys⟩):=by kernel_rfl) (hk:okAt ops i n l=true:=by kernel_rfl) (hv:(args.map (evl l)).toList=vs:=by kernel_rfl):wpOp P ops Q i Kp a w :=
  r_call hF ho hk hf vs hv hc K
theorem q_app {α:Type} (T:Ty α) {t e:TypeId} {z:Value} (S:SlT P t e T.sz T.by_ z) (d:Nat) (x y:Operand) (hF:Fr a n l) {B:Nat} {v u:Value} {xs ys:List α} (hO:Own T e B σ w v xs) (hR:Rd T σ w u ys) (hb:(xs.length+ys.length)*T.by_≤140737488355328) (hm:xs.length+ys.length≤140737488355328) (hB:B≤w.heap.size)
    (K:∀ a' σ' w' v',Stp (fun b=>v.ownBlock=some b) σ w σ' w'→Own T e B σ' w' v' (xs++ys)→(∀ b,b<w.heap.size→v'.ownBlock=some b→v.ownBlock=some b)→Fr a' n ((d,v')::l)→Kp a' w')
    (ho:(ops[i]?).map (fun o=>(o.dst,o.op))=some (some d,.call ⟨.builtin .append,#[x,y],#[t,t]⟩):=by kernel_rfl) (hk:okAt ops i n l=true:=by kernel_rfl) (hx:evl l x=v:=by kernel_rfl) (hy:evl l y=u:=by kernel_rfl):wpOp P ops Q i Kp a w :=
  r_append T S hF ho hk hx hy hO hR hb hm hB K
theorem q_lit {α:Type} (T:Ty α) (d t e m:Nat) (parts:Array (Nat × Operand)) (hF:Fr a n l) (σ:Nat→Nat) (xs:List α) (cs:List Value) (hr:Reps (T.rep σ w) xs cs)
    (hrun:∀ o:Oper,o.op=.buildSlice t m parts→(execOp (evl l) o).run P w=.ok (.value (.slice (some ⟨w.heap.size,0,none⟩) m m)) (w.alloc (.cells cs.toArray e)))
    (K:∀ a' σ' w' g,g=w.heap.size→Stp noM σ w σ' w'→Own T e g σ' w' (.slice (some ⟨g,0,none⟩) m m) xs→Fr a' n ((d,.slice (some ⟨g,0,none⟩) m m)::l)→Kp a' w')
    (ho:(ops[i]?).map (fun o=>(o.dst,o.op))=some (some d,.buildSlice t m parts):=by kernel_rfl) (hk:okAt ops i n l=true:=by kernel_rfl) (hm:xs.length=m:=by kernel_rfl) (hb:Nat.ble (m*T.by_) big=true:=by kernel_rfl) (hmm:Nat.ble m maxLen=true:=by kernel_rfl):wpOp P ops Q i Kp a w :=
  r_lit T hF ho hk σ xs cs hr hm (Nat.le_of_ble_eq_true hb) hrun (Nat.le_of_ble_eq_true hmm) K
theorem q_prun {d:Nat} (v:Value) (hF:Fr a n l) (K:∀ a',Fr a' n ((d,v)::l)→wpPlan P ops Q M r σ a' w)
    (hc:(allLt n l && ((ops.toList.drop i).take 1).all (fun o=>dstOk n o && o.dst == some d))=true:=by kernel_rfl) (hr:∀ w',(runAll ops ((ops.toList.drop i).take 1) l).run P w'=.ok ((d,v)::l) w':=by intro _;kernel_rfl)
    (hQ:∀ c a w,Q (.panic c) (a.put (some d) v) w→Q (.panic c) a w:=by exact fun _ _ _ h=>h):wpPlan P ops Q M ((i,true)::r) σ a w:=p_run hF hc hr hQ K
theorem q_pval (d:Nat) (op:Op) (v:Value) (hF:Fr a n l) (hv:∀ w',Since M σ w w'→∀ o:Oper,o.op=op→(execOp (evl l) o).run P w'=.ok (.value v) w')
    (K:∀ a',Fr a' n ((d,v)::l)→wpPlan P ops Q M r σ a' w)
    (ho:(ops[i]?).map (fun o=>(o.dst,o.op))=some (some d,op):=by kernel_rfl) (hk:okAt ops i n l=true:=by kernel_rfl)
    (hQ:∀ c a w,Q (.panic c) (a.put (some d) v) w→Q (.panic c) a w:=by exact fun _ _ _ h=>h):wpPlan P ops Q M ((i,true)::r) σ a w:=p_val hF ho hk hv hQ K
end
theorem Own.nb {α:Type} {T:Ty α} {e:TypeId} {B:Nat} {σ:Nat→Nat} {w:World} {v:Value} {xs:List α} {b:Nat} (h:Own T e B σ w v xs) (hb:b=w.heap.size):¬ v.ownBlock=some b:=fun e=>by
  have:=h.lt e;omega
theorem Own.gb {α:Type} {T:Ty α} {e:TypeId} {B:Nat} {σ:Nat→Nat} {w:World} {v:Value} {xs:List α} {b:Nat} (h:Own T e B σ w v xs) (hb:b<B):¬ v.ownBlock=some b:=fun e=>by
  have:=h.ge e;omega
theorem Own.gg {α β:Type} {T:Ty α} {T':Ty β} {e e':TypeId} {B B':Nat} {σ σ':Nat→Nat} {w w':World} {v u:Value} {xs:List α} {ys:List β} (h:Own T e B σ w v xs) (k:Own T' e' B' σ' w' u ys) (hb:w'.heap.size≤B):∀ g,u.ownBlock=some g→¬ v.ownBlock=some g:=fun g hg e=>by
  have:=h.ge e;have:=k.lt hg;omega
theorem Bx.nl {σ:Nat→Nat} {w:World} {c:Nat} {cs:List Value} {e:TypeId} {b:Nat} (h:Bx σ w c cs e) (hb:b=w.heap.size):c<b:=by have:=h.lt;omega
theorem Mp.nl {α β:Type} {w:World} {c:Nat} {enc:α→Value} {ev:β→Value} {m:List (α × β)} {b:Nat} (h:Mp w c enc ev m) (hb:b=w.heap.size):c<b:=by have:=h.lt;omega
section
variable {P:Program} {ops:Array Oper} {Q:Exit→Act→World→Prop} {Kp:Act→World→Prop} {n i:Nat} {l l':Sl} {a:Act} {w w':World} {C:Code} {M:Nat→Prop} {σ:Nat→Nat} {r:List (Nat × Bool)}
theorem exec_indexP {t e:TypeId} {x y:Operand} {N b off:Nat} (hx:evl l x=.pointer (some ⟨b,off,none⟩)) {kd:IntKind} (j:Nat) (hy:evl l y=.int kd (j:Int)) (hj:j<N) (k:Nat)
    (hu:P.underlying t=some (.array N e)) (hs:∀ w,(sizeOf e).run P w=.ok k w):∀ o:Oper,o.op=.indexAddr t x y→(execOp (evl l) o).run P w=.ok (.value (.pointer (some ⟨b,off+j*k,none⟩))) w:=by
  intro op hop
  have h0:(0:Int)≤(j:Int):=by omega
  have h1:(j:Int)<((N:Nat):Int):=by omega
  simp only[execOp,hop,hx,hy,Instr.indexAt,Instr.sureAddr,asIntOf,Sem.run_bind,Sem.run_pure,Result.andThen_ok,run_underlying hu,h0,h1,and_self,if_true,hs,Int.toNat_natCast,Addr.add_lit]
theorem Bx.elem {b:Nat} {e:TypeId} {α:Type} {f:α→Value} {xs:List α} (h:Bx σ w b (xs.map f) e) (j:Nat) (hj:j<xs.length):∀ q v,[f (xs[j]'hj)][q]? = some v→w.cell? ⟨b,j+q,none⟩=some v:=by
  intro q v hv
  cases q with
  | zero =>
    simp only[List.getElem?_cons_zero,Option.some.injEq] at hv
    subst hv
    rw[Nat.add_zero,h.cell,List.getElem?_map,List.getElem?_eq_getElem hj];rfl
  | succ q=>simp at hv
theorem q_storeA {α:Type} (f:α→Value) {t:TypeId} (x y:Operand) (hF:Fr a n l) {b:Nat} {xs:List α} {e:TypeId} (hB:Bx σ w b (xs.map f) e) (j:Nat) (hj:j<xs.length) (v:α) (L:Lay P t false 1)
    (K:∀ a' w',Stp (· = b) σ w σ w'→Bx σ w' b ((xs.set j v).map f) e→Fr a' n l→Kp a' w')
    (ho:(ops[i]?).map (fun o=>(o.dst,o.op))=some (none,.store t x y):=by kernel_rfl) (hk:okAt ops i n l=true:=by kernel_rfl)
    (hx:evl l x=.pointer (some ⟨b,j,none⟩):=by kernel_rfl) (hy:(evl l y).cells.toList=[f v]:=by kernel_rfl) (h1:(f v).oneCell'=true:=by kernel_rfl):wpOp P ops Q i Kp a w :=
  r_store hF ho hk hB j [f v] _ hx hy 1 false L rfl (by simp[h1]) (by simp;omega) (by
    rw[List.map_set]
    simp only[List.length_cons,List.length_nil,Nat.zero_add]
    rw[List.append_assoc,List.singleton_append,List.set_eq_take_append_cons_drop,if_pos (by simpa using hj)]) K
/-- All of it, as a value. -/
theorem exec_loadAll {α:Type} (f:α→Value) {t:TypeId} {x:Operand} {m b:Nat} {xs:List α} {e:TypeId} (L:Lay P t true m) (h:Bx σ w b (xs.map f) e) (hl:xs.length=m) (hx:evl l x=.pointer (some ⟨b,0,none⟩)) :
    ∀ op:Oper,op.op=.load t x→(execOp (evl l) op).run P w=.ok (.value (.agg (xs.map f).toArray)) w :=
  exec_load (cs:=xs.map f) (b:=b) (o:=0) (by rw[List.length_map,hl];exact L) (.inl rfl) hx (fun j v hv=>by rw[Nat.zero_add,h.cell];exact hv)
end
/-- Published: a piece of an array is a slice that is read. -/
theorem Bx.rd {α:Type} {T:Ty α} {σ:Nat→Nat} {w:World} {b:Nat} {xs:List α} {cs:List Value} {e:TypeId} (hr:∀ σ,Reps (T.rep σ w) xs cs) (h:Bx σ w b cs e) (hb:xs.length*T.by_≤big) (hs:cs.length=xs.length*T.sz) :
    Stp (· = b) σ w (upd σ b cs.length) w∧Rd T (upd σ b cs.length) w (.slice (some ⟨b,0,none⟩) xs.length xs.length) xs:=by
  obtain⟨h1,h2⟩:=h.publish
  exact⟨h1,_,_,rfl,Nat.le_refl _,hb,.inr ⟨b,0,cs,rfl,h2,hr _⟩⟩
theorem two32:(2 ^ 32:Int)=4294967296:=by decide
theorem two32n:(2 ^ 32:Nat)=4294967296:=by decide
theorem wrap32 (x:Int):IntKind.u32.wrap x=x % 4294967296:=by
  rw[wrap_u rfl]
  show x % (2 ^ 32:Int)=_
  rw[two32]
theorem u32_add (a b:UInt32):IntKind.u32.wrap ((a.toNat:Int)+(b.toNat:Int))=((a+b).toNat:Int):=by
  rw[wrap32,UInt32.toNat_add,two32n];omega
theorem u32_sub (a b:UInt32):IntKind.u32.wrap ((a.toNat:Int) - (b.toNat:Int))=((a - b).toNat:Int):=by
  have:=a.toNat_lt
  have:=b.toNat_lt
  rw[wrap32,UInt32.toNat_sub,two32n];omega
theorem ofInt_u32 (a:UInt32):BitVec.ofInt 32 (a.toNat:Int)=a.toBitVec:=by
  apply BitVec.eq_of_toNat_eq
  rw[BitVec.toNat_ofInt]
  have:=a.toNat_lt
  show((a.toNat:Int) % ((2 ^ 32:Nat):Int)).toNat=a.toNat
  rw[two32n] at *
  omega
theorem wrap_u32 (a:UInt32):IntKind.u32.wrap ((a.toBitVec.toNat:Nat):Int)=(a.toNat:Int):=by
  have:=a.toNat_lt
  rw[wrap32]
  show((a.toNat:Nat):Int) % 4294967296=_
  rw[two32n] at this
  omega
theorem u32_or (a b:UInt32):IntKind.u32.wrap ((BitVec.ofInt 32 (a.toNat:Int) ||| BitVec.ofInt 32 (b.toNat:Int)).toNat:Int)=((a ||| b).toNat:Int):=by
  rw[ofInt_u32,ofInt_u32];exact wrap_u32 (a ||| b)
theorem u32_and (a b:UInt32):IntKind.u32.wrap ((BitVec.ofInt 32 (a.toNat:Int) &&& BitVec.ofInt 32 (b.toNat:Int)).toNat:Int)=((a &&& b).toNat:Int):=by
  rw[ofInt_u32,ofInt_u32];exact wrap_u32 (a &&& b)
theorem u32_xor (a b:UInt32):IntKind.u32.wrap ((BitVec.ofInt 32 (a.toNat:Int) ^^^ BitVec.ofInt 32 (b.toNat:Int)).toNat:Int)=((a ^^^ b).toNat:Int):=by
  rw[ofInt_u32,ofInt_u32];exact wrap_u32 (a ^^^ b)
theorem u32_not (a:UInt32):IntKind.u32.wrap ((BitVec.ofInt 32 IntKind.u32.max ^^^ BitVec.ofInt 32 (a.toNat:Int)).toNat:Int)=((~~~a).toNat:Int):=by
  have h:BitVec.ofInt 32 IntKind.u32.max=(4294967295:UInt32).toBitVec:=by decide
  rw[h,ofInt_u32]
  have:(4294967295:UInt32).toBitVec ^^^ a.toBitVec=(~~~a).toBitVec:=by
    apply BitVec.eq_of_getLsbD_eq
    intro i hi
    have h2:(4294967295:UInt32).toBitVec=BitVec.allOnes 32:=by decide
    rw[h2,UInt32.toBitVec_not,BitVec.getLsbD_xor,BitVec.getLsbD_not,BitVec.getLsbD_allOnes]
    simp only[hi,decide_true,Bool.true_xor,Bool.true_and]
  rw[this]
  exact wrap_u32 (~~~a)
theorem u32_shl (x:UInt32) (m:Nat) (hm:m<32):IntKind.u32.wrap ((x.toNat:Int)*(2 ^ (min (Int.toNat (m:Int)) 32)))=((x <<< m.toUInt32).toNat:Int):=by
  have h0:min (Int.toNat (m:Int)) 32=m:=by omega
  rw[h0,UInt32.toNat_shiftLeft,wrap32]
  have h1:m.toUInt32.toNat % 32=m:=by
    have:m.toUInt32.toNat=m:=by
      show(UInt32.ofNat m).toNat=m
      rw[UInt32.toNat_ofNat',two32n];omega
    rw[this];omega
  rw[h1,Nat.shiftLeft_eq]
  have h2:(2 ^ m:Int)=((2 ^ m:Nat):Int):=by rw[Int.natCast_pow];rfl
  rw[h2,← Int.natCast_mul,two32n]
  exact(Int.natCast_emod _ _).symm
theorem u32_shr (x:UInt32) (m:Nat) (hm:m<32):Int.fdiv (x.toNat:Int) (2 ^ (min (Int.toNat (m:Int)) 32))=((x >>> m.toUInt32).toNat:Int):=by
  have h0:min (Int.toNat (m:Int)) 32=m:=by omega
  rw[h0,UInt32.toNat_shiftRight]
  have h1:m.toUInt32.toNat % 32=m:=by
    have:m.toUInt32.toNat=m:=by
      show(UInt32.ofNat m).toNat=m
      rw[UInt32.toNat_ofNat',two32n];omega
    rw[this];omega
  rw[h1,Nat.shiftRight_eq_div_pow]
  have h2:(2 ^ m:Int)=((2 ^ m:Nat):Int):=by rw[Int.natCast_pow];rfl
  rw[h2,Int.fdiv_eq_ediv_of_nonneg _ (Int.natCast_nonneg _)]
  exact(Int.natCast_ediv _ _).symm
theorem exec_shl32 {P:Program} {w:World} {l:Sl} {x y:Operand} {t u:TypeId} {n:UInt32} {k:IntKind} {s:Int} (hx:evl l x=wv n) (hy:evl l y=.int k s) (h0:0≤s) (h1:s<32) (m:Nat) (hm:s.toNat=m) :
    ∀ o:Oper,o.op=.binOp .shl t x y u→(execOp (evl l) o).run P w=.ok (.value (wv (n <<< m.toUInt32))) w:=by
  intro o e
  subst hm
  have hn:¬ s<0:=by omega
  have h2:=u32_shl n s.toNat (by omega)
  rw[Int.toNat_natCast] at h2
  simp only[execOp,e,hx,hy,eqGuard,binOp,Op.shift,hn,if_false,Sem.run_bind,Sem.run_pure,Result.andThen_ok]
  show Result.ok (Next.value (Value.int .u32 (IntKind.u32.wrap ((n.toNat:Int)*(2 ^ (min s.toNat 32)))))) w=_
  rw[h2]
theorem exec_shr32 {P:Program} {w:World} {l:Sl} {x y:Operand} {t u:TypeId} {n:UInt32} {k:IntKind} {s:Int} (hx:evl l x=wv n) (hy:evl l y=.int k s) (h0:0≤s) (h1:s<32) (m:Nat) (hm:s.toNat=m) :
    ∀ o:Oper,o.op=.binOp .shr t x y u→(execOp (evl l) o).run P w=.ok (.value (wv (n >>> m.toUInt32))) w:=by
  intro o e
  subst hm
  have hn:¬ s<0:=by omega
  have h2:=u32_shr n s.toNat (by omega)
  rw[Int.toNat_natCast] at h2
  simp only[execOp,e,hx,hy,eqGuard,binOp,Op.shift,hn,if_false,Sem.run_bind,Sem.run_pure,Result.andThen_ok]
  show Result.ok (Next.value (Value.int .u32 (Int.fdiv (n.toNat:Int) (2 ^ (min s.toNat 32))))) w=_
  rw[h2]
def rotl (x:UInt32) (k:Int):UInt32:=x <<< (ofI k &&& 31).toNat.toUInt32 ||| x >>> (32 - (ofI k &&& 31)).toNat.toUInt32
theorem getD_of {α:Type} (xs:List α) (z:α) {j:Nat} (h:j<xs.length):xs.getD j z=xs[j]:=by
  rw[List.getD_eq_getElem?_getD,List.getElem?_eq_getElem h];rfl
section
variable {P:Program} {ops:Array Oper} {Q:Exit→Act→World→Prop} {Kp:Act→World→Prop} {n i:Nat} {l l':Sl} {a:Act} {w w':World} {C:Code} {M:Nat→Prop} {σ:Nat→Nat}
theorem exec_indexP1 {t e:TypeId} {x y:Operand} {N b:Nat} (hx:evl l x=.pointer (some ⟨b,0,none⟩)) {kd:IntKind} (j:Nat) (hy:evl l y=.int kd (j:Int)) (hj:j<N)
    (hu:P.underlying t=some (.array N e)) (hs:∀ w,(sizeOf e).run P w=.ok 1 w):∀ o:Oper,o.op=.indexAddr t x y→(execOp (evl l) o).run P w=.ok (.value (.pointer (some ⟨b,j,none⟩))) w:=by
  intro o e
  have h:=exec_indexP (w:=w) (P:=P) hx j hy hj 1 hu hs o e
  rw[Nat.mul_one,Nat.zero_add] at h
  exact h
theorem Bx.elemG {b:Nat} {e:TypeId} {α:Type} {f:α→Value} {xs:List α} (h:Bx σ w b (xs.map f) e) (z:α) (j:Nat) (hj:j<xs.length):∀ q v,[f (xs.getD j z)][q]? = some v→w.cell? ⟨b,j+q,none⟩=some v:=by
  have:=h.elem j hj
  rw[getD_of xs z hj]
  exact this
theorem exec_indexV {α:Type} (f:α→Value) (z:α) {t e:TypeId} {x y:Operand} {N:Nat} {xs:List α} (hx:evl l x=.agg (xs.map f).toArray) {kd:IntKind} (j:Nat) (hy:evl l y=.int kd (j:Int)) (hj:j<N) (hN:xs.length=N)
    (hu:P.underlying t=some (.array N e)) (L:Lay P e false 1):∀ o:Oper,o.op=.index t x y→(execOp (evl l) o).run P w=.ok (.value (f (xs.getD j z))) w:=by
  intro o he
  have h0:(0:Int)≤(j:Int):=by omega
  have h1:(j:Int)<((N:Nat):Int):=by omega
  have hjx:j<xs.length:=by omega
  simp only[execOp,he,hx,hy,Instr.index,asIntOf,Sem.run_bind,Sem.run_pure,Result.andThen_ok,run_underlying hu,h0,h1,and_self,if_true,L.s,Int.toNat_natCast,Nat.mul_one]
  simp only[part,Sem.run_bind,L.a,Result.andThen_ok,Bool.false_eq_true,if_false]
  have hg:(List.map f xs).toArray[j]? = some (f (xs.getD j z)):=by
    rw[getD_of xs z hjx]
    simp[hjx]
  rw[hg]
  rfl
end
/-- What is listed is listed with all that it waits for. -/
def Cl (ops:Array Oper) (m:Nat):Prop:=∀ k o,ops[k]? = some o→m.testBit k=true→∀ t∈presOf o,m.testBit t=true
def LastOf (ops:Array Oper) (L:Nat):Prop:=∀ m oL,ops[L]? = some oL→Cl ops m→(∀ t∈presOf oL,m.testBit t=true)→∀ k,k<ops.size→k≠L→m.testBit k=true
def growM:List OI→Nat→Nat→Nat
  | [],_,_=>0
  | x::I,k,m=>(if m.testBit k then x.1 else 0) ||| growM I (k+1) m
def closeM (I:List OI):Nat→Nat→Nat
  | 0,m=>m
  | n+1,m=>closeM I n (m ||| growM I 0 m)
def lastOk (I:List OI) (L n:Nat):Bool :=
  match I[L]? with
  | none=>false
  | some x=>allIdx (fun k _=>k == L || (closeM I n x.1).testBit k) I 0
theorem growM_bit {t m:Nat}:∀(I:List OI) (k:Nat),(growM I k m).testBit t=true→∃ j x,I[j]? = some x∧m.testBit (k+j)=true∧x.1.testBit t=true
  | [],k,h=>by simp[growM] at h
  | x :: I, k, h => by
    unfold growM at h
    rw[Nat.testBit_or,Bool.or_eq_true] at h
    rcases h with h | h
    · by_cases hm : m.testBit k = true
      · rw [if_pos hm] at h
        exact⟨0,x,rfl,by simpa using hm,h⟩
      · rw [if_neg hm] at h
        simp at h
    · obtain ⟨j, y, h1, h2, h3⟩ := growM_bit I (k + 1) h
      exact⟨j+1,y,by simpa using h1,by rw[show k+(j+1)=k+1+j by omega];exact h2,h3⟩
theorem closeM_sub {ops:Array Oper} {m:Nat} (hc:Cl ops m):∀(n q:Nat),(∀ t,q.testBit t=true→m.testBit t=true)→∀ t,(closeM (infoOf ops) n q).testBit t=true→m.testBit t=true
  | 0,q,h,t,ht=>h t ht
  | n + 1, q, h, t, ht => by
    refine closeM_sub hc n _ ?_ t ht
    intro u hu
    rw[Nat.testBit_or,Bool.or_eq_true] at hu
    rcases hu with hu | hu
    · exact h u hu
    · obtain ⟨j, x, h1, h2, h3⟩ := growM_bit _ _ hu
      obtain⟨o,ho,rfl⟩:=info_get h1
      rw[Nat.zero_add] at h2
      simp only[opInfo] at h3
      rw[maskOf_bit] at h3
      exact hc j o ho (h j h2) u (by simpa using h3)
theorem lastOk_spec {ops:Array Oper} {L n:Nat} (h:lastOk (infoOf ops) L n=true):LastOf ops L:=by
  intro m oL hL hc hp k hk hne
  unfold lastOk at h
  rw[info_of hL] at h
  simp only[] at h
  have ho:ops[k]? = some ops[k]:=Array.getElem?_eq_getElem hk
  have h1:=allIdx_spec _ _ _ h k _ (info_of ho)
  simp only[Nat.zero_add,Bool.or_eq_true,beq_iff_eq,hne,false_or] at h1
  refine closeM_sub hc n _ ?_ k h1
  intro t ht
  simp only[opInfo] at ht
  rw[maskOf_bit] at ht
  exact hp t (by simpa using ht)
theorem Cl.set {ops:Array Oper} {m i:Nat} (h:Cl ops m) {o:Oper} (ho:ops[i]? = some o) (hp:∀ t∈presOf o,m.testBit t=true):Cl ops (m ||| 1 <<< i):=by
  intro k ok hk hb t ht
  rw[Nat.testBit_or,one_bit,Bool.or_eq_true] at *
  by_cases e:i=k
  · subst e
    rw[ho] at hk
    injection hk with hk
    subst hk
    exact .inl (hp t ht)
  · rcases hb with hb | hb
    · exact .inl (h k ok hk hb t ht)
    · simp[e] at hb
section
variable {P:Program} {ops:Array Oper} {Q:Exit→Act→World→Prop} {S:World→Prop} {L:Nat}
def wpAnyL (P:Program) (ops:Array Oper) (Q:Exit→Act→World→Prop) (S:World→Prop) (L:Nat):Nat→Array Bool→Act→World→Prop
  | 0,listed,a,w=>Region.ready .any ops listed=[]∧Q .normal a w
  | fuel + 1, listed, a, w =>
    (Region.ready .any ops listed=[]→Q .normal a w) ∧
    ∀ i∈Region.ready .any ops listed,wpOp P ops Q i (fun a' w'=>(i≠L→S w')∧wpAnyL P ops Q S L fuel (listed.setIfInBounds i true) a' w') a w
theorem wpAny_of_L:∀(fuel:Nat) (listed:Array Bool) (a:Act) (w:World),wpAnyL P ops Q S L fuel listed a w→wpAny P .any ops Q fuel listed a w
  | 0,_,_,_,h=>h
  | fuel+1,_,_,_,h=>⟨h.1,fun i hi=>wpOp_mono (fun a' w' h'=>wpAny_of_L fuel _ a' w' h'.2) (h.2 i hi)⟩
theorem wpAnyL_mono {S':World→Prop} (hS:∀ w,S' w→S w):∀(fuel:Nat) (listed:Array Bool) (a:Act) (w:World),wpAnyL P ops Q S' L fuel listed a w→wpAnyL P ops Q S L fuel listed a w
  | 0,_,_,_,h=>h
  | fuel+1,_,_,_,h=>⟨h.1,fun i hi=>wpOp_mono (fun a' w' h'=>⟨fun e=>hS _ (h'.1 e),wpAnyL_mono hS fuel _ a' w' h'.2⟩) (h.2 i hi)⟩
theorem wpAnyL_first {i:Nat} {oi:Oper} {v:Value} (hi:ops[i]? = some oi) (hsel:∀(j:Nat) (o:Oper) cs b,ops[j]? = some o→o.op≠.select cs b)
    (hQ:∀ c a w,Q (.panic c) (a.put oi.dst v) w→Q (.panic c) a w) (hL:LastOf ops L) (hiL:i≠L) :
    ∀ (fuel : Nat) (listed : Array Bool) (m : Nat) (a : Act) (w : World), Rel ops listed m → Cl ops m →
      (∀ j oj,ops[j]? = some oj→j≠i→listed.getD j true=false→(∀ e∈oj.after,Region.binds .any e=true→e.on≠i)→oi.apart ops oj=true) →
      i∈Region.ready .any ops listed→YieldsIf P ops S oi v a→S w →
      wpAnyL P ops Q S L fuel (listed.setIfInBounds i true) (a.put oi.dst v) w→wpAnyL P ops Q S L (fuel+1) listed a w:=by
  intro fuel
  induction fuel with
  | zero =>
    intro listed m a w R hc hfree hr hy hS H
    refine⟨fun h=>(by rw[h] at hr;cases hr),fun j hj=>?_⟩
    by_cases hji:j=i
    · subst hji;exact hy.wpOp hi hS ⟨fun _=>hS,H⟩
    · have := ready_mono hj hji
      rw[H.1] at this
      cases this
  | succ fuel ih =>
    intro listed m a w R hc hfree hr hy hS H
    refine⟨fun h=>(by rw[h] at hr;cases hr),fun j hj=>?_⟩
    by_cases hji:j=i
    · subst hji;exact hy.wpOp hi hS ⟨fun _=>hS,H⟩
    · have h1 := H.2 j (ready_mono hj hji)
      obtain⟨oj',hoj',hj0,hjp⟩:=R.ready.1 hj
      obtain⟨oi',hoi',hi0,_⟩:=R.ready.1 hr
      have hjlt:j<ops.size:=(Array.getElem?_eq_some_iff.1 hoj').1
      have hilt:i<ops.size:=(Array.getElem?_eq_some_iff.1 hoi').1
      have hjL:j≠L:=by
        intro e
        subst e
        have:=hL m oj' hoj' hc hjp i hilt (Ne.symm hji)
        rw[hi0] at this
        cases this
      obtain⟨hjun,oj,hoj,hall⟩:=mem_ready.1 hj
      have hnot:∀ e∈oj.after,Region.binds .any e=true→e.on≠i:=fun e he hb heq=>by
        have h1:=hall e he hb
        have h0:=(mem_ready.1 hr).1
        rw[heq] at h1
        rcases Nat.lt_or_ge i listed.size with h' | h'
        · simp[h'] at h0 h1;rw[h0] at h1;cases h1
        · simp[Array.getElem?_eq_none h'] at h1
      have h2:=wpOp_putIf hoj (hfree j oj hoj hji hjun hnot) (fun cs b=>hsel i oi cs b hi) (fun cs b=>hsel j oj cs b hoj) hQ hy h1
      have hfree':∀ k ok,ops[k]? = some ok→k≠i→(listed.setIfInBounds j true).getD k true=false →
          (∀ e∈ok.after,Region.binds .any e=true→e.on≠i)→oi.apart ops ok=true:=fun k ok hk hki hun hno=>by
        refine hfree k ok hk hki ?_ hno
        by_cases hjk:j=k
        · subst hjk;exact hjun
        · rw[getD_set_ne true hjk] at hun;exact hun
      refine wpOp_mono (fun a' w' h3=>⟨h3.2.1,ih (listed.setIfInBounds j true) (m ||| 1 <<< j) a' w' (R.set hjlt) (hc.set hoj' hjp) hfree' (ready_mono hr (Ne.symm hji)) h3.1 (h3.2.1 hjL) ?_⟩) h2
      rw[Array.setIfInBounds_comm _ _ hji]
      exact h3.2.2
/-- What is to be shown, along a plan that ends with L. -/
def wpPlanL (P:Program) (ops:Array Oper) (Q:Exit→Act→World→Prop) (M:Nat→Prop) (L:Nat):List (Nat × Bool)→(Nat→Nat)→Act→World→Prop
  | [],_,a,w=>wpOp P ops Q L (fun a' w'=>Q .normal a' w') a w
  | (i,true)::r,σ,a,w=>∃ o v,ops[i]? = some o∧YieldsIf P ops (Since M σ w) o v a∧(∀ c a w,Q (.panic c) (a.put o.dst v) w→Q (.panic c) a w)∧wpPlanL P ops Q M L r σ (a.put o.dst v) w
  | (i,false)::r,σ,a,w=>wpOp P ops Q i (fun a' w'=>∃ σ',Stp M σ w σ' w'∧wpPlanL P ops Q M L r σ' a' w') a w
theorem only_eq {listed:Array Bool} {m i:Nat} (R:Rel ops listed m) (honly:onlyM (infoOf ops) m i=true) {j:Nat} (hj:j∈Region.ready .any ops listed):j=i:=by
  obtain⟨oj,hoj,hj0,hjp⟩:=R.ready.1 hj
  have h1:=allIdx_spec _ _ _ honly j _ (info_of hoj)
  simp only[Nat.zero_add,Bool.or_eq_true,hj0,Bool.false_eq_true,or_false] at h1
  rcases h1 with h1 | h1
  · simpa using h1
  · exfalso
    have h2:(((opInfo ops oj).1 &&& m) == (opInfo ops oj).1)=true:=sub_mask' fun t ht=>by
      refine hjp t ?_
      simp only[opInfo] at ht
      rw[maskOf_bit] at ht
      simpa using ht
    rw[h2] at h1;simp at h1
theorem plan_soundL {M:Nat→Prop} (hs:Region.noSelect ops=true) (hL:LastOf ops L) :
    ∀ (π : List (Nat × Bool)) (m : Nat) (listed : Array Bool) (σ : Nat → Nat) (a : Act) (w : World), planOk (infoOf ops) (π ++ [(L, false)]) m = true → π.all (fun p => p.1 != L) = true → Rel ops listed m → Cl ops m → wpPlanL P ops Q M L π σ a w →
      wpAnyL P ops Q (Since M σ w) L (π.length+1) listed a w:=by
  intro π
  induction π with
  | nil =>
    intro m listed σ a w hp _ R hc h
    simp only[List.nil_append,planOk] at hp
    cases hx:(infoOf ops)[L]? with
    | none=>rw[hx] at hp;simp at hp
    | some x =>
      rw[hx] at hp
      obtain⟨o,ho,rfl⟩:=info_get hx
      simp only[Bool.and_eq_true,Bool.not_eq_true',Bool.false_eq_true,if_false] at hp
      have hlt:L<ops.size:=(Array.getElem?_eq_some_iff.1 ho).1
      have hrdy:L∈Region.ready .any ops listed:=R.ready.2 ⟨o,ho,hp.1.1.1,fun t ht=>sub_mask hp.1.1.2 (by simp only[opInfo];rw[maskOf_bit];simpa using ht)⟩
      have R':=R.set hlt
      refine⟨fun h0=>(by rw[h0] at hrdy;cases hrdy),fun j hj=>?_⟩
      have hjL:=only_eq R hp.1.2 hj
      subst hjL
      refine wpOp_mono (fun a' w' hq=>⟨fun e=>absurd rfl e,?_,hq⟩) h
      apply List.eq_nil_iff_forall_not_mem.2
      intro k hk
      obtain⟨ok,hok,h0,_⟩:=R'.ready.1 hk
      have:=allIdx_spec _ _ _ hp.2 k _ (info_of hok)
      simp only[Nat.zero_add] at this
      rw[this] at h0;simp at h0
  | cons p r ih =>
    obtain⟨i,fl⟩:=p
    intro m listed σ a w hp hne R hc h
    simp only[List.cons_append,planOk] at hp
    simp only[List.all_cons,Bool.and_eq_true,bne_iff_ne,ne_eq] at hne
    cases hx:(infoOf ops)[i]? with
    | none=>rw[hx] at hp;simp at hp
    | some x =>
      rw[hx] at hp
      obtain⟨o,ho,rfl⟩:=info_get hx
      simp only[Bool.and_eq_true,Bool.not_eq_true'] at hp
      have hlt:i<ops.size:=(Array.getElem?_eq_some_iff.1 ho).1
      have hpre:∀ t∈presOf o,m.testBit t=true:=fun t ht=>sub_mask hp.1.1.2 (by simp only[opInfo];rw[maskOf_bit];simpa using ht)
      have hrdy:i∈Region.ready .any ops listed:=R.ready.2 ⟨o,ho,hp.1.1.1,hpre⟩
      have R':=R.set hlt
      have hc':=hc.set ho hpre
      cases fl with
      | true =>
        obtain⟨o',v,ho',hy,hQ,hr⟩:=h
        have:o=o':=by rw[ho] at ho';injection ho'
        subst this
        exact wpAnyL_first ho (Region.noSelect_spec hs) hQ hL hne.1 _ listed m a w R hc (Region.free_spec ho (R.free ho (by simpa using hp.1.2))) hrdy hy (since_refl _ _ _) (ih _ _ _ _ _ hp.2 (by simpa using hne.2) R' hc' hr)
      | false =>
        refine⟨fun h0=>(by rw[h0] at hrdy;cases hrdy),fun j hj=>?_⟩
        have hji:=only_eq R (by simpa using hp.1.2) hj
        subst hji
        refine wpOp_mono (fun a' w'=>?_) h
        rintro ⟨σ',st,hr⟩
        exact⟨fun _=>⟨σ',st⟩,wpAnyL_mono (fun w2 ⟨σ2,h2⟩=>⟨σ2,st.trans h2 fun b _ e=>e.elim id id⟩) _ _ _ _ (ih _ _ _ _ _ hp.2 (by simpa using hne.2) R' hc' hr)⟩
variable {M:Nat→Prop} {σ:Nat→Nat} {n i:Nat} {l:Sl} {a:Act} {w:World} {C:Code} {r:List (Nat × Bool)}
theorem c_planL {p:List Nat} (id L n:Nat) (h:sub C p=.region id (opsOf (sub C p)) true) (hm:P.follows .mixedOrders=true) (σ:Nat→Nat) (M:Nat→Prop) (π:List (Nat × Bool)) (I:List OI) (hI:infoOf (opsOf (sub C p))=I)
    (hs:Region.noSelect (opsOf (sub C p))=true) (hp:(planOk I (π++[(L,false)]) 0 && π.all (fun p=>p.1 != L) && lastOk I L n)=true) (hl:(opsOf (sub C p)).size=π.length+1)
    (k:∀ w',Stp noM σ w σ w'→wpPlanL P (opsOf (sub C p)) Q M L π σ a w'):(sub C p).wp P Q a w:=by
  rw[h]
  simp only[Bool.and_eq_true] at hp
  refine wp_region_any hm ?_
  have h1:=plan_soundL (P:=P) (Q:=Q) (M:=M) hs (lastOk_spec (by rw[hI];exact hp.2)) π 0 _ σ a { w with drawn:=w.drawn+1 } (by rw[hI];exact hp.1.1) hp.1.2 (rel0 _) (fun k o _ hb=>by simp at hb) (k _ (Stp.drew σ w))
  rw[← hl] at h1
  exact wpAny_of_L _ _ _ _ h1
theorem l_run {d:Nat} {v:Value} (hF:Fr a n l) (hc:(allLt n l && ((ops.toList.drop i).take 1).all (fun o=>dstOk n o && o.dst == some d))=true)
    (hr:∀ w',(runAll ops ((ops.toList.drop i).take 1) l).run P w'=.ok ((d,v)::l) w') (hQ:∀ c a w,Q (.panic c) (a.put (some d) v) w→Q (.panic c) a w)
    (K:∀ a',Fr a' n ((d,v)::l)→wpPlanL P ops Q M L r σ a' w):wpPlanL P ops Q M L ((i,true)::r) σ a w:=by
  cases e:ops[i]? with
  | none =>
    have hz:(ops.toList.drop i).take 1=[]:=by
      rcases Nat.lt_or_ge i ops.size with c | c
      · rw[Array.getElem?_eq_getElem c] at e;simp at e
      · rw[List.drop_of_length_le (by simpa using c)];rfl
    have:=hr w
    rw[hz] at this
    simp only[runAll,Sem.run_pure] at this
    injection this with h1 _
    exact absurd (congrArg List.length h1) (by simp)
  | some o =>
    have hz:(ops.toList.drop i).take 1=[o]:=by rw[drop_of e];rfl
    rw[hz] at hc hr
    simp only[Bool.and_eq_true,List.all_cons,List.all_nil,Bool.and_true,beq_iff_eq] at hc
    have hd:o.dst=some d:=hc.2.2
    refine⟨o,v,e,?_,by rw[hd];exact hQ,?_⟩
    · rcases run1 hd hF hc.1 (hr w) with ⟨hw, hx⟩ | ⟨hw, hv, _⟩
      · refine .inl ⟨hw, fun w' _ => ?_⟩
        rcases run1 hd hF hc.1 (hr w') with⟨_,hx⟩ | ⟨hw',_⟩
        · exact hx
        · rw[hw] at hw';simp at hw'
      · exact .inr ⟨hw,hv⟩
    · rw[hd];exact K _ (hF.put d v (by have:=hc.2.1;unfold dstOk at this;rw[hd] at this;simpa using this))
theorem l_val {d:Nat} {op:Op} {v:Value} (hF:Fr a n l) (ho:(ops[i]?).map (fun o=>(o.dst,o.op))=some (some d,op)) (hk:okAt ops i n l=true)
    (hv:∀ w',Since M σ w w'→∀ o:Oper,o.op=op→(execOp (evl l) o).run P w'=.ok (.value v) w')
    (hQ:∀ c a w,Q (.panic c) (a.put (some d) v) w→Q (.panic c) a w)
    (K:∀ a',Fr a' n ((d,v)::l)→wpPlanL P ops Q M L r σ a' w):wpPlanL P ops Q M L ((i,true)::r) σ a w:=by
  obtain⟨o,h1,h2,h3⟩:=opAt_of ho
  unfold okAt at hk
  rw[h1] at hk
  simp only[Bool.and_eq_true] at hk
  have hg:guardOn ops l o=some true:=by
    have:=hk.2
    split at this <;> simp_all
  refine⟨o,v,h1,.inl ⟨guardOn_spec hF (allLt_spec hk.1.1.1) hg,fun w' hw'=>?_⟩,by rw[h2];exact hQ,?_⟩
  · rw [opOk_exec hF hk.1.1.2]
    exact hv w' hw' o h3
  · rw [h2]
    exact K _ (hF.put d _ (by have:=hk.1.2;unfold dstOk at this;rw[h2] at this;simpa using this))
theorem l_last (h:wpOp P ops Q L (fun a' w'=>Q .normal a' w') a w):wpPlanL P ops Q M L [] σ a w:=h
theorem q_lrun {d:Nat} (v:Value) (hF:Fr a n l) (K:∀ a',Fr a' n ((d,v)::l)→wpPlanL P ops Q M L r σ a' w)
    (hc:(allLt n l && ((ops.toList.drop i).take 1).all (fun o=>dstOk n o && o.dst == some d))=true:=by kernel_rfl) (hr:∀ w',(runAll ops ((ops.toList.drop i).take 1) l).run P w'=.ok ((d,v)::l) w':=by intro _;kernel_rfl)
    (hQ:∀ c a w,Q (.panic c) (a.put (some d) v) w→Q (.panic c) a w:=by exact fun _ _ _ h=>h):wpPlanL P ops Q M L ((i,true)::r) σ a w:=l_run hF hc hr hQ K
theorem q_lval (d:Nat) (op:Op) (v:Value) (hF:Fr a n l) (hv:∀ w',Since M σ w w'→∀ o:Oper,o.op=op→(execOp (evl l) o).run P w'=.ok (.value v) w')
    (K:∀ a',Fr a' n ((d,v)::l)→wpPlanL P ops Q M L r σ a' w)
    (ho:(ops[i]?).map (fun o=>(o.dst,o.op))=some (some d,op):=by kernel_rfl) (hk:okAt ops i n l=true:=by kernel_rfl)
    (hQ:∀ c a w,Q (.panic c) (a.put (some d) v) w→Q (.panic c) a w:=by exact fun _ _ _ h=>h):wpPlanL P ops Q M L ((i,true)::r) σ a w:=l_val hF ho hk hv hQ K
end
section
variable {P:Program} {ops:Array Oper} {Q:Exit→Act→World→Prop} {Kp:Act→World→Prop} {n i:Nat} {l l':Sl} {a:Act} {w w':World} {M:Nat→Prop} {σ:Nat→Nat}
theorem Seg.elemG {b:Nat} {α:Type} {f:α→Value} {xs:List α} (h:Seg σ w b 0 (xs.map f)) (z:α) (j:Nat) (hj:j<xs.length):∀ q v,[f (xs.getD j z)][q]? = some v→w.cell? ⟨b,j+q,none⟩=some v:=by
  intro q v hv
  cases q with
  | zero =>
    simp only[List.getElem?_cons_zero,Option.some.injEq] at hv
    subst hv
    have:=(h.h j (f (xs.getD j z)) (by rw[List.getElem?_map,List.getElem?_eq_getElem hj,getD_of xs z hj];rfl)).2
    rw[Nat.zero_add] at this
    rw[Nat.add_zero]
    exact this
  | succ q=>simp at hv
end
def hv (l:List UInt8):List Value:=[bv (l.getD 0 0),bv (l.getD 1 0),bv (l.getD 2 0),bv (l.getD 3 0),bv (l.getD 4 0),bv (l.getD 5 0),bv (l.getD 6 0),bv (l.getD 7 0),bv (l.getD 8 0),bv (l.getD 9 0),bv (l.getD 10 0),bv (l.getD 11 0),bv (l.getD 12 0),bv (l.getD 13 0),bv (l.getD 14 0),bv (l.getD 15 0),bv (l.getD 16 0),bv (l.getD 17 0),bv (l.getD 18 0),bv (l.getD 19 0),bv (l.getD 20 0),bv (l.getD 21 0),bv (l.getD 22 0),bv (l.getD 23 0),bv (l.getD 24 0),bv (l.getD 25 0),bv (l.getD 26 0),bv (l.getD 27 0),bv (l.getD 28 0),bv (l.getD 29 0),bv (l.getD 30 0),bv (l.getD 31 0)]
theorem run_loadB {P:Program} {w:World}:∀(bs:List UInt8) (a:Addr) (acc:ByteArray),(∀ j v,(bs.map bv)[j]? = some v→w.cell? (a.add j)=some v) →
    (Extern.Bytes.loadBytes a bs.length acc).run P w=.ok ⟨(acc.data.toList++bs).toArray⟩ w
  | [], a, acc, _ => by
    obtain⟨⟨l⟩⟩:=acc
    simp[Extern.Bytes.loadBytes]
  | b :: bs, a, acc, h => by
    have h0:=h 0 (bv b) rfl
    have e0:a.add 0=a:=by simp[Addr.add]
    rw[e0] at h0
    rw[List.length_cons,Extern.Bytes.loadBytes]
    simp only[Sem.run_bind,run_load,h0,bv,Result.andThen_ok]
    rw[run_loadB bs (a.add 1) _ (fun j v hv=>by
      have:=h (j+1) v (by simpa using hv)
      have e:(a.add 1).add j=a.add (j+1):=by
        cases a
        simp only[Addr.add]
        split <;> split <;> simp_all <;> omega
      rw[e];exact this)]
    obtain⟨⟨l⟩⟩:=acc
    simp[ByteArray.push]
theorem run_bytesOf {P:Program} {σ:Nat→Nat} {w:World} {v:Value} {bs:List UInt8} (h:Rd tU8 σ w v bs):(Extern.Bytes.bytesOf v).run P w=.ok ⟨bs.toArray⟩ w:=by
  obtain⟨a,cap,rfl,_,_,h⟩:=h
  rcases h with rfl | ⟨b,o,cs,rfl,hs,hr⟩
  · cases a with
    | none=>rfl
    | some a=>rfl
  · have hc := reps_u8_eq hr
    subst hc
    have:=run_loadB (P:=P) (w:=w) bs ⟨b,o,none⟩ .empty (fun j v hv=>by rw[Addr.add_lit];exact(hs.h j v hv).2)
    simpa [Extern.Bytes.bytesOf] using this
theorem run_compareB {P:Program} {σ:Nat→Nat} {w:World} {u v:Value} {as bs:List UInt8} (h:Rd tU8 σ w u as) (k:Rd tU8 σ w v bs):(Extern.BytealgCompare.compare #[u,v]).run P w=.ok (iv (Lib.compareBytes as bs)) w:=by
  change Sem.run P (do pure (goInt (Extern.BytealgCompare.cmp (← Extern.Bytes.bytesOf u) (← Extern.Bytes.bytesOf v)))) w=_
  simp only[Sem.run_bind,Sem.run_pure,run_bytesOf h,run_bytesOf k,Result.andThen_ok]
  rw[Lib.cmp_eq]
  rfl
/-- A call that comes to a function which the model runs. -/
theorem exec_ext {P:Program} {w:World} {l:Sl} {f:FuncId} {args:Array Operand} {tys:Array TypeId} (vs:List Value) {v:Value} (hv:(args.map (evl l)).toList=vs) (hc:(callFunc f vs.toArray).run P w=.ok (.value v) w) :
    ∀ o:Oper,o.op=.call ⟨.value (.func f),args,tys⟩→(execOp (evl l) o).run P w=.ok (.value v) w:=by
  intro o e
  have hv':args.map (evl l)=vs.toArray:=by rw[← hv]
  simp only[execOp,e,resolve,evl,Deferred.ofValue,Sem.run_bind,Sem.run_pure,Result.andThen_ok,invoke,Array.append_empty,Array.empty_append]
  have:(fun x=>evl l x)=evl l:=rfl
  rw[hv',hc]
theorem run_ext {P:Program} {w:World} {f:FuncId} {fn:Func} {args:Array Value} {e:Array Value→Sem Value} {v:Value} (hf:P.funcs[f]? = some fn) (hn:(fn.name == "runtime.NumGoroutine")=false) (hb:fn.body.isNone=true)
    (h1:Extern.findNext fn=none) (h2:Extern.find fn=some e) (h:(e args).run P w=.ok v w):(callFunc f args).run P w=.ok (.value v) w:=by
  unfold callFunc
  simp only[Sem.run_bind,run_program,Result.andThen_ok,hf,hn,hb,Bool.false_eq_true,if_false,if_true,run_mark,h1,h2,h,Sem.run_pure]
inductive Pl where
  | e
  | f (i:Nat) (r:Pl)
  | o (i:Nat) (r:Pl)
  | c (i:Nat) (r alt:Pl)
/-- Floating ones in a row. -/
def Pl.fs:List Nat→Pl→Pl
  | [],r=>r
  | i::l,r=>.f i (Pl.fs l r)
def rdyM (I:List OI) (m i:Nat):Bool:=match I[i]? with | some x=>!m.testBit i && ((x.1 &&& m) == x.1) | none=>false
def coverM (I:List OI) (m S:Nat):Bool:=allIdx (fun j y=>S.testBit j || m.testBit j || !((y.1 &&& m) == y.1)) I 0
def plOk (I:List OI):Pl→Nat→Nat→Nat→Bool
  | .e,n,m,S=>n == 0 && S == 0 && allIdx (fun j _=>m.testBit j) I 0
  | .f i r,n+1,m,S=>S == 0 && rdyM I m i && (match I[i]? with | some x=>freeM I m i x | none=>false) && plOk I r n (m ||| 1 <<< i) 0
  | .o i r,n+1,m,S=>rdyM I m i && coverM I m (S ||| 1 <<< i) && plOk I r n (m ||| 1 <<< i) 0
  | .c i r alt,n+1,m,S=>rdyM I m i && plOk I r n (m ||| 1 <<< i) 0 && plOk I alt (n+1) m (S ||| 1 <<< i)
  | _,0,_,_=>false
def wpPl (P:Program) (ops:Array Oper) (Q:Exit→Act→World→Prop) (M:Nat→Prop):Pl→(Nat→Nat)→Act→World→Prop
  | .e,_,a,w=>Q .normal a w
  | .f i r,σ,a,w=>∃ o v,ops[i]? = some o∧YieldsIf P ops (Since M σ w) o v a∧(∀ c a w,Q (.panic c) (a.put o.dst v) w→Q (.panic c) a w)∧wpPl P ops Q M r σ (a.put o.dst v) w
  | .o i r,σ,a,w=>wpOp P ops Q i (fun a' w'=>∃ σ',Stp M σ w σ' w'∧wpPl P ops Q M r σ' a' w') a w
  | .c i r alt,σ,a,w=>wpOp P ops Q i (fun a' w'=>∃ σ',Stp M σ w σ' w'∧wpPl P ops Q M r σ' a' w') a w∧wpPl P ops Q M alt σ a w
section
variable {P:Program} {ops:Array Oper} {Q:Exit→Act→World→Prop} {M:Nat→Prop}
theorem rdyM_ready {m i:Nat} {listed:Array Bool} (R:Rel ops listed m) (h:rdyM (infoOf ops) m i=true):i<ops.size∧i∈Region.ready .any ops listed∧∃ o,ops[i]? = some o:=by
  unfold rdyM at h
  split at h
  · rename_i x hx
    obtain⟨o,ho,rfl⟩:=info_get hx
    simp only[Bool.and_eq_true,Bool.not_eq_true'] at h
    exact⟨(Array.getElem?_eq_some_iff.1 ho).1,R.ready.2 ⟨o,ho,h.1,fun t ht=>sub_mask h.2 (by simp only[opInfo];rw[maskOf_bit];simpa using ht)⟩,o,ho⟩
  · simp at h
theorem coverM_spec {m S:Nat} {listed:Array Bool} (R:Rel ops listed m) (h:coverM (infoOf ops) m S=true) {j:Nat} (hj:j∈Region.ready .any ops listed):S.testBit j=true:=by
  obtain⟨oj,hoj,hj0,hjp⟩:=R.ready.1 hj
  have h1:=allIdx_spec _ _ _ h j _ (info_of hoj)
  simp only[Nat.zero_add,Bool.or_eq_true,hj0,Bool.false_eq_true,or_false] at h1
  rcases h1 with h1 | h1
  · exact h1
  · exfalso
    have h2:(((opInfo ops oj).1 &&& m) == (opInfo ops oj).1)=true:=sub_mask' fun t ht=>by
      refine hjp t ?_
      simp only[opInfo] at ht
      rw[maskOf_bit] at ht
      simpa using ht
    rw[h2] at h1;simp at h1
theorem pl_sound (hs:Region.noSelect ops=true):∀(pl:Pl) (n m S:Nat) (listed:Array Bool) (σ:Nat→Nat) (a:Act) (w:World),plOk (infoOf ops) pl n m S=true→Rel ops listed m→wpPl P ops Q M pl σ a w →
    (S=0→wpAnyH P .any ops Q (Since M σ w) n listed a w) ∧
    (S≠0→∀ n',n=n'+1→∀ j∈Region.ready .any ops listed,S.testBit j=false→wpOp P ops Q j (fun a' w'=>∃ σ',Stp M σ w σ' w'∧wpAnyH P .any ops Q (Since M σ' w') n' (listed.setIfInBounds j true) a' w') a w):=by
  intro pl
  induction pl with
  | e =>
    intro n m S listed σ a w hp R h
    simp only[plOk,Bool.and_eq_true,beq_iff_eq] at hp
    obtain⟨⟨hn,hS⟩,hp⟩:=hp
    subst hn
    refine⟨fun _=>wpAnyH_done ?_ h 0,fun q=>absurd hS q⟩
    apply List.eq_nil_iff_forall_not_mem.2
    intro j hj
    obtain⟨o,ho,h0,_⟩:=R.ready.1 hj
    have:=allIdx_spec _ _ _ hp j _ (info_of ho)
    simp only[Nat.zero_add] at this
    rw[this] at h0;simp at h0
  | f i r ih =>
    intro n m S listed σ a w hp R h
    cases n with
    | zero=>simp[plOk] at hp
    | succ n =>
      simp only[plOk,Bool.and_eq_true,beq_iff_eq] at hp
      obtain⟨⟨⟨hS,h1⟩,h2⟩,h3⟩:=hp
      obtain⟨hlt,hrdy,o,ho⟩:=rdyM_ready R h1
      rw[info_of ho] at h2
      obtain⟨o',v,ho',hy,hQ,hr⟩:=h
      have:o=o':=by rw[ho] at ho';injection ho'
      subst this
      refine⟨fun _=>?_,fun q=>absurd hS q⟩
      exact wpAnyH_take ho hs (R.free ho (by simpa using h2)) (by simpa using hrdy) hQ hy (since_refl _ _ _) ((ih n _ 0 _ σ _ w h3 (R.set hlt) hr).1 rfl)
  | o i r ih =>
    intro n m S listed σ a w hp R h
    cases n with
    | zero=>simp[plOk] at hp
    | succ n =>
      simp only[plOk,Bool.and_eq_true] at hp
      obtain⟨⟨h1,h2⟩,h3⟩:=hp
      obtain⟨hlt,hrdy,o,ho⟩:=rdyM_ready R h1
      have key:∀ j∈Region.ready .any ops listed,S.testBit j=false→wpOp P ops Q j (fun a' w'=>∃ σ',Stp M σ w σ' w'∧wpAnyH P .any ops Q (Since M σ' w') n (listed.setIfInBounds j true) a' w') a w:=by
        intro j hj hS
        have hb:=coverM_spec R h2 hj
        rw[Nat.testBit_or,hS,one_bit] at hb
        have hji:i=j:=by simpa using hb
        subst hji
        exact wpOp_mono (fun a' w' ⟨σ',st,hr⟩=>⟨σ',st,(ih n _ 0 _ σ' a' w' h3 (R.set hlt) hr).1 rfl⟩) h
      refine⟨fun hS=>⟨fun h0=>(by rw[h0] at hrdy;cases hrdy),fun j hj=>?_⟩,fun _ n' e=>by injection e with e;subst e;exact key⟩
      refine wpOp_mono (fun a' w'=>?_) (key j hj (by subst hS;simp))
      rintro ⟨σ',st,hr⟩
      exact d_next st (fun _ e=>e) hr
  | c i r alt ih ih2 =>
    intro n m S listed σ a w hp R h
    cases n with
    | zero=>simp[plOk] at hp
    | succ n =>
      simp only[plOk,Bool.and_eq_true] at hp
      obtain⟨⟨h1,h2⟩,h3⟩:=hp
      obtain⟨hlt,hrdy,o,ho⟩:=rdyM_ready R h1
      obtain⟨w1,w2⟩:=h
      have hne:S ||| 1 <<< i≠0:=by
        intro e
        have:(S ||| 1 <<< i).testBit i=true:=by rw[Nat.testBit_or,one_bit];simp
        rw[e] at this;simp at this
      have key:∀ j∈Region.ready .any ops listed,S.testBit j=false→wpOp P ops Q j (fun a' w'=>∃ σ',Stp M σ w σ' w'∧wpAnyH P .any ops Q (Since M σ' w') n (listed.setIfInBounds j true) a' w') a w:=by
        intro j hj hS
        by_cases hji:i=j
        · subst hji
          exact wpOp_mono (fun a' w' ⟨σ',st,hr⟩=>⟨σ',st,(ih n _ 0 _ σ' a' w' h2 (R.set hlt) hr).1 rfl⟩) w1
        · exact(ih2 (n+1) m _ listed σ a w h3 R w2).2 hne n rfl j hj (by rw[Nat.testBit_or,hS,one_bit];simpa using hji)
      refine⟨fun hS=>⟨fun h0=>(by rw[h0] at hrdy;cases hrdy),fun j hj=>?_⟩,fun _ n' e=>by injection e with e;subst e;exact key⟩
      refine wpOp_mono (fun a' w'=>?_) (key j hj (by subst hS;simp))
      rintro ⟨σ',st,hr⟩
      exact d_next st (fun _ e=>e) hr
end
end Go.Proofs.YtkpnjjacbhicgaaDoor.E
set_option linter.unusedVariables false
set_option linter.unusedSimpArgs false
namespace Go.Proofs.YtkpnjjacbhicgaaDoor.X
open Go Go.RowKit Go.Proofs.YtkpnjjacbhicgaaDoor.E
inductive SV where
  | b (x:Bool) | i (x:Int) | c (x:UInt8) | w (x:UInt32) | u (x:UInt64)
  | s (x:List UInt8)
  | p (n off:Nat)
  | n (n:Nat)
  | v (x:Value)
  | a (cs:List SV)
  | h (k:Nat) (l:List UInt8)
  | t (vs:List SV)
  | f (f:Nat) (first cap:List SV)
  | j (t:Nat) (x:SV)
  | e (n j sz off:Nat)
  | q (n lo hi:Nat) (mx:Option Nat) (sz:Nat)
abbrev NV:=Nat→Value
def hk (k:Nat) (l:List UInt8):List Value:=(List.range k).map fun i=>bv (l.getD i 0)
def padd (v:Value) (k:Nat):Value:=match v with | .pointer (some ⟨b,o,_⟩)=>.pointer (some ⟨b,o+k,none⟩) | v=>v
def eadd (v:Value) (k:Nat):Value:=match v with | .slice (some ⟨b,o,_⟩) _ _ | .pointer (some ⟨b,o,_⟩)=>.pointer (some ⟨b,o+k,none⟩) | v=>v
/-- A piece of a slice: its capacity ends at mx, if that is given. -/
def qcut (v:Value) (lo hi:Nat) (mx:Option Nat) (sz:Nat):Value:=match v with | .slice a _ cap=>.slice (if mx.getD cap=lo then a else a.map (·.add (lo*sz))) (hi - lo) (mx.getD cap - lo) | v=>v
mutual
def den (ν:NV):SV→Value
  | .b x=>.bool x
  | .i x=>iv x
  | .c x=>bv x
  | .w x=>wv x
  | .u x=>uv x
  | .s x=>sv x
  | .p n k=>padd (ν n) k
  | .n n=>ν n
  | .v x=>x
  | .a cs=>.agg (denC ν cs).toArray
  | .h _ _=>undef
  | .t vs=>.tuple (denL ν vs).toArray
  | .f f x y=>.func (.func f) (denL ν x).toArray (denL ν y).toArray
  | .j t x=>.iface t (den ν x)
  | .e n j sz k=>eadd (ν n) (j*sz+k)
  | .q n lo hi mx sz=>qcut (ν n) lo hi mx sz
def denC (ν:NV):List SV→List Value
  | []=>[]
  | .h k l::cs=>hk k l++denC ν cs
  | x::cs=>den ν x::denC ν cs
def denL (ν:NV):List SV→List Value
  | []=>[]
  | x::cs=>den ν x::denL ν cs
end
def wd:SV→Nat | .h k _=>k | _=>1
def W:List SV→Nat | []=>0 | x::cs=>wd x+W cs
/-- One cell, whatever the names are. -/
def cell1:SV→Bool
  | .b _ | .i _ | .c _ | .w _ | .u _ | .s _ | .p _ _ | .n _ | .f _ _ _ | .j _ _ | .e _ _ _ _ | .q _ _ _ _ _=>true
  | .v x=>x.oneCell'
  | _=>false
def cellsOk:List SV→Bool
  | []=>true
  | .h _ _::cs=>cellsOk cs
  | x::cs=>cell1 x && cellsOk cs
/-- The cells of a value. -/
def cells:SV→Option (List SV)
  | .a cs=>if cellsOk cs then some cs else none
  | x=>if cell1 x then some [x] else none
theorem hk_len (k:Nat) (l:List UInt8):(hk k l).length=k:=by simp[hk]
theorem hk_eq {k:Nat} {l:List UInt8} (h:l.length=k):hk k l=l.map bv:=by
  apply List.ext_getElem
  · simp[hk,h]
  · intro i h1 h2
    have hi:i<l.length:=by simpa using h2
    simp only[hk,List.getElem_map,List.getElem_range]
    rw[getD_of l 0 hi]
theorem hk_one (k:Nat) (l:List UInt8):∀ v∈hk k l,v.oneCell'=true:=by
  intro v h
  simp only[hk,List.mem_map] at h
  obtain⟨i,_,rfl⟩:=h
  rfl
theorem denC_cons (ν:NV) (x:SV) (cs:List SV):denC ν (x::cs)=denC ν [x]++denC ν cs:=by
  cases x <;> simp[denC]
theorem denC_append (ν:NV) (cs ds:List SV):denC ν (cs++ds)=denC ν cs++denC ν ds:=by
  induction cs with
  | nil=>simp[denC]
  | cons x cs ih=>rw[List.cons_append,denC_cons,ih,denC_cons ν x cs,List.append_assoc]
theorem denC_one_len (ν:NV) (x:SV):(denC ν [x]).length=wd x:=by
  cases x <;> simp[denC,wd,hk_len]
theorem denC_len (ν:NV):∀ cs:List SV,(denC ν cs).length=W cs
  | []=>by simp[denC,W]
  | x::cs=>by rw[denC_cons,List.length_append,denC_one_len,denC_len ν cs,W]
def dropW:List SV→Nat→Option (List SV)
  | cs,0=>some cs
  | [],_+1=>none
  | x::cs,k+1=>if wd x≤k+1 then dropW cs (k+1 - wd x) else none
def takeW:List SV→Nat→Option (List SV)
  | _,0=>some []
  | [],_+1=>none
  | x::cs,k+1=>if wd x≤k+1 then(takeW cs (k+1 - wd x)).map (x :: ·) else none
def cutW (cs:List SV) (off n:Nat):Option (List SV):=(dropW cs off).bind fun ds=>takeW ds n
def updW (cs:List SV) (off:Nat) (new:List SV):Option (List SV) :=
  (takeW cs off).bind fun pre=>(dropW cs (off+W new)).map fun post=>pre++new++post
theorem dropW_ok (ν:NV):∀(cs:List SV) (k:Nat) (ds:List SV),dropW cs k=some ds→denC ν ds=(denC ν cs).drop k∧k≤W cs∧W ds=W cs - k
  | cs, 0, ds, h => by
    have:cs=ds:=by cases cs <;> simpa [dropW] using h
    subst this;simp
  | [],k+1,ds,h=>by simp[dropW] at h
  | x :: cs, k + 1, ds, h => by
    simp only[dropW] at h
    split at h
    · rename_i hw
      obtain⟨h1,h2,h3⟩:=dropW_ok ν cs _ ds h
      refine⟨?_,by rw[W];omega,by rw[W];omega⟩
      rw[h1,denC_cons ν x cs,List.drop_append,denC_one_len]
      have:List.drop (k+1) (denC ν [x])=[]:=List.drop_of_length_le (by rw[denC_one_len];exact hw)
      rw[this];rfl
    · simp at h
theorem takeW_ok (ν:NV):∀(cs:List SV) (k:Nat) (ds:List SV),takeW cs k=some ds→denC ν ds=(denC ν cs).take k∧W ds=k∧k≤W cs
  | cs, 0, ds, h => by
    have:[]=ds:=by cases cs <;> simpa [takeW] using h
    subst this;simp[denC,W]
  | [],k+1,ds,h=>by simp[takeW] at h
  | x :: cs, k + 1, ds, h => by
    simp only[takeW] at h
    split at h
    · rename_i hw
      obtain⟨es,he,rfl⟩:=Option.map_eq_some_iff.1 h
      obtain⟨h1,h2,h3⟩:=takeW_ok ν cs _ es he
      refine⟨?_,by rw[W];omega,by rw[W];omega⟩
      rw[denC_cons,h1,denC_cons ν x cs,List.take_append,denC_one_len]
      have:List.take (k+1) (denC ν [x])=denC ν [x]:=List.take_of_length_le (by rw[denC_one_len];exact hw)
      rw[this]
    · simp at h
theorem cutW_ok (ν:NV) {cs ds:List SV} {off n:Nat} (h:cutW cs off n=some ds):denC ν ds=((denC ν cs).drop off).take n∧W ds=n∧off+n≤W cs:=by
  obtain⟨es,h1,h2⟩:=Option.bind_eq_some_iff.1 h
  obtain⟨a1,a2,a3⟩:=dropW_ok ν _ _ _ h1
  obtain⟨b1,b2,b3⟩:=takeW_ok ν _ _ _ h2
  exact⟨by rw[b1,a1],b2,by omega⟩
theorem updW_ok (ν:NV) {cs ds new:List SV} {off:Nat} (h:updW cs off new=some ds):denC ν ds=(denC ν cs).take off++denC ν new++(denC ν cs).drop (off+W new)∧off+W new≤W cs∧W ds=W cs:=by
  obtain⟨pre,h1,h2⟩:=Option.bind_eq_some_iff.1 h
  obtain⟨post,h3,rfl⟩:=Option.map_eq_some_iff.1 h2
  obtain⟨a1,a2,a3⟩:=dropW_ok ν _ _ _ h3
  obtain⟨b1,b2,b3⟩:=takeW_ok ν _ _ _ h1
  have e:∀ l m:List SV,W (l++m)=W l+W m:=by
    intro l m;induction l with
    | nil=>simp[W]
    | cons x l ih=>simp[W,ih];omega
  exact⟨by rw[denC_append,denC_append,b1,a1],a2,by rw[e,e];omega⟩
theorem padd_one {v:Value} (h:v.oneCell'=true) (k:Nat):(padd v k).oneCell'=true:=by
  unfold padd
  split <;> first | rfl | exact h
theorem eadd_one {v:Value} (h:v.oneCell'=true) (k:Nat):(eadd v k).oneCell'=true:=by
  unfold eadd
  split <;> first | rfl | exact h
theorem qcut_one {v:Value} (h:v.oneCell'=true) (lo hi:Nat) (mx:Option Nat) (sz:Nat):(qcut v lo hi mx sz).oneCell'=true:=by
  unfold qcut
  split <;> first | rfl | exact h
theorem cell1_ok {ν:NV} (hν:∀ n,(ν n).oneCell'=true) {x:SV} (h:cell1 x=true):(den ν x).oneCell'=true∧denC ν [x]=[den ν x]∧wd x=1:=by
  cases x <;> first
    | (simp[cell1] at h;done)
    | exact⟨rfl,rfl,rfl⟩
    | exact⟨hν _,rfl,rfl⟩
    | exact⟨padd_one (hν _) _,rfl,rfl⟩
    | exact⟨eadd_one (hν _) _,rfl,rfl⟩
    | exact⟨qcut_one (hν _) _ _ _ _,rfl,rfl⟩
    | exact⟨h,rfl,rfl⟩
theorem cellsOk_ok {ν:NV} (hν:∀ n,(ν n).oneCell'=true):∀ {cs:List SV},cellsOk cs=true→∀ v∈denC ν cs,v.oneCell'=true
  | [],_,v,hv=>by simp[denC] at hv
  | x :: cs, h, v, hv => by
    rw[denC_cons,List.mem_append] at hv
    have hcs:cellsOk cs=true:=by cases x <;> simp[cellsOk] at h <;> first | exact h | exact h.2
    rcases hv with hv | hv
    · by_cases e : ∃ k l, x = .h k l
      · obtain ⟨k, l, rfl⟩ := e
        have:denC ν [SV.h k l]=hk k l:=by simp[denC]
        rw[this] at hv
        exact hk_one _ _ v hv
      · have h1 : cell1 x = true := by cases x <;> simp [cellsOk] at h <;> first | rfl | exact h.1 | exact absurd ⟨_, _, rfl⟩ e
        obtain⟨h2,h3,_⟩:=cell1_ok hν h1
        rw[h3] at hv
        simp at hv;subst hv;exact h2
    · exact cellsOk_ok hν hcs v hv
theorem one_cells {v:Value} (h:v.oneCell'=true):v.cells.toList=[v]:=by
  cases v <;> first | rfl | (simp[Value.oneCell'] at h)
theorem cells_ok {ν:NV} (hν:∀ n,(ν n).oneCell'=true) {x:SV} {cs:List SV} (h:cells x=some cs):(den ν x).cells.toList=denC ν cs∧(∀ v∈denC ν cs,v.oneCell'=true)∧cellsOk cs=true:=by
  by_cases e:∃ ds,x=.a ds
  · obtain ⟨ds, rfl⟩ := e
    simp only[cells] at h
    split at h
    · rename_i hc
      injection h with h;subst h
      exact⟨by simp[den,Value.cells],cellsOk_ok hν hc,hc⟩
    · simp at h
  · have h':(if cell1 x=true then some [x] else none)=some cs:=by
      cases x <;> first | exact h | exact absurd ⟨_,rfl⟩ e
    split at h'
    · rename_i h1
      injection h' with h';subst h'
      obtain⟨h2,h3,_⟩:=cell1_ok hν h1
      refine⟨by rw[h3,one_cells h2],fun v hv=>?_,?_⟩
      · rw[h3] at hv;simp at hv;subst hv;exact h2
      · cases x <;> simp_all [cellsOk,cell1]
    · simp at h'
/-- Names that are not used may change. -/
theorem denL_map (ν:NV):∀ cs:List SV,denL ν cs=cs.map (den ν)
  | []=>by simp[denL]
  | x::cs=>by simp[denL,denL_map ν cs]
end Go.Proofs.YtkpnjjacbhicgaaDoor.X
set_option linter.unusedVariables false
set_option linter.unusedSimpArgs false
namespace Go.Proofs.YtkpnjjacbhicgaaDoor.X
open Go Go.RowKit Go.Proofs.YtkpnjjacbhicgaaDoor.E
structure TyI where
  α:Type
  T:Ty α
  d:α
structure MpI where
  κ:Type
  β:Type
  dec:DecidableEq κ
  enc:κ→Value
  rep:(Nat→Nat)→World→β→Value→Prop
  step:∀ {M σ w σ' w' x v},Stp M σ w σ' w'→rep σ w x v→rep σ' w' x v
structure Tys where
  Γ:Nat→TyI
  Δ:Nat→MpI
/-- What stays, once it holds. -/
structure PP where
  h:(Nat→Nat)→World→Value→Prop
  step:∀ {M σ w σ' w' v},Stp M σ w σ' w'→h σ w v→h σ' w' v
def pTop:PP:=⟨fun _ _ _=>True,fun _ _=>trivial⟩
/-- What is owned. -/
structure OP where
  h:(Nat→Prop)→(Nat→Nat)→World→Value→Prop
  step:∀ {F:Nat→Prop} {M σ w σ' w' v},Stp M σ w σ' w'→(∀ b,F b→¬ M b∧b<w.heap.size)→h F σ w v→h F σ' w' v
/-- A row that a slice begins; it may be longer than the slice's capacity says. -/
def MuRow (w:World) (e:TypeId) (sz:Nat) (v:Value) (n:Nat) (cs:List Value):Prop :=
  cs.length=n*sz∧((v=.slice none 0 0∧n=0)∨∃ g cap cur,v=.slice (some ⟨g,0,none⟩) n cap∧w.heap[g]? = some (.cells cur e (0,0))∧n≤cap∧cap≤maxLen∧cap*sz≤cur.size∧cur.toList.take (n*sz)=cs)
theorem MuRow.lt {w:World} {e:TypeId} {sz:Nat} {v:Value} {n:Nat} {cs:List Value} (h:MuRow w e sz v n cs) {g:Nat} (hg:v.ownBlock=some g):g<w.heap.size:=by
  rcases h.2 with⟨rfl,_⟩ | ⟨g',cap,cur,rfl,h1,_⟩
  · simp[Value.ownBlock] at hg
  · simp only [Value.ownBlock, Option.some.injEq] at hg; subst hg
    exact(Array.getElem?_eq_some_iff.1 h1).1
theorem MuRow.cells {w:World} {e:TypeId} {sz:Nat} {n:Nat} {cs:List Value} {g cap:Nat} (h:MuRow w e sz (.slice (some ⟨g,0,none⟩) n cap) n cs) (j:Nat) (u:Value) (hj:cs[j]? = some u):w.cell? ⟨g,j,none⟩=some u:=by
  rcases h.2 with⟨h1,_⟩ | ⟨g',cap',cur,h1,h2,_,_,_,h6⟩
  · cases h1
  · injection h1 with h1 _ _; injection h1 with h1; injection h1 with h1 _ _; subst h1
    rw[cell_of_row _ g j _ e (0,0) h2,← Array.getElem?_toList]
    rw[← h6,List.getElem?_take] at hj
    split at hj
    · exact hj
    · simp at hj
def Mu {α:Type} (T:Ty α) (e:TypeId) (σ:Nat→Nat) (w:World) (v:Value) (xs:List α):Prop :=
  ∃ cs,MuRow w e T.sz v xs.length cs∧Reps (T.rep σ w) xs cs∧xs.length*T.by_≤big∧(∀ g,v.ownBlock=some g→σ g=0)
def MpS (D:MpI) (σ:Nat→Nat) (w:World) (b:Nat) (l:List (D.κ × D.β)):Prop :=
  ∃ es clock,w.heap[b]? = some (.map es clock)∧es.toList.length=l.length∧∀(i:Nat) (e:MapEntry) (p:D.κ × D.β),es.toList[i]? = some e→l[i]? = some p→e.key=D.enc p.1∧D.rep σ w p.2 e.val
/-- A pointer to what lasts, or nil. -/
def Pt {α:Type} (T:Ty α) (σ:Nat→Nat) (w:World) (v:Value):Option α→Prop
  | none=>v=.pointer none
  | some x=>∃ b i cs,v=.pointer (some ⟨b,i,none⟩)∧Seg σ w b i cs∧T.rep σ w x cs
theorem Pt.step {α:Type} {T:Ty α} {M:Nat→Prop} {σ σ':Nat→Nat} {w w':World} {v:Value} {o:Option α} (h:Pt T σ w v o) (st:Stp M σ w σ' w'):Pt T σ' w' v o:=by
  cases o with
  | none=>exact h
  | some x=>obtain⟨b,i,cs,e,hs,hr⟩:=h;exact⟨b,i,cs,e,hs.step st,T.step st hr⟩
def PPt (G:Tys) (e:Nat) (o:Option (G.Γ e).α):PP:=⟨fun σ w v=>Pt (G.Γ e).T σ w v o,fun st h=>h.step st⟩
inductive Ent (G:Tys) where
  | bx (t:Nat) (cs:List SV)
  | sg (cs:List SV) (p:PP)
  | rd (e:Nat) (xs:List (G.Γ e).α)
  | ow (e:Nat) (xs:List (G.Γ e).α)
  | mu (e:Nat) (xs:List (G.Γ e).α)
  | mp (t:Nat) (l:List ((G.Δ t).κ × (G.Δ t).β))
  | pr (p:PP)
  | pn (p:PP) (ifc nil:Bool)
  | al (x:SV) (p:PP) (ifc nil:Bool)
  | pt (e:Nat) (o:Option (G.Γ e).α)
  | ob (p:OP)
  | tb (g e:Nat) (xs:List (G.Γ e).α)
  | nl
  | no
def nilOf (ifc:Bool):Value:=if ifc then .nilIface else .pointer none
def Shape (ifc:Bool) (v:Value):Prop:=if ifc then ∃ t x,v=.iface t x else ∃ b o,v=.pointer (some ⟨b,o,none⟩)
variable {G:Tys}
def Ent.holds (ν:NV) (F:Nat→Prop) (σ:Nat→Nat) (w:World) (v:Value):Ent G→Prop
  | .bx t cs=>∃ b,v=.pointer (some ⟨b,0,none⟩)∧Bx σ w b (denC ν cs) t∧F b∧cellsOk cs=true
  | .sg cs p=>∃ b o,v=.pointer (some ⟨b,o,none⟩)∧Seg σ w b o (denC ν cs)∧cellsOk cs=true∧p.h σ w v
  | .rd e xs=>Rd (G.Γ e).T σ w v xs
  | .ow e xs=>Own (G.Γ e).T e 0 σ w v xs∧∀ b,v.ownBlock=some b→F b
  | .mu e xs=>Mu (G.Γ e).T e σ w v xs∧∀ b,v.ownBlock=some b→F b
  | .mp t l=>∃ b,v=.map (some b)∧F b∧MpS (G.Δ t) σ w b l
  | .pr p=>p.h σ w v
  | .pn p i n=>p.h σ w v∧(n=true→v=nilOf i)∧(n=false→Shape i v)
  | .pt e o=>Pt (G.Γ e).T σ w v o
  | .al x p i n=>v=den ν x∧p.h σ w v∧(n=true→v=nilOf i)∧(n=false→Shape i v)
  | .ob p=>p.h F σ w v
  | .tb g e xs=>v=.pointer (some ⟨g,0,none⟩)∧∃ cs,Seg σ w g 0 cs∧Reps ((G.Γ e).T.rep σ w) xs cs
  | .nl=>v=.slice none 0 0
  | .no=>True
mutual
def bd (k:Nat):SV→Bool
  | .p n _=>decide (n<k)
  | .n n=>decide (n<k)
  | .a cs=>bdL k cs
  | .t cs=>bdL k cs
  | .f _ x y=>bdL k x && bdL k y
  | .j _ x=>bd k x
  | .e n _ _ _=>decide (n<k)
  | .q n _ _ _ _=>decide (n<k)
  | .b _ | .i _ | .c _ | .w _ | .u _ | .s _ | .v _ | .h _ _=>true
def bdL (k:Nat):List SV→Bool
  | []=>true
  | x::cs=>bd k x && bdL k cs
end
def Ent.bd (k:Nat):Ent G→Bool
  | .bx _ cs | .sg cs _=>bdL k cs
  | .al x _ _ _=>X.bd k x
  | _=>true
section
variable {ν ν':NV} {k:Nat}
mutual
theorem den_ext (h:∀ n,n<k→ν' n=ν n):∀(x:SV),bd k x=true→den ν' x=den ν x
  | .p n _,hb=>by simp only[bd,decide_eq_true_eq] at hb;simp only[den,h n hb]
  | .n n,hb=>by simp only[bd,decide_eq_true_eq] at hb;simp only[den,h n hb]
  | .a cs,hb=>by simp only[bd] at hb;simp only[den,denC_ext h cs hb]
  | .t cs,hb=>by simp only[bd] at hb;simp only[den,denL_ext h cs hb]
  | .f _ x y,hb=>by simp only[bd,Bool.and_eq_true] at hb;simp only[den,denL_ext h x hb.1,denL_ext h y hb.2]
  | .j _ x,hb=>by simp only[bd] at hb;simp only[den,den_ext h x hb]
  | .e n _ _ _,hb=>by simp only[bd,decide_eq_true_eq] at hb;simp only[den,h n hb]
  | .q n _ _ _ _,hb=>by simp only[bd,decide_eq_true_eq] at hb;simp only[den,h n hb]
  | .b _,_ | .i _,_ | .c _,_ | .w _,_ | .u _,_ | .s _,_ | .v _,_ | .h _ _,_=>by simp only[den]
theorem denC_ext (h:∀ n,n<k→ν' n=ν n):∀(cs:List SV),bdL k cs=true→denC ν' cs=denC ν cs
  | [],_=>by simp only[denC]
  | x :: cs, hb => by
    simp only[bdL,Bool.and_eq_true] at hb
    have h1:=den_ext h x hb.1
    have h2:=denC_ext h cs hb.2
    cases x <;> simp only[denC,h2,h1]
theorem denL_ext (h:∀ n,n<k→ν' n=ν n):∀(cs:List SV),bdL k cs=true→denL ν' cs=denL ν cs
  | [],_=>by simp only[denL]
  | x :: cs, hb => by
    simp only[bdL,Bool.and_eq_true] at hb
    simp only[denL,den_ext h x hb.1,denL_ext h cs hb.2]
end
mutual
theorem bd_mono {k':Nat} (hk:k≤k'):∀(x:SV),bd k x=true→bd k' x=true
  | .p n _,hb=>by simp only[bd,decide_eq_true_eq] at *;omega
  | .n n,hb=>by simp only[bd,decide_eq_true_eq] at *;omega
  | .a cs,hb=>by simp only[bd] at *;exact bdL_mono hk cs hb
  | .t cs,hb=>by simp only[bd] at *;exact bdL_mono hk cs hb
  | .f _ x y,hb=>by simp only[bd,Bool.and_eq_true] at *;exact⟨bdL_mono hk x hb.1,bdL_mono hk y hb.2⟩
  | .j _ x,hb=>by simp only[bd] at *;exact bd_mono hk x hb
  | .e n _ _ _,hb=>by simp only[bd,decide_eq_true_eq] at *;omega
  | .q n _ _ _ _,hb=>by simp only[bd,decide_eq_true_eq] at *;omega
  | .b _,_ | .i _,_ | .c _,_ | .w _,_ | .u _,_ | .s _,_ | .v _,_ | .h _ _,_=>by simp only[bd]
theorem bdL_mono {k':Nat} (hk:k≤k'):∀(cs:List SV),bdL k cs=true→bdL k' cs=true
  | [],_=>by simp only[bdL]
  | x :: cs, hb => by
    simp only[bdL,Bool.and_eq_true] at *
    exact⟨bd_mono hk x hb.1,bdL_mono hk cs hb.2⟩
end
theorem Ent.bd_mono {k':Nat} (hk:k≤k') (e:Ent G) (h:e.bd k=true):e.bd k'=true:=by
  cases e <;> simp only[Ent.bd] at * <;> first | exact bdL_mono hk _ h | exact X.bd_mono hk _ h
theorem Ent.holds_ext (h:∀ n,n<k→ν' n=ν n) {e:Ent G} (hb:e.bd k=true) {F:Nat→Prop} {σ:Nat→Nat} {w:World} {v:Value} (hh:e.holds ν F σ w v):e.holds ν' F σ w v:=by
  cases e <;> simp only[Ent.bd,Ent.holds] at * <;> first
    | exact hh
    | (rw[denC_ext h _ hb];exact hh)
    | (rw[den_ext h _ hb];exact hh)
end
theorem Mu.step {α:Type} {T:Ty α} {e:TypeId} {M:Nat→Prop} {σ σ1:Nat→Nat} {w w1:World} {v:Value} {xs:List α} (h:Mu T e σ w v xs) (s:Stp M σ w σ1 w1) (hM:∀ g,v.ownBlock=some g→¬ M g):Mu T e σ1 w1 v xs:=by
  obtain⟨cs,ho,hr,hb,hs⟩:=h
  have hlt:=fun g hg=>ho.lt (g:=g) hg
  refine⟨cs,?_,Reps.mono (fun x c hx=>T.step s hx) _ _ hr,hb,fun g hg=>by rw[s.wm g (hlt g hg) (hM g hg)];exact hs g hg⟩
  refine⟨ho.1,ho.2.imp id ?_⟩
  rintro ⟨g,cap,cur,rfl,hg,rest⟩
  refine⟨g,cap,cur,rfl,?_,rest⟩
  rw[s.block g (hlt g rfl) (hM g rfl)]
  exact hg
theorem Ent.step {ν:NV} {F:Nat→Prop} {M:Nat→Prop} {σ σ':Nat→Nat} {w w':World} {v:Value} {e:Ent G} (h:e.holds ν F σ w v) (s:Stp M σ w σ' w') (hM:∀ b,F b→¬ M b∧b<w.heap.size):e.holds ν F σ' w' v:=by
  cases e with
  | bx t cs=>obtain⟨b,e1,h1,h2,h3⟩:=h;exact⟨b,e1,h1.step s (hM b h2).1,h2,h3⟩
  | sg cs p=>obtain⟨b,o,e1,h1,h3,h4⟩:=h;exact⟨b,o,e1,h1.step s,h3,p.step s h4⟩
  | rd e xs=>exact Rd.step h s
  | ow e xs=>exact⟨h.1.step s fun g hg=>(hM g (h.2 g hg)).1,h.2⟩
  | mu e xs=>exact⟨h.1.step s fun g hg=>(hM g (h.2 g hg)).1,h.2⟩
  | mp t l =>
    obtain⟨b,e1,h1,es,c,h2,h3,h4⟩:=h
    refine⟨b,e1,h1,es,c,?_,h3,fun i e p he hp=>⟨(h4 i e p he hp).1,(G.Δ t).step s (h4 i e p he hp).2⟩⟩
    rw[s.block b (hM b h1).2 (hM b h1).1];exact h2
  | pr p=>exact p.step s h
  | pn p i n=>exact⟨p.step s h.1,h.2⟩
  | pt e o=>exact Pt.step h s
  | al x p i n=>exact⟨h.1,p.step s h.2.1,h.2.2⟩
  | ob p=>exact p.step s hM h
  | tb g e xs=>obtain⟨e1,cs,h1,h2⟩:=h;exact⟨e1,cs,h1.step s,Reps.mono (fun x c hx=>(G.Γ e).T.step s hx) _ _ h2⟩
  | nl=>exact h
  | no=>trivial
/-- A persistent entry. -/
def Ent.stays:Ent G→Bool
  | .sg _ _ | .rd _ _ | .pr _ | .pn _ _ _ | .al _ _ _ _ | .pt _ _ | .tb _ _ _ | .nl | .no=>true
  | _=>false
theorem Ent.holds_free {ν:NV} {F F':Nat→Prop} {σ:Nat→Nat} {w:World} {v:Value} {e:Ent G} (hs:e.stays=true) (h:e.holds ν F σ w v):e.holds ν F' σ w v:=by
  cases e <;> first | exact h | (simp[Ent.stays] at hs)
structure Sat (ν:NV) (F:Nat→Nat→Prop) (σ:Nat→Nat) (w:World) (H:List (Ent G)):Prop where
  one:∀ n,(ν n).oneCell'=true
  ent:∀(k:Nat) (e:Ent G),H[k]? = some e→e.holds ν (F k) σ w (ν k)
  bdd:∀(k:Nat) (e:Ent G),H[k]? = some e→e.bd H.length=true
  dis:∀ k m b,F k b→F m b→k=m
  lt:∀ k b,F k b→k<H.length∧b<w.heap.size
/-- The world goes on; entries of 'mods' and new ones are shown anew. -/
theorem Sat.gen {ν ν':NV} {F F':Nat→Nat→Prop} {σ σ':Nat→Nat} {w w':World} {H H':List (Ent G)} {M:Nat→Prop} (h:Sat ν F σ w H) (st:Stp M σ w σ' w') (mods:Nat→Prop)
    (hν:∀ n,n<H.length→ν' n=ν n) (one:∀ n,(ν' n).oneCell'=true) (hl:H.length≤H'.length)
    (hM:∀ k b,F k b→M b→mods k)
    (keep:∀ k,k<H.length→¬ mods k→H'[k]? = H[k]?∧F' k=F k)
    (new:∀(k:Nat) (e:Ent G),(mods k∨H.length≤k)→H'[k]? = some e→e.holds ν' (F' k) σ' w' (ν' k)∧e.bd H'.length=true)
    (hF:∀ k b,(mods k∨H.length≤k)→F' k b→k<H'.length∧b<w'.heap.size∧((∃ m,mods m∧F m b)∨w.heap.size≤b))
    (hd:∀ k m b,(mods k∨H.length≤k)→(mods m∨H.length≤m)→F' k b→F' m b→k=m):Sat ν' F' σ' w' H':=by
  have dec:∀ k,(mods k∨H.length≤k)∨(¬ mods k∧k<H.length):=fun k=>by
    by_cases c:mods k
    · exact .inl (.inl c)
    · rcases Nat.lt_or_ge k H.length with q | q
      · exact .inr ⟨c,q⟩
      · exact .inl (.inr q)
  refine⟨one,fun k e he=>?_,fun k e he=>?_,fun k m b hk hm=>?_,fun k b hk=>?_⟩
  · rcases dec k with c | ⟨c, q⟩
    · exact(new k e c he).1
    · obtain ⟨e1, e2⟩ := keep k q c
      rw[e1] at he
      rw[e2,hν k q]
      exact Ent.holds_ext hν (h.bdd k e he) (Ent.step (h.ent k e he) st fun b hb=>⟨fun hm=>c (hM k b hb hm),(h.lt k b hb).2⟩)
  · rcases dec k with c | ⟨c, q⟩
    · exact(new k e c he).2
    · rw [(keep k q c).1] at he
      exact Ent.bd_mono hl e (h.bdd k e he)
  · rcases dec k with c | ⟨c, q⟩ <;> rcases dec m with d | ⟨d, q'⟩
    · exact hd k m b c d hk hm
    · rw [(keep m q' d).2] at hm
      rcases(hF k b c hk).2.2 with⟨x,hx,hxb⟩ | hb
      · have:=h.dis x m b hxb hm;subst this;exact absurd hx d
      · have:=(h.lt m b hm).2;omega
    · rw [(keep k q c).2] at hk
      rcases(hF m b d hm).2.2 with⟨x,hx,hxb⟩ | hb
      · have:=h.dis x k b hxb hk;subst this;exact absurd hx c
      · have:=(h.lt k b hk).2;omega
    · rw [(keep k q c).2] at hk
      rw[(keep m q' d).2] at hm
      exact h.dis k m b hk hm
  · rcases dec k with c | ⟨c, q⟩
    · exact⟨(hF k b c hk).1,(hF k b c hk).2.1⟩
    · rw [(keep k q c).2] at hk
      exact⟨by omega,st.lt (h.lt k b hk).2⟩
theorem Sat.step {ν:NV} {F:Nat→Nat→Prop} {σ σ':Nat→Nat} {w w':World} {H:List (Ent G)} {M:Nat→Prop} (h:Sat ν F σ w H) (st:Stp M σ w σ' w') (hM:∀ k b,F k b→¬ M b):Sat ν F σ' w' H :=
  h.gen st (fun _=>False) (fun _ _=>rfl) h.one (Nat.le_refl _) (fun k b hk hm=>hM k b hk hm) (fun _ _ _=>⟨rfl,rfl⟩)
    (fun k e hk he=>by
      have hlt:=(List.getElem?_eq_some_iff.1 he).1
      rcases hk with hk | hk
      · exact hk.elim
      · omega)
    (fun k b hk hb=>by
      have:=(h.lt k b hb).1
      rcases hk with hk | hk
      · exact hk.elim
      · omega)
    (fun k m b hk _ h1 h2=>h.dis k m b h1 h2)
/-- New names: what is known of them stays. -/
def extν (ν:NV) (k:Nat) (f:NV):NV:=fun n=>if n<k then ν n else f (n - k)
theorem extν_lt (ν:NV) {k:Nat} (f:NV) {n:Nat} (h:n<k):extν ν k f n=ν n:=by simp[extν,h]
theorem extν_ge (ν:NV) (k:Nat) (f:NV) (i:Nat):extν ν k f (k+i)=f i:=by
  unfold extν
  rw[if_neg (by omega),show k+i - k=i by omega]
theorem extν_one {ν f:NV} (k:Nat) (h1:∀ n,(ν n).oneCell'=true) (h2:∀ n,(f n).oneCell'=true):∀ n,(extν ν k f n).oneCell'=true:=by
  intro n
  unfold extν
  split
  · exact h1 n
  · exact h2 _
theorem Sat.more {ν f:NV} {F:Nat→Nat→Prop} {σ:Nat→Nat} {w:World} {H new:List (Ent G)} (h:Sat ν F σ w H) (hf:∀ n,(f n).oneCell'=true) (hs:new.all (·.stays)=true) (hb:new.all (·.bd (H.length+new.length))=true)
    (hn:∀(i:Nat) (e:Ent G),new[i]? = some e→e.holds (extν ν H.length f) (fun _=>False) σ w (f i)):Sat (extν ν H.length f) F σ w (H++new):=by
  refine h.gen (Stp.refl noM _ _) (fun _=>False) (fun n hn=>extν_lt ν f hn) (extν_one _ h.one hf) (by simp) (fun k b _ hm=>hm) (fun k hk _=>⟨List.getElem?_append_left hk,rfl⟩) ?_ ?_ ?_
  · intro k e hk he
    have hk:H.length≤k:=hk.resolve_left id
    rw[List.getElem?_append_right hk] at he
    obtain⟨i,rfl⟩:∃ i,k=H.length+i:=⟨k - H.length,by omega⟩
    rw[show H.length+i - H.length=i by omega] at he
    have hmem:=List.mem_of_getElem? he
    rw[extν_ge,List.length_append]
    exact⟨Ent.holds_free (List.all_eq_true.1 hs e hmem) (hn i e he),List.all_eq_true.1 hb e hmem⟩
  · intro k b hk hb
    have:=(h.lt k b hb).1
    have hk:H.length≤k:=hk.resolve_left id
    omega
  · intro k m b _ _ h1 h2
    exact h.dis k m b h1 h2
inductive Un where
  | bool | int (k:IntKind) | str | sl (e:Nat) | ptr (e:Nat) | arr (n e:Nat) | st (fs:List (Nat × Nat)) | mp (k e:Nat) | fn | ifc (m:Bool)
structure TI where
  u:Un
  sz:Nat
  ag:Bool
  z:List SV
  by_:Nat
def unOk (P:Program) (t:Nat):Un→Prop
  | .bool=>P.underlying t=some .bool
  | .int k=>P.underlying t=some (.int k)
  | .str=>P.underlying t=some .string
  | .sl e=>P.underlying t=some (.slice e)
  | .ptr e=>P.underlying t=some (.pointer e)
  | .arr n e=>P.underlying t=some (.array n e)
  | .st fs=>∃ f:Array Field,P.underlying t=some (.struct f)∧f.toList.map (fun x=>(x.type,x.offset))=fs
  | .mp k e=>P.underlying t=some (.map k e)
  | .fn=>∃ a b c,P.underlying t=some (.func a b c)
  | .ifc m=>∃ ms,P.underlying t=some (.interface ms)∧ms.isEmpty = !m
def vOfS (ag:Bool) (cs:List SV):SV:=if ag then .a cs else cs.headD (.v undef)
structure TIok (P:Program) (t:Nat) (i:TI):Prop where
  un:unOk P t i.u
  lay:Lay P t i.ag i.sz
  zero:∀ w,(zeroValue t).run P w=.ok (den (fun _=>undef) (vOfS i.ag i.z)) w
  inf:∃ z:Value,(P.info? t).map (fun x=>(x.zero,x.size,x.bytes))=some (some z,i.sz,i.by_)∧z.cells.size=i.sz
  zc:cellsOk i.z=true∧bdL 0 i.z=true∧W i.z=i.sz∧(i.ag=true∨i.sz=1)
  z1:i.ag=true∨∃ x,i.z=[x]∧cell1 x=true
/-- The seat's table. -/
structure Env (G:Tys) where
  P:Program
  ti:Nat→Option TI
  tok:∀ t i,ti t=some i→TIok P t i
  u8:Nat
  hu8:G.Γ u8=⟨UInt8,tU8,0⟩
  opn:(e base:Nat)→(G.Γ e).α→Option (List (Ent G) × List SV)
  opnOk:∀(e base:Nat) (x:(G.Γ e).α) (r:List (Ent G) × List SV),opn e base x=some r→∀(σ:Nat→Nat) (w:World) (cs:List Value),(G.Γ e).T.rep σ w x cs →
    ∃ f : NV, (∀ n, (f n).oneCell' = true) ∧ ∀ ν : NV, (∀ i, i < r.1.length → ν (base + i) = f i) →
      (∀(i:Nat) (en:Ent G),r.1[i]? = some en→en.holds ν (fun _=>False) σ w (f i))∧cs=denC ν r.2
  opnS:∀(e base:Nat) (x:(G.Γ e).α) (r:List (Ent G) × List SV),opn e base x=some r→r.1.all (·.stays)=true∧cellsOk r.2=true
  inn:(e:Nat)→(Nat→Option (Ent G))→List SV→Option (G.Γ e).α
  innOk:∀(e:Nat) (look:Nat→Option (Ent G)) (cs:List SV) (x:(G.Γ e).α),inn e look cs=some x →
    ∀(ν:NV) (σ:Nat→Nat) (w:World),(∀(n:Nat) (en:Ent G),look n=some en→∃ F,en.holds ν F σ w (ν n))→(G.Γ e).T.rep σ w x (denC ν cs)
end Go.Proofs.YtkpnjjacbhicgaaDoor.X
set_option linter.unusedVariables false
set_option linter.unusedSimpArgs false
namespace Go.Proofs.YtkpnjjacbhicgaaDoor.X
open Go Go.RowKit Go.Proofs.YtkpnjjacbhicgaaDoor.E
def I64 (z:Int):Prop:=-9223372036854775808≤z∧z<9223372036854775808
def conj:List Prop→Prop
  | []=>True
  | [p]=>p
  | p::q::r=>p∧conj (q::r)
theorem conj_all:∀ {l:List Prop},conj l→∀ p∈l,p
  | [],_,p,hp=>by cases hp
  | [q],h,p,hp=>by rw[List.mem_singleton] at hp;subst hp;exact h
  | q :: r :: l, h, p, hp => by
    rcases List.mem_cons.1 hp with rfl | hp
    · exact h.1
    · exact conj_all h.2 p hp
theorem conj_append:∀ {l m:List Prop},conj (l++m)→conj l∧conj m
  | [],m,h=>⟨trivial,h⟩
  | [p],[],h=>⟨h,trivial⟩
  | [p],q::m,h=>⟨h.1,h.2⟩
  | p :: q :: l, m, h => by
    have h':p∧conj ((q::l)++m):=h
    obtain⟨h1,h2⟩:=conj_append h'.2
    exact⟨⟨h'.1,h1⟩,h2⟩
abbrev SSl:=List (Nat × SV)
def ofI8 (x:Int):UInt8:=UInt8.ofNat (x % 256).toNat
def ofI32 (x:Int):UInt32:=UInt32.ofNat (x % 4294967296).toNat
def cst:Value→SV
  | .int .i64 n=>.i n
  | .int .u8 n=>if 0≤n∧n<256 then .c (UInt8.ofNat n.toNat) else .v (.int .u8 n)
  | .int .u32 n=>if 0≤n∧n<4294967296 then .w (UInt32.ofNat n.toNat) else .v (.int .u32 n)
  | .int .u64 n=>if 0≤n∧n<18446744073709551616 then .u (UInt64.ofNat n.toNat) else .v (.int .u64 n)
  | .string s=>.s s.data.toList
  | v=>.v v
theorem den_cst (ν:NV) (v:Value):den ν (cst v)=v:=by
  unfold cst
  split
  · rfl
  · split
    · rename_i n h
      simp only[den,bv,UInt8.toNat_ofNat']
      congr 1
      have:(2 ^ 8:Nat)=256:=by decide
      omega
    · simp[den]
  · split
    · rename_i n h
      simp only[den,wv,UInt32.toNat_ofNat']
      congr 1
      have:(2 ^ 32:Nat)=4294967296:=by decide
      omega
    · simp[den]
  · split
    · rename_i n h
      simp only[den,uv,UInt64.toNat_ofNat']
      congr 1
      have:(2 ^ 64:Nat)=18446744073709551616:=by decide
      omega
    · simp[den]
  · simp only[den,← sv_of]
  · simp[den]
def evS (l:SSl):Operand→Option SV
  | .tmp t=>l.lookup t
  | .const v=>some (cst v)
  | .global g=>some (.v (.pointer (some ⟨g,0,none⟩)))
  | .func f=>some (.f f [] [])
/-- What an operand is, as far as the slots are known. -/
def Rho (ν:NV) (l:SSl) (ρ:Operand→Value):Prop:=∀ x sx,evS l x=some sx→ρ x=den ν sx
def asB:SV→Option Bool
  | .b c=>some c
  | .v (.bool c)=>some c
  | _=>none
theorem asB_ok {x:SV} {c:Bool} (h:asB x=some c) (ν:NV):den ν x=.bool c:=by
  unfold asB at h
  split at h <;> first | (injection h with h;subst h;simp[den]) | simp at h
def sbin (op:BinOp):SV→SV→Option (SV × List Prop)
  | .i x, .i y => match op with
    | .add=>some (.i (x+y),[I64 (x+y)])
    | .sub=>some (.i (x - y),[I64 (x - y)])
    | .mul=>some (.i (x*y),[I64 (x*y)])
    | .quo=>some (.i (x / y),[0≤x∧x<9223372036854775808∧0<y])
    | .rem=>some (.i (x % y),[0≤x∧0<y])
    | .eql=>some (.b (decide (x=y)),[])
    | .neq=>some (.b (decide (x≠y)),[])
    | .lss=>some (.b (decide (x<y)),[])
    | .leq=>some (.b (decide (x≤y)),[])
    | .gtr=>some (.b (decide (y<x)),[])
    | .geq=>some (.b (decide (y≤x)),[])
    | .or=>some (.i ((x.toNat ||| y.toNat:Nat):Int),[0≤x∧x<9223372036854775808∧0≤y∧y<9223372036854775808])
    | .and=>some (.i ((x.toNat &&& y.toNat:Nat):Int),[0≤x∧x<9223372036854775808∧0≤y∧y<9223372036854775808])
    | _=>none
  | .c x, .c y => match op with
    | .shl=>some (.c (x <<< y),[y<8])
    | .shr=>some (.c (x >>> y),[y<8])
    | .add=>some (.c (x+y),[])
    | .sub=>some (.c (x - y),[])
    | .mul=>some (.c (x*y),[])
    | .rem=>some (.c (x % y),[y≠0])
    | .quo=>some (.c (x / y),[y≠0])
    | .and=>some (.c (x &&& y),[])
    | .or=>some (.c (x ||| y),[])
    | .xor=>some (.c (x ^^^ y),[])
    | .eql=>some (.b (decide (x=y)),[])
    | .neq=>some (.b (decide (x≠y)),[])
    | .lss=>some (.b (decide (x<y)),[])
    | .leq=>some (.b (decide (x≤y)),[])
    | .gtr=>some (.b (decide (y<x)),[])
    | .geq=>some (.b (decide (y≤x)),[])
    | _=>none
  | .w x, .w y => match op with
    | .add=>some (.w (x+y),[])
    | .sub=>some (.w (x - y),[])
    | .and=>some (.w (x &&& y),[])
    | .or=>some (.w (x ||| y),[])
    | .xor=>some (.w (x ^^^ y),[])
    | .eql=>some (.b (decide (x=y)),[])
    | .neq=>some (.b (decide (x≠y)),[])
    | _=>none
  | .u x, .u y => match op with
    | .add=>some (.u (x+y),[])
    | .sub=>some (.u (x - y),[])
    | .mul=>some (.u (x*y),[])
    | .rem=>some (.u (x % y),[y≠0])
    | .quo=>some (.u (x / y),[y≠0])
    | .and=>some (.u (x &&& y),[])
    | .or=>some (.u (x ||| y),[])
    | .xor=>some (.u (x ^^^ y),[])
    | .eql=>some (.b (decide (x=y)),[])
    | .neq=>some (.b (decide (x≠y)),[])
    | .lss=>some (.b (decide (x<y)),[])
    | .leq=>some (.b (decide (x≤y)),[])
    | .gtr=>some (.b (decide (y<x)),[])
    | .geq=>some (.b (decide (y≤x)),[])
    | .shl=>some (.u (x <<< y),[y<64])
    | .shr=>some (.u (x >>> y),[y<64])
    | _=>none
  | .u x, .i y => match op with
    | .shl=>some (.u (x <<< y.toNat.toUInt64),[0≤y∧y<64])
    | .shr=>some (.u (x >>> y.toNat.toUInt64),[0≤y∧y<64])
    | _=>none
  | .i x, .u y => match op with
    | .shl=>some (.i (x*2 ^ y.toNat),[I64 (x*2 ^ y.toNat),y<64])
    | .shr=>some (.i (x / 2 ^ y.toNat),[0≤x,y<64])
    | _=>none
  | .w x, .i y => match op with
    | .shl=>some (.w (x <<< y.toNat.toUInt32),[0≤y∧y<32])
    | .shr=>some (.w (x >>> y.toNat.toUInt32),[0≤y∧y<32])
    | _=>none
  | .w x, .u y => match op with
    | .shl=>some (.w (x <<< y.toNat.toUInt32),[y<32])
    | .shr=>some (.w (x >>> y.toNat.toUInt32),[y<32])
    | _=>none
  | .s x, .s y => match op with
    | .add=>some (.s (x++y),[x.length+y.length≤9000000000000000000])
    | .eql=>some (.b (decide (x=y)),[])
    | .neq=>some (.b (decide (x≠y)),[])
    | .lss=>some (.b (Op.bytesLess x y),[])
    | .leq=>some (.b (Op.bytesLess x y || decide (x=y)),[])
    | .gtr=>some (.b (!(Op.bytesLess x y || decide (x=y))),[])
    | .geq=>some (.b (!Op.bytesLess x y),[])
    | _=>none
  | _,_=>none
theorem u8_bits (a:UInt8):IntKind.u8.wrap ((a.toBitVec.toNat:Nat):Int)=(a.toNat:Int):=by
  rw[wrap_u rfl]
  have:=a.toNat_lt
  show((a.toNat:Nat):Int) % (2 ^ 8:Int)=_
  omega
theorem ofInt_u8 (a:UInt8):BitVec.ofInt 8 (a.toNat:Int)=a.toBitVec:=by
  apply BitVec.eq_of_toNat_eq
  rw[BitVec.toNat_ofInt]
  have:=a.toNat_lt
  show((a.toNat:Int) % ((2 ^ 8:Nat):Int)).toNat=a.toNat
  omega
theorem u8_and (a b:UInt8):IntKind.u8.wrap ((BitVec.ofInt 8 (a.toNat:Int) &&& BitVec.ofInt 8 (b.toNat:Int)).toNat:Int)=((a &&& b).toNat:Int):=by
  rw[ofInt_u8,ofInt_u8];exact u8_bits (a &&& b)
theorem u8_or (a b:UInt8):IntKind.u8.wrap ((BitVec.ofInt 8 (a.toNat:Int) ||| BitVec.ofInt 8 (b.toNat:Int)).toNat:Int)=((a ||| b).toNat:Int):=by
  rw[ofInt_u8,ofInt_u8];exact u8_bits (a ||| b)
theorem u8_xor (a b:UInt8):IntKind.u8.wrap ((BitVec.ofInt 8 (a.toNat:Int) ^^^ BitVec.ofInt 8 (b.toNat:Int)).toNat:Int)=((a ^^^ b).toNat:Int):=by
  rw[ofInt_u8,ofInt_u8];exact u8_bits (a ^^^ b)
theorem i64_in {x:Int} (h:I64 x):IntKind.i64.wrap x=x:=i64_eq h.1 h.2 rfl
theorem ofInt_i64 {x:Int} (h:0≤x∧x<9223372036854775808):(BitVec.ofInt 64 x).toNat=x.toNat:=by
  rw[BitVec.toNat_ofInt]
  show(x % ((2 ^ 64:Nat):Int)).toNat=x.toNat
  have:((2 ^ 64:Nat):Int)=18446744073709551616:=by decide
  rw[this];omega
theorem i64_or {x y:Int} (h:0≤x∧x<9223372036854775808∧0≤y∧y<9223372036854775808):IntKind.i64.wrap ((BitVec.ofInt 64 x ||| BitVec.ofInt 64 y).toNat:Int)=((x.toNat ||| y.toNat:Nat):Int):=by
  rw[BitVec.toNat_or,ofInt_i64 ⟨h.1,h.2.1⟩,ofInt_i64 ⟨h.2.2.1,h.2.2.2⟩]
  have:x.toNat ||| y.toNat<2 ^ 63:=Nat.or_lt_two_pow (by rw[show(2 ^ 63:Nat)=9223372036854775808 from by decide];omega) (by rw[show(2 ^ 63:Nat)=9223372036854775808 from by decide];omega)
  have e:(2 ^ 63:Nat)=9223372036854775808:=by decide
  exact i64_in ⟨by omega,by omega⟩
theorem i64_and {x y:Int} (h:0≤x∧x<9223372036854775808∧0≤y∧y<9223372036854775808):IntKind.i64.wrap ((BitVec.ofInt 64 x &&& BitVec.ofInt 64 y).toNat:Int)=((x.toNat &&& y.toNat:Nat):Int):=by
  rw[BitVec.toNat_and,ofInt_i64 ⟨h.1,h.2.1⟩,ofInt_i64 ⟨h.2.2.1,h.2.2.2⟩]
  have:x.toNat &&& y.toNat≤x.toNat:=Nat.and_le_left
  exact i64_in ⟨by omega,by omega⟩
theorem run_shl8 {P:Program} {w:World} (x y:UInt8) (h:y<8):(Op.shift .shl .u8 (x.toNat:Int) .u8 (y.toNat:Int)).run P w=.ok (bv (x <<< y)) w:=by
  have hy:y.toNat<8:=UInt8.lt_iff_toNat_lt.1 h
  have hn:¬ (y.toNat:Int)<0:=by omega
  unfold Op.shift
  rw[show ∀(c:Prop) [Decidable c] (a b:Sem Value),¬ c→(if c then a else b).run P w=b.run P w from fun c _ a b h=>by rw[if_neg h]]
  · show Result.ok (Value.int .u8 (IntKind.u8.wrap ((x.toNat : Int) * (2 ^ (min (Int.toNat (y.toNat : Int)) 8))))) w = _
    rw[Int.toNat_natCast,Nat.min_eq_left (by omega),wrap_u rfl]
    unfold bv
    congr 2
    rw[UInt8.toNat_shiftLeft,Nat.mod_eq_of_lt (by omega:y.toNat<8),Nat.shiftLeft_eq]
    show _ % (2 ^ 8:Int)=_
    rw[Int.natCast_emod]
    congr 1
  · exact hn
theorem run_shr8 {P:Program} {w:World} (x y:UInt8) (h:y<8):(Op.shift .shr .u8 (x.toNat:Int) .u8 (y.toNat:Int)).run P w=.ok (bv (x >>> y)) w:=by
  have hy:y.toNat<8:=UInt8.lt_iff_toNat_lt.1 h
  have hn:¬ (y.toNat:Int)<0:=by omega
  unfold Op.shift
  rw[show ∀(c:Prop) [Decidable c] (a b:Sem Value),¬ c→(if c then a else b).run P w=b.run P w from fun c _ a b h=>by rw[if_neg h]]
  · show Result.ok (Value.int .u8 ((x.toNat : Int).fdiv (2 ^ (min (Int.toNat (y.toNat : Int)) 8)))) w = _
    rw[Int.toNat_natCast,Nat.min_eq_left (by omega),Int.fdiv_eq_ediv_of_nonneg _ (by exact Int.le_of_lt (Int.pow_pos (by decide)))]
    unfold bv
    congr 2
    rw[UInt8.toNat_shiftRight,Nat.mod_eq_of_lt (by omega:y.toNat<8),Nat.shiftRight_eq_div_pow,Int.natCast_ediv,Int.natCast_pow]
    rfl
  · exact hn
theorem dec_ne (x y:Int):(x != y)=decide (x≠y):=by rw[Bool.eq_iff_iff];simp
theorem toNat_ne8 (x y:UInt8):((x.toNat:Int) != (y.toNat:Int))=decide (x≠y):=by rw[cmp_u8_neq];simp
theorem toNat_ne32 (x y:UInt32):((x.toNat:Int) != (y.toNat:Int))=decide (x≠y):=by rw[cmp_u32_neq];simp
theorem toNat_ne64 (x y:UInt64):((x.toNat:Int) != (y.toNat:Int))=decide (x≠y):=by rw[cmp_u64_neq];simp
theorem pos8 {y:UInt8} (h:y≠0):y.toNat≠0:=fun e=>h (by rw[← UInt8.toNat_inj,e];rfl)
theorem pos64 {y:UInt64} (h:y≠0):y.toNat≠0:=fun e=>h (by rw[← UInt64.toNat_inj,e];rfl)
section
variable {P:Program} {w:World}
theorem run_iff {α:Type} {c:Prop} [Decidable c] {x y:Sem α} (h:¬ c):(if c then x else y).run P w=y.run P w:=by rw[if_neg h]
theorem shl_u64 (x y:UInt64) (h:y<64):x <<< y.toNat.toUInt64=x <<< y:=by
  rw[show y.toNat.toUInt64=y from UInt64.ofNat_toNat]
theorem shr_u64 (x y:UInt64) (h:y<64):x >>> y.toNat.toUInt64=x >>> y:=by
  rw[show y.toNat.toUInt64=y from UInt64.ofNat_toNat]
theorem run_shl64 {t u:Nat} (x:UInt64) {k k':IntKind} {y:Int} (h:0≤y∧y<64):(Op.shift .shl .u64 (x.toNat:Int) k y).run P w=.ok (uv (x <<< y.toNat.toUInt64)) w:=by
  have hn:¬ y<0:=by omega
  have h2:=u64_shl x y.toNat (by omega)
  rw[Int.toNat_natCast] at h2
  unfold Op.shift
  rw[run_iff hn]
  show Result.ok (Value.int .u64 (IntKind.u64.wrap ((x.toNat:Int)*(2 ^ (min y.toNat 64))))) w=_
  rw[h2]
theorem run_shr64 {t u:Nat} (x:UInt64) {k k':IntKind} {y:Int} (h:0≤y∧y<64):(Op.shift .shr .u64 (x.toNat:Int) k y).run P w=.ok (uv (x >>> y.toNat.toUInt64)) w:=by
  have hn:¬ y<0:=by omega
  have h2:=u64_shr x y.toNat (by omega)
  rw[Int.toNat_natCast] at h2
  unfold Op.shift
  rw[run_iff hn]
  show Result.ok (Value.int .u64 (Int.fdiv (x.toNat:Int) (2 ^ (min y.toNat 64)))) w=_
  rw[h2]
theorem run_shl32 {t u:Nat} (x:UInt32) {k k':IntKind} {y:Int} (h:0≤y∧y<32):(Op.shift .shl .u32 (x.toNat:Int) k y).run P w=.ok (wv (x <<< y.toNat.toUInt32)) w:=by
  have hn:¬ y<0:=by omega
  have h2:=u32_shl x y.toNat (by omega)
  rw[Int.toNat_natCast] at h2
  unfold Op.shift
  rw[run_iff hn]
  show Result.ok (Value.int .u32 (IntKind.u32.wrap ((x.toNat:Int)*(2 ^ (min y.toNat 32))))) w=_
  rw[h2]
theorem run_shr32 {t u:Nat} (x:UInt32) {k k':IntKind} {y:Int} (h:0≤y∧y<32):(Op.shift .shr .u32 (x.toNat:Int) k y).run P w=.ok (wv (x >>> y.toNat.toUInt32)) w:=by
  have hn:¬ y<0:=by omega
  have h2:=u32_shr x y.toNat (by omega)
  rw[Int.toNat_natCast] at h2
  unfold Op.shift
  rw[run_iff hn]
  show Result.ok (Value.int .u32 (Int.fdiv (x.toNat:Int) (2 ^ (min y.toNat 32)))) w=_
  rw[h2]
theorem sbin_ok (ν:NV) {op:BinOp} {t:TypeId} {x y z:SV} {vs:List Prop} (h:sbin op x y=some (z,vs)) (hv:∀ p∈vs,p) (px py:Operand) :
    (eqGuard op t px py (den ν x) (den ν y)).run P w=.ok () w∧(binOp op t (den ν x) (den ν y)).run P w=.ok (den ν z) w:=by
  unfold sbin at h
  split at h
  · -- whole numbers
    rename_i x y
    refine⟨by cases op <;> rfl,?_⟩
    cases op <;> simp only[Option.some.injEq,Prod.mk.injEq,reduceCtorEq] at h <;> obtain⟨rfl,rfl⟩:=h <;> (try simp only[List.mem_singleton,forall_eq] at hv) <;>
      simp only[den,binOp,Op.intArith,Op.intDiv,Op.intCmp,ne_eq,not_true_eq_false,if_false,Sem.run_pure]
    · rw[i64_in hv]
    · rw[i64_in hv]
    · rw[i64_in hv]
    · rw[run_iff (by omega),Sem.run_pure,Int.tdiv_eq_ediv_of_nonneg hv.1,i64_in ⟨by have:=Int.ediv_nonneg hv.1 (Int.le_of_lt hv.2.2);omega,by have:=Int.ediv_le_self y hv.1;omega⟩]
    · rw[run_iff (by omega),Sem.run_pure,Int.tmod_eq_emod_of_nonneg hv.1]
    · exact congrArg (fun q=>Result.ok (Value.int .i64 q) w) (i64_and hv)
    · exact congrArg (fun q=>Result.ok (Value.int .i64 q) w) (i64_or hv)
    · rw[cmp_int_eql]
    · rw[dec_ne]
  · rename_i x y
    refine⟨by cases op <;> rfl,?_⟩
    cases op <;> simp only[Option.some.injEq,Prod.mk.injEq,reduceCtorEq] at h <;> obtain⟨rfl,rfl⟩:=h <;> (try simp only[List.mem_singleton,forall_eq] at hv) <;>
      simp only[den,bv,binOp,Op.intArith,Op.intDiv,Op.intCmp,Op.intBits,ne_eq,not_true_eq_false,if_false,Sem.run_pure]
    · rw[u8_add]
    · rw[u8_sub]
    · rw[u8_mul]
    · rw[run_iff (by have:=pos8 hv;omega),Sem.run_pure,u8_quo _ _ (pos8 hv)]
    · rw[run_iff (by have:=pos8 hv;omega),Sem.run_pure,u8_rem _ _ (pos8 hv)]
    · exact congrArg (fun q=>Result.ok (Value.int .u8 q) w) (u8_and x y)
    · exact congrArg (fun q=>Result.ok (Value.int .u8 q) w) (u8_or x y)
    · exact congrArg (fun q=>Result.ok (Value.int .u8 q) w) (u8_xor x y)
    · exact run_shl8 x y hv
    · exact run_shr8 x y hv
    · rw[cmp_u8_eql]
    · rw[toNat_ne8]
    · rw[cmp_u8_lss]
    · rw[cmp_u8_leq]
    · rw[cmp_u8_gtr]
    · rw[cmp_u8_geq]
  · rename_i x y
    refine⟨by cases op <;> rfl,?_⟩
    cases op <;> simp only[Option.some.injEq,Prod.mk.injEq,reduceCtorEq] at h <;> obtain⟨rfl,rfl⟩:=h <;> (try simp only[List.mem_singleton,forall_eq] at hv) <;>
      simp only[den,wv,binOp,Op.intArith,Op.intDiv,Op.intCmp,Op.intBits,ne_eq,not_true_eq_false,if_false,Sem.run_pure]
    · rw[u32_add]
    · rw[u32_sub]
    · exact congrArg (fun q=>Result.ok (Value.int .u32 q) w) (u32_and x y)
    · exact congrArg (fun q=>Result.ok (Value.int .u32 q) w) (u32_or x y)
    · exact congrArg (fun q=>Result.ok (Value.int .u32 q) w) (u32_xor x y)
    · rw[cmp_u32_eql]
    · rw[toNat_ne32]
  · rename_i x y
    refine⟨by cases op <;> rfl,?_⟩
    cases op <;> simp only[Option.some.injEq,Prod.mk.injEq,reduceCtorEq] at h <;> obtain⟨rfl,rfl⟩:=h <;> (try simp only[List.mem_singleton,forall_eq] at hv) <;>
      simp only[den,uv,binOp,Op.intArith,Op.intDiv,Op.intCmp,Op.intBits,ne_eq,not_true_eq_false,if_false,Sem.run_pure]
    · rw[u64_add]
    · rw[u64_sub]
    · rw[u64_mul]
    · rw[run_iff (by have:=pos64 hv;omega),Sem.run_pure,u64_quo _ _ (pos64 hv)]
    · rw[run_iff (by have:=pos64 hv;omega),Sem.run_pure,u64_rem _ _ (pos64 hv)]
    · exact congrArg (fun q=>Result.ok (Value.int .u64 q) w) (u64_and x y)
    · exact congrArg (fun q=>Result.ok (Value.int .u64 q) w) (u64_or x y)
    · exact congrArg (fun q=>Result.ok (Value.int .u64 q) w) (u64_xor x y)
    · rw[run_shl64 (t:=0) (u:=0) (k':=.u64) x (by have:=UInt64.lt_iff_toNat_lt.1 hv;have e:(64:UInt64).toNat=64:=rfl;omega),Int.toNat_natCast,shl_u64 x y hv]
    · rw[run_shr64 (t:=0) (u:=0) (k':=.u64) x (by have:=UInt64.lt_iff_toNat_lt.1 hv;have e:(64:UInt64).toNat=64:=rfl;omega),Int.toNat_natCast,shr_u64 x y hv]
    · rw[cmp_u64_eql]
    · rw[toNat_ne64]
    · rw[cmp_u64_lss]
    · rw[cmp_u64_leq]
    · rw[cmp_u64_gtr]
    · rw[cmp_u64_geq]
  · rename_i x y
    refine⟨by cases op <;> rfl,?_⟩
    cases op <;> simp only[Option.some.injEq,Prod.mk.injEq,reduceCtorEq] at h <;> obtain⟨rfl,rfl⟩:=h <;> (try simp only[List.mem_singleton,forall_eq] at hv) <;>
      simp only[den,uv,binOp]
    · rw[run_shl64 (t:=0) (u:=0) (k':=.u64) x hv]
    · rw[run_shr64 (t:=0) (u:=0) (k':=.u64) x hv]
  · rename_i x y
    refine⟨by cases op <;> rfl,?_⟩
    cases op <;> simp only[Option.some.injEq,Prod.mk.injEq,reduceCtorEq] at h <;> obtain⟨rfl,rfl⟩:=h <;> simp only[List.mem_cons,List.not_mem_nil,or_false,forall_eq_or_imp,forall_eq] at hv <;>
      have hy:y.toNat<64:=UInt64.lt_iff_toNat_lt.1 hv.2 <;> simp only[den,uv,binOp] <;> unfold Op.shift <;> rw[run_iff (by omega)]
    · show Result.ok (Value.int .i64 (IntKind.i64.wrap (x * (2 ^ (min (Int.toNat (y.toNat : Int)) 64))))) w = _
      rw[Int.toNat_natCast,Nat.min_eq_left (by omega),i64_in hv.1]
    show Result.ok (Value.int .i64 (x.fdiv (2 ^ (min (Int.toNat (y.toNat:Int)) 64)))) w=_
    rw[Int.toNat_natCast,Nat.min_eq_left (by omega),Int.fdiv_eq_ediv_of_nonneg _ (by exact Int.le_of_lt (Int.pow_pos (by decide)))]
  · rename_i x y
    refine⟨by cases op <;> rfl,?_⟩
    cases op <;> simp only[Option.some.injEq,Prod.mk.injEq,reduceCtorEq] at h <;> obtain⟨rfl,rfl⟩:=h <;> (try simp only[List.mem_singleton,forall_eq] at hv) <;>
      simp only[den,wv,binOp]
    · rw[run_shl32 (t:=0) (u:=0) (k':=.u64) x hv]
    · rw[run_shr32 (t:=0) (u:=0) (k':=.u64) x hv]
  · rename_i x y
    refine⟨by cases op <;> rfl,?_⟩
    cases op <;> simp only[Option.some.injEq,Prod.mk.injEq,reduceCtorEq] at h <;> obtain⟨rfl,rfl⟩:=h <;> (try simp only[List.mem_singleton,forall_eq] at hv) <;>
      simp only[den,wv,uv,binOp]
    · have h9 : y.toNat < 32 := UInt64.lt_iff_toNat_lt.1 hv
      rw[run_shl32 (t:=0) (u:=0) (k':=.u64) x (by omega),Int.toNat_natCast]
    · have h9 : y.toNat < 32 := UInt64.lt_iff_toNat_lt.1 hv
      rw[run_shr32 (t:=0) (u:=0) (k':=.u64) x (by omega),Int.toNat_natCast]
  · rename_i x y
    refine⟨by cases op <;> rfl,?_⟩
    cases op <;> simp only[Option.some.injEq,Prod.mk.injEq,reduceCtorEq] at h <;> obtain⟨rfl,rfl⟩:=h <;> (try simp only[List.mem_singleton,forall_eq] at hv) <;>
      simp only[den,sv,binOp,Op.stringOp,ba_toList]
    · have hsz:¬ (((x.toArray.size+y.toArray.size:Nat):Int)>IntKind.i64.max):=by
        have:IntKind.i64.max=9223372036854775807:=by decide
        rw[this];simp;omega
      show((if((x.toArray.size+y.toArray.size:Nat):Int)>IntKind.i64.max then(unsupported _:Sem Value) else pure (.string (⟨x.toArray⟩++⟨y.toArray⟩))).run P w)=_
      rw[if_neg hsz,Sem.run_pure]
      congr 2
    · simp only[Sem.run_pure];congr 2;rw[Bool.eq_iff_iff];simp
    · simp only[Sem.run_pure];congr 2;rw[Bool.eq_iff_iff];simp
    · rfl
    · simp only[Sem.run_pure];congr 3;rw[Bool.eq_iff_iff];simp
    · simp only[Sem.run_pure];congr 4;rw[Bool.eq_iff_iff];simp
    · rfl
  · simp at h
end
end Go.Proofs.YtkpnjjacbhicgaaDoor.X
set_option linter.unusedVariables false
set_option linter.unusedSimpArgs false
namespace Go.Proofs.YtkpnjjacbhicgaaDoor.X
open Go Go.RowKit Go.Proofs.YtkpnjjacbhicgaaDoor.E
variable {G:Tys} (En:Env G)
theorem cast_u8 {t:TyI} (h:t=⟨UInt8,tU8,0⟩):List t.α=List UInt8:=by subst h;rfl
def castU8 {t:TyI} (h:t=⟨UInt8,tU8,0⟩) (xs:List t.α):List UInt8:=cast (cast_u8 h) xs
theorem castU8_rd {t:TyI} (h:t=⟨UInt8,tU8,0⟩) {xs:List t.α} {σ:Nat→Nat} {w:World} {v:Value} (hr:Rd t.T σ w v xs):Rd tU8 σ w v (castU8 h xs):=by subst h;exact hr
def bytesOf:Ent G→Option (List UInt8)
  | .rd e xs | .ow e xs=>if h:e=En.u8 then some (castU8 ((congrArg G.Γ h).trans En.hu8) xs) else none
  | .nl=>some []
  | _=>none
def lenOf:Ent G→Option Nat
  | .rd _ xs | .ow _ xs | .mu _ xs=>some xs.length
  | .nl=>some 0
  | _=>none
def vOfS? (ag:Bool) (cs:List SV):Option SV :=
  if ag then some (.a cs) else match cs with | [x]=>if cell1 x then some x else none | _=>none
theorem vOfS?_ok {ν:NV} (hν:∀ n,(ν n).oneCell'=true) {ag:Bool} {cs:List SV} {x:SV} (h:vOfS? ag cs=some x):vOf ag (denC ν cs)=den ν x∧(ag=true∨(denC ν cs).length=1):=by
  unfold vOfS? at h
  split at h
  · rename_i ha; injection h with h; subst h; subst ha
    exact⟨by simp[vOf,den],.inl rfl⟩
  · rename_i ha
    split at h
    · split at h
      · rename_i y hc
        injection h with h;subst h
        obtain⟨h1,h2,_⟩:=cell1_ok hν hc
        have ha':ag=false:=by simpa using ha
        subst ha'
        exact⟨by rw[h2];simp[vOf],.inr (by rw[h2];rfl)⟩
      · simp at h
    · simp at h
section
variable {P:Program} {w:World}
theorem run_part {t:Nat} {ag:Bool} {n:Nat} (L:Lay P t ag n) (cs:List Value) (off:Nat) (c:List Value) (hc:c=(cs.drop off).take n) (hn:off+n≤cs.length) (h1:ag=true∨n=1) :
    (part t cs.toArray off).run P w=.ok (vOf ag c) w:=by
  unfold part
  simp only[Sem.run_bind,L.a,Result.andThen_ok]
  cases ag with
  | true =>
    simp only[if_true,Sem.run_bind,L.s,Result.andThen_ok,Sem.run_pure,vOf]
    congr 2
    subst hc
    apply Array.ext'
    rw[List.extract_toArray]
    simp[List.extract_eq_take_drop]
  | false =>
    have hn1:n=1:=by simpa using h1
    subst hn1
    simp only[Bool.false_eq_true,if_false,vOf]
    have hlt:off<cs.length:=by omega
    have:(cs.toArray)[off]? = some cs[off]:=by simp[hlt]
    rw[this]
    subst hc
    rw[List.drop_eq_getElem_cons hlt]
    rfl
end
def fieldOf (t k:Nat):Option (TI × Nat) :=
  match En.ti t with
  | some ⟨.st fs,_,_,_,_⟩=>(fs[k]?).bind fun p=>(En.ti p.1).map fun i=>(i,p.2)
  | _=>none
theorem fieldOf_ok {t k:Nat} {i:TI} {off:Nat} (h:fieldOf En t k=some (i,off)):∃ f:Array Field,En.P.underlying t=some (.struct f)∧∃ g,f[k]? = some g∧g.offset=off∧TIok En.P g.type i:=by
  unfold fieldOf at h
  split at h
  · rename_i fs _ _ _ _ ht
    obtain⟨p,h1,h2⟩:=Option.bind_eq_some_iff.1 h
    obtain⟨i',h3,h4⟩:=Option.map_eq_some_iff.1 h2
    injection h4 with h4 h5
    subst h4;subst h5
    obtain⟨f,h6,h7⟩:=(En.tok _ _ ht).un
    refine⟨f,h6,?_⟩
    rw[← h7,List.getElem?_map] at h1
    obtain⟨g,h8,h9⟩:=Option.map_eq_some_iff.1 h1
    refine⟨g,by simpa using h8,by rw[← h9],?_⟩
    have:=En.tok _ _ h3
    rw[← h9] at this
    exact this
  · simp at h
def unT (t:Nat):Option Un:=match En.ti t with | some i=>some i.u | none=>none
def isTy (t:Nat) (u:Un→Bool):Bool:=match En.ti t with | some i=>u i.u | none=>false
def isU8T:Un→Bool | .int .u8=>true | _=>false
theorem isU8T_ok:∀ u,isU8T u=true→u=.int .u8:=by
  intro u h
  cases u <;> first | (rename_i k;cases k <;> first | rfl | cases h) | cases h
/-- A value against nil: what == and what != say. -/
def nilB (H:List (Ent G)) (u:Un) (v:Value) (a:SV):Option (SV × SV × List Prop) :=
  match u,v with
  | .ptr _, .pointer none => match a with
    | .v (.pointer none)=>some (.v (.bool true),.v (.bool false),[])
    | .p n _ => match H[n]? with
      | some (.bx _ _) | some (.sg _ _)=>some (.v (.bool false),.v (.bool true),[])
      | some (.pn _ false nil)=>some (.b nil,.b (!nil),[])
      | _=>none
    | .n n => match H[n]? with
      | some (.bx _ _) | some (.sg _ _)=>some (.v (.bool false),.v (.bool true),[])
      | some (.pn _ false nil)=>some (.b nil,.b (!nil),[])
      | some (.pt _ o)=>some (.b o.isNone,.b (!o.isNone),[])
      | _=>none
    | _=>none
  | .ifc _, .nilIface => match a with
    | .v .nilIface=>some (.v (.bool true),.v (.bool false),[])
    | .j _ _=>some (.v (.bool false),.v (.bool true),[])
    | .n n => match H[n]? with
      | some (.pn _ true nil)=>some (.b nil,.b (!nil),[])
      | _=>none
    | _=>none
  | .sl _, .slice none 0 0 => match a with
    | .v (.slice none 0 0)=>some (.v (.bool true),.v (.bool false),[])
    | .n n => match H[n]? with
      | some .nl=>some (.v (.bool true),.v (.bool false),[])
      | some (.rd _ xs)=>some (.v (.bool false),.v (.bool true),[0<xs.length])
      | some (.ow _ xs)=>some (.v (.bool false),.v (.bool true),[0<xs.length])
      | _=>none
    | _=>none
  | .mp _ _, .map none => match a with
    | .v (.map none)=>some (.v (.bool true),.v (.bool false),[])
    | .n n => match H[n]? with
      | some (.mp _ _)=>some (.v (.bool false),.v (.bool true),[])
      | _=>none
    | _=>none
  | .fn, .nilFunc => match a with
    | .v .nilFunc=>some (.v (.bool true),.v (.bool false),[])
    | .f _ _ _=>some (.v (.bool false),.v (.bool true),[])
    | _=>none
  | _,_=>none
def nilS (H:List (Ent G)) (op:BinOp) (t:Nat) (a:SV):Operand→Option (SV × List Prop)
  | .const v => (unT En t).bind fun u => (nilB H u v a).bind fun r => match op with
    | .eql=>some (r.1,r.2.2)
    | .neq=>some (r.2.1,r.2.2)
    | _=>none
  | _=>none
def sconv (k:IntKind):SV→Option (SV × List Prop)
  | .i x => match k with
    | .i64=>some (.i x,[I64 x]) | .u8=>some (.c (ofI8 x),[]) | .u32=>some (.w (ofI32 x),[]) | .u64=>some (.u (ofI x),[]) | _=>none
  | .c x => match k with
    | .i64=>some (.i (x.toNat:Int),[]) | .u8=>some (.c x,[]) | .u32=>some (.w x.toUInt32,[]) | .u64=>some (.u x.toUInt64,[]) | _=>none
  | .w x => match k with
    | .i64=>some (.i (x.toNat:Int),[]) | .u8=>some (.c x.toUInt8,[]) | .u32=>some (.w x,[]) | _=>none
  | .u x => match k with
    | .i64=>some (.i (x.toNat:Int),[x<9223372036854775808]) | .u8=>some (.c x.toUInt8,[]) | .u32=>some (.w x.toUInt32,[]) | .u64=>some (.u x,[]) | _=>none
  | _=>none
theorem ofI8_ok (x:Int):IntKind.u8.wrap x=((ofI8 x).toNat:Int):=by
  rw[wrap_u rfl]
  unfold ofI8
  rw[UInt8.toNat_ofNat']
  show x % (2 ^ 8:Int)=_
  omega
theorem ofI32_ok (x:Int):IntKind.u32.wrap x=((ofI32 x).toNat:Int):=by
  rw[E.wrap32]
  unfold ofI32
  rw[UInt32.toNat_ofNat',two32n]
  omega
theorem wrap_self8 (x:UInt8):IntKind.u8.wrap (x.toNat:Int)=(x.toNat:Int):=by
  rw[wrap_u rfl];have:=x.toNat_lt;show(x.toNat:Int) % (2 ^ 8:Int)=_;omega
theorem wrap_self32 (x:UInt32):IntKind.u32.wrap (x.toNat:Int)=(x.toNat:Int):=by
  have:=x.toNat_lt;rw[E.wrap32];rw[two32n] at this;omega
theorem wrap_self64 (x:UInt64):IntKind.u64.wrap (x.toNat:Int)=(x.toNat:Int):=by
  rw[wrap_u rfl];have:=x.toNat_lt;show(x.toNat:Int) % (2 ^ 64:Int)=_
  have h:(2 ^ 64:Int)=18446744073709551616:=by decide
  rw[h];omega
theorem sconv_ok (ν:NV) {k:IntKind} {x z:SV} {vs:List Prop} (h:sconv k x=some (z,vs)) (hv:∀ p∈vs,p):∃ k' n,den ν x=.int k' n∧den ν z=.int k (k.wrap n):=by
  unfold sconv at h
  split at h
  · refine ⟨_, _, rfl, ?_⟩
    cases k <;> simp only[Option.some.injEq,Prod.mk.injEq,reduceCtorEq] at h <;> obtain⟨rfl,rfl⟩:=h <;> (try simp only[List.mem_singleton,forall_eq] at hv) <;> simp only[den,bv,wv,uv,iv]
    · rw[i64_in hv]
    · rw[ofI8_ok]
    · rw[ofI32_ok]
    · rw[i64_u64]
  · refine ⟨_, _, rfl, ?_⟩
    cases k <;> simp only[Option.some.injEq,Prod.mk.injEq,reduceCtorEq] at h <;> obtain⟨rfl,rfl⟩:=h <;> (try simp only[List.mem_singleton,forall_eq] at hv) <;> simp only[den,bv,wv,uv,iv]
    · rw[u8_i64]
    · rw[wrap_self8]
    · rw[u8_u32]
    · rw[u8_u64]
  · refine ⟨_, _, rfl, ?_⟩
    cases k <;> simp only[Option.some.injEq,Prod.mk.injEq,reduceCtorEq] at h <;> obtain⟨rfl,rfl⟩:=h <;> (try simp only[List.mem_singleton,forall_eq] at hv) <;> simp only[den,bv,wv,uv,iv]
    · rw[u32_i64]
    · rw[u32_u8]
    · rw[wrap_self32]
  · refine ⟨_, _, rfl, ?_⟩
    cases k <;> simp only[Option.some.injEq,Prod.mk.injEq,reduceCtorEq] at h <;> obtain⟨rfl,rfl⟩:=h <;> (try simp only[List.mem_singleton,forall_eq] at hv) <;> simp only[den,bv,wv,uv,iv]
    · rw[i64_in ⟨by omega,by have:=UInt64.lt_iff_toNat_lt.1 hv;have e:(9223372036854775808:UInt64).toNat=9223372036854775808:=rfl;omega⟩]
    · rw[u64_u8]
    · rw[u64_u32]
    · rw[wrap_self64]
  · simp at h
def fillS (pl:Nat→Option (Nat × Nat)):List SV→List (Nat × SV)→Option (List SV)
  | cs,[]=>some cs
  | cs,(i,x)::r=>(pl i).bind fun q=>(cells x).bind fun ds=>if W ds=q.2 then(updW cs q.1 ds).bind fun cs'=>fillS pl cs' r else none
theorem foldl_set:∀(vs:List Value) (off k:Nat) (arr:List Value),off+k+vs.length≤arr.length →
    (vs.zipIdx k).foldl (fun(cs:Array Value) (p:Value × Nat)=>cs.setIfInBounds (off+p.2) p.1) arr.toArray=(arr.take (off+k)++vs++arr.drop (off+k+vs.length)).toArray
  | [],off,k,arr,h=>by simp
  | v :: vs, off, k, arr, h => by
    rw[List.zipIdx_cons,List.foldl_cons]
    simp only[List.setIfInBounds_toArray]
    rw[foldl_set vs off (k+1) (arr.set (off+k) v) (by simp at *;omega)]
    congr 1
    simp only[List.length_cons] at h
    rw[List.take_set,List.drop_set]
    rw[if_pos (by omega)]
    have e1:(List.take (off+(k+1)) arr).set (off+k) v=arr.take (off+k)++[v]:=by
      apply List.ext_getElem?
      intro j
      rw[List.getElem?_set]
      by_cases c:off+k=j
      · subst c
        have hm:min (off+k) arr.length=off+k:=by omega
        simp[List.getElem?_append_right,hm]
        omega
      · simp only [c, if_false]
        rcases Nat.lt_or_ge j (off+k) with q | q
        · rw [List.getElem?_append_left (by simp; omega), List.getElem?_take, List.getElem?_take]
          simp[q];omega
        · rw[List.getElem?_eq_none (by simp;omega),List.getElem?_eq_none (by simp;omega)]
    rw[e1]
    simp only[List.append_assoc,List.singleton_append,List.length_cons]
    congr 3
    omega
theorem fillS_ok {ν:NV} (hν:∀ n,(ν n).oneCell'=true) {pl:Nat→Option (Nat × Nat)}:∀ {ps:List (Nat × SV)} {cs ds:List SV},fillS pl cs ps=some ds →
    Instr.fill pl (denC ν cs).toArray (ps.map fun p=>(p.1,den ν p.2))=some (denC ν ds).toArray
  | [],cs,ds,h=>by simp only[fillS,Option.some.injEq] at h;subst h;rfl
  | (i, x) :: r, cs, ds, h => by
    simp only[fillS] at h
    obtain⟨q,h1,h2⟩:=Option.bind_eq_some_iff.1 h
    obtain⟨es,h3,h4⟩:=Option.bind_eq_some_iff.1 h2
    split at h4
    · rename_i hw
      obtain⟨cs',h5,h6⟩:=Option.bind_eq_some_iff.1 h4
      obtain⟨a1,a2,a3⟩:=updW_ok ν h5
      obtain⟨b1,b2,b3⟩:=cells_ok hν h3
      have hsz:(den ν x).cells.size=q.2:=by rw[← Array.length_toList,b1,denC_len,hw]
      simp only[List.map_cons,Instr.fill,h1]
      rw[if_neg (by
        simp only[Bool.or_eq_true,decide_eq_true_eq,hsz,List.size_toArray,denC_len]
        omega)]
      have:=fillS_ok hν h6
      rw[← this]
      congr 1
      have e:(den ν x).cells=(denC ν es).toArray:=by rw[← b1]
      rw[e,← Array.foldl_toList,Array.toList_zipIdx]
      have:=foldl_set (denC ν es) q.1 0 (denC ν cs) (by rw[denC_len,denC_len];omega)
      refine this.trans ?_
      rw[a1,denC_len]
      rfl
    · simp at h4
def evParts (l:SSl):List (Nat × Operand)→Option (List (Nat × SV))
  | []=>some []
  | (i,x)::r=>(evS l x).bind fun y=>(evParts l r).map ((i,y) :: ·)
theorem evParts_ok {ν:NV} {l:SSl} {ρ:Operand→Value} (hρ:Rho ν l ρ):∀ {ps:List (Nat × Operand)} {qs:List (Nat × SV)},evParts l ps=some qs→ps.map (fun p=>(p.1,ρ p.2))=qs.map fun p=>(p.1,den ν p.2)
  | [],qs,h=>by simp only[evParts,Option.some.injEq] at h;subst h;rfl
  | (i, x) :: r, qs, h => by
    simp only[evParts] at h
    obtain⟨y,h1,h2⟩:=Option.bind_eq_some_iff.1 h
    obtain⟨rs,h3,rfl⟩:=Option.map_eq_some_iff.1 h2
    simp only[List.map_cons,hρ x y h1,evParts_ok hρ h3]
def evL (l:SSl):List Operand→Option (List SV)
  | []=>some []
  | x::r=>(evS l x).bind fun y=>(evL l r).map (y :: ·)
theorem evL_ok {ν:NV} {l:SSl} {ρ:Operand→Value} (hρ:Rho ν l ρ):∀ {ps:List Operand} {qs:List SV},evL l ps=some qs→ps.map ρ=denL ν qs
  | [],qs,h=>by simp only[evL,Option.some.injEq] at h;subst h;simp[denL]
  | x :: r, qs, h => by
    simp only[evL] at h
    obtain⟨y,h1,h2⟩:=Option.bind_eq_some_iff.1 h
    obtain⟨rs,h3,rfl⟩:=Option.map_eq_some_iff.1 h2
    simp only[List.map_cons,hρ x y h1,evL_ok hρ h3,denL]
def placeS (fs:List (Nat × Nat)) (k:Nat):Option (Nat × Nat):=(fs[k]?).bind fun p=>(En.ti p.1).map fun i=>(p.2,i.sz)
def allTi (fs:List (Nat × Nat)):Bool:=fs.all fun p=>(En.ti p.1).isSome
theorem run_places {w:World}:∀(f:List Field),allTi En (f.map fun x=>(x.type,x.offset))=true →
    ∃ ps:List (Nat × Nat),(f.mapM fun x=>(do pure (x.offset,← sizeOf x.type):Sem (Nat × Nat))).run En.P w=.ok ps w∧∀ k,ps[k]? = placeS En (f.map fun x=>(x.type,x.offset)) k
  | [],_=>⟨[],rfl,fun k=>by simp[placeS]⟩
  | x :: f, h => by
    simp only[List.map_cons,allTi,List.all_cons,Bool.and_eq_true] at h
    obtain⟨ps,h1,h2⟩:=run_places (w:=w) f h.2
    obtain⟨i,hi⟩:=Option.isSome_iff_exists.1 h.1
    have hs:=(En.tok _ _ hi).lay.s w
    refine⟨(x.offset,i.sz)::ps,?_,fun k=>?_⟩
    · rw [List.mapM_cons]
      simp only[Sem.run_bind,hs,Result.andThen_ok,Sem.run_pure,h1]
    · cases k with
      | zero=>simp[placeS,hi]
      | succ k =>
        have:=h2 k
        simp only[List.getElem?_cons_succ,this,placeS,List.map_cons]
theorem run_buildS {ν:NV} (hν:∀ n,(ν n).oneCell'=true) {w:World} {t:Nat} {fs:List (Nat × Nat)} {sz:Nat} {z:List SV} {ps:List (Nat × SV)} {ds:List SV}
    {by_:Nat} (ht:En.ti t=some ⟨.st fs,sz,true,z,by_⟩) (ha:allTi En fs=true) (h:fillS (placeS En fs) z ps=some ds) :
    (Instr.build t ((ps.map fun p=>(p.1,den ν p.2)).toArray)).run En.P w=.ok (.agg (denC ν ds).toArray) w:=by
  have T:=En.tok _ _ ht
  obtain⟨f,hf,hfs⟩:=T.un
  have hz:=T.zero w
  have hzz:denC (fun _=>undef) z=denC ν z:=(denC_ext (k:=0) (fun n hn=>by omega) z T.zc.2.1).symm
  simp only[vOfS,if_true,den,hzz] at hz
  subst hfs
  obtain⟨pl,h1,h2⟩:=run_places En (w:=w) f.toList ha
  unfold Instr.build
  simp only[Sem.run_bind,hz,Result.andThen_ok,run_underlying hf,Value.cells]
  have e:(f.mapM fun x=>(do pure (x.offset,← sizeOf x.type):Sem (Nat × Nat))).run En.P w=.ok pl.toArray w:=by
    rw[show f=f.toList.toArray by simp,List.mapM_toArray,Sem.run_map,h1]
    rfl
  simp only[e,Result.andThen_ok]
  have hfill:=fillS_ok hν h
  have hp:(fun i=>pl.toArray[i]?)=placeS En (f.toList.map fun x=>(x.type,x.offset)):=by
    funext i
    rw[List.getElem?_toArray]
    exact h2 i
  simp only[hp,hfill,Sem.run_pure]
theorem run_buildA {ν:NV} (hν:∀ n,(ν n).oneCell'=true) {w:World} {t n e:Nat} {sz:Nat} {z:List SV} {ps:List (Nat × SV)} {ds:List SV} {ie:TI}
    {by_:Nat} (ht:En.ti t=some ⟨.arr n e,sz,true,z,by_⟩) (he:En.ti e=some ie) (h:fillS (fun i=>some (i*ie.sz,ie.sz)) z ps=some ds) :
    (Instr.build t ((ps.map fun p=>(p.1,den ν p.2)).toArray)).run En.P w=.ok (.agg (denC ν ds).toArray) w:=by
  have T:=En.tok _ _ ht
  have hu:En.P.underlying t=some (.array n e):=T.un
  have hz:=T.zero w
  have hs:=(En.tok _ _ he).lay.s w
  have hzz:denC (fun _=>undef) z=denC ν z:=(denC_ext (k:=0) (fun n hn=>by omega) z T.zc.2.1).symm
  simp only[vOfS,if_true,den,hzz] at hz
  unfold Instr.build
  simp only[Sem.run_bind,hz,Result.andThen_ok,run_underlying hu,Value.cells,hs]
  simp only[fillS_ok hν h,Sem.run_pure]
def minS:SV→SV→Option SV
  | .i x,.i y=>some (.i (if y<x then y else x))
  | .u x,.u y=>some (.u (if y<x then y else x))
  | _,_=>none
def maxS:SV→SV→Option SV
  | .i x,.i y=>some (.i (if x<y then y else x))
  | .u x,.u y=>some (.u (if x<y then y else x))
  | _,_=>none
def loadS (prot:Nat→Bool) (H:List (Ent G)) (t n off:Nat):Option SV :=
  (En.ti t).bind fun i =>
    match H[n]? with
    | some (.bx _ cs)=>if prot n then(cutW cs off i.sz).bind (vOfS? i.ag) else none
    | some (.sg cs _)=>(cutW cs off i.sz).bind (vOfS? i.ag)
    | _=>none
def binS (H:List (Ent G)) (op:BinOp) (t:Nat) (x y:SV):Option (SV × List Prop) :=
  match sbin op x y with
  | some r=>some r
  | none =>
    if isTy En t (fun u=>match u with | .bool=>true | _=>false) then
      (asB x).bind fun a=>(asB y).bind fun c =>
        match op with
        | .eql=>some (.b (a == c),[])
        | .neq=>some (.b (a != c),[])
        | _=>none
    else none
def callS (prot:Nat→Bool) (l:SSl) (H:List (Ent G)) (c:Call):Option (SV × List Prop) :=
  match c.callee,c.args.toList,c.argTypes.toList with
  | .builtin .len, [x], [t] =>
    (evS l x).bind fun sx =>
      match unT En t,sx with
      | some .str,.s s=>some (.i (s.length:Int),[])
      | some (.sl _),.n k=>(H[k]?).bind fun e=>(lenOf e).map fun(n:Nat)=>(.i (n:Int),[])
      | some (.sl _),.v (.slice _ n _)=>some (.i (n:Int),[])
      | some (.sl _),.q k lo hi _ _=>(H[k]?).bind fun e=>(lenOf e).map fun _=>(.i ((hi - lo:Nat):Int),[])
      | some (.arr n _),_=>some (.i (n:Int),[])
      | _,_=>none
  | .builtin .min,[x,y],_=>(evS l x).bind fun a=>(evS l y).bind fun b=>(minS a b).map (·,[])
  | .builtin .max,[x,y],_=>(evS l x).bind fun a=>(evS l y).bind fun b=>(maxS a b).map (·,[])
  | _,_,_=>none
def convS (H:List (Ent G)) (s t:Nat) (x:SV):Option (SV × List Prop) :=
  match unT En s,unT En t,x with
  | some (.int _),some (.int k),x=>sconv k x
  | some .str,some .str,.s a=>some (.s a,[])
  | some (.sl e),some .str,.n k=>if e=En.u8∧isTy En e isU8T=true then(H[k]?).bind fun en=>(bytesOf En en).map fun bs=>(.s bs,[]) else none
  | _,_,_=>none
def isC1 (e:Nat):Bool:=match En.ti e with | some i=>!i.ag && i.sz == 1 | none=>false
def idxS (t:Nat) (x j:SV):Option (SV × List Prop) :=
  match unT En t,x,j with
  | some .str,.s a,.i j=>some (.c (a.getD j.toNat 0),[0≤j∧j<a.length])
  | some (.arr n e),.a [.h k a],.i j=>if isC1 En e=true∧n=k then some (.c (a.getD j.toNat 0),[0≤j∧j<k]) else none
  | _,_,_=>none
def eqC1:SV→SV→Option Bool
  | .i a,.i b=>some (decide (a=b))
  | .c a,.c b=>some (decide (a=b))
  | .w a,.w b=>some (decide (a=b))
  | .u a,.u b=>some (decide (a=b))
  | _,_=>none
def noBl (P:Program) (t:Nat):Prop:=(P.stoodInHeld t || (P.fieldsOf t).toList.any fun f=>f.name == "_")=false
def eqFs (g:Nat→SV→SV→Option (Bool × List Prop)) (xs ys:List SV):List (Nat × Nat)→Option (Bool × List Prop)
  | []=>some (true,[])
  | (t,off)::fs=>(En.ti t).bind fun i=>((cutW xs off i.sz).bind (vOfS? i.ag)).bind fun a=>((cutW ys off i.sz).bind (vOfS? i.ag)).bind fun b=>(g t a b).bind fun r=>(eqFs g xs ys fs).map fun q=>(r.1 && q.1,r.2++q.2)
def eqT:Nat→Nat→SV→SV→Option (Bool × List Prop)
  | 0,_,_,_=>none
  | f + 1, t, x, y => match unT En t with
    | some (.int _)=>(eqC1 x y).map (·,[])
    | some .bool=>(asB x).bind fun a=>(asB y).map fun b=>(a == b,[])
    | some .str => match x, y with
      | .s a,.s b=>some (decide (a=b),[])
      | _,_=>none
    | some (.arr n e) => match x, y with
      | .a [.h k a],.a [.h m b]=>if isC1 En e=true∧isTy En e isU8T=true∧k=n∧m=n then some (decide (a=b),[a.length=n,b.length=n]) else none
      | _,_=>none
    | some (.st fs) => match x, y with
      | .a xs,.a ys=>(eqFs En (eqT f) xs ys fs).map fun r=>(r.1,noBl En.P t::r.2)
      | _,_=>none
    | _=>none
def isAg:SV→Bool | .a _=>true | _=>false
def aggS (op:BinOp) (t:Nat) (x y:SV):Option (SV × List Prop) :=
  if isAg x && isAg y then(eqT En 4 t x y).bind fun r=>match op with
    | .eql=>some (.b r.1,(En.P.eqGuardType En.P.depth t=false)::r.2)
    | .neq=>some (.b (!r.1),(En.P.eqGuardType En.P.depth t=false)::r.2)
    | _=>none
  else none
def numOf:SV→Option Int
  | .i x=>some x
  | .c x=>some (x.toNat:Int)
  | .w x=>some (x.toNat:Int)
  | .u x=>some (x.toNat:Int)
  | _=>none
theorem numOf_ok {x:SV} {n:Int} (h:numOf x=some n) (ν:NV):∃ k,den ν x=.int k n:=by
  unfold numOf at h
  split at h <;> first | (injection h with h;subst h;exact⟨_,rfl⟩) | simp at h
def szOk (e:Nat):Bool:=match En.ti e with | some i=>decide (i.sz=(G.Γ e).T.sz) && decide (i.by_=(G.Γ e).T.by_) | none=>false
def muOf (H:List (Ent G)) (n:Nat):Option ((e:Nat) × List (G.Γ e).α):=match H[n]? with | some (.mu e xs)=>some ⟨e,xs⟩ | _=>none
def isTb (g:Nat):Ent G→Bool | .tb g' _ _=>g' == g | _=>false
def tbOf (H:List (Ent G)) (n:Nat):Option ((e:Nat) × List (G.Γ e).α):=match H[n]? with | some (.tb _ e xs)=>some ⟨e,xs⟩ | _=>none
def loadT (H:List (Ent G)) (t n j sz off:Nat):Option (SV × List Prop) :=
  (En.ti t).bind fun i=>(tbOf H n).bind fun q =>
    if szOk En q.1=true∧sz=(G.Γ q.1).T.sz then
      (En.opn q.1 H.length (q.2.getD j (G.Γ q.1).d)).bind fun r=>if r.1.isEmpty=true then(cutW r.2 off i.sz).bind fun ds=>(vOfS? i.ag ds).map fun x=>(x,[j<q.2.length]) else none
    else none
def loadE (prot:Nat→Bool) (H:List (Ent G)) (t n j sz off:Nat):Option (SV × List Prop) :=
  (En.ti t).bind fun i=>(muOf H n).bind fun q =>
    if prot n=true∧szOk En q.1=true∧sz=(G.Γ q.1).T.sz then
      (En.opn q.1 H.length (q.2.getD j (G.Γ q.1).d)).bind fun r=>if r.1.isEmpty=true then(cutW r.2 off i.sz).bind fun ds=>(vOfS? i.ag ds).map fun x=>(x,[j<q.2.length]) else none
    else none
def idxE (H:List (Ent G)) (t:Nat) (sx:SV) (j:Int):Option (SV × List Prop) :=
  match sx,unT En t with
  | .n k,some (.sl e)=>(muOf H k).bind fun q=>if q.1=e∧szOk En e=true then some (.e k j.toNat (G.Γ e).T.sz 0,[0≤j∧j<q.2.length]) else none
  | .q k lo hi none sz,some (.sl e)=>(muOf H k).bind fun q=>if q.1=e∧szOk En e=true∧sz=(G.Γ e).T.sz then some (.e k (lo+j.toNat) (G.Γ e).T.sz 0,[0≤j∧j<((hi - lo:Nat):Int)∧hi≤q.2.length]) else none
  | .v (.pointer (some ⟨g, 0, none⟩)), some (.arr m e) => (H.findIdx? (isTb g)).bind fun k => match H[k]? with
    | some (.tb g' e' xs)=>if g'=g∧e'=e∧szOk En e=true then some (.e k j.toNat (G.Γ e).T.sz 0,[0≤j∧j<m]) else none
    | _=>none
  | _,_=>none
/-- Pieces of mutable slices are told as such, if that is asked for. -/
def qOn (e:Nat) (H:List (Ent G)):Bool:=H.any fun en=>match en with | .tb g e' _=>g == 999999 && e' == e | _=>false
def cutQ (H:List (Ent G)) (t:Nat) (sx:SV) (lo hi mx:Option Int):Option (SV × List Prop) :=
  match sx,unT En t with
  | .n k,some (.sl e)=>(muOf H k).bind fun q=>if q.1=e∧szOk En e=true∧qOn e H=true then
      match lo,hi,mx with
      | none,some h,some m=>some (.q k 0 h.toNat (some m.toNat) (G.Γ e).T.sz,[0≤h∧h≤m∧m≤q.2.length∧0<q.2.length])
      | some l,none,none=>some (.q k l.toNat q.2.length none (G.Γ e).T.sz,[0≤l∧l≤q.2.length∧0<q.2.length])
      | _,_,_=>none
    else none
  | _,_=>none
def bndQ (l:SSl):Option Operand→Option (Option Int)
  | none=>some none
  | some x=>(evS l x).bind fun y=>(numOf y).map some
def rdOp (prot:Nat→Bool) (l:SSl) (H:List (Ent G)):Op→Option (SV × List Prop)
  | .move x | .assign x=>(evS l x).map (·,[])
  | .pick c a b => (evS l c).bind fun sc => match sc with
    | .v (.bool true)=>(evS l a).map (·,[])
    | .v (.bool false)=>(evS l b).map (·,[])
    | _=>none
  | .extract x k=>(evS l x).bind fun sx=>match sx with | .t vs=>(vs[k]?).map (·,[]) | _=>none
  | .nilCheck x => (evS l x).bind fun sx => match sx with
    | .p n o => match H[n]? with
      | some (.bx _ _) | some (.sg _ _)=>some (.p n o,[])
      | some (.pn _ false nil)=>some (.p n o,[nil=false])
      | _=>none
    | .f a b c=>some (.f a b c,[])
    | .n n => match H[n]? with
      | some (.bx _ _) | some (.sg _ _)=>some (.p n 0,[])
      | _=>none
    | _=>none
  | .field t x k => (evS l x).bind fun sx => match sx with
    | .a cs=>(fieldOf En t k).bind fun q=>if cellsOk cs then(cutW cs q.2 q.1.sz).bind fun ds=>(vOfS? q.1.ag ds).map (·,[]) else none
    | _=>none
  | .fieldAddr t x k => (evS l x).bind fun sx => match sx with
    | .p n o=>(fieldOf En t k).bind fun q=>if q.1.sz=0 then none else match H[n]? with | some (.bx _ _) | some (.sg _ _)=>some (.p n (o+q.2),[]) | _=>none
    | .e n j sz o=>(fieldOf En t k).bind fun q=>if q.1.sz=0 then none else(muOf H n).map fun m=>(.e n j sz (o+q.2),[j<m.2.length])
    | _=>none
  | .slice t x lo hi mx=>(evS l x).bind fun sx=>(bndQ l lo).bind fun a=>(bndQ l hi).bind fun b=>(bndQ l mx).bind fun c=>cutQ En H t sx a b c
  | .indexAddr t x j=>(evS l x).bind fun sx=>(evS l j).bind fun sj=>(numOf sj).bind fun j=>idxE En H t sx j
  | .binOp op t x y _ => (evS l x).bind fun a => (evS l y).bind fun b => match binS En H op t a b with
    | some r=>some r
    | none => match aggS En op t a b with
      | some r=>some r
      | none=>nilS En H op t a y
  | .unOp op _ x => (evS l x).bind fun a => match op with
    | .not=>(asB a).map fun c=>(.b (!c),[])
    | .xor => match a with
      | .w y=>some (.w (~~~y),[])
      | _=>none
    | _=>none
  | .convert s t x=>(evS l x).bind fun a=>convS En H s t a
  | .call c=>callS En prot l H c
  | .load t x=>(evS l x).bind fun sx=>match sx with | .p n o=>(loadS En prot H t n o).map (·,[]) | .e n j sz o=>(match loadE En prot H t n j sz o with | some r=>some r | none=>loadT En H t n j sz o) | _=>none
  | .index t x j=>(evS l x).bind fun a=>(evS l j).bind fun b=>idxS En t a b
  | .build t ps => match En.ti t with
    | some ⟨.st fs,_,true,z,_⟩=>if allTi En fs then(evParts l ps.toList).bind fun qs=>(fillS (placeS En fs) z qs).map fun ds=>(.a ds,[]) else none
    | some ⟨.arr _ e,_,true,z,_⟩=>(En.ti e).bind fun ie=>(evParts l ps.toList).bind fun qs=>(fillS (fun i=>some (i*ie.sz,ie.sz)) z qs).map fun ds=>(.a ds,[])
    | _=>none
  | .makeFunc (.func f) a b=>(evL l a.toList).bind fun x=>(evL l b.toList).map fun y=>(.f f x y,[])
  | .makeInterface t x=>(evS l x).bind fun a=>if isTy En t (fun u=>match u with | .ifc _=>false | _=>true) then some (.j t a,[]) else none
  | _=>none
end Go.Proofs.YtkpnjjacbhicgaaDoor.X
set_option linter.unusedVariables false
set_option linter.unusedSimpArgs false
namespace Go.Proofs.YtkpnjjacbhicgaaDoor.X
open Go Go.RowKit Go.Proofs.YtkpnjjacbhicgaaDoor.E
variable {G:Tys} (En:Env G)
section
variable {ν:NV} {F:Nat→Nat→Prop} {σ σ':Nat→Nat} {w w':World} {H:List (Ent G)} {M:Nat→Prop} {prot:Nat→Bool} {l:SSl} {ρ:Operand→Value}
theorem unT_ok {t:Nat} {u:Un} (h:unT En t=some u):unOk En.P t u:=by
  unfold unT at h
  split at h
  · rename_i i hi;injection h with h;subst h;exact(En.tok _ _ hi).un
  · simp at h
theorem isTy_ok {t:Nat} {f:Un→Bool} (h:isTy En t f=true):∃ u,f u=true∧unOk En.P t u:=by
  unfold isTy at h
  split at h
  · rename_i i hi;exact⟨_,h,(En.tok _ _ hi).un⟩
  · simp at h
theorem ptr_of (S:Sat ν F σ w H) {n:Nat} (h:(∃ t cs,H[n]? = some (.bx t cs))∨(∃ cs p,H[n]? = some (.sg cs p))):∃ b o,ν n=.pointer (some ⟨b,o,none⟩):=by
  rcases h with⟨t,cs,h⟩ | ⟨cs,p,h⟩
  · obtain⟨b,h1,_⟩:=S.ent n _ h;exact⟨b,0,h1⟩
  · obtain⟨b,o,h1,_⟩:=S.ent n _ h;exact⟨b,o,h1⟩
theorem run_loadAt {P:Program} {w:World} {t:Nat} {i:TI} (T:TIok P t i) {b o off:Nat} {all:List Value} (hc:∀ j v,all[j]? = some v→w.cell? ⟨b,o+j,none⟩=some v) {c:List Value} (e:c=(all.drop off).take i.sz) (hl:c.length=i.sz) :
    (Instr.loadAt t (.pointer (some ⟨b,o+off,none⟩))).run P w=.ok (vOf i.ag c) w:=by
  unfold Instr.loadAt
  simp only[Instr.sureAddr,Sem.run_bind,Sem.run_pure,Result.andThen_ok]
  refine run_loadVar_cs (by rw[hl];exact T.lay) (by rw[hl];exact T.zc.2.2.2) ?_
  intro j v hv
  rw[e,List.getElem?_take] at hv
  split at hv
  · rw [List.getElem?_drop] at hv
    have:=hc _ _ hv
    rwa [← Nat.add_assoc] at this
  · simp at hv
theorem loadS_ok (S:Sat ν F σ w H) (st:Stp M σ w σ' w') (hp:∀ k,prot k=true→∀ b,F k b→¬ M b) {t n off:Nat} {x:SV} (h:loadS En prot H t n off=some x) :
    (Instr.loadAt t (den ν (.p n off))).run En.P w'=.ok (den ν x) w':=by
  unfold loadS at h
  obtain⟨i,hi,h⟩:=Option.bind_eq_some_iff.1 h
  have T:=En.tok _ _ hi
  split at h
  · rename_i t' cs hn
    split at h
    · rename_i hpn
      obtain⟨c,h1,h2⟩:=Option.bind_eq_some_iff.1 h
      obtain⟨b,e1,hb,hf,_⟩:=S.ent n _ hn
      obtain⟨a1,a2,a3⟩:=cutW_ok ν h1
      obtain⟨b1,b2⟩:=vOfS?_ok S.one h2
      have hb':=hb.step st (hp n hpn b hf)
      simp only[den,e1,padd]
      have:=run_loadAt T (b:=b) (o:=0) (off:=off) (fun j v hv=>by rw[Nat.zero_add,hb'.cell];exact hv) a1 (by rw[denC_len];exact a2)
      rw[this,b1]
    · simp at h
  · rename_i cs hn
    obtain⟨c,h1,h2⟩:=Option.bind_eq_some_iff.1 h
    obtain⟨b,o,e1,hb,_⟩:=S.ent n _ hn
    obtain⟨a1,a2,a3⟩:=cutW_ok ν h1
    obtain⟨b1,b2⟩:=vOfS?_ok S.one h2
    have hb':=hb.step st
    simp only[den,e1,padd]
    have:=run_loadAt T (b:=b) (o:=o) (off:=off) hb'.cell a1 (by rw[denC_len];exact a2)
    rw[this,b1]
  · simp at h
theorem binS_ok {op:BinOp} {t:Nat} {x y z:SV} {vs:List Prop} (h:binS En H op t x y=some (z,vs)) (hv:∀ p∈vs,p) (px py:Operand) (w:World) :
    (do eqGuard op t px py (den ν x) (den ν y);binOp op t (den ν x) (den ν y)).run En.P w=.ok (den ν z) w:=by
  unfold binS at h
  split at h
  · rename_i r hr
    injection h with h;subst h
    obtain⟨h1,h2⟩:=sbin_ok (P:=En.P) (w:=w) ν (t:=t) hr hv px py
    simp only[Sem.run_bind,h1,Result.andThen_ok,h2]
  · split at h
    · rename_i ht
      obtain⟨u,hu1,hu2⟩:=isTy_ok En ht
      have hb:En.P.underlying t=some .bool:=by cases u <;> simp at hu1;exact hu2
      obtain⟨a,ha,h⟩:=Option.bind_eq_some_iff.1 h
      obtain⟨c,hc,h⟩:=Option.bind_eq_some_iff.1 h
      rw[asB_ok ha ν,asB_ok hc ν]
      cases op <;> simp only[Option.some.injEq,Prod.mk.injEq,reduceCtorEq] at h <;> obtain⟨rfl,rfl⟩:=h
      · have:(Op.equal t (.bool a) (.bool c)).run En.P w=.ok (a == c) w:=by
          unfold Op.equal Op.maxDepth Op.equalIn
          simp only[Sem.run_bind,run_underlying hb,Result.andThen_ok,Sem.run_pure]
        have hg:(eqGuard .eql t px py (.bool a) (.bool c)).run En.P w=.ok () w:=rfl
        simp only[Sem.run_bind,hg,binOp,this,Result.andThen_ok,Sem.run_pure,den]
        try rfl
      · have:(Op.equal t (.bool a) (.bool c)).run En.P w=.ok (a == c) w:=by
          unfold Op.equal Op.maxDepth Op.equalIn
          simp only[Sem.run_bind,run_underlying hb,Result.andThen_ok,Sem.run_pure]
        have hg:(eqGuard .neq t px py (.bool a) (.bool c)).run En.P w=.ok () w:=rfl
        simp only[Sem.run_bind,hg,binOp,this,Result.andThen_ok,Sem.run_pure,den]
        try rfl
    · simp at h
theorem nilB_v {u:Un} {v:Value} {a:SV} {r:SV × SV × List Prop} (h:nilB H u v a=some r):v=.pointer none∨v=.nilIface∨v=.slice none 0 0∨v=.map none∨v=.nilFunc:=by
  unfold nilB at h
  split at h <;> first | (simp at h;done) | simp
theorem nil_run {op:BinOp} {t:Nat} {px:Operand} {v a:Value} (w:World) (hv:v=.pointer none∨v=.nilIface∨v=.slice none 0 0∨v=.map none∨v=.nilFunc) :
    (eqGuard op t px (.const v) a v).run En.P w=.ok () w∧binOp .eql t a v=(do pure (.bool (← Op.equal t a v)))∧binOp .neq t a v=(do pure (.bool (!(← Op.equal t a v)))):=by
  rcases hv with rfl | rfl | rfl | rfl | rfl <;> refine⟨?_,?_,?_⟩ <;> first | (cases a <;> rfl) | (cases op <;> cases px <;> cases a <;> rfl)
theorem nilB_ok (S:Sat ν F σ w H) {u:Un} {t:Nat} (hu:unOk En.P t u) {v:Value} {a e ne:SV} {ps:List Prop} (h:nilB H u v a=some (e,ne,ps)) (hv:∀ p∈ps,p) :
    True∧∃ r:Bool,den ν e=.bool r∧den ν ne=.bool (!r)∧∀ w',(Op.equal t (den ν a) v).run En.P w'=.ok r w':=by
  have ptr:∀ {e:Nat} {q:Option Addr},unOk En.P t (.ptr e)→∀ w',(Op.equal t (.pointer q) (.pointer none)).run En.P w'=.ok q.isNone w':=by
    intro e q hu w'
    unfold unOk at hu
    unfold Op.equal Op.maxDepth Op.equalIn
    cases q <;> simp[Sem.run_bind,run_underlying hu]
  have ifc:∀ {m:Bool},unOk En.P t (.ifc m)→(∀ w',(Op.equal t .nilIface .nilIface).run En.P w'=.ok true w')∧∀ u x w',(Op.equal t (.iface u x) .nilIface).run En.P w'=.ok false w':=by
    intro m hu
    unfold unOk at hu
    obtain⟨ms,hu,_⟩:=hu
    exact⟨fun w'=>by unfold Op.equal Op.maxDepth Op.equalIn;simp[Sem.run_bind,run_underlying hu],fun u x w'=>by unfold Op.equal Op.maxDepth Op.equalIn;simp[Sem.run_bind,run_underlying hu]⟩
  have sl:∀ {e:Nat} {q:Option Addr} {n c:Nat},unOk En.P t (.sl e)→∀ w',(Op.equal t (.slice q n c) (.slice none 0 0)).run En.P w'=.ok q.isNone w':=by
    intro e q n c hu w'
    unfold unOk at hu
    unfold Op.equal Op.maxDepth Op.equalIn
    cases q <;> simp[Sem.run_bind,run_underlying hu]
  have mp:∀ {k e:Nat} {q:Option Nat},unOk En.P t (.mp k e)→∀ w',(Op.equal t (.map q) (.map none)).run En.P w'=.ok q.isNone w':=by
    intro k e q hu w'
    unfold unOk at hu
    unfold Op.equal Op.maxDepth Op.equalIn
    cases q <;> simp[Sem.run_bind,run_underlying hu]
  have fn:unOk En.P t .fn→(∀ w',(Op.equal t .nilFunc .nilFunc).run En.P w'=.ok true w')∧∀ f x y w',(Op.equal t (.func f x y) .nilFunc).run En.P w'=.ok false w':=by
    intro hu
    unfold unOk at hu
    obtain⟨_,_,_,hu⟩:=hu
    exact⟨fun w'=>by unfold Op.equal Op.maxDepth Op.equalIn;simp[Sem.run_bind,run_underlying hu],fun f x y w'=>by unfold Op.equal Op.maxDepth Op.equalIn;simp[Sem.run_bind,run_underlying hu]⟩
  have rd0:∀ {e:Nat} {xs:List (G.Γ e).α} {v:Value},Rd (G.Γ e).T σ w v xs→0<xs.length→∃ q n c,v=.slice (some q) n c:=by
    intro e xs v hr h0
    obtain⟨q,c,e1,_,_,hh⟩:=hr
    rcases hh with hh | ⟨b,o,cs,e2,_⟩
    · rw[hh] at h0;simp at h0
    · subst e2;exact⟨_,_,_,e1⟩
  unfold nilB at h
  split at h
  · refine ⟨trivial, ?_⟩
    split at h
    · injection h with h; injection h with h1 h2; injection h2 with h2 h3; subst h1; subst h2
      exact⟨true,rfl,rfl,fun w'=>by simp only[den];exact ptr hu w'⟩
    · rename_i n o
      have key:(∃ b o,ν n=.pointer (some ⟨b,o,none⟩))→∃ r:Bool,den ν (.v (.bool false))=.bool r∧den ν (.v (.bool true))=.bool (!r)∧∀ w',(Op.equal t (den ν (.p n o)) (.pointer none)).run En.P w'=.ok r w':=by
        rintro ⟨b,o',hq⟩
        refine⟨false,rfl,rfl,fun w'=>?_⟩
        simp only[den,hq,padd]
        exact ptr hu w'
      split at h
      · rename_i hn
        injection h with h;injection h with h1 h2;injection h2 with h2 h3;subst h1;subst h2
        exact key (ptr_of S (.inl ⟨_,_,hn⟩))
      · rename_i hn
        injection h with h;injection h with h1 h2;injection h2 with h2 h3;subst h1;subst h2
        exact key (ptr_of S (.inr ⟨_,_,hn⟩))
      · rename_i q nil hn
        injection h with h;injection h with h1 h2;injection h2 with h2 h3;subst h1;subst h2
        have hh:=S.ent n _ hn
        refine⟨nil,rfl,rfl,fun w'=>?_⟩
        simp only[den]
        cases nil with
        | true=>rw[hh.2.1 rfl];exact ptr hu w'
        | false=>obtain⟨b,o,hq⟩:=hh.2.2 rfl;rw[hq];exact ptr hu w'
      · simp at h
    · rename_i n
      have key:(∃ b o,ν n=.pointer (some ⟨b,o,none⟩))→∃ r:Bool,den ν (.v (.bool false))=.bool r∧den ν (.v (.bool true))=.bool (!r)∧∀ w',(Op.equal t (den ν (.n n)) (.pointer none)).run En.P w'=.ok r w':=by
        rintro ⟨b,o',hq⟩
        refine⟨false,rfl,rfl,fun w'=>?_⟩
        simp only[den,hq]
        exact ptr hu w'
      split at h
      · rename_i hn
        injection h with h;injection h with h1 h2;injection h2 with h2 h3;subst h1;subst h2
        exact key (ptr_of S (.inl ⟨_,_,hn⟩))
      · rename_i hn
        injection h with h;injection h with h1 h2;injection h2 with h2 h3;subst h1;subst h2
        exact key (ptr_of S (.inr ⟨_,_,hn⟩))
      · rename_i q nil hn
        injection h with h;injection h with h1 h2;injection h2 with h2 h3;subst h1;subst h2
        have hh:=S.ent n _ hn
        refine⟨nil,rfl,rfl,fun w'=>?_⟩
        simp only[den]
        cases nil with
        | true=>rw[hh.2.1 rfl];exact ptr hu w'
        | false=>obtain⟨b,o,hq⟩:=hh.2.2 rfl;rw[hq];exact ptr hu w'
      · rename_i q o hn
        injection h with h;injection h with h1 h2;injection h2 with h2 h3;subst h1;subst h2
        have hh:Pt _ _ _ _ o:=S.ent n _ hn
        refine⟨o.isNone,rfl,rfl,fun w'=>?_⟩
        simp only[den]
        cases o with
        | none=>rw[show ν n=.pointer none from hh];exact ptr hu w'
        | some x=>obtain⟨b,i,cs,hq,_⟩:=hh;rw[hq];exact ptr hu w'
      · simp at h
    · simp at h
  · refine ⟨trivial, ?_⟩
    split at h
    · injection h with h; injection h with h1 h2; injection h2 with h2 h3; subst h1; subst h2
      exact⟨true,rfl,rfl,fun w'=>(ifc hu).1 w'⟩
    · injection h with h; injection h with h1 h2; injection h2 with h2 h3; subst h1; subst h2
      exact⟨false,rfl,rfl,fun w'=>(ifc hu).2 _ _ w'⟩
    · rename_i n
      split at h
      · rename_i q nil hn
        injection h with h;injection h with h1 h2;injection h2 with h2 h3;subst h1;subst h2
        have hh:=S.ent n _ hn
        refine⟨nil,rfl,rfl,fun w'=>?_⟩
        simp only[den]
        cases nil with
        | true=>rw[hh.2.1 rfl];exact(ifc hu).1 w'
        | false=>obtain⟨b,o,hq⟩:=hh.2.2 rfl;rw[hq];exact(ifc hu).2 _ _ w'
      · simp at h
    · simp at h
  · refine ⟨trivial, ?_⟩
    split at h
    · injection h with h; injection h with h1 h2; injection h2 with h2 h3; subst h1; subst h2
      exact⟨true,rfl,rfl,fun w'=>sl hu w'⟩
    · rename_i n
      split at h
      · rename_i hn
        injection h with h;injection h with h1 h2;injection h2 with h2 h3;subst h1;subst h2
        have hh:ν n=.slice none 0 0:=S.ent n _ hn
        refine⟨true,rfl,rfl,fun w'=>?_⟩
        simp only[den,hh]
        exact sl hu w'
      · rename_i e xs hn
        injection h with h;injection h with h1 h2;injection h2 with h2 h3;subst h1;subst h2;subst h3
        simp only[List.mem_singleton,forall_eq] at hv
        obtain⟨q,m,c,hq⟩:=rd0 (S.ent n _ hn) hv
        refine⟨false,rfl,rfl,fun w'=>?_⟩
        simp only[den,hq]
        exact sl hu w'
      · rename_i e xs hn
        injection h with h;injection h with h1 h2;injection h2 with h2 h3;subst h1;subst h2;subst h3
        simp only[List.mem_singleton,forall_eq] at hv
        obtain⟨q,m,c,hq⟩:=rd0 (Own.rd (S.ent n _ hn).1) hv
        refine⟨false,rfl,rfl,fun w'=>?_⟩
        simp only[den,hq]
        exact sl hu w'
      · simp at h
    · simp at h
  · refine ⟨trivial, ?_⟩
    split at h
    · injection h with h; injection h with h1 h2; injection h2 with h2 h3; subst h1; subst h2
      exact⟨true,rfl,rfl,fun w'=>mp hu w'⟩
    · rename_i n
      split at h
      · rename_i hn
        injection h with h;injection h with h1 h2;injection h2 with h2 h3;subst h1;subst h2
        obtain⟨b,hq,_⟩:=S.ent n _ hn
        refine⟨false,rfl,rfl,fun w'=>?_⟩
        simp only[den,hq]
        exact mp hu w'
      · simp at h
    · simp at h
  · refine ⟨trivial, ?_⟩
    split at h
    · injection h with h; injection h with h1 h2; injection h2 with h2 h3; subst h1; subst h2
      exact⟨true,rfl,rfl,fun w'=>(fn hu).1 w'⟩
    · injection h with h; injection h with h1 h2; injection h2 with h2 h3; subst h1; subst h2
      exact⟨false,rfl,rfl,fun w'=>by simp only[den];exact(fn hu).2 _ _ _ w'⟩
    · simp at h
  · simp at h
theorem nilS_ok (S:Sat ν F σ w H) {op:BinOp} {t:Nat} {a z:SV} {px y:Operand} {yv:Value} {vs:List Prop} (h:nilS En H op t a y=some (z,vs)) (hv:∀ p∈vs,p) (hy:∀ v,y=.const v→yv=v) (w':World) :
    (do eqGuard op t px y (den ν a) yv;binOp op t (den ν a) yv).run En.P w'=.ok (den ν z) w':=by
  unfold nilS at h
  split at h
  · rename_i v
    have hyv:=hy v rfl
    subst hyv
    obtain⟨u,h1,h⟩:=Option.bind_eq_some_iff.1 h
    obtain⟨⟨e,ne,ps⟩,h2,h⟩:=Option.bind_eq_some_iff.1 h
    have hps:∀ p∈ps,p:=by
      cases op <;> simp only[Option.some.injEq,Prod.mk.injEq,reduceCtorEq] at h <;> obtain⟨_,rfl⟩:=h <;> exact hv
    obtain⟨hn,r,e1,e2,e3⟩:=nilB_ok En S (unT_ok En h1) h2 hps
    obtain⟨hg,hb1,hb2⟩:=nil_run En (op:=op) (t:=t) (px:=px) (a:=den ν a) w' (nilB_v h2)
    cases op <;> simp only[Option.some.injEq,Prod.mk.injEq,reduceCtorEq] at h <;> obtain⟨rfl,rfl⟩:=h
    · rw[Sem.run_bind,hg,Result.andThen_ok,hb1,Sem.run_bind,e3,Result.andThen_ok,Sem.run_pure,e1]
    · rw[Sem.run_bind,hg,Result.andThen_ok,hb2,Sem.run_bind,e3,Result.andThen_ok,Sem.run_pure,e2]
  · simp at h
theorem len_of (S:Sat ν F σ w H) {k n:Nat} {e:Ent G} (hk:H[k]? = some e) (hn:lenOf e=some n):∃ a c,ν k=.slice a n c:=by
  have h:=S.ent k e hk
  unfold lenOf at hn
  split at hn
  · injection hn with hn; subst hn
    obtain⟨a,c,e,_⟩:=Rd.form h;exact⟨a,c,e⟩
  · injection hn with hn; subst hn
    obtain⟨a,c,e,_⟩:=Rd.form h.1.rd;exact⟨a,c,e⟩
  · injection hn with hn; subst hn
    obtain⟨⟨cs,ho,_⟩,_⟩:=h
    rcases ho.2 with⟨e1,h0⟩ | ⟨g,cap,cur,e1,_⟩
    · rw[e1,h0];exact⟨_,_,rfl⟩
    · exact⟨_,_,e1⟩
  · injection hn with hn; subst hn
    exact⟨_,_,h⟩
  · simp at hn
theorem bytes_of (S:Sat ν F σ w H) (st:Stp M σ w σ' w') {k:Nat} {e:Ent G} {bs:List UInt8} (hk:H[k]? = some e) (hn:bytesOf En e=some bs):Rd tU8 σ' w' (ν k) bs:=by
  have h:=S.ent k e hk
  unfold bytesOf at hn
  split at hn
  · split at hn
    · injection hn with hn; subst hn
      exact(castU8_rd _ h).step st
    · simp at hn
  · split at hn
    · injection hn with hn; subst hn
      exact(castU8_rd _ h.1.rd).step st
    · simp at hn
  · injection hn with hn; subst hn
    have h':ν k=.slice none 0 0:=h
    rw[h'];exact Rd.nil _ _ _ _ _
  · simp at hn
theorem run_len {P:Program} {ρ:Operand→Value} {w:World} {o:Oper} {x:Operand} {c:Call} (ho:o.op=.call c) (h1:c.callee=.builtin .len) (h2:c.args.toList=[x]) {t:Nat} (h3:c.argTypes.toList=[t]) {v:Value} (h:(Builtin.len_ #[t] o.type #[ρ x]).run P w=.ok v w) :
    (execOp ρ o).run P w=.ok (.value v) w:=by
  obtain⟨cc,ca,ct⟩:=c
  simp only at h1 h2 h3
  subst h1
  have h2':ca=#[x]:=by rw[← h2]
  have h3':ct=#[t]:=by rw[← h3]
  subst h2';subst h3'
  simp only[execOp,ho,resolve,List.map_toArray,List.map_cons,List.map_nil,Sem.run_bind,Sem.run_pure,Result.andThen_ok,invoke,builtin,h]
theorem callS_ok (S:Sat ν F σ w H) (hρ:Rho ν l ρ) {c:Call} {z:SV} {vs:List Prop} (h:callS En prot l H c=some (z,vs)) (hv:∀ p∈vs,p) (o:Oper) (ho:o.op=.call c) (w:World) :
    (execOp ρ o).run En.P w=.ok (.value (den ν z)) w:=by
  unfold callS at h
  split at h
  · rename_i x t hc ha hty
    obtain⟨sx,hx,h⟩:=Option.bind_eq_some_iff.1 h
    have hx':=hρ x sx hx
    refine run_len ho hc ha hty ?_
    rw[hx']
    split at h
    · rename_i s hu
      injection h with h;injection h with h h';subst h;subst h'
      have U:En.P.underlying t=some .string:=unT_ok En hu
      simp[Builtin.len_,den,run_underlying U,goInt]
      show((s.toArray.size:Nat):Int)=_
      simp
    · rename_i e k hu
      obtain⟨en,h1,h2⟩:=Option.bind_eq_some_iff.1 h
      obtain⟨n,h3,h4⟩:=Option.map_eq_some_iff.1 h2
      injection h4 with h4 h5;subst h4;subst h5
      obtain⟨a,c',e1⟩:=len_of S h1 h3
      have U:En.P.underlying t=some (.slice e):=unT_ok En hu
      simp[Builtin.len_,den,run_underlying U,goInt,e1]
    · rename_i e a n c' hu
      injection h with h;injection h with h h';subst h;subst h'
      have U:En.P.underlying t=some (.slice e):=unT_ok En hu
      simp[Builtin.len_,den,run_underlying U,goInt]
    · rename_i e k lo hi mx sz hu
      obtain⟨en,h1,h2⟩:=Option.bind_eq_some_iff.1 h
      obtain⟨n,h3,h4⟩:=Option.map_eq_some_iff.1 h2
      injection h4 with h4 h5;subst h4;subst h5
      obtain⟨a,c',e1⟩:=len_of S h1 h3
      have U:En.P.underlying t=some (.slice e):=unT_ok En hu
      simp[Builtin.len_,den,qcut,run_underlying U,goInt,e1]
    · rename_i n e hu
      injection h with h;injection h with h h';subst h;subst h'
      have U:En.P.underlying t=some (.array n e):=unT_ok En hu
      simp[Builtin.len_,den,run_underlying U,goInt]
    · simp at h
  · rename_i _ x y hc ha
    obtain⟨a,hx,h⟩:=Option.bind_eq_some_iff.1 h
    obtain⟨b,hy,h⟩:=Option.bind_eq_some_iff.1 h
    obtain⟨m,h3,h4⟩:=Option.map_eq_some_iff.1 h
    injection h4 with h4 h5;subst h4;subst h5
    obtain⟨cc,ca,ct⟩:=c
    simp only at hc ha
    subst hc
    have h2':ca=#[x,y]:=by rw[← ha]
    subst h2'
    have hm:(Builtin.min_ ct o.type #[ρ x,ρ y]).run En.P w=.ok (den ν m) w:=by
      rw[hρ x a hx,hρ y b hy]
      unfold minS at h3
      split at h3
      · injection h3 with h3; subst h3
        simp only[Builtin.min_,den,List.foldlM_cons,List.foldlM_nil,Builtin.min2,Sem.run_bind,Sem.run_pure,Result.andThen_ok]
      · injection h3 with h3; subst h3
        simp only[Builtin.min_,den,uv,List.foldlM_cons,List.foldlM_nil,Builtin.min2,Sem.run_bind,Sem.run_pure,Result.andThen_ok]
        split <;> split <;> first | rfl | (exfalso;rename_i h1 h2;rw[UInt64.lt_iff_toNat_lt] at h2;omega)
      · simp at h3
    simp only[execOp,ho,resolve,List.map_toArray,List.map_cons,List.map_nil,Sem.run_bind,Sem.run_pure,Result.andThen_ok,invoke,builtin,hm]
  · rename_i _ x y hc ha
    obtain⟨a,hx,h⟩:=Option.bind_eq_some_iff.1 h
    obtain⟨b,hy,h⟩:=Option.bind_eq_some_iff.1 h
    obtain⟨m,h3,h4⟩:=Option.map_eq_some_iff.1 h
    injection h4 with h4 h5;subst h4;subst h5
    obtain⟨cc,ca,ct⟩:=c
    simp only at hc ha
    subst hc
    have h2':ca=#[x,y]:=by rw[← ha]
    subst h2'
    have hm:(Builtin.max_ ct o.type #[ρ x,ρ y]).run En.P w=.ok (den ν m) w:=by
      rw[hρ x a hx,hρ y b hy]
      unfold maxS at h3
      split at h3
      · injection h3 with h3; subst h3
        simp only[Builtin.max_,den,List.foldlM_cons,List.foldlM_nil,Builtin.max2,Sem.run_bind,Sem.run_pure,Result.andThen_ok]
      · injection h3 with h3; subst h3
        simp only[Builtin.max_,den,uv,List.foldlM_cons,List.foldlM_nil,Builtin.max2,Sem.run_bind,Sem.run_pure,Result.andThen_ok]
        split <;> split <;> first | rfl | (exfalso;rename_i h1 h2;rw[UInt64.lt_iff_toNat_lt] at h2;omega)
      · simp at h3
    simp only[execOp,ho,resolve,List.map_toArray,List.map_cons,List.map_nil,Sem.run_bind,Sem.run_pure,Result.andThen_ok,invoke,builtin,hm]
  · simp at h
theorem run_b2s {P:Program} {σ:Nat→Nat} {w:World} {t s e:TypeId} (ht:P.underlying t=some (.slice e)) (he:P.underlying e=some (.int .u8)) (hs:P.underlying s=some .string) {v:Value} {bs:List UInt8} (hR:Rd tU8 σ w v bs) :
    (convert t s v).run P w=.ok (sv bs) w:=by
  obtain⟨ad,cap,rfl,hc⟩:=hR.form
  cases ad with
  | none =>
    obtain⟨a',cap',e2,_,_,h⟩:=hR
    injection e2 with e3 _ _
    subst e3
    rcases h with h | ⟨b,o,cs,e4,_⟩
    · subst h
      exact run_convert_bytes_nil w t e ht he _ _ s hs
    · simp at e4
  | some ad =>
    refine run_convert_bytes_back w t s e ad cap bs ht he hs (fun j hj=>?_)
    obtain⟨b,o',c,e2,hseg,hrep⟩:=hR.at j hj
    injection e2 with e2
    subst e2
    have hrep':c=[bv bs[j]]:=hrep
    subst hrep'
    have:=(hseg.h 0 _ rfl).2
    rw[Addr.add_lit]
    simpa [tU8,Ty.flat] using this
theorem convS_ok (S:Sat ν F σ w H) (st:Stp M σ w σ' w') {s t:Nat} {x z:SV} {vs:List Prop} (h:convS En H s t x=some (z,vs)) (hv:∀ p∈vs,p) :
    (convert s t (den ν x)).run En.P w'=.ok (den ν z) w':=by
  unfold convS at h
  split at h
  · rename_i k0 k hs ht
    obtain⟨k',n,e1,e2⟩:=sconv_ok ν h hv
    have U1:En.P.underlying s=some (.int k0):=unT_ok En hs
    have U2:En.P.underlying t=some (.int k):=unT_ok En ht
    rw[e1,e2]
    unfold convert
    simp only[Sem.run_bind,run_underlying U1,run_underlying U2,Result.andThen_ok,Conv.intToInt,Sem.run_pure]
  · rename_i a hs ht
    injection h with h;injection h with h h';subst h;subst h'
    have U1:En.P.underlying s=some .string:=unT_ok En hs
    have U2:En.P.underlying t=some .string:=unT_ok En ht
    unfold convert
    simp only[Sem.run_bind,run_underlying U1,run_underlying U2,Result.andThen_ok,den,sv,Sem.run_pure]
  · rename_i e k hs ht
    split at h
    · rename_i he
      obtain⟨he,hi⟩:=he
      obtain⟨u,hu1,hu2⟩:=isTy_ok En hi
      have U3:En.P.underlying e=some (.int .u8):=by
        rw[isU8T_ok u hu1] at hu2;exact hu2
      have U1:En.P.underlying s=some (.slice e):=unT_ok En hs
      have U2:En.P.underlying t=some .string:=unT_ok En ht
      obtain⟨en,h1,h2⟩:=Option.bind_eq_some_iff.1 h
      obtain⟨bs,h3,h4⟩:=Option.map_eq_some_iff.1 h2
      injection h4 with h4 h5;subst h4;subst h5
      exact run_b2s U1 U3 U2 (bytes_of En S st h1 h3)
    · simp at h
  · simp at h
theorem bytes_getD (a:List UInt8) (j:Nat) (h:j<a.length):((⟨a.toArray⟩:ByteArray)[j]?)=some (a.getD j 0):=by
  rw[getD_of a 0 h]
  have hs:(⟨a.toArray⟩:ByteArray).size=a.length:=by show a.toArray.size=_;simp
  rw[getElem?_pos (⟨a.toArray⟩:ByteArray) j (by rw[hs];exact h)]
  show some (a.toArray[j])=_
  simp
theorem idxS_ok {t:Nat} {x j z:SV} {vs:List Prop} (h:idxS En t x j=some (z,vs)) (hv:∀ p∈vs,p) (w:World) :
    (Instr.index t (den ν x) (den ν j)).run En.P w=.ok (den ν z) w:=by
  unfold idxS at h
  split at h
  · rename_i a j hu
    injection h with h;injection h with h h';subst h;subst h'
    rw[List.forall_mem_singleton] at hv
    have U:En.P.underlying t=some .string:=unT_ok En hu
    have hj:j.toNat<a.length:=by omega
    unfold Instr.index
    simp only[den,iv,sv,asIntOf,Sem.run_bind,Sem.run_pure,Result.andThen_ok,run_underlying U]
    rw[if_pos hv.1,bytes_getD a _ hj]
    rfl
  · rename_i n e k a j hu
    split at h
    · rename_i hc
      obtain⟨he,hn⟩:=hc
      subst hn
      injection h with h;injection h with h h';subst h;subst h'
      rw[List.forall_mem_singleton] at hv
      have U:En.P.underlying t=some (.array n e):=unT_ok En hu
      unfold isC1 at he
      split at he
      · rename_i i hi
        simp only[Bool.and_eq_true,Bool.not_eq_true',beq_iff_eq] at he
        have L:=(En.tok _ _ hi).lay
        rw[he.1,he.2] at L
        have hj:j.toNat<n:=by omega
        unfold Instr.index
        simp only[den,denC,List.append_nil,iv,asIntOf,Sem.run_bind,Sem.run_pure,Result.andThen_ok,run_underlying U]
        rw[if_pos hv]
        simp only[Sem.run_bind,L.s,Result.andThen_ok,Nat.mul_one]
        have hd:((hk n a).drop j.toNat).take 1=[bv (a.getD j.toNat 0)]:=by
          rw[List.drop_eq_getElem_cons (by rw[hk_len];exact hj)]
          simp[hk]
        rw[run_part L (hk n a) j.toNat [bv (a.getD j.toNat 0)] hd.symm (by rw[hk_len];omega) (.inr rfl)]
        rfl
      · simp at he
    · simp at h
  · simp at h
theorem field_ok (hν:∀ n,(ν n).oneCell'=true) {t k off:Nat} {i:TI} {cs ds:List SV} {z:SV} (h1:fieldOf En t k=some (i,off)) (h2:cutW cs off i.sz=some ds) (h3:vOfS? i.ag ds=some z) (w:World) :
    (Instr.field t (den ν (.a cs)) k).run En.P w=.ok (den ν z) w:=by
  obtain⟨f,hf,g,hg,rfl,T⟩:=fieldOf_ok En h1
  obtain⟨a1,a2,a3⟩:=cutW_ok ν h2
  obtain⟨b1,b2⟩:=vOfS?_ok hν h3
  unfold Instr.field
  simp only[Sem.run_bind,run_underlying hf,Result.andThen_ok,hg,den,asAgg,Sem.run_pure]
  rw[run_part T.lay (denC ν cs) g.offset (denC ν ds) a1 (by rw[denC_len];exact a3) T.zc.2.2.2,b1]
theorem fieldAddr_ok (S:Sat ν F σ w H) {t k off n o:Nat} {i:TI} (h1:fieldOf En t k=some (i,off)) (h0:i.sz≠0) (hp:∃ b o,ν n=.pointer (some ⟨b,o,none⟩)) (w:World) :
    (Instr.fieldAt t (den ν (.p n o)) k).run En.P w=.ok (den ν (.p n (o+off))) w:=by
  obtain⟨f,hf,g,hg,rfl,T⟩:=fieldOf_ok En h1
  obtain⟨b,o',e1⟩:=hp
  unfold Instr.fieldAt
  simp only[Sem.run_bind,run_underlying hf,Result.andThen_ok,hg,den,e1,padd,Instr.sureAddr,Sem.run_pure,fieldPlace,T.lay.s]
  rw[if_neg h0]
  simp only[Sem.run_pure,Result.andThen_ok,Addr.add_lit,Nat.add_assoc]
theorem sz_ok {e:Nat} (h:szOk En e=true):∀ w,(sizeOf e).run En.P w=.ok (G.Γ e).T.sz w:=by
  unfold szOk at h
  split at h
  · rename_i i hi
    have:=(En.tok _ _ hi).lay.s
    simp only[Bool.and_eq_true,decide_eq_true_eq] at h
    rw[h.1] at this;exact this
  · simp at h
theorem mu_ent (S:Sat ν F σ w H) {n:Nat} {q:(e:Nat) × List (G.Γ e).α} (h:muOf H n=some q):Mu (G.Γ q.1).T q.1 σ w (ν n) q.2∧(∀ b,(ν n).ownBlock=some b→F n b)∧n<H.length:=by
  unfold muOf at h
  split at h
  · rename_i e xs hn
    injection h with h;subst h
    obtain⟨h1,h2⟩:=S.ent n _ hn
    exact⟨h1,h2,(List.getElem?_eq_some_iff.1 hn).1⟩
  · simp at h
theorem Mu.at {α:Type} {T:Ty α} {e:TypeId} {v:Value} {xs:List α} (h:Mu T e σ w v xs) {j:Nat} (hj:j<xs.length) :
    ∃ g cap cur,v=.slice (some ⟨g,0,none⟩) xs.length cap∧w.heap[g]? = some (.cells cur e (0,0))∧xs.length≤cap∧cap≤maxLen∧cap*T.sz≤cur.size∧σ g=0:=by
  obtain⟨cs,ho,_,_,hs⟩:=h
  rcases ho.2 with⟨_,h0⟩ | ⟨g,cap,cur,e1,hg,h2,h3,h4,_⟩
  · omega
  · exact⟨g,cap,cur,e1,hg,h2,h3,h4,hs g (by rw[e1];rfl)⟩
theorem Mu.cell {α:Type} {T:Ty α} {e:TypeId} {v:Value} {xs:List α} (h:Mu T e σ w v xs) {j g cap:Nat} (hj:j<xs.length) (hv:v=.slice (some ⟨g,0,none⟩) xs.length cap) :
    ∃ c,T.rep σ w (xs[j]'hj) c∧∀ k u,c[k]? = some u→w.cell? ⟨g,j*T.sz+k,none⟩=some u:=by
  obtain⟨cs,ho,hr,_,_⟩:=h
  obtain⟨c,h1,h2⟩:=Reps.get (fun x c hx=>T.len hx) hr j hj
  refine⟨c,h1,fun k u hk=>?_⟩
  subst hv
  exact ho.cells _ _ (h2 k u hk)
theorem loadE_ok (S:Sat ν F σ w H) (st:Stp M σ w σ' w') (hp:∀ k,prot k=true→∀ b,F k b→¬ M b) {t n j sz off:Nat} {x:SV} {vs:List Prop} (h:loadE En prot H t n j sz off=some (x,vs)) (hv:∀ p∈vs,p) :
    (Instr.loadAt t (den ν (.e n j sz off))).run En.P w'=.ok (den ν x) w':=by
  unfold loadE at h
  obtain⟨i,hi,h⟩:=Option.bind_eq_some_iff.1 h
  have T:=En.tok _ _ hi
  obtain⟨q,hq,h⟩:=Option.bind_eq_some_iff.1 h
  split at h
  · rename_i hc
    obtain⟨c1,c2,c3⟩:=hc
    obtain⟨r,h1,h⟩:=Option.bind_eq_some_iff.1 h
    split at h
    · rename_i he
      obtain⟨ds,h2,h⟩:=Option.bind_eq_some_iff.1 h
      obtain⟨y,h3,h4⟩:=Option.map_eq_some_iff.1 h
      injection h4 with h4 h5
      subst h4;subst h5
      rw[List.forall_mem_singleton] at hv
      obtain⟨m1,m2,_⟩:=mu_ent S hq
      have m3:=m1.step st (fun g hg=>hp n c1 g (m2 g hg))
      obtain⟨g,cap,cur,e1,_⟩:=m3.at hv
      obtain⟨c,k1,k2⟩:=m3.cell hv e1
      have hget:q.2.getD j (G.Γ q.1).d=q.2[j]'hv:=by rw[List.getD_eq_getElem?_getD,List.getElem?_eq_getElem hv];rfl
      rw[hget] at h1
      have hnil:r.1=[]:=by simpa using he
      obtain⟨f,_,f2⟩:=En.opnOk q.1 H.length _ r h1 σ' w' c k1
      have f3:=(f2 ν (fun i hi=>by rw[hnil] at hi;simp at hi)).2
      subst f3
      obtain⟨a1,a2,a3⟩:=cutW_ok ν h2
      obtain⟨b1,b2⟩:=vOfS?_ok S.one h3
      have e2:den ν (.e n j sz off)=.pointer (some ⟨g,j*(G.Γ q.1).T.sz+off,none⟩):=by
        simp only[den,e1,eadd,Nat.zero_add,c3]
      rw[e2]
      have:=run_loadAt T (b:=g) (o:=j*(G.Γ q.1).T.sz) (off:=off) k2 a1 (by rw[denC_len];exact a2)
      rw[this,b1]
    · simp at h
  · simp at h
theorem tb_ent (S:Sat ν F σ w H) {n:Nat} {q:(e:Nat) × List (G.Γ e).α} (h:tbOf H n=some q):∃ g cs,ν n=.pointer (some ⟨g,0,none⟩)∧Seg σ w g 0 cs∧Reps ((G.Γ q.1).T.rep σ w) q.2 cs:=by
  unfold tbOf at h
  split at h
  · rename_i g e xs hn
    injection h with h;subst h
    obtain⟨h1,cs,h2,h3⟩:=S.ent n _ hn
    exact⟨g,cs,h1,h2,h3⟩
  · simp at h
theorem loadT_ok (S:Sat ν F σ w H) (st:Stp M σ w σ' w') {t n j sz off:Nat} {x:SV} {vs:List Prop} (h:loadT En H t n j sz off=some (x,vs)) (hv:∀ p∈vs,p) :
    (Instr.loadAt t (den ν (.e n j sz off))).run En.P w'=.ok (den ν x) w':=by
  unfold loadT at h
  obtain⟨i,hi,h⟩:=Option.bind_eq_some_iff.1 h
  have T:=En.tok _ _ hi
  obtain⟨q,hq,h⟩:=Option.bind_eq_some_iff.1 h
  split at h
  · rename_i hc
    obtain⟨c2,c3⟩:=hc
    obtain⟨r,h1,h⟩:=Option.bind_eq_some_iff.1 h
    split at h
    · rename_i he
      obtain⟨ds,h2,h⟩:=Option.bind_eq_some_iff.1 h
      obtain⟨y,h3,h4⟩:=Option.map_eq_some_iff.1 h
      injection h4 with h4 h5
      subst h4;subst h5
      rw[List.forall_mem_singleton] at hv
      obtain⟨g,cs,e1,hS,hR⟩:=tb_ent S hq
      obtain⟨c,k1,k2⟩:=Reps.get (fun x c hx=>(G.Γ q.1).T.len hx) hR j hv
      have hS':=hS.step st
      have hget:q.2.getD j (G.Γ q.1).d=q.2[j]'hv:=by rw[List.getD_eq_getElem?_getD,List.getElem?_eq_getElem hv];rfl
      rw[hget] at h1
      have hnil:r.1=[]:=by simpa using he
      obtain⟨f,_,f2⟩:=En.opnOk q.1 H.length _ r h1 σ w c k1
      have f3:=(f2 ν (fun i hi=>by rw[hnil] at hi;simp at hi)).2
      subst f3
      obtain⟨a1,a2,a3⟩:=cutW_ok ν h2
      obtain⟨b1,b2⟩:=vOfS?_ok S.one h3
      have e2:den ν (.e n j sz off)=.pointer (some ⟨g,j*(G.Γ q.1).T.sz+off,none⟩):=by
        simp only[den,e1,eadd,Nat.zero_add,c3]
      rw[e2]
      have:=run_loadAt T (b:=g) (o:=j*(G.Γ q.1).T.sz) (off:=off) (fun k u hk=>by
        have:=hS'.cell _ _ (k2 k u hk)
        rwa [Nat.zero_add] at this) a1 (by rw[denC_len];exact a2)
      rw[this,b1]
    · simp at h
  · simp at h
theorem idxE_ok (S:Sat ν F σ w H) {t:Nat} {sx z:SV} {j:Int} {kd:IntKind} {vs:List Prop} (h:idxE En H t sx j=some (z,vs)) (hv:∀ p∈vs,p) (w':World) :
    (Instr.indexAt t (den ν sx) (.int kd j)).run En.P w'=.ok (den ν z) w':=by
  unfold idxE at h
  split at h
  · rename_i k e hu
    obtain⟨q,hq,h⟩:=Option.bind_eq_some_iff.1 h
    split at h
    · rename_i hc
      obtain⟨c1,c2⟩:=hc
      subst c1
      injection h with h;injection h with h4 h5
      subst h4;subst h5
      rw[List.forall_mem_singleton] at hv
      obtain⟨m1,m2,_⟩:=mu_ent S hq
      obtain⟨g,cap,cur,e1,_⟩:=m1.at (j:=j.toNat) (by omega)
      have U:En.P.underlying t=some (.slice q.1):=unT_ok En hu
      have hsz':=sz_ok En c2
      have h0:(0:Int)≤j:=hv.1
      have hl2:j<((q.2.length:Nat):Int):=hv.2
      simp only[den,e1,eadd,Instr.indexAt,asIntOf,Sem.run_bind,Sem.run_pure,Result.andThen_ok,run_underlying U,h0,hl2,and_self,if_true,hsz',Addr.add_lit,Nat.add_zero]
    · simp at h
  · rename_i k lo hi sz e hu
    obtain⟨q,hq,h2⟩:=Option.bind_eq_some_iff.1 h
    clear h
    split at h2
    · rename_i hc
      obtain⟨c1,c2,c3⟩:=hc
      subst c1;subst c3
      simp only[Option.some.injEq,Prod.mk.injEq] at h2
      obtain⟨h4,h5⟩:=h2
      subst h4;subst h5
      rw[List.forall_mem_singleton] at hv
      obtain⟨v1,v2,v3⟩:=hv
      obtain⟨m1,m2,_⟩:=mu_ent S hq
      obtain⟨g,cap,cur,e1,_,hnc,_⟩:=m1.at (j:=lo+j.toNat) (by omega)
      have U:En.P.underlying t=some (.slice q.1):=unT_ok En hu
      have hsz':=sz_ok En c2
      have hcl:¬ cap=lo:=by omega
      simp only[den,e1,qcut,eadd,Option.getD_none,hcl,if_false,Option.map_some,Instr.indexAt,asIntOf,Sem.run_bind,Sem.run_pure,Result.andThen_ok,run_underlying U,v1,v2,and_self,if_true,hsz',Addr.add_lit,Nat.add_zero,Nat.zero_add,Nat.add_mul]
    · simp at h2
  · rename_i g m e hu
    obtain⟨k,hk,q⟩:=Option.bind_eq_some_iff.1 h
    clear h
    split at q
    · rename_i g' e' xs hn
      split at q
      · rename_i hc
        obtain⟨rfl,rfl,c2⟩:=hc
        injection q with q;injection q with h4 h5
        subst h4;subst h5
        rw[List.forall_mem_singleton] at hv
        obtain⟨e1,_⟩:=S.ent k _ hn
        have U:En.P.underlying t=some (.array m e'):=unT_ok En hu
        have hsz':=sz_ok En c2
        have h0:(0:Int)≤j:=hv.1
        have hl2:j<((m:Nat):Int):=hv.2
        simp only[den,e1,eadd,Nat.zero_add,Instr.indexAt,Instr.sureAddr,asIntOf,Sem.run_bind,Sem.run_pure,Result.andThen_ok,run_underlying U,h0,hl2,and_self,if_true,hsz',Addr.add_lit,Nat.add_zero]
      · simp at q
    · simp at q
  · simp at h
theorem bndQ_ok (hρ:Rho ν l ρ) {x:Option Operand} {r:Option Int} (h:bndQ l x=some r):(r=none∧x.map ρ=none)∨∃ n k,r=some n∧x.map ρ=some (.int k n):=by
  unfold bndQ at h
  split at h
  · injection h with h;exact .inl ⟨h.symm,rfl⟩
  · rename_i o
    obtain⟨y,h1,h2⟩:=Option.bind_eq_some_iff.1 h
    obtain⟨n,h3,h4⟩:=Option.map_eq_some_iff.1 h2
    obtain⟨k,hk⟩:=numOf_ok h3 ν
    exact .inr ⟨n,k,h4.symm,by rw[Option.map_some,hρ o y h1,hk]⟩
theorem cutQ_ok (S:Sat ν F σ w H) {t:Nat} {sx z:SV} {a b c:Option Int} {lo hi mx:Option Value} {vs:List Prop} (h:cutQ En H t sx a b c=some (z,vs)) (hv:∀ p∈vs,p)
    (ha:(a=none∧lo=none)∨∃ n k,a=some n∧lo=some (.int k n)) (hb:(b=none∧hi=none)∨∃ n k,b=some n∧hi=some (.int k n)) (hc:(c=none∧mx=none)∨∃ n k,c=some n∧mx=some (.int k n)) (w':World) :
    (Instr.sliceAt t (den ν sx) lo hi mx).run En.P w'=.ok (den ν z) w':=by
  unfold cutQ at h
  split at h
  · rename_i k e hu
    obtain⟨q,hq,r⟩:=Option.bind_eq_some_iff.1 h
    clear h
    split at r
    · rename_i hcd
      obtain⟨c1,c2,_⟩:=hcd
      subst c1
      have U:En.P.underlying t=some (.slice q.1):=unT_ok En hu
      have hsz':=sz_ok En c2
      obtain⟨m1,_,_⟩:=mu_ent S hq
      split at r
      · rename_i hh mm
        injection r with r;injection r with h4 h5
        subst h4;subst h5
        rw[List.forall_mem_singleton] at hv
        obtain⟨v1,v2,v3,v4⟩:=hv
        obtain⟨g,cap,cur,e1,_,h3,_⟩:=m1.at v4
        rcases ha with⟨_,rfl⟩ | ⟨n,k',e,_⟩
        · rcases hb with ⟨e, _⟩ | ⟨n2, k2, e, rfl⟩
          · cases e
          · injection e with e; subst e
            rcases hc with⟨e,_⟩ | ⟨n3,k3,e,rfl⟩
            · cases e
            · injection e with e; subst e
              have q1:hh≤(mm.toNat:Int):=by omega
              have q2:mm≤(cap:Int):=by omega
              have q3:0≤mm:=by omega
              simp[den,e1,qcut,Instr.sliceAt,Instr.slice,Instr.sliceBounds,Instr.sliceBound,asIntOf,run_underlying U,hsz',v1,q1,q2,q3]
              intro hx
              exfalso;omega
        · cases e
      · rename_i ll
        injection r with r;injection r with h4 h5
        subst h4;subst h5
        rw[List.forall_mem_singleton] at hv
        obtain⟨v1,v2,v4⟩:=hv
        obtain⟨g,cap,cur,e1,_,h3,_⟩:=m1.at v4
        rcases ha with⟨e,_⟩ | ⟨n,k',e,rfl⟩
        · cases e
        · injection e with e; subst e
          rcases hb with⟨_,rfl⟩ | ⟨n2,k2,e,_⟩
          · rcases hc with ⟨_, rfl⟩ | ⟨n3, k3, e, _⟩
            · simp[den,e1,qcut,Instr.sliceAt,Instr.slice,Instr.sliceBounds,Instr.sliceBound,asIntOf,run_underlying U,hsz',v1,v2]
            · cases e
          · cases e
      · simp at r
    · simp at r
  · simp at h
theorem fieldAt_ok {t k off b o:Nat} {i:TI} (h1:fieldOf En t k=some (i,off)) (h0:i.sz≠0) (w:World) :
    (Instr.fieldAt t (.pointer (some ⟨b,o,none⟩)) k).run En.P w=.ok (.pointer (some ⟨b,o+off,none⟩)) w:=by
  obtain⟨f,hf,g,hg,rfl,T⟩:=fieldOf_ok En h1
  unfold Instr.fieldAt
  simp only[Sem.run_bind,run_underlying hf,Result.andThen_ok,hg,Instr.sureAddr,Sem.run_pure,fieldPlace,T.lay.s]
  rw[if_neg h0]
  simp only[Sem.run_pure,Result.andThen_ok,Addr.add_lit]
theorem eqC1_ok {x y:SV} {b:Bool} (h:eqC1 x y=some b) (ν:NV):∃(k:IntKind) (m n:Int),den ν x=.int k m∧den ν y=.int k n∧b=(m == n):=by
  unfold eqC1 at h
  split at h
  · injection h with h;subst h;exact⟨_,_,_,rfl,rfl,by rw[Bool.eq_iff_iff];simp⟩
  · rename_i a c;injection h with h;subst h;exact⟨_,_,_,rfl,rfl,by rw[Bool.eq_iff_iff];simp[← UInt8.toNat_inj];omega⟩
  · rename_i a c;injection h with h;subst h;exact⟨_,_,_,rfl,rfl,by rw[Bool.eq_iff_iff];simp[← UInt32.toNat_inj];omega⟩
  · rename_i a c;injection h with h;subst h;exact⟨_,_,_,rfl,rfl,by rw[Bool.eq_iff_iff];simp[← UInt64.toNat_inj];omega⟩
  · simp at h
theorem eqT_ok (hν:∀ n,(ν n).oneCell'=true):∀(f t:Nat) (x y:SV) (b:Bool) (ps:List Prop),eqT En f t x y=some (b,ps)→(∀ p∈ps,p)→∀(d:Nat) (w:World),(Op.equalIn (d+2*f) t (den ν x) (den ν y)).run En.P w=.ok b w
  | 0,t,x,y,b,ps,h,hp,d,w=>by simp[eqT] at h
  | f + 1, t, x, y, b, ps, h, hp, d, w => by
    rw[show d+2*(f+1)=(d+2*f)+2 by omega]
    unfold eqT at h
    split at h
    · rename_i k hu
      obtain⟨c,h1,h2⟩:=Option.map_eq_some_iff.1 h
      injection h2 with h2 h3;subst h2;subst h3
      obtain⟨k',m,n,e1,e2,e3⟩:=eqC1_ok h1 ν
      rw[e1,e2,e3]
      exact run_equalIn_int w _ t k' k m n (unT_ok En hu)
    · rename_i hu
      obtain⟨a,h1,h⟩:=Option.bind_eq_some_iff.1 h
      obtain⟨c,h2,h3⟩:=Option.map_eq_some_iff.1 h
      injection h3 with h3 h4;subst h3;subst h4
      rw[asB_ok h1 ν,asB_ok h2 ν]
      exact run_equalIn_bool' w _ t a c (unT_ok En hu)
    · rename_i hu
      split at h
      · rename_i a c
        injection h with h;injection h with h1 h2;subst h1;subst h2
        simp only[den,sv]
        rw[run_equalIn_string w _ t _ _ (unT_ok En hu)]
        congr 1
        rw[ba_toList,ba_toList,Bool.eq_iff_iff];simp
      · simp at h
    · rename_i n e hu
      split at h
      · rename_i k a m c
        split at h
        · rename_i hc
          obtain⟨c1,c2,c3,c4⟩:=hc
          injection h with h;injection h with h1 h2;subst h1;subst h2
          have l1:a.length=n:=hp _ (List.mem_cons_self ..)
          have l2:c.length=n:=hp _ (List.mem_cons_of_mem _ (List.mem_singleton_self _))
          subst c3;subst c4
          obtain⟨u,hu1,hu2⟩:=isTy_ok En c2
          have hu3:=isU8T_ok u hu1
          subst hu3
          have hsz:∀ w,(sizeOf e).run En.P w=.ok 1 w:=by
            unfold isC1 at c1
            split at c1
            · rename_i i hi
              simp only[Bool.and_eq_true,Bool.not_eq_true',beq_iff_eq] at c1
              have L:=(En.tok _ _ hi).lay.s
              rw[c1.2] at L;exact L
            · simp at c1
          have key:=run_equalIn_bytes (P:=En.P) w (d+2*f) t e m (unT_ok En hu) hu2 hsz a c l1 l2
          simp only[den,denC,List.append_nil,hk_eq l1,hk_eq l2]
          refine Eq.trans key ?_
          congr 1
          rw[Bool.eq_iff_iff];simp
        · simp at h
      · simp at h
    · rename_i fs hu
      split at h
      · rename_i xs ys
        obtain⟨r,h1,h2⟩:=Option.map_eq_some_iff.1 h
        injection h2 with h2 h3;subst h2;subst h3
        have nb:noBl En.P t:=hp _ (List.mem_cons_self ..)
        have hp':∀ p∈r.2,p:=fun p q=>hp p (List.mem_cons_of_mem _ q)
        obtain⟨f',hf,hfs⟩:=unT_ok En hu
        have hfo:En.P.fieldsOf t=f':=by unfold Program.fieldsOf;rw[hf]
        unfold noBl at nb
        rw[Bool.or_eq_false_iff,hfo] at nb
        simp only[den]
        rw[run_equalIn_struct w _ t _ _ (by rw[hfo];exact hf) nb.1,hfo]
        have hb:=nb.2
        clear h hf hfo nb hp hu
        revert hb hfs h1 hp'
        generalize f'.toList=l
        intro h1 hp' hfs hb
        induction l generalizing fs r with
        | nil =>
          simp only[List.map_nil] at hfs
          subst hfs
          simp only[eqFs,Option.some.injEq] at h1
          subst h1
          simp[Op.eqFields]
        | cons g l ih =>
          simp only[List.map_cons] at hfs
          subst hfs
          simp only[eqFs] at h1
          obtain⟨i,hi,h1⟩:=Option.bind_eq_some_iff.1 h1
          obtain⟨a,ha,h1⟩:=Option.bind_eq_some_iff.1 h1
          obtain⟨c,hc,h1⟩:=Option.bind_eq_some_iff.1 h1
          obtain⟨q,hq,h1⟩:=Option.bind_eq_some_iff.1 h1
          obtain⟨q2,hq2,h1⟩:=Option.map_eq_some_iff.1 h1
          subst h1
          obtain⟨ds,d1,d2⟩:=Option.bind_eq_some_iff.1 ha
          obtain⟨es,e1,e2⟩:=Option.bind_eq_some_iff.1 hc
          obtain⟨a1,a2,a3⟩:=cutW_ok ν d1
          obtain⟨b1,b2,b3⟩:=cutW_ok ν e1
          obtain⟨c1,c2⟩:=vOfS?_ok hν d2
          obtain⟨g1,g2⟩:=vOfS?_ok hν e2
          have T:=En.tok _ _ hi
          simp only[List.any_cons,Bool.or_eq_false_iff,beq_eq_false_iff_ne,ne_eq] at hb
          have IH:=eqT_ok hν f g.type a c q.1 q.2 hq (fun p h=>hp' p (List.mem_append_left _ h)) (d+1) w
          rw[show d+1+2*f=d+2*f+1 by omega] at IH
          have R:=ih _ _ hq2 (fun p h=>hp' p (List.mem_append_right _ h)) rfl hb.2
          simp only[Op.eqFields,if_pos hb.1,Sem.run_bind]
          rw[run_part T.lay (denC ν xs) g.offset (denC ν ds) a1 (by rw[denC_len];exact a3) T.zc.2.2.2,c1]
          simp only[Result.andThen_ok]
          rw[run_part T.lay (denC ν ys) g.offset (denC ν es) b1 (by rw[denC_len];exact b3) T.zc.2.2.2,g1]
          simp only[Result.andThen_ok,IH]
          cases hq1:q.1 with
          | false=>simp
          | true=>simp only[Bool.not_true,Bool.false_eq_true,if_false,Bool.true_and];exact R
      · simp at h
    · simp at h
theorem isAg_ok {x:SV} (h:isAg x=true) (ν:NV):∃ v,den ν x=.agg v:=by
  cases x <;> first | exact⟨_,rfl⟩ | simp[isAg] at h
theorem aggS_ok (hν:∀ n,(ν n).oneCell'=true) {op:BinOp} {t:Nat} {x y z:SV} {vs:List Prop} (h:aggS En op t x y=some (z,vs)) (hv:∀ p∈vs,p) (px py:Operand) (w:World) :
    (do eqGuard op t px py (den ν x) (den ν y);binOp op t (den ν x) (den ν y)).run En.P w=.ok (den ν z) w:=by
  unfold aggS at h
  split at h
  · rename_i hag
    simp only[Bool.and_eq_true] at hag
    obtain⟨r,h1,h2⟩:=Option.bind_eq_some_iff.1 h
    have hps:(En.P.eqGuardType En.P.depth t=false)∧∀ p∈r.2,p:=by
      cases op <;> simp only[Option.some.injEq,Prod.mk.injEq,reduceCtorEq] at h2 <;> obtain⟨_,rfl⟩:=h2 <;> exact⟨hv _ (List.mem_cons_self ..),fun p q=>hv p (List.mem_cons_of_mem _ q)⟩
    have key:=eqT_ok En hν 4 t x y r.1 r.2 h1 hps.2 9992 w
    obtain⟨v,e1⟩:=isAg_ok hag.1 ν
    obtain⟨u,e2⟩:=isAg_ok hag.2 ν
    rw[e1,e2] at key ⊢
    have hg:=run_eqGuard_agg (P:=En.P) w op t px py v u hps.1
    cases op <;> simp only[Option.some.injEq,Prod.mk.injEq,reduceCtorEq] at h2 <;> obtain⟨rfl,_⟩:=h2
    · rw[Sem.run_bind,hg,Result.andThen_ok,run_eql_struct,key];rfl
    · rw[Sem.run_bind,hg,Result.andThen_ok,run_neq_struct,key];rfl
  · simp at h
theorem rdOp_ok (S:Sat ν F σ w H) (st:Stp M σ w σ' w') (hp:∀ k,prot k=true→∀ b,F k b→¬ M b) (hρ:Rho ν l ρ) {op:Op} {z:SV} {vs:List Prop} (h:rdOp En prot l H op=some (z,vs)) (hv:∀ p∈vs,p) (oo:Oper) (ho:oo.op=op) :
    (execOp ρ oo).run En.P w'=.ok (.value (den ν z)) w':=by
  unfold rdOp at h
  split at h
  · rename_i x
    obtain⟨y,h1,h2⟩:=Option.map_eq_some_iff.1 h
    injection h2 with h2 _;subst h2
    simp only[execOp,ho,hρ x y h1,Sem.run_pure]
  · rename_i x
    obtain⟨y,h1,h2⟩:=Option.map_eq_some_iff.1 h
    injection h2 with h2 _;subst h2
    simp only[execOp,ho,hρ x y h1,Sem.run_pure]
  · rename_i c a b
    obtain⟨sc,hc,h⟩:=Option.bind_eq_some_iff.1 h
    have hc':=hρ c sc hc
    split at h
    · obtain ⟨y, h1, h2⟩ := Option.map_eq_some_iff.1 h
      injection h2 with h2 _;subst h2
      simp only[execOp,ho,hc',hρ a y h1,den,asBool,Sem.run_bind,Sem.run_pure,Result.andThen_ok,if_true]
    · obtain ⟨y, h1, h2⟩ := Option.map_eq_some_iff.1 h
      injection h2 with h2 _;subst h2
      simp only[execOp,ho,hc',hρ b y h1,den,asBool,Sem.run_bind,Sem.run_pure,Result.andThen_ok,Bool.false_eq_true,if_false]
    · simp at h
  · rename_i x k
    obtain⟨sx,hx,h⟩:=Option.bind_eq_some_iff.1 h
    have hx':=hρ x sx hx
    split at h
    · rename_i vs
      obtain⟨y,h1,h2⟩:=Option.map_eq_some_iff.1 h
      injection h2 with h2 _;subst h2
      have:((denL ν vs).toArray)[k]? = some (den ν y):=by rw[List.getElem?_toArray,denL_map,List.getElem?_map,h1];rfl
      simp only[execOp,ho,hx',den,Instr.extract,this,Sem.run_bind,Sem.run_pure,Result.andThen_ok]
    · simp at h
  · rename_i x
    obtain⟨sx,hx,h⟩:=Option.bind_eq_some_iff.1 h
    have hx':=hρ x sx hx
    split at h
    · rename_i n k
      have key:∀(b o:Nat),ν n=.pointer (some ⟨b,o,none⟩)→(execOp ρ oo).run En.P w'=.ok (.value (den ν (.p n k))) w':=by
        intro b o e
        simp only[execOp,ho,hx',den,e,padd,Sem.run_pure]
      split at h
      · rename_i hn
        injection h with h;injection h with h _;subst h
        obtain⟨b,o',e⟩:=ptr_of S (.inl ⟨_,_,hn⟩);exact key b o' e
      · rename_i hn
        injection h with h;injection h with h _;subst h
        obtain⟨b,o',e⟩:=ptr_of S (.inr ⟨_,_,hn⟩);exact key b o' e
      · rename_i q nil hn
        injection h with h;injection h with h h';subst h;subst h'
        rw[List.forall_mem_singleton] at hv
        obtain⟨_,_,h3⟩:=S.ent n _ hn
        obtain⟨b,o',e⟩:=h3 hv
        exact key b o' e
      · simp at h
    · injection h with h; injection h with h _; subst h
      simp only[execOp,ho,hx',den,Sem.run_pure]
    · rename_i n
      split at h
      · rename_i hn
        injection h with h;injection h with h _;subst h
        obtain⟨b,o',e⟩:=ptr_of S (.inl ⟨_,_,hn⟩)
        simp only[execOp,ho,hx',den,e,padd,Sem.run_pure,Nat.add_zero]
      · rename_i hn
        injection h with h;injection h with h _;subst h
        obtain⟨b,o',e⟩:=ptr_of S (.inr ⟨_,_,hn⟩)
        simp only[execOp,ho,hx',den,e,padd,Sem.run_pure,Nat.add_zero]
      · simp at h
    · simp at h
  · rename_i t x k
    obtain⟨sx,hx,h⟩:=Option.bind_eq_some_iff.1 h
    have hx':=hρ x sx hx
    split at h
    · rename_i cs
      obtain⟨q,h1,h⟩:=Option.bind_eq_some_iff.1 h
      split at h
      · obtain ⟨ds, h2, h⟩ := Option.bind_eq_some_iff.1 h
        obtain⟨y,h3,h4⟩:=Option.map_eq_some_iff.1 h
        injection h4 with h4 _;subst h4
        have:=field_ok En S.one (i:=q.1) (off:=q.2) h1 h2 h3 w'
        simp only[execOp,ho,hx',Sem.run_bind,this,Result.andThen_ok,Sem.run_pure]
      · simp at h
    · simp at h
  · rename_i t x k
    obtain⟨sx,hx,h⟩:=Option.bind_eq_some_iff.1 h
    have hx':=hρ x sx hx
    split at h
    · rename_i n o
      obtain⟨q,h1,h⟩:=Option.bind_eq_some_iff.1 h
      split at h
      · simp at h
      · rename_i h0
        have key:(∃ b o,ν n=.pointer (some ⟨b,o,none⟩))→(execOp ρ oo).run En.P w'=.ok (.value (den ν (.p n (o+q.2)))) w':=fun hp=>by
          have:=fieldAddr_ok En S (o:=o) (i:=q.1) (off:=q.2) h1 h0 hp w'
          simp only[execOp,ho,hx',Sem.run_bind,this,Result.andThen_ok,Sem.run_pure]
        split at h
        · rename_i hn
          injection h with h;injection h with h _;subst h
          exact key (ptr_of S (.inl ⟨_,_,hn⟩))
        · rename_i hn
          injection h with h;injection h with h _;subst h
          exact key (ptr_of S (.inr ⟨_,_,hn⟩))
        · simp at h
    · rename_i n j sz o
      obtain⟨q,h1,h⟩:=Option.bind_eq_some_iff.1 h
      split at h
      · simp at h
      · rename_i h0
        obtain⟨m,hm,h2⟩:=Option.map_eq_some_iff.1 h
        injection h2 with h2 h3;subst h2;subst h3
        rw[List.forall_mem_singleton] at hv
        obtain⟨g,cap,cur,e1,_⟩:=(mu_ent S hm).1.at hv
        have e2:∀ k,den ν (.e n j sz k)=.pointer (some ⟨g,j*sz+k,none⟩):=fun k=>by simp only[den,e1,eadd,Nat.zero_add]
        have:=fieldAt_ok En (b:=g) (o:=j*sz+o) (i:=q.1) (off:=q.2) h1 h0 w'
        rw[Nat.add_assoc] at this
        rw[e2] at hx' ⊢
        simp only[execOp,ho,hx',Sem.run_bind,this,Result.andThen_ok,Sem.run_pure]
    · simp at h
  · rename_i t x lo hi mx
    obtain⟨sx,hx,g⟩:=Option.bind_eq_some_iff.1 h
    clear h
    obtain⟨a,ha,g2⟩:=Option.bind_eq_some_iff.1 g
    clear g
    obtain⟨b,hb,g3⟩:=Option.bind_eq_some_iff.1 g2
    clear g2
    obtain⟨c,hc,h⟩:=Option.bind_eq_some_iff.1 g3
    clear g3
    have:=cutQ_ok En S h hv (bndQ_ok hρ ha) (bndQ_ok hρ hb) (bndQ_ok hρ hc) w'
    simp only[execOp,ho,hρ x sx hx,Sem.run_bind,this,Result.andThen_ok,Sem.run_pure]
  · rename_i t x j
    obtain⟨sx,hx,g⟩:=Option.bind_eq_some_iff.1 h
    clear h
    obtain⟨sj,hj,g2⟩:=Option.bind_eq_some_iff.1 g
    clear g
    obtain⟨jn,hjn,h⟩:=Option.bind_eq_some_iff.1 g2
    clear g2
    obtain⟨kd,hkd⟩:=numOf_ok hjn ν
    have:=idxE_ok En S (kd:=kd) h hv w'
    simp only[execOp,ho,hρ x sx hx,hρ j sj hj,hkd,Sem.run_bind,this,Result.andThen_ok,Sem.run_pure]
  · rename_i op t x y yt
    obtain⟨a,hx,h⟩:=Option.bind_eq_some_iff.1 h
    obtain⟨b,hy,h⟩:=Option.bind_eq_some_iff.1 h
    split at h
    · rename_i r hr
      injection h with h;subst h
      have:=binS_ok En (ν:=ν) hr hv x y w'
      simp only[execOp,ho,hρ x a hx,hρ y b hy]
      rw[Sem.run_bind,this]
      rfl
    · split at h
      · rename_i r hr
        injection h with h;subst h
        have:=aggS_ok En (ν:=ν) S.one hr hv x y w'
        simp only[execOp,ho,hρ x a hx,hρ y b hy]
        rw[Sem.run_bind,this]
        rfl
      have:=nilS_ok En S (px:=x) h hv (yv:=ρ y) (fun v e=>by
        subst e
        simp only[evS,Option.some.injEq] at hy
        subst hy
        rw[hρ _ _ rfl,den_cst]) w'
      simp only[execOp,ho,hρ x a hx]
      rw[Sem.run_bind,this]
      rfl
  · rename_i op t x
    obtain⟨a,hx,h⟩:=Option.bind_eq_some_iff.1 h
    split at h
    · obtain ⟨c, h1, h2⟩ := Option.map_eq_some_iff.1 h
      injection h2 with h2 _;subst h2
      simp only[execOp,ho,hρ x a hx,asB_ok h1 ν,Op.unary,Sem.run_bind,Sem.run_pure,Result.andThen_ok,den]
    · split at h
      · rename_i y
        injection h with h;injection h with h _;subst h
        have e:(Op.unary .xor (wv y)).run En.P w'=.ok (wv (~~~y)) w':=by
          show Result.ok (Value.int .u32 (IntKind.u32.wrap ((BitVec.ofInt 32 IntKind.u32.max ^^^ BitVec.ofInt 32 (y.toNat:Int)).toNat:Int))) w'=_
          rw[u32_not]
        simp only[execOp,ho,hρ x _ hx,den,Sem.run_bind,e,Result.andThen_ok,Sem.run_pure]
      · simp at h
    · simp at h
  · rename_i s t x
    obtain⟨a,hx,h⟩:=Option.bind_eq_some_iff.1 h
    have:=convS_ok En S st h hv
    simp only[execOp,ho,hρ x a hx,Sem.run_bind,this,Result.andThen_ok,Sem.run_pure]
  · rename_i c
    exact callS_ok En S hρ h hv oo ho w'
  · rename_i t x
    obtain⟨sx,hx,h⟩:=Option.bind_eq_some_iff.1 h
    have hx':=hρ x sx hx
    split at h
    · rename_i n o
      obtain⟨y,h1,h2⟩:=Option.map_eq_some_iff.1 h
      injection h2 with h2 _;subst h2
      have:=loadS_ok En S st hp h1
      simp only[execOp,ho,hx',Sem.run_bind,this,Result.andThen_ok,Sem.run_pure]
    · rename_i n j sz o
      have:(Instr.loadAt t (den ν (.e n j sz o))).run En.P w'=.ok (den ν z) w':=by
        split at h
        · rename_i r hr
          injection h with h;subst h
          exact loadE_ok En S st hp hr hv
        · exact loadT_ok En S st h hv
      simp only[execOp,ho,hx',Sem.run_bind,this,Result.andThen_ok,Sem.run_pure]
    · simp at h
  · rename_i t x j
    obtain⟨a,hx,h⟩:=Option.bind_eq_some_iff.1 h
    obtain⟨b,hy,h⟩:=Option.bind_eq_some_iff.1 h
    have:=idxS_ok En (ν:=ν) h hv w'
    simp only[execOp,ho,hρ x a hx,hρ j b hy,Sem.run_bind,this,Result.andThen_ok,Sem.run_pure]
  · rename_i t ps
    split at h
    · rename_i fs sz z by_ hi
      split at h
      · rename_i ha
        obtain⟨qs,h1,h⟩:=Option.bind_eq_some_iff.1 h
        obtain⟨ds,h2,h3⟩:=Option.map_eq_some_iff.1 h
        injection h3 with h3 _;subst h3
        have e:=evParts_ok hρ h1
        have:=run_buildS En S.one (w:=w') hi ha h2
        have e2:(ps.map fun(p:Nat × Operand)=>(p.1,ρ p.2))=(qs.map fun p=>(p.1,den ν p.2)).toArray:=by
          rw[← e];apply Array.ext';simp
        simp only[execOp,ho]
        show(do let x ← Instr.build t (ps.map fun(p:Nat × Operand)=>(p.1,ρ p.2));pure (Next.value x):Sem Next).run En.P w'=_
        rw[e2]
        simp only[Sem.run_bind,this,Result.andThen_ok,Sem.run_pure,den]
      · simp at h
    · rename_i n e sz z by_ hi
      obtain⟨ie,he,h⟩:=Option.bind_eq_some_iff.1 h
      obtain⟨qs,h1,h⟩:=Option.bind_eq_some_iff.1 h
      obtain⟨ds,h2,h3⟩:=Option.map_eq_some_iff.1 h
      injection h3 with h3 _;subst h3
      have e:=evParts_ok hρ h1
      have:=run_buildA En S.one (w:=w') hi he h2
      have e2:(ps.map fun(p:Nat × Operand)=>(p.1,ρ p.2))=(qs.map fun p=>(p.1,den ν p.2)).toArray:=by
        rw[← e];apply Array.ext';simp
      simp only[execOp,ho]
      show(do let x ← Instr.build t (ps.map fun(p:Nat × Operand)=>(p.1,ρ p.2));pure (Next.value x):Sem Next).run En.P w'=_
      rw[e2]
      simp only[Sem.run_bind,this,Result.andThen_ok,Sem.run_pure,den]
    · simp at h
  · rename_i f a b
    obtain⟨x,h1,h⟩:=Option.bind_eq_some_iff.1 h
    obtain⟨y,h2,h3⟩:=Option.map_eq_some_iff.1 h
    injection h3 with h3 _;subst h3
    have e1:a.map ρ=(denL ν x).toArray:=by rw[← evL_ok hρ h1];apply Array.ext';simp
    have e2:b.map ρ=(denL ν y).toArray:=by rw[← evL_ok hρ h2];apply Array.ext';simp
    simp only[execOp,ho]
    show(do let x ← Instr.makeFunc (.func f) (a.map ρ) (b.map ρ);pure (Next.value x):Sem Next).run En.P w'=_
    rw[e1,e2]
    simp only[Instr.makeFunc,Sem.run_bind,Sem.run_pure,Result.andThen_ok,den]
  · rename_i t x
    obtain⟨a,hx,h⟩:=Option.bind_eq_some_iff.1 h
    split at h
    · rename_i ht
      injection h with h;injection h with h _;subst h
      obtain⟨u,hu1,hu2⟩:=isTy_ok En ht
      have:(Instr.makeInterface t (den ν a)).run En.P w'=.ok (.iface t (den ν a)) w':=by
        unfold Instr.makeInterface
        cases u with
        | ifc m=>simp at hu1
        | bool=>have U:En.P.underlying t=_:=hu2;simp only[Sem.run_bind,run_underlying U,Result.andThen_ok,Sem.run_pure]
        | int k=>have U:En.P.underlying t=_:=hu2;simp only[Sem.run_bind,run_underlying U,Result.andThen_ok,Sem.run_pure]
        | str=>have U:En.P.underlying t=_:=hu2;simp only[Sem.run_bind,run_underlying U,Result.andThen_ok,Sem.run_pure]
        | sl e=>have U:En.P.underlying t=_:=hu2;simp only[Sem.run_bind,run_underlying U,Result.andThen_ok,Sem.run_pure]
        | ptr e=>have U:En.P.underlying t=_:=hu2;simp only[Sem.run_bind,run_underlying U,Result.andThen_ok,Sem.run_pure]
        | arr n e=>have U:En.P.underlying t=_:=hu2;simp only[Sem.run_bind,run_underlying U,Result.andThen_ok,Sem.run_pure]
        | st fs=>obtain⟨f,U,_⟩:=hu2;simp only[Sem.run_bind,run_underlying U,Result.andThen_ok,Sem.run_pure]
        | mp k e=>have U:En.P.underlying t=_:=hu2;simp only[Sem.run_bind,run_underlying U,Result.andThen_ok,Sem.run_pure]
        | fn=>obtain⟨p,q,r,U⟩:=hu2;simp only[Sem.run_bind,run_underlying U,Result.andThen_ok,Sem.run_pure]
      simp only[execOp,ho,hρ x a hx,Sem.run_bind,this,Result.andThen_ok,Sem.run_pure,den]
    · simp at h
  · simp at h
end
end Go.Proofs.YtkpnjjacbhicgaaDoor.X
