/- What the law BankSums needs: the engine, the walks of what it reaches, plain laws; part 3. -/
import Derived.Test.YtblnnkkelkjbiaaDoorBankSumsM2
import Derived.Shelf.SlSortCmp.NoneTotal
import Derived.RangeFuncRecord
import Derived.RangeFuncSeq
import Derived.Maps.RangeRun
import Derived.Test.YtblnnkkelkjbiaaDoorProg
import Derived.Sort.MapsRangeIn
import Derived.WalkKit
import Derived.OwnWalkIn
import Derived.TacticsInMore
import Derived.RegionIn
import Derived.LoopNIn
import Derived.LoopIn
import Derived.OpenShut
set_option linter.unnecessarySimpa false
set_option linter.deprecated false
set_option linter.unusedVariables false
set_option linter.unusedSimpArgs false
set_option maxRecDepth 100000
namespace Go.Proofs.YtblnnkkelkjbiaaDoor.X
open Go Go.RowKit Go.Proofs Go.Proofs.YtblnnkkelkjbiaaDoor.E Go.Extern.Stop Go.Stop Go.Extern
def Er.dep:Er→Nat
  | .num _=>0
  | .step _ _ e=>e.dep+1
def Er.code:Er→Int
  | .num c=>c
  | .step _ _ e=>e.code
abbrev asW (w:World) (a:Addr) (c:Int):World:=(w.alloc (.cells #[.pointer (some ⟨2,64,none⟩),.pointer (some a),.int .u64 150] 79)).alloc (.cells #[.int .i64 c] 41)
theorem as37 {σ:Nat→Nat} {w:World}:∀(e:Er) (v:Value),e.dep≤3→ErAt σ w e v→∀(t a:Addr) (old:Value),w.cell? a=some (.pointer (some t))→w.cell? t=some old→w.frozen? t=false →
    Calls Tryd.prog 37 #[v,.iface 64 (.pointer (some t)),.agg #[.pointer (some ⟨2,64,none⟩),.pointer (some a),.int .u64 150],.iface 95 (.agg #[.pointer (some ⟨2,41,none⟩)])] w
      fun ev w'=>ev=.returned (.bool true)∧w'=(asW w a e.code).setCell t (.int .i64 e.code)
  | .num c, v, _, h, t, a, old, ha, ht, hf => by
    have h:v=.iface 41 (iv c):=h
    subst h;exact as37_num c t a old w ha ht hf
  | .step _ _ (.num c), v, _, ⟨b1, o1, e1, h1, s1, h2⟩, t, a, old, ha, ht, hf => by
    have h2:e1=.iface 41 (iv c):=h2
    subst h1;subst h2
    exact as37_s1 c b1 o1 t a old w ha ht hf (s1.h 2 _ rfl).2
  | .step _ _ (.step _ _ (.num c)), v, _, ⟨b1, o1, e1, h1, s1, b2, o2, e2, h2, s2, h3⟩, t, a, old, ha, ht, hf => by
    have h3:e2=.iface 41 (iv c):=h3
    subst h1;subst h2;subst h3
    exact as37_s2 c b1 o1 b2 o2 t a old w ha ht hf (s1.h 2 _ rfl).2 (s2.h 2 _ rfl).2
  | .step _ _ (.step _ _ (.step _ _ (.num c))), v, _, ⟨b1, o1, e1, h1, s1, b2, o2, e2, h2, s2, b3, o3, e3, h3, s3, h4⟩, t, a, old, ha, ht, hf => by
    have h4:e3=.iface 41 (iv c):=h4
    subst h1;subst h2;subst h3;subst h4
    exact as37_s3 c b1 o1 b2 o2 b3 o3 t a old w ha ht hf (s1.h 2 _ rfl).2 (s2.h 2 _ rfl).2 (s3.h 2 _ rfl).2
  | .step _ _ (.step _ _ (.step _ _ (.step _ _ e))),v,hd,_,t,a,old,ha,ht,hf=>by simp only[Er.dep] at hd;omega
theorem ErAt.ifc {σ:Nat→Nat} {w:World} {e:Er} {v:Value} (h:ErAt σ w e v):∃ ty x,v=.iface ty x:=by
  cases e with
  | num c=>exact⟨_,_,h⟩
  | step _ _ e=>obtain⟨b,o,ev,h,_⟩:=h;exact⟨_,_,h⟩
abbrev asV (w:World) (t:Addr):World:=(w.alloc (.cells #[.pointer (some t)] 64)).alloc (.cells #[.pointer (some ⟨2,64,none⟩),.pointer (some ⟨w.heap.size,0,none⟩),.int .u64 150] 79)
set_option maxHeartbeats 8000000 in
theorem as27 (c:Int) (ty:Nat) (x:Value) (t:Addr) (old:Value) (w:World) (R:Ending→World→Prop) (hg:w.cell? ⟨0,0,none⟩=some (.iface 95 (.agg #[.pointer (some ⟨2,36,none⟩)]))) (ht:w.cell? t=some old) (hf:w.frozen? t=false)
    (hc:Calls Tryd.prog 37 #[.iface ty x,.iface 64 (.pointer (some t)),.agg #[.pointer (some ⟨2,64,none⟩),.pointer (some ⟨w.heap.size,0,none⟩),.int .u64 150],.iface 95 (.agg #[.pointer (some ⟨2,41,none⟩)])] (asV w t)
      fun ev w'=>ev=.returned (.bool true)∧w'=(asW (asV w t) ⟨w.heap.size,0,none⟩ c).setCell t (.int .i64 c)) :
    Calls Tryd.prog 27 #[.iface ty x,.iface 64 (.pointer (some t))] w fun ev w'=>ev=.returned (.bool true)∧w'=(asW (asV w t) ⟨w.heap.size,0,none⟩ c).setCell t (.int .i64 c):=by
  have h34:=@run_callFunc_extern Tryd.prog 34 _ (fun args=>ReflectliteValue.unpack (args.getD 0 (.tuple #[]))) Tryd.func34 (by kernel_rfl) (by kernel_rfl) (by kernel_rfl) (by kernel_rfl)
  have h35:=@run_callFunc_extern Tryd.prog 35 _ (ReflectliteValue.methodAny (ReflectliteValue.valueError "reflectlite.Value.Type" 0) (fun t _ _ _=>ReflectliteType.toType t)) Tryd.func35 (by kernel_rfl) (by kernel_rfl) (by kernel_rfl) (by kernel_rfl)
  have h36:=@run_callFunc_extern Tryd.prog 36 _ (ReflectliteValue.method (ReflectliteValue.valueError "reflectlite.Value.IsNil" 0) ReflectliteValue.isNil) Tryd.func36 (by kernel_rfl) (by kernel_rfl) (by kernel_rfl) (by kernel_rfl)
  have h83:=@run_callFunc_extern Tryd.prog 83 _ (ReflectliteType.abiMethod fun t=>do pure (.int .u8 (← Rtype.kind t))) Tryd.func83 (by kernel_rfl) (by kernel_rfl) (by kernel_rfl) (by kernel_rfl)
  have h95:=@run_callFunc_extern Tryd.prog 95 _ (ReflectliteType.method ReflectliteType.elem) Tryd.func95 (by kernel_rfl) (by kernel_rfl) (by kernel_rfl) (by kernel_rfl)
  have h96:=@run_callFunc_extern Tryd.prog 96 _ (ReflectliteType.relation "Implements" ReflectliteType.implements_) Tryd.func96 (by kernel_rfl) (by kernel_rfl) (by kernel_rfl) (by kernel_rfl)
  have f6:=as_vo
  have f7:=as_type
  have mK:=as_mKind
  have mE:=as_mElem
  have mI:=as_mImpl
  have k1:=as_kind64
  have k2:=as_kind41
  have e1:=as_elem64
  have i1:=as_impl41
  have n8:=as_isNil ⟨w.heap.size,0,none⟩ t (asV w t) (by rw[World.cell?_alloc_lt _ _ ⟨w.heap.size,0,none⟩ (by simp)];simp)
  have hlt:0<w.heap.size:=by
    rcases Nat.eq_zero_or_pos w.heap.size with h0 | h
    · simp[World.cell?,h0] at hg
    · exact h
  have hg2:(asV w t).cell? ⟨0,0,none⟩=some (.iface 95 (.agg #[.pointer (some ⟨2,36,none⟩)])):=by
    rw[World.cell?_alloc_lt _ _ ⟨0,0,none⟩ (by simp),World.cell?_alloc_lt _ _ ⟨0,0,none⟩ hlt];exact hg
  go_enter Tryd.func27,Tryd.ntmps27
  go_wp2_with (first | (go_at_call 37;refine hc.mono ?_;rintro e w' ⟨rfl,rfl⟩))
  go_ret
  exact⟨rfl,rfl⟩
end Go.Proofs.YtblnnkkelkjbiaaDoor.X
set_option linter.unusedVariables false
set_option linter.unusedSimpArgs false
set_option maxRecDepth 100000
namespace Go.Proofs.YtblnnkkelkjbiaaDoor.X
open Go Go.RowKit Go.Proofs Go.Proofs.YtblnnkkelkjbiaaDoor.E
def etP:PP:=⟨fun σ w _=>Seg σ w 0 0 [.iface 95 (.agg #[.pointer (some ⟨2,36,none⟩)])],fun st h=>h.step st⟩
theorem stp_setCell {σ:Nat→Nat} {w:World} {b:Nat} (hz:σ b=0) (v:Value):Stp (· = b) σ w σ (w.setCell ⟨b,0,none⟩ v):=by
  have oth:∀ x,x≠b→(w.setCell ⟨b,0,none⟩ v).heap[x]? = w.heap[x]?:=fun x hx=>by
    simp only[World.setCell,Array.getElem?_modify]
    rw[if_neg (Ne.symm hx)]
  refine⟨rfl,rfl,rfl,by simp[World.setCell],fun x _ hx=>oth x hx,fun _ _ _=>rfl,fun x o hx ho=>?_,fun _ _=>Nat.le_refl _,Nat.le_refl _⟩
  have hne:x≠b:=by rintro rfl;rw[hz] at ho;omega
  exact World.cell?_of_block (oth x hne)
theorem errAs_ok (e:Er) (c0:Int) (hd:e.dep≤3):FOk EN 27 ⟨[.pr etP,.pn (PE (some e)) true false,.bx 41 [.i c0]],[.n 1,.j 64 (.p 2 0)],Unit,fun _=>([.pr etP,.pn (PE (some e)) true false,.bx 41 [.i e.code]],.b true),fun _=>True⟩:=by
  refine⟨by kernel_rfl,fun ν F σ w S=>?_⟩
  obtain⟨b,hb1,hB,hFb,_⟩:=S.ent 2 _ rfl
  obtain⟨hE,_,_⟩:=S.ent 1 _ rfl
  have hE:ErAt σ w e (ν 1):=hE
  have hg:Seg σ w 0 0 [.iface 95 (.agg #[.pointer (some ⟨2,36,none⟩)])]:=S.ent 0 _ rfl
  have hg0:=(hg.h 0 _ rfl).2
  obtain⟨ty,x,hv⟩:=hE.ifc
  have hbl:=hB.lt
  have hargs:(denL ν [.n 1,.j 64 (.p 2 0)]).toArray=#[.iface ty x,.iface 64 (.pointer (some ⟨b,0,none⟩))]:=by
    simp only[denL,den,hv,hb1,padd,Nat.add_zero]
  have ht:w.cell? ⟨b,0,none⟩=some (iv c0):=by rw[hB.cell 0];rfl
  have hf:w.frozen? ⟨b,0,none⟩=false:=hB.free 0
  have s1:=Stp.alloc σ w (.cells #[.pointer (some ⟨b,0,none⟩)] 64) 0
  have s2:=s1.then (Stp.alloc _ _ (.cells #[.pointer (some ⟨2,64,none⟩),.pointer (some ⟨w.heap.size,0,none⟩),.int .u64 150] 79) 0)
  have s3:=s2.then (Stp.alloc _ _ (.cells #[.pointer (some ⟨2,64,none⟩),.pointer (some ⟨w.heap.size,0,none⟩),.int .u64 150] 79) 0)
  have s4:=s3.then (Stp.alloc _ _ (.cells #[.int .i64 e.code] 41) 0)
  have B2:=hB.step' s2
  have B4:=hB.step' s4
  have hc:=as37 e (ν 1) hd (ErAt.step s2 hE) ⟨b,0,none⟩ ⟨w.heap.size,0,none⟩ (iv c0) (by rw[World.cell?_alloc_lt _ _ ⟨w.heap.size,0,none⟩ (by simp)];simp) (by rw[B2.cell 0];rfl) (B2.free 0)
  rw[hv] at hc
  show Calls EN.P 27 (denL ν [.n 1,.j 64 (.p 2 0)]).toArray w _
  rw[hargs]
  refine Calls.mono (as27 e.code ty x ⟨b,0,none⟩ (iv c0) w (fun _ _=>True) hg0 ht hf hc) ?_
  rintro ev w' ⟨rfl,rfl⟩
  have s5:=(s4.mono (M':=(· = b)) (fun _ _ h=>h.elim)).trans (stp_setCell B4.z (.int .i64 e.code)) (M'':=(· = b)) (fun x _ h=>by rcases h with h | h <;> exact h)
  refine⟨(),ν,F,_,rfl,trivial,fun _ _=>rfl,s5.mono (fun x _ h=>⟨2,by subst h;exact hFb⟩),?_,by simp,fun i b' h=>.inl ⟨i,h⟩,rfl⟩
  refine S.gen s5 (· = 2) (fun _ _=>rfl) S.one (by simp) (fun k b' hk hm=>by subst hm;exact S.dis k 2 b' hk hFb) (fun k hk hne=>⟨?_,rfl⟩) (fun k en hk he=>?_) (fun k b' hk hb'=>?_) (fun k m b' _ _ e1 e2=>S.dis k m b' e1 e2)
  · have hk : k < 3 := hk
    match k,hk,hne with
    | 0,_,_=>rfl
    | 1,_,_=>rfl
    | 2,_,h=>exact absurd rfl h
  · rcases hk with rfl | hk
    · simp only [List.getElem?_cons_succ, List.getElem?_cons_zero, Option.some.injEq] at he
      subst he
      refine⟨⟨b,hb1,⟨?_,B4.z⟩,hFb,rfl⟩,rfl⟩
      have:=B4.h
      simp only[World.setCell,Array.getElem?_modify,if_pos]
      rw[this];rfl
    · have := (List.getElem?_eq_some_iff.1 he).1
      have hk:3≤k:=hk
      simp at this;omega
  · rcases hk with rfl | hk
    · exact⟨by simp,s5.lt (S.lt 2 b' hb').2,.inl ⟨2,rfl,hb'⟩⟩
    · have := (S.lt k b' hb').1
      have hk:3≤k:=hk
      simp at this;omega
def codeO:Option Er→Int
  | none=>0
  | some e=>e.code
def depO:Option Er→Nat
  | none=>0
  | some e=>e.dep
noncomputable def ccC7_17:Code:=(Tryd.f17.body).getD .skip
theorem Code1_aux:FOk EN 17 ⟨[.pr etP,.pn (PE none) true true],[.n 1],Unit,fun _=>([.pr etP,.pn (PE none) true true],.i 0),fun _=>True⟩:=by
 refine v_fun Tryd.f17 ccC7_17 MX (fun ν F σ w=>?_) Tryd.func17
 refine v_nl ?_
 refine v_if (true) True trivial (fun h1=>?_) (fun h1=>?_)
 ·skip
  exact v_ret () [] (((0:Int)=(0:Int))∧(etP=etP)∧(PE none=PE none)∧(true=true)) ⟨rfl,rfl,rfl,rfl⟩ trivial
 ·skip
  contradiction
theorem Code2_aux (e:Er) (h:e.dep≤3):FOk EN 17 ⟨[.pr etP,.pn (PE (some e)) true false],[.n 1],Unit,fun _=>([.pr etP,.pn (PE (some e)) true false],.i e.code),fun _=>True⟩:=by
 refine v_fun Tryd.f17 ccC7_17 MX (fun ν F σ w=>?_) Tryd.func17
 refine v_nl ?_
 refine v_if (false) True trivial (fun h1=>?_) (fun h1=>?_)
 ·skip
  contradiction
 ·skip
  refine v_call _ [0,1,3] (errAs_ok (e) (0) ‹_›) ((etP=etP)∧(PE (some e)=PE (some e))∧(false=false)∧((0:Int)=(0:Int))) ⟨rfl,rfl,rfl,rfl⟩ (fun g2 p3=>?_)
  have p3:True:=p3
  refine v_if (true) True trivial (fun h4=>?_) (fun h4=>?_)
  ·skip
   exact v_ret () [] ((e.code=e.code)∧(etP=etP)∧(PE (some e)=PE (some e))∧(false=false)) ⟨rfl,rfl,rfl,rfl⟩ trivial
  ·skip
   contradiction
theorem Code_ok (o:Option Er) (h:depO o≤3):FOk EN 17 ⟨[.pr etP,.pn (PE o) true o.isNone],[.n 1],Unit,fun _=>([.pr etP,.pn (PE o) true o.isNone],.i (codeO o)),fun _=>True⟩:=by
  cases o with
  | none=>exact Code1_aux
  | some e=>exact Code2_aux e h
theorem less_cmp:∀ a b:List UInt8,Op.bytesLess a b=decide (Lib.compareBytes a b<0)
  | [],[]=>rfl
  | [],_::_=>rfl
  | _::_,[]=>rfl
  | a :: xs, b :: ys => by
    unfold Op.bytesLess Lib.compareBytes
    by_cases h1:a<b
    · simp[h1]
    · by_cases h2 : b < a
      · have : ¬ a = b := fun e => by subst e; exact h1 h2
        simp[h1,h2,this]
      · have : a = b := UInt8.le_antisymm (UInt8.not_lt.1 h2) (UInt8.not_lt.1 h1)
        subst this
        simp[h1,less_cmp xs ys]
theorem cmp_zero:∀ {a b:List UInt8},Lib.compareBytes a b=0↔a=b
  | [],[]=>by simp[Lib.compareBytes]
  | [],_::_=>by simp[Lib.compareBytes]
  | _::_,[]=>by simp[Lib.compareBytes]
  | a :: xs, b :: ys => by
    unfold Lib.compareBytes
    by_cases h1:a<b
    · have : ¬ a = b := fun e => by subst e; exact absurd h1 (UInt8.lt_irrefl _)
      simp[h1,this]
    · by_cases h2 : b < a
      · have : ¬ a = b := fun e => by subst e; exact h1 h2
        simp[h1,h2,this]
      · have : a = b := UInt8.le_antisymm (UInt8.not_lt.1 h2) (UInt8.not_lt.1 h1)
        subst this
        simp[h1,cmp_zero (a:=xs) (b:=ys)]
theorem less_t {a b:List UInt8} (h:Op.bytesLess a b=true):Lib.compareBytes a b<0:=by rw[less_cmp] at h;simpa using h
theorem less_f {a b:List UInt8} (h:Op.bytesLess a b=false):¬ Lib.compareBytes a b<0:=by rw[less_cmp] at h;simpa using h
abbrev klt (a b:List UInt8):Prop:=Lib.compareBytes a b<0
theorem cmp_anti:∀ a b:List UInt8,Lib.compareBytes b a = - Lib.compareBytes a b
  | [],[]=>rfl
  | [],_::_=>rfl
  | _::_,[]=>rfl
  | a :: xs, b :: ys => by
    unfold Lib.compareBytes
    by_cases h1:a<b
    · have h2 : ¬ b < a := fun h => absurd (UInt8.lt_trans h1 h) (UInt8.lt_irrefl _)
      simp[h1,h2]
    · by_cases h2 : b < a
      · simp[h1,h2]
      · simp only[if_neg h1,if_neg h2];exact cmp_anti xs ys
theorem klt_trans:∀ {a b c:List UInt8},klt a b→klt b c→klt a c
  | [],[],_,h,_=>by simp[klt,Lib.compareBytes] at h
  | [],_::_,[],_,h=>by simp[klt,Lib.compareBytes] at h
  | [],_::_,_::_,_,_=>by simp[klt,Lib.compareBytes]
  | _::_,[],_,h,_=>by simp[klt,Lib.compareBytes] at h
  | _::_,_::_,[],_,h=>by simp[klt,Lib.compareBytes] at h
  | a :: xs, b :: ys, c :: zs, h1, h2 => by
    unfold klt at h1 h2 ⊢
    unfold Lib.compareBytes at h1 h2 ⊢
    by_cases p:a<b
    · by_cases q : b < c
      · rw[if_pos (UInt8.lt_trans p q)];decide
      · rw [if_neg q] at h2
        by_cases q2:c<b
        · rw[if_pos q2] at h2;exact absurd h2 (by decide)
        · have : b = c := UInt8.le_antisymm (UInt8.not_lt.1 q2) (UInt8.not_lt.1 q)
          subst this;rw[if_pos p];decide
    · rw [if_neg p] at h1
      by_cases p2:b<a
      · rw[if_pos p2] at h1;exact absurd h1 (by decide)
      · have : a = b := UInt8.le_antisymm (UInt8.not_lt.1 p2) (UInt8.not_lt.1 p)
        subst this
        rw[if_neg p2] at h1
        by_cases q:a<c
        · rw[if_pos q];decide
        · rw [if_neg q] at h2 ⊢
          by_cases q2:c<a
          · rw[if_pos q2] at h2;exact absurd h2 (by decide)
          · rw[if_neg q2] at h2 ⊢;exact klt_trans h1 h2
theorem klt_irr (a:List UInt8):¬ klt a a:=by have:=cmp_anti a a;unfold klt;omega
theorem kge {a b:List UInt8} (h:¬ klt a b):a=b∨klt b a:=by
  have:=cmp_anti a b
  unfold klt at *
  by_cases e:Lib.compareBytes a b=0
  · exact .inl (cmp_zero.1 e)
  · exact .inr (by omega)
noncomputable def cIxb:Code:=(Tryd.f62.body).getD .skip
theorem ixb_exact (σ:Nat→Nat) (w:World) (s:List UInt8) (c:UInt8):Ctr Tryd.prog 62 [sv s,bv c] noM σ w (fun _ _ v=>v=iv (Lib.indexByte s c)):=by
 refine ctr_enter Tryd.func62 cIxb (by kernel_rfl) 8 (by kernel_rfl) (Nat.le_of_ble_eq_true (by kernel_rfl)) [(0,sv s),(1,bv c)] (by kernel_rfl) ?_
 intro a hF1
 have hS2:=Stp.refl noM σ w
 refine q_seq ?_
 refine q_reg ?_
 refine q_run 1 [(4,(Value.int .i64 ((0:Nat):Int)))] hF1 fun a3 hF4=>?_
 refine q_end ?_
 refine q_seq ?_
 refine q_reg ?_
 refine q_run 2 [(6,bv c),(5,sv s)] hF4 fun a5 hF6=>?_
 have hr:(Extern.BytealgIndexByte.indexByte #[sv s,bv c]).run Tryd.prog w=.ok (iv (Lib.indexByte s c)) w:=by
  have h:=Lib.run_indexByteString (P:=Tryd.prog) ⟨s.toArray⟩ (c.toNat:Int) w
  rw[show((c.toNat:Int)).toNat.toUInt8=c by rw[Int.toNat_natCast];exact UInt8.ofNat_toNat] at h
  exact h
 refine r_at (q_val 7 (Op.call (Call.mk (Callee.value (Operand.func 67)) #[(Operand.tmp 5),(Operand.tmp 6)] #[9,5])) hF6 (iv (Lib.indexByte s c)) (exec_ext [sv s,bv c] (by kernel_rfl) (run_ext (e:=Extern.BytealgIndexByte.indexByte) Tryd.func67 (by kernel_rfl) (by kernel_rfl) (by kernel_rfl) (by kernel_rfl) hr)) ?_)
 intro a7 hF8
 refine q_run 1 [(4,(iv (Lib.indexByte s c)))] hF8 fun a9 hF10=>?_
 refine q_end ?_
 refine q_ret ?_
 try dsimp only[Exit.then,Exit.inBlock]
 refine f_ret1 hF10 4 (by kernel_rfl) (iv (Lib.indexByte s c)) (by kernel_rfl) σ hS2 ?_
 exact rfl
theorem IndexByte_ok (s:List UInt8) (c:UInt8):FOk EN 62 ⟨[],[.s s,.c c],Unit,fun _=>([],.i (Lib.indexByte s c)),fun _=>True⟩:=by
  refine fok_val (by kernel_rfl) rfl fun ν F σ w S=>?_
  exact ixb_exact σ w s c
theorem ixb_pos (s:List UInt8) (c:UInt8):decide (0≤Lib.indexByte s c)=s.contains c:=by
  induction s with
  | nil=>rfl
  | cons b l ih =>
    unfold Lib.indexByte
    have h1:=Lib.indexByte_ge l c
    by_cases e:b=c
    · subst e;simp
    · have e2 : ¬ c = b := fun q => e q.symm
      simp only[beq_iff_eq,e,if_false,List.contains_cons,e2,beq_eq_false_iff_ne.2 e2,Bool.false_or,← ih]
      by_cases q:Lib.indexByte l c = -1
      · simp[q]
      · simp only[q,if_false];congr 1;apply propext;omega
theorem ixb_one {s:List UInt8} (h:(#[47]:Array UInt8).toList=s):decide (0≤(0:Int))=s.contains 47:=by subst h;rfl
noncomputable def ccW1_56:Code:=(Tryd.f56.body).getD .skip
theorem Index_ok (s:List UInt8):FOk EN 56 ⟨[],[.s s,.s ((#[47]:Array UInt8).toList)],Int,fun v=>([],.i v),fun v=>decide (0≤v)=s.contains 47⟩:=by
 refine v_fun Tryd.f56 ccW1_56 MX (fun ν F σ w=>?_) Tryd.func56
 refine v_nl ?_
 refine v_guard 19 (decide ((↑#[(47:UInt8)].toList.length:Int)=(0:Int))) True trivial (fun h1=>?_) (fun h1=>?_)
 ·have h1:=of_decide_eq_true h1
  contradiction
 ·have h1:=of_decide_eq_false h1
  refine v_if (decide (#[47].toList=s)) True trivial (fun h2=>?_) (fun h2=>?_)
  ·have h2:=of_decide_eq_true h2
   exact v_ret (0) [] (((0:Int)=(0:Int))) rfl (by exact ixb_one ‹_›)
  ·have h2:=of_decide_eq_false h2
   refine v_if (decide ((↑#[(47:UInt8)].toList.length:Int)=(1:Int))) True trivial (fun h3=>?_) (fun h3=>?_)
   ·have h3:=of_decide_eq_true h3
    refine v_call _ [] (IndexByte_ok (s) (#[47].toList.getD 0 0)) (((0:Int)≤(0:Int)∧(0:Int)<(↑#[(47:UInt8)].toList.length:Int))∧(s=s)∧(#[(47:UInt8)].toList.getD (0:Nat) (0:UInt8)=#[(47:UInt8)].toList.getD (0:Nat) (0:UInt8))) ⟨(by decide),rfl,rfl⟩ (fun g4 p5=>?_)
    have p5:True:=p5
    exact v_ret (Lib.indexByte s (#[47].toList.getD 0 0)) [] ((Lib.indexByte s (#[47].toList.getD 0 0)=Lib.indexByte s (#[47].toList.getD 0 0))) rfl (by exact ixb_pos _ _)
   ·have h3:=of_decide_eq_false h3
    contradiction
noncomputable def ccW1_42:Code:=(Tryd.f42.body).getD .skip
theorem Index2_ok (s:List UInt8):FOk EN 42 ⟨[],[.s s,.s ((#[47]:Array UInt8).toList)],Int,fun v=>([],.i v),fun v=>decide (0≤v)=s.contains 47⟩:=by
 refine v_fun Tryd.f42 ccW1_42 MX (fun ν F σ w=>?_) Tryd.func42
 refine v_nl ?_
 refine v_call _ [] (Index_ok (s)) ((s=s)∧(#[(47:UInt8)].toList=#[(47:UInt8)].toList)) ⟨rfl,rfl⟩ (fun g1 p2=>?_)
 have p2:decide (0≤g1)=s.contains 47:=p2
 exact v_ret (g1) [] ((g1=g1)) rfl ‹_›
noncomputable def ccW1_33:Code:=(Tryd.f33.body).getD .skip
theorem Contains_ok (s:List UInt8):FOk EN 33 ⟨[],[.s s,.s ((#[47]:Array UInt8).toList)],Unit,fun _=>([],.b (s.contains 47)),fun _=>True⟩:=by
 refine v_fun Tryd.f33 ccW1_33 MX (fun ν F σ w=>?_) Tryd.func33
 refine v_nl ?_
 refine v_call _ [] (Index2_ok (s)) ((s=s)∧(#[(47:UInt8)].toList=#[(47:UInt8)].toList)) ⟨rfl,rfl⟩ (fun g1 p2=>?_)
 have p2:decide (0≤g1)=s.contains 47:=p2
 exact v_ret () [] ((decide (0≤g1)=s.contains 47)) ‹_› trivial
section
variable {α β:Type} [DecidableEq α]
theorem mput_keys (l:List (α × β)) (k:α) (v:β):(mput l k v).map (·.1)=if k∈l.map (·.1) then l.map (·.1) else l.map (·.1)++[k]:=by
  induction l with
  | nil=>simp[mput]
  | cons p r ih =>
    unfold mput
    by_cases e:p.1=k
    · rw[if_pos e,if_pos (by simp[e])];simp[e]
    · rw [if_neg e, List.map_cons, ih]
      by_cases c:k∈r.map (·.1)
      · have c2 : k ∈ (p :: r).map (·.1) := List.mem_cons_of_mem _ c
        rw[if_pos c,if_pos c2];rfl
      · have c2 : ¬ k ∈ (p :: r).map (·.1) := by simp only [List.map_cons, List.mem_cons, not_or]; exact ⟨fun q => e q.symm, c⟩
        rw[if_neg c,if_neg c2];rfl
theorem mput_nodup {l:List (α × β)} (h:(l.map (·.1)).Nodup) (k:α) (v:β):((mput l k v).map (·.1)).Nodup:=by
  rw[mput_keys];split
  · exact h
  · rename_i c
    exact List.nodup_append.2 ⟨h,by simp,fun x hx y hy e=>by rw[List.mem_singleton] at hy;subst hy;subst e;exact c hx⟩
theorem mput_len (l:List (α × β)) (k:α) (v:β):(mput l k v).length≤l.length+1:=by
  have:=congrArg List.length (mput_keys l k v)
  rw[List.length_map] at this
  rw[this];split <;> simp
theorem mem_mput {l:List (α × β)} (h:(l.map (·.1)).Nodup) {k:α} {v:β} {p:α × β}:p∈mput l k v↔(p∈l∧p.1≠k)∨p=(k,v):=by
  induction l with
  | nil=>simp[mput]
  | cons q r ih =>
    rw[List.map_cons,List.nodup_cons] at h
    unfold mput
    by_cases e:q.1=k
    · rw [if_pos e, List.mem_cons, List.mem_cons]
      constructor
      · rintro (h1 | h1)
        · exact .inr h1
        · exact .inl ⟨.inr h1,fun c=>h.1 (List.mem_map.2 ⟨p,h1,c.trans e.symm⟩)⟩
      · rintro (⟨h1 | h1, h2⟩ | h1)
        · subst h1;exact absurd e h2
        · exact .inr h1
        · exact .inl h1
    · rw [if_neg e, List.mem_cons, List.mem_cons, ih h.2]
      constructor
      · rintro (h1 | ⟨h1, h2⟩ | h1)
        · subst h1;exact .inl ⟨.inl rfl,e⟩
        · exact .inl ⟨.inr h1,h2⟩
        · exact .inr h1
      · rintro (⟨h1 | h1, h2⟩ | h1)
        · exact .inl h1
        · exact .inr (.inl ⟨h1,h2⟩)
        · exact .inr (.inr h1)
theorem mdel_sub (l:List (α × β)) (k:α):(mdel l k).Sublist l:=by
  induction l with
  | nil=>exact .slnil
  | cons q r ih =>
    unfold mdel
    split
    · exact List.sublist_cons_self _ _
    · exact ih.cons_cons _
theorem mem_mdel {l:List (α × β)} (h:(l.map (·.1)).Nodup) {k:α} {p:α × β}:p∈mdel l k↔p∈l∧p.1≠k:=by
  induction l with
  | nil=>simp[mdel]
  | cons q r ih =>
    rw[List.map_cons,List.nodup_cons] at h
    unfold mdel
    by_cases e:q.1=k
    · rw [if_pos e, List.mem_cons]
      constructor
      · exact fun h1=>⟨.inr h1,fun c=>h.1 (List.mem_map.2 ⟨p,h1,c.trans e.symm⟩)⟩
      · rintro ⟨h1 | h1, h2⟩
        · subst h1;exact absurd e h2
        · exact h1
    · rw [if_neg e, List.mem_cons, List.mem_cons, ih h.2]
      constructor
      · rintro (h1 | ⟨h1, h2⟩)
        · subst h1;exact⟨.inl rfl,e⟩
        · exact⟨.inr h1,h2⟩
      · rintro ⟨h1 | h1, h2⟩
        · exact .inl h1
        · exact .inr ⟨h1,h2⟩
theorem mget_mem {l:List (α × β)} (h:(l.map (·.1)).Nodup) {p:α × β} (hp:p∈l):mget l p.1=some p.2:=by
  induction l with
  | nil=>cases hp
  | cons q r ih =>
    rw[List.map_cons,List.nodup_cons] at h
    unfold mget
    rcases List.mem_cons.1 hp with rfl | hp
    · rw[if_pos rfl]
    · rw[if_neg (fun c=>h.1 (List.mem_map.2 ⟨p,hp,c.symm⟩)),ih h.2 hp]
theorem mget_none {l:List (α × β)} {k:α} (h:∀ p∈l,p.1≠k):mget l k=none:=by
  induction l with
  | nil=>rfl
  | cons q r ih=>unfold mget;rw[if_neg (h q (List.mem_cons_self ..))];exact ih fun p hp=>h p (List.mem_cons_of_mem _ hp)
theorem mget_mput (l:List (α × β)) (k k':α) (v:β):mget (mput l k v) k'=if k'=k then some v else mget l k':=by
  induction l with
  | nil =>
    unfold mput mget
    by_cases e:k'=k
    · rw[if_pos e,if_pos e.symm]
    · rw[if_neg e,if_neg (fun q=>e q.symm)];rfl
  | cons p r ih =>
    unfold mput
    by_cases e:p.1=k
    · rw [if_pos e]; unfold mget
      by_cases c:k'=k
      · rw[if_pos c,if_pos c.symm]
      · rw[if_neg c,if_neg (fun q=>c q.symm),if_neg (fun q=>c (q.symm.trans e))]
    · rw [if_neg e]; unfold mget
      by_cases c:p.1=k'
      · rw[if_pos c,if_pos c,if_neg (fun q=>e (c.trans q))]
      · rw[if_neg c,if_neg c,ih]
theorem mget_mdel {l:List (α × β)} (h:(l.map (·.1)).Nodup) (k k':α):mget (mdel l k) k'=if k'=k then none else mget l k':=by
  induction l with
  | nil=>unfold mdel mget;split <;> rfl
  | cons p r ih =>
    rw[List.map_cons,List.nodup_cons] at h
    unfold mdel
    by_cases e:p.1=k
    · rw [if_pos e]
      by_cases c:k'=k
      · rw[if_pos c];exact mget_none fun q hq z=>h.1 (List.mem_map.2 ⟨q,hq,z.trans (c.trans e.symm)⟩)
      · rw [if_neg c]; conv => rhs; unfold mget
        rw[if_neg (fun q=>c (q.symm.trans e))]
    · rw [if_neg e]
      conv=>lhs;unfold mget
      conv=>rhs;unfold mget
      by_cases c:p.1=k'
      · rw[if_pos c,if_pos c,if_neg (fun q=>e (c.trans q))]
      · rw[if_neg c,if_neg c,ih h.2]
end
abbrev BK:=List ((List UInt8 × List UInt8) × UInt64)
def bget (B:BK) (a d:List UInt8):UInt64:=(mget B (a,d)).getD 0
def coinsB (B:BK):List Coin:=B.map fun p=>⟨p.1.1,p.1.2,p.2⟩
def ofE (a d:List UInt8) (n:UInt64):Option Er :=
  if(a.length:Int)=0∨16<(a.length:Int)∨a.contains 47=true then some (.step ((#[97,99,99,111,117,110,116]:Array UInt8).toList) a.length (.num 42))
  else if(d.length:Int)=0∨40<(d.length:Int) then some (.step ((#[100,101,110,111,109]:Array UInt8).toList) d.length (.num 43))
  else if n=0 then some (.step ((#[97,109,111,117,110,116]:Array UInt8).toList) 0 (.num 44)) else none
def giE (B:BK) (a d:List UInt8) (n:UInt64):Option Er :=
  if(ofE a d n).isNone=false then ofE a d n
  else if 18446744073709551615 - n<bget B a d then some (.step ((#[98,97,110,107]:Array UInt8).toList) 1 (.num 41)) else none
def giB (B:BK) (a d:List UInt8) (n:UInt64):BK:=if(giE B a d n).isNone=true then mput B (a,d) (bget B a d+n) else B
def taE (B:BK) (a d:List UInt8) (n:UInt64):Option Er :=
  if(ofE a d n).isNone=false then ofE a d n
  else if bget B a d<n then some (.step ((#[98,97,110,107]:Array UInt8).toList) 2 (.num 40)) else none
def taB (B:BK) (a d:List UInt8) (n:UInt64):BK :=
  if(taE B a d n).isNone=false then B
  else if bget B a d - n=0 then mdel (mput B (a,d) (bget B a d - n)) (a,d) else mput B (a,d) (bget B a d - n)
def moE (B:BK) (f t d:List UInt8) (n:UInt64):Option Er :=
  if(taE B f d n).isNone=false then taE B f d n
  else if(giE (taB B f d n) t d n).isNone=false then some (.step ((#[116,111]:Array UInt8).toList) 0 ((giE (taB B f d n) t d n).getD (.num 0))) else none
def moB (B:BK) (f t d:List UInt8) (n:UInt64):BK :=
  if(taE B f d n).isNone=false then B
  else if(giE (taB B f d n) t d n).isNone=false then mput (taB B f d n) (f,d) (bget (taB B f d n) f d+n) else giB (taB B f d n) t d n
def ltC (x y:Coin):Prop:=klt x.account y.account∨(x.account=y.account∧klt x.denom y.denom)
instance (x y:Coin):Decidable (ltC x y):=by unfold ltC;infer_instance
def insC (c:Coin):List Coin→List Coin
  | []=>[c]
  | x::r=>if ltC x c then x::insC c r else c::x::r
def allL (L:List Coin):List Coin:=L.foldl (fun o c=>insC c o) []
def ckey (c:Coin):List UInt8 × List UInt8:=(c.account,c.denom)
theorem ltC_trans {x y z:Coin} (h1:ltC x y) (h2:ltC y z):ltC x z:=by
  rcases h1 with h1 | ⟨e1,h1⟩ <;> rcases h2 with h2 | ⟨e2,h2⟩
  · exact .inl (klt_trans h1 h2)
  · exact .inl (e2 ▸ h1)
  · exact .inl (e1 ▸ h2)
  · exact .inr ⟨e1.trans e2,klt_trans h1 h2⟩
theorem ltC_irr (x:Coin):¬ ltC x x:=by
  rintro (h | ⟨_,h⟩)
  · exact klt_irr _ h
  · exact klt_irr _ h
theorem ltC_tot {x y:Coin} (h:ckey x≠ckey y):ltC x y∨ltC y x:=by
  by_cases e:klt x.account y.account
  · exact .inl (.inl e)
  · rcases kge e with e1 | e1
    · by_cases c : klt x.denom y.denom
      · exact .inl (.inr ⟨e1,c⟩)
      · rcases kge c with c1 | c1
        · exact absurd (by unfold ckey;rw[e1,c1]) h
        · exact .inr (.inr ⟨e1.symm,c1⟩)
    · exact .inr (.inl e1)
theorem insC_perm (c:Coin):∀ l,(insC c l).Perm (c::l)
  | []=>.refl _
  | x :: r => by
    unfold insC;split
    · exact((insC_perm c r).cons x).trans (.swap ..)
    · exact .refl _
theorem insC_srt {c:Coin}:∀ {l:List Coin},l.Pairwise ltC→(∀ x∈l,ckey x≠ckey c)→(insC c l).Pairwise ltC
  | [],_,_=>List.pairwise_singleton ..
  | x :: r, h, hk => by
    obtain⟨h1,h2⟩:=List.pairwise_cons.1 h
    unfold insC;split
    · rename_i hx
      refine List.pairwise_cons.2 ⟨fun y hy=>?_,insC_srt h2 fun y hy=>hk y (List.mem_cons_of_mem _ hy)⟩
      rcases List.mem_cons.1 ((insC_perm c r).subset hy) with rfl | hy
      · exact hx
      · exact h1 y hy
    · rename_i hx
      have hc:ltC c x:=(ltC_tot (hk x (List.mem_cons_self ..))).resolve_left hx
      refine List.pairwise_cons.2 ⟨fun y hy=>?_,h⟩
      rcases List.mem_cons.1 hy with rfl | hy
      · exact hc
      · exact ltC_trans hc (h1 y hy)
theorem allL_go:∀(L o:List Coin),(L.foldl (fun o c=>insC c o) o).Perm (L++o)
  | [],o=>.refl _
  | c :: L, o => by
    refine(allL_go L (insC c o)).trans ?_
    exact((insC_perm c o).append_left L).trans List.perm_middle
theorem allL_perm (L:List Coin):(allL L).Perm L:=by have:=allL_go L [];rwa [List.append_nil] at this
theorem allL_len (L:List Coin):(allL L).length=L.length:=(allL_perm L).length_eq
theorem allL_srt_go:∀(L o:List Coin),o.Pairwise ltC→((L++o).map ckey).Nodup→(L.foldl (fun o c=>insC c o) o).Pairwise ltC
  | [],o,h,_=>h
  | c :: L, o, h, hn => by
    have hn':(ckey c::(L++o).map ckey).Nodup:=hn
    rw[List.nodup_cons] at hn'
    refine allL_srt_go L (insC c o) (insC_srt h fun x hx e=>hn'.1 (List.mem_map.2 ⟨x,List.mem_append_right _ hx,e⟩)) ?_
    have:((L++insC c o).map ckey).Perm ((c::(L++o)).map ckey):=((((insC_perm c o).append_left L)).trans List.perm_middle).map _
    exact this.nodup_iff.2 hn
theorem allL_srt {L:List Coin} (h:(L.map ckey).Nodup):(allL L).Pairwise ltC:=allL_srt_go L [] .nil (by rwa [List.append_nil])
theorem srt_unique:∀ {a b:List Coin},a.Perm b→a.Pairwise ltC→b.Pairwise ltC→a=b
  | [],b,h,_,_=>(h.symm.eq_nil).symm
  | x::a,[],h,_,_=>by have:=h.eq_nil;cases this
  | x :: a, y :: b, h, ha, hb => by
    obtain⟨a1,a2⟩:=List.pairwise_cons.1 ha
    obtain⟨b1,b2⟩:=List.pairwise_cons.1 hb
    have e:x=y:=by
      rcases List.mem_cons.1 (h.subset (List.mem_cons_self ..)) with e | e
      · exact e
      · rcases List.mem_cons.1 (h.symm.subset (List.mem_cons_self ..)) with e' | e'
        · exact e'.symm
        · exact absurd (ltC_trans (a1 y e') (b1 x e)) (ltC_irr _)
    subst e
    rw[srt_unique (List.Perm.cons_inv h) a2 b2]
theorem allL_eq {L M:List Coin} (h:L.Perm M) (hn:(L.map ckey).Nodup):allL L=allL M :=
  srt_unique ((allL_perm L).trans (h.trans (allL_perm M).symm)) (allL_srt hn) (allL_srt ((h.map ckey).nodup_iff.1 hn))
structure BOk (B:BK):Prop where
  nd:(B.map (·.1)).Nodup
  nz:∀ p∈B,p.2≠0
  nm:∀ p∈B,(ofE p.1.1 p.1.2 1).isNone=true
theorem BOk.nil:BOk []:=⟨List.nodup_nil,fun p h=>absurd h (List.not_mem_nil),fun p h=>absurd h (List.not_mem_nil)⟩
theorem coins_nd {B:BK} (h:BOk B):((coinsB B).map ckey).Nodup:=by
  have:(coinsB B).map ckey=B.map (·.1):=by unfold coinsB;rw[List.map_map];rfl
  rw[this];exact h.nd
theorem coins_mem {B:BK} {c:Coin}:c∈coinsB B↔((c.account,c.denom),c.amount)∈B:=by
  unfold coinsB;rw[List.mem_map]
  constructor
  · rintro ⟨p,hp,rfl⟩;exact hp
  · intro h;exact⟨_,h,rfl⟩
theorem BOk.put {B:BK} (h:BOk B) {k:List UInt8 × List UInt8} {v:UInt64} (hk:(ofE k.1 k.2 1).isNone=true) (hv:v≠0):BOk (mput B k v) :=
  ⟨mput_nodup h.nd _ _,fun p hp=>by
    rcases(mem_mput h.nd).1 hp with⟨h1,_⟩ | rfl
    · exact h.nz p h1
    · exact hv,fun p hp=>by
    rcases(mem_mput h.nd).1 hp with⟨h1,_⟩ | rfl
    · exact h.nm p h1
    · exact hk⟩
theorem BOk.del {B:BK} (h:BOk B) {k:List UInt8 × List UInt8} {v:UInt64}:BOk (mdel (mput B k v) k) :=
  ⟨(mput_nodup h.nd k v).sublist ((mdel_sub _ _).map _),fun p hp=>by
    obtain⟨h1,h2⟩:=(mem_mdel (mput_nodup h.nd k v)).1 hp
    rcases(mem_mput h.nd).1 h1 with⟨h3,_⟩ | rfl
    · exact h.nz p h3
    · exact absurd rfl h2,fun p hp=>by
    obtain⟨h1,h2⟩:=(mem_mdel (mput_nodup h.nd k v)).1 hp
    rcases(mem_mput h.nd).1 h1 with⟨h3,_⟩ | rfl
    · exact h.nm p h3
    · exact absurd rfl h2⟩
theorem bget_put (B:BK) (a d a' d':List UInt8) (v:UInt64):bget (mput B (a,d) v) a' d'=if a'=a∧d'=d then v else bget B a' d':=by
  unfold bget;rw[mget_mput]
  by_cases h:a'=a∧d'=d
  · rw[if_pos h,if_pos (by rw[h.1,h.2])];rfl
  · rw[if_neg h,if_neg (fun e=>h (by injection e with e1 e2;exact⟨e1,e2⟩))]
theorem bget_del {B:BK} (h:BOk B) (a d a' d':List UInt8) (v:UInt64):bget (mdel (mput B (a,d) v) (a,d)) a' d'=if a'=a∧d'=d then 0 else bget B a' d':=by
  unfold bget;rw[mget_mdel (mput_nodup h.nd _ _),mget_mput]
  by_cases q:a'=a∧d'=d
  · rw[if_pos q,if_pos (by rw[q.1,q.2])];rfl
  · rw[if_neg q,if_neg (fun e=>q (by injection e with e1 e2;exact⟨e1,e2⟩)),if_neg (fun e=>q (by injection e with e1 e2;exact⟨e1,e2⟩))]
def lhas:List Coin→List UInt8→List UInt8→UInt64
  | [],_,_=>0
  | c::r,a,d=>if c.account=a∧c.denom=d then c.amount else lhas r a d
theorem lhas_nil (a d:List UInt8):lhas [] a d=0:=rfl
theorem lhas_cons (c:Coin) (r:List Coin) (a d:List UInt8):lhas (c::r) a d=if c.account=a∧c.denom=d then c.amount else lhas r a d:=rfl
def lset (L:List Coin) (a d:List UInt8) (n:UInt64):List Coin:=(L.filter (fun c=>decide (¬ (c.account=a∧c.denom=d))))++if 0<n then[⟨a,d,n⟩] else[]
def wrI (a d:List UInt8) (n:UInt64):Int :=
  if(a.length:Int)<1∨16<(a.length:Int) then 42 else if a.contains 47=true then 42
  else if(d.length:Int)<1∨40<(d.length:Int) then 43 else if n=0 then 44 else 0
def lgiE (L:List Coin) (a d:List UInt8) (n:UInt64):Int:=if ¬ wrI a d n=0 then wrI a d n else if lhas L a d+n<lhas L a d then 41 else 0
def lgiL (L:List Coin) (a d:List UInt8) (n:UInt64):List Coin:=if ¬ lgiE L a d n=0 then L else lset L a d (lhas L a d+n)
def ltaE (L:List Coin) (a d:List UInt8) (n:UInt64):Int:=if ¬ wrI a d n=0 then wrI a d n else if lhas L a d<n then 40 else 0
def ltaL (L:List Coin) (a d:List UInt8) (n:UInt64):List Coin:=if ¬ ltaE L a d n=0 then L else lset L a d (lhas L a d - n)
def lmoE (L:List Coin) (f t d:List UInt8) (n:UInt64):Int:=if ¬ ltaE L f d n=0 then ltaE L f d n else lgiE (ltaL L f d n) t d n
def lmoL (L:List Coin) (f t d:List UInt8) (n:UInt64):List Coin:=if ¬ lmoE L f t d n=0 then L else lgiL (ltaL L f d n) t d n
structure LOk (L:List Coin):Prop where
  nd:(L.map ckey).Nodup
  nz:∀ c∈L,c.amount≠0
theorem LOk.nil:LOk []:=⟨List.nodup_nil,fun p h=>by cases h⟩
theorem lhas_mem {L:List Coin} (hn:(L.map ckey).Nodup) {c:Coin} (hc:c∈L):lhas L c.account c.denom=c.amount:=by
  induction L with
  | nil=>cases hc
  | cons x r ih =>
    rw[List.map_cons,List.nodup_cons] at hn
    unfold lhas
    rcases List.mem_cons.1 hc with rfl | hc
    · rw[if_pos ⟨rfl,rfl⟩]
    · rw[if_neg (fun e=>hn.1 (List.mem_map.2 ⟨c,hc,by unfold ckey;rw[e.1,e.2]⟩)),ih hn.2 hc]
theorem lhas_some {L:List Coin} {a d:List UInt8} {v:UInt64} (h:lhas L a d=v) (hv:v≠0):(⟨a,d,v⟩:Coin)∈L:=by
  induction L with
  | nil=>exact absurd h.symm hv
  | cons x r ih =>
    unfold lhas at h
    split at h
    · rename_i e;obtain⟨e1,e2⟩:=e;subst e1;subst e2;subst h;exact List.mem_cons_self ..
    · exact List.mem_cons_of_mem _ (ih h)
theorem LOk.mem {L:List Coin} (h:LOk L) {c:Coin}:c∈L↔lhas L c.account c.denom=c.amount∧c.amount≠0 :=
  ⟨fun hc=>⟨lhas_mem h.nd hc,h.nz c hc⟩,fun⟨h1,h2⟩=>lhas_some h1 h2⟩
theorem perm_mem {α:Type} [DecidableEq α]:∀ {l m:List α},l.Nodup→m.Nodup→(∀ x,x∈l↔x∈m)→l.Perm m
  | [], m, _, _, h => by
    cases m with
    | nil=>exact .refl _
    | cons x m=>exact absurd ((h x).2 (List.mem_cons_self ..)) (by simp)
  | a :: l, m, hl, hm, h => by
    rw[List.nodup_cons] at hl
    have ha:a∈m:=(h a).1 (List.mem_cons_self ..)
    refine((perm_mem hl.2 (hm.erase a) fun x=>?_).cons a).trans (List.perm_cons_erase ha).symm
    rw[hm.mem_erase_iff]
    constructor
    · exact fun hx=>⟨fun e=>hl.1 (e ▸ hx),(h x).1 (List.mem_cons_of_mem _ hx)⟩
    · rintro ⟨h1, h2⟩
      exact(List.mem_cons.1 ((h x).2 h2)).resolve_left h1
theorem nodup_of_map {α β:Type} {f:α→β} {l:List α} (h:(l.map f).Nodup):l.Nodup:=by
  rw[List.nodup_iff_pairwise_ne] at h ⊢
  rw[List.pairwise_map] at h
  exact h.imp fun hab e=>hab (by rw[e])
theorem LOk.perm {L M:List Coin} (h:LOk L) (k:LOk M) (e:∀ a d,lhas L a d=lhas M a d):L.Perm M :=
  perm_mem (nodup_of_map h.nd) (nodup_of_map k.nd) fun c=>by rw[h.mem,k.mem,e]
theorem LOk.all {L M:List Coin} (h:LOk L) (k:LOk M) (e:∀ a d,lhas L a d=lhas M a d):allL L=allL M:=allL_eq (h.perm k e) h.nd
theorem LOk.ne {L M:List Coin} (h:LOk L) (k:LOk M) {a d:List UInt8} (e:lhas L a d≠lhas M a d):allL L≠allL M:=fun q=>by
  have hp:L.Perm M:=((allL_perm L).symm.trans (q ▸ List.Perm.refl _)).trans (allL_perm M)
  apply e
  by_cases c:lhas L a d=0
  · by_cases c2 : lhas M a d = 0
    · rw[c,c2]
    · have:=lhas_mem h.nd (hp.symm.subset (lhas_some rfl c2));exact this
  · have:=lhas_mem k.nd (hp.subset (lhas_some rfl c));exact this.symm
theorem lhas_app (l m:List Coin) (a d:List UInt8) (h:∀ c∈l,c.amount≠0):lhas (l++m) a d=if lhas l a d=0 then lhas m a d else lhas l a d:=by
  induction l with
  | nil=>rw[List.nil_append,lhas_nil,if_pos rfl]
  | cons c r ih =>
    rw[List.cons_append,lhas_cons,lhas_cons]
    by_cases e:c.account=a∧c.denom=d
    · rw[if_pos e,if_pos e,if_neg (h c (List.mem_cons_self ..))]
    · rw[if_neg e,if_neg e];exact ih fun x hx=>h x (List.mem_cons_of_mem _ hx)
def notC (a d:List UInt8) (c:Coin):Bool:=decide (¬ (c.account=a∧c.denom=d))
theorem lhas_filter {L:List Coin} {a d:List UInt8} (a' d':List UInt8):lhas (L.filter (notC a d)) a' d'=if a'=a∧d'=d then 0 else lhas L a' d':=by
  induction L with
  | nil=>rw[List.filter_nil,lhas_nil];split <;> rfl
  | cons c r ih =>
    by_cases e:c.account=a∧c.denom=d
    · rw [List.filter_cons_of_neg (by unfold notC; simp [e]), ih, lhas_cons]
      by_cases q:a'=a∧d'=d
      · rw[if_pos q,if_pos q]
      · rw[if_neg q,if_neg q,if_neg (fun z=>q ⟨z.1.symm.trans e.1,z.2.symm.trans e.2⟩)]
    · rw [List.filter_cons_of_pos (by unfold notC; exact decide_eq_true e), lhas_cons, lhas_cons, ih]
      by_cases q:c.account=a'∧c.denom=d'
      · rw[if_pos q,if_neg (fun z=>e ⟨q.1.trans z.1,q.2.trans z.2⟩),if_pos q]
      · rw[if_neg q,if_neg q]
theorem u0 {n:UInt64}:¬ 0<n↔n=0:=by
  rw[UInt64.lt_iff_toNat_lt]
  constructor
  · intro h;apply UInt64.toNat_inj.1;have:(0:UInt64).toNat=0:=rfl;omega
  · intro h;subst h;decide
theorem lset_eq (L:List Coin) (a d:List UInt8) (n:UInt64):lset L a d n=L.filter (notC a d)++if 0<n then[⟨a,d,n⟩] else[]:=rfl
theorem lhas_set {L:List Coin} (h:LOk L) (a d:List UInt8) (n:UInt64) (a' d':List UInt8):lhas (lset L a d n) a' d'=if a'=a∧d'=d then n else lhas L a' d':=by
  rw[lset_eq,lhas_app _ _ _ _ fun c hc=>h.nz c (List.mem_filter.1 hc).1,lhas_filter]
  by_cases e:a'=a∧d'=d
  · rw [if_pos e, if_pos rfl, if_pos e]
    by_cases c:0<n
    · rw[if_pos c,lhas_cons,if_pos ⟨e.1.symm,e.2.symm⟩]
    · rw[if_neg c,lhas_nil];exact(u0.1 c).symm
  · rw [if_neg e, if_neg e]
    by_cases c:0<n
    · have z : ¬ (a = a' ∧ d = d') := fun q => e ⟨q.1.symm, q.2.symm⟩
      rw[if_pos c,lhas_cons,if_neg z,lhas_nil]
      by_cases q:lhas L a' d'=0
      · rw[if_pos q,q]
      · rw[if_neg q]
    · rw [if_neg c, lhas_nil]
      by_cases q:lhas L a' d'=0
      · rw[if_pos q,q]
      · rw[if_neg q]
theorem LOk.set {L:List Coin} (h:LOk L) (a d:List UInt8) (n:UInt64):LOk (lset L a d n):=by
  rw[lset_eq]
  refine⟨?_,fun c hc=>?_⟩
  · rw [List.map_append]
    refine List.nodup_append.2 ⟨h.nd.sublist ((List.filter_sublist ..).map _),by split <;> simp,fun x hx y hy e=>?_⟩
    obtain⟨c,hc,rfl⟩:=List.mem_map.1 hx
    obtain⟨c2,hc2,rfl⟩:=List.mem_map.1 hy
    have h1:=of_decide_eq_true (List.mem_filter.1 hc).2
    split at hc2
    · rw [List.mem_singleton] at hc2; subst hc2
      unfold ckey at e;injection e with e1 e2
      exact h1 ⟨e1,e2⟩
    · cases hc2
  · rcases List.mem_append.1 hc with hc | hc
    · exact h.nz c (List.mem_filter.1 hc).1
    · split at hc
      · rename_i hn; rw [List.mem_singleton] at hc; subst hc
        exact fun e=>u0.2 e hn
      · cases hc
/-- The bank's own state as coins. -/
theorem coins_ok {B:BK} (h:BOk B):LOk (coinsB B):=⟨coins_nd h,fun c hc=>h.nz _ (coins_mem.1 hc)⟩
theorem coins_has {B:BK} (a d:List UInt8):lhas (coinsB B) a d=bget B a d:=by
  unfold bget coinsB
  induction B with
  | nil=>rfl
  | cons p r ih =>
    rw[List.map_cons];unfold lhas mget
    by_cases e:p.1=(a,d)
    · rw[if_pos e,if_pos (by rw[e];exact⟨rfl,rfl⟩)];rfl
    · rw[if_neg e,if_neg (fun q=>e (Prod.ext q.1 q.2))];exact ih
/-- The two banks have the same. -/
structure Rel (B:BK) (L:List Coin):Prop where
  b:BOk B
  l:LOk L
  e:∀ a d,lhas L a d=bget B a d
theorem Rel.nil:Rel [] []:=⟨.nil,.nil,fun _ _=>rfl⟩
theorem Rel.all {B:BK} {L:List Coin} (h:Rel B L):allL (coinsB B)=allL L:=(coins_ok h.b).all h.l fun a d=>by rw[coins_has,h.e]
theorem wr_of (a d:List UInt8) (n:UInt64):wrI a d n=codeO (ofE a d n):=by
  unfold wrI ofE
  by_cases h1:(a.length:Int)=0∨16<(a.length:Int)∨a.contains 47=true
  · rw [if_pos h1]
    by_cases c:(a.length:Int)<1∨16<(a.length:Int)
    · rw[if_pos c];rfl
    · rw[if_neg c,if_pos (by rcases h1 with h | h | h;exact absurd (.inl (by omega)) c;exact absurd (.inr h) c;exact h)];rfl
  · rw [if_neg h1, if_neg (by omega), if_neg (fun q => h1 (.inr (.inr q)))]
    by_cases h2:(d.length:Int)=0∨40<(d.length:Int)
    · rw[if_pos h2,if_pos (by omega)];rfl
    · rw[if_neg h2,if_neg (by omega)];split <;> rfl
theorem of_code (a d:List UInt8) (n:UInt64):(codeO (ofE a d n)=0)=((ofE a d n).isNone=true):=by
  unfold ofE;split
  · simp[codeO,Er.code]
  · split
    · simp[codeO,Er.code]
    · split <;> simp[codeO,Er.code]
theorem of_none {a d:List UInt8} {n:UInt64} (h:¬ (ofE a d n).isNone=false):ofE a d n=none:=by cases e:ofE a d n with | none=>rfl | some _=>rw[e] at h;simp at h
theorem of_n {a d:List UInt8} {n:UInt64} (h:¬ (ofE a d n).isNone=false):n≠0:=by
  intro e;have:=of_none h;unfold ofE at this;subst e
  split at this
  · cases this
  · split at this
    · cases this
    · simp at this
theorem of_1 {a d:List UInt8} {n:UInt64} (h:¬ (ofE a d n).isNone=false):(ofE a d 1).isNone=true:=by
  have:=of_none h;unfold ofE at this ⊢
  split at this
  · cases this
  · rename_i c1; rw [if_neg c1]
    split at this
    · cases this
    · rename_i c2;rw[if_neg c2,if_neg (by decide)];rfl
theorem over_iff (x n:UInt64):x+n<x↔18446744073709551615 - n<x:=by
  rw[UInt64.lt_iff_toNat_lt,UInt64.lt_iff_toNat_lt,UInt64.toNat_add,UInt64.toNat_sub]
  have h1:=x.toNat_lt;have h2:=n.toNat_lt
  have e:(18446744073709551615:UInt64).toNat=18446744073709551615:=rfl
  rw[e];omega
theorem add_nz {x n:UInt64} (hn:n≠0) (h:¬ 18446744073709551615 - n<x):x+n≠0:=by
  rw[← over_iff,UInt64.lt_iff_toNat_lt,UInt64.toNat_add] at h
  intro e
  have h1:=x.toNat_lt;have h2:=n.toNat_lt
  have e':=congrArg UInt64.toNat e
  rw[UInt64.toNat_add] at e'
  have z:(0:UInt64).toNat=0:=rfl
  have:n.toNat≠0:=fun q=>hn (UInt64.toNat_inj.1 (q.trans z.symm))
  omega
section
variable {B:BK} {L:List Coin} {a d t:List UInt8} {n:UInt64}
theorem giE_code (h:Rel B L) (a d:List UInt8) (n:UInt64):codeO (giE B a d n)=lgiE L a d n:=by
  unfold giE lgiE
  rw[h.e,wr_of]
  by_cases c:(ofE a d n).isNone=false
  · rw[if_pos c,if_pos (fun q=>by rw[of_code,c] at q;cases q)]
  · have z : ¬ ¬ codeO (ofE a d n) = 0 := by rw [of_none c]; exact fun q => q rfl
    rw[if_neg c,if_neg z]
    by_cases c2:18446744073709551615 - n<bget B a d
    · rw[if_pos c2,if_pos ((over_iff _ _).2 c2)];rfl
    · rw[if_neg c2,if_neg (fun q=>c2 ((over_iff _ _).1 q))];rfl
theorem taE_code (h:Rel B L) (a d:List UInt8) (n:UInt64):codeO (taE B a d n)=ltaE L a d n:=by
  unfold taE ltaE
  rw[h.e,wr_of]
  by_cases c:(ofE a d n).isNone=false
  · rw[if_pos c,if_pos (fun q=>by rw[of_code,c] at q;cases q)]
  · have z : ¬ ¬ codeO (ofE a d n) = 0 := by rw [of_none c]; exact fun q => q rfl
    rw[if_neg c,if_neg z]
    by_cases c2:bget B a d<n
    · rw[if_pos c2,if_pos c2];rfl
    · rw[if_neg c2,if_neg c2];rfl
theorem giE_none:(codeO (giE B a d n)=0)=((giE B a d n).isNone=true):=by
  unfold giE;split
  · exact of_code a d n
  · split <;> simp[codeO,Er.code]
theorem taE_none:(codeO (taE B a d n)=0)=((taE B a d n).isNone=true):=by
  unfold taE;split
  · exact of_code a d n
  · split <;> simp[codeO,Er.code]
theorem giE_nm (h:(giE B a d n).isNone=true):(ofE a d 1).isNone=true:=by
  unfold giE at h
  split at h
  · rename_i c;rw[c] at h;cases h
  · rename_i c;exact of_1 c
theorem taE_nm (h:¬ (taE B a d n).isNone=false):(ofE a d 1).isNone=true:=by
  unfold taE at h
  split at h
  · rename_i c;exact absurd c h
  · rename_i c;exact of_1 c
theorem giE_ok (h:(giE B a d n).isNone=true):n≠0∧¬ 18446744073709551615 - n<bget B a d:=by
  unfold giE at h
  split at h
  · rename_i c;rw[c] at h;cases h
  · rename_i c; split at h
    · cases h
    · rename_i c2;exact⟨of_n c,c2⟩
theorem taE_ok (h:¬ (taE B a d n).isNone=false):n≠0∧¬ bget B a d<n:=by
  unfold taE at h
  split at h
  · rename_i c;exact absurd c h
  · rename_i c; split at h
    · exact absurd rfl h
    · rename_i c2;exact⟨of_n c,c2⟩
theorem BOk.give (h:BOk B):BOk (giB B a d n):=by
  unfold giB;split
  · rename_i c;obtain⟨h1,h2⟩:=giE_ok c;exact h.put (giE_nm c) (add_nz h1 h2)
  · exact h
theorem BOk.take (h:BOk B):BOk (taB B a d n):=by
  unfold taB;split
  · exact h
  · rename_i c0; split
    · exact h.del
    · rename_i c;exact h.put (taE_nm c0) c
theorem bget_give (B:BK) (a d:List UInt8) (n:UInt64) (a' d':List UInt8):bget (giB B a d n) a' d'=if(giE B a d n).isNone=true∧a'=a∧d'=d then bget B a d+n else bget B a' d':=by
  unfold giB
  by_cases c:(giE B a d n).isNone=true
  · rw [if_pos c, bget_put]
    by_cases e:a'=a∧d'=d
    · rw[if_pos e,if_pos ⟨c,e⟩]
    · rw[if_neg e,if_neg (fun q=>e q.2)]
  · rw[if_neg c,if_neg (fun q=>c q.1)]
theorem bget_take (h:BOk B) (a d:List UInt8) (n:UInt64) (a' d':List UInt8):bget (taB B a d n) a' d'=if(taE B a d n).isNone=true∧a'=a∧d'=d then bget B a d - n else bget B a' d':=by
  unfold taB
  by_cases c:(taE B a d n).isNone=false
  · rw[if_pos c,if_neg (fun q=>by rw[c] at q;cases q.1)]
  · have c' : (taE B a d n).isNone = true := by simpa using c
    rw[if_neg c]
    by_cases z:bget B a d - n=0
    · rw [if_pos z, bget_del h]
      by_cases e:a'=a∧d'=d
      · rw[if_pos e,if_pos ⟨c',e⟩,z]
      · rw[if_neg e,if_neg (fun q=>e q.2)]
    · rw [if_neg z, bget_put]
      by_cases e:a'=a∧d'=d
      · rw[if_pos e,if_pos ⟨c',e⟩]
      · rw[if_neg e,if_neg (fun q=>e q.2)]
theorem Rel.give (h:Rel B L) (a d:List UInt8) (n:UInt64):Rel (giB B a d n) (lgiL L a d n):=by
  have hc:=giE_code h a d n
  refine⟨h.b.give,?_,fun a' d'=>?_⟩
  · unfold lgiL; split
    · exact h.l
    · exact h.l.set ..
  · rw [bget_give]; unfold lgiL
    by_cases c:lgiE L a d n=0
    · have c' : (giE B a d n).isNone = true := by rw [← giE_none, hc]; exact c
      rw[if_neg (fun q=>q c),lhas_set h.l,h.e,h.e]
      by_cases e:a'=a∧d'=d
      · rw[if_pos e,if_pos ⟨c',e⟩]
      · rw[if_neg e,if_neg (fun q=>e q.2)]
    · rw[if_pos c,if_neg (fun q=>c (by rw[← hc,giE_none];exact q.1)),h.e]
theorem Rel.take (h:Rel B L) (a d:List UInt8) (n:UInt64):Rel (taB B a d n) (ltaL L a d n):=by
  have hc:=taE_code h a d n
  refine⟨h.b.take,?_,fun a' d'=>?_⟩
  · unfold ltaL; split
    · exact h.l
    · exact h.l.set ..
  · rw [bget_take h.b]; unfold ltaL
    by_cases c:ltaE L a d n=0
    · have c' : (taE B a d n).isNone = true := by rw [← taE_none, hc]; exact c
      rw[if_neg (fun q=>q c),lhas_set h.l,h.e,h.e]
      by_cases e:a'=a∧d'=d
      · rw[if_pos e,if_pos ⟨c',e⟩]
      · rw[if_neg e,if_neg (fun q=>e q.2)]
    · rw[if_pos c,if_neg (fun q=>c (by rw[← hc,taE_none];exact q.1)),h.e]
theorem nn {o:Option Er} (h:¬ o.isNone=false):o.isNone=true:=by cases o <;> simp_all
theorem ns {o:Option Er} (h:¬ o.isNone=true):o.isNone=false:=by cases o <;> simp_all
theorem giE_f (h:(giE B a d n).isNone=false):∃ e,giE B a d n=some e:=by cases e:giE B a d n with | none=>rw[e] at h;cases h | some x=>exact⟨x,rfl⟩
theorem moE_code (h:Rel B L) (f t d:List UInt8) (n:UInt64):codeO (moE B f t d n)=lmoE L f t d n:=by
  have hc:=taE_code h f d n
  have hr:=h.take f d n
  unfold moE lmoE
  by_cases c:(taE B f d n).isNone=false
  · rw[if_pos c,if_pos (fun q=>by rw[← hc,taE_none,c] at q;cases q),hc]
  · have z : ¬ ¬ ltaE L f d n = 0 := fun q => q (by rw [← hc, taE_none]; exact nn c)
    rw[if_neg c,if_neg z,← giE_code hr t d n]
    by_cases c2:(giE (taB B f d n) t d n).isNone=false
    · rw [if_pos c2]
      obtain⟨e,he⟩:=giE_f c2
      rw[he];rfl
    · rw [if_neg c2]
      have:giE (taB B f d n) t d n=none:=by cases e:giE (taB B f d n) t d n with | none=>rfl | some x=>rw[e] at c2;exact absurd rfl c2
      rw[this]
/-- What is undone is as it was. -/
theorem undo_get (h:BOk B) (hc:(taE B a d n).isNone=true) (a' d':List UInt8):bget (mput (taB B a d n) (a,d) (bget (taB B a d n) a d+n)) a' d'=bget B a' d':=by
  have z:(taE B a d n).isNone=true∧a=a∧d=d:=⟨hc,rfl,rfl⟩
  rw[bget_put,bget_take h,bget_take h,if_pos z]
  by_cases e:a'=a∧d'=d
  · rw[if_pos e,e.1,e.2];exact UInt64.sub_add_cancel ..
  · have z2 : ¬ ((taE B a d n).isNone = true ∧ a' = a ∧ d' = d) := fun q => e q.2
    rw[if_neg e,if_neg z2]
theorem undo_ok (h:BOk B) (hc:(taE B a d n).isNone=true):BOk (mput (taB B a d n) (a,d) (bget (taB B a d n) a d+n)):=by
  refine h.take.put (taE_nm (by rw[hc];decide)) ?_
  rw[bget_take h,if_pos ⟨hc,rfl,rfl⟩,UInt64.sub_add_cancel]
  obtain⟨h1,h2⟩:=taE_ok (B:=B) (a:=a) (d:=d) (n:=n) (by rw[hc];decide)
  intro e;rw[e] at h2
  exact h2 (Decidable.not_not.1 fun q=>h1 (u0.1 q))
theorem BOk.move (h:BOk B):BOk (moB B a t d n):=by
  unfold moB;split
  · exact h
  · rename_i c; split
    · exact undo_ok h (nn c)
    · exact h.take.give
theorem Rel.move (h:Rel B L) (f t d:List UInt8) (n:UInt64):Rel (moB B f t d n) (lmoL L f t d n):=by
  have hc:=moE_code h f t d n
  have hr:=h.take f d n
  have ht:=taE_code h f d n
  unfold moB lmoL
  by_cases c:(taE B f d n).isNone=false
  · have : ¬ lmoE L f t d n = 0 := by unfold lmoE; rw [if_pos (fun q => by rw [← ht, taE_none, c] at q; cases q)]; exact fun q => by rw [← ht, taE_none, c] at q; cases q
    rw[if_pos c,if_pos this];exact h
  · have c0 := nn c
    have el:lmoE L f t d n=lgiE (ltaL L f d n) t d n:=by unfold lmoE;rw[if_neg (fun q=>q (by rw[← ht,taE_none];exact c0))]
    rw[if_neg c]
    by_cases c2:(giE (taB B f d n) t d n).isNone=false
    · rw [if_pos c2, if_pos (fun q => by rw [el, ← giE_code hr, giE_none, c2] at q; cases q)]
      exact⟨undo_ok h.b c0,h.l,fun a' d'=>by rw[undo_get h.b c0,h.e]⟩
    · rw [if_neg c2, if_neg (fun q => q (by rw [el, ← giE_code hr, giE_none]; exact nn c2))]
      exact hr.give t d n
end
section
variable {B:BK} {a c d:List UInt8} {n:UInt64}
theorem giB_f (h:(giE B a d n).isNone=false):giB B a d n=B:=by unfold giB;rw[if_neg (by rw[h];decide)]
end
abbrev pa (a d:List UInt8) (n:UInt64):List UInt8:=if(ofE a d n).isNone=true then a else[]
abbrev pd (a d:List UInt8) (n:UInt64):List UInt8:=if(ofE a d n).isNone=true then d else[]
section
variable {a d:List UInt8} {n:UInt64} {e:Er}
theorem ofa (h:(a.length:Int)=0∨16<(a.length:Int)∨a.contains 47=true):ofE a d n=some (.step ((#[97,99,99,111,117,110,116]:Array UInt8).toList) a.length (.num 42)):=if_pos h
theorem ofno (h1:¬ (a.length:Int)=0) (h2:¬ 16<(a.length:Int)) (h3:a.contains 47=false):¬ ((a.length:Int)=0∨16<(a.length:Int)∨a.contains 47=true):=by
  rintro (h | h | h)
  · exact h1 h
  · exact h2 h
  · rw[h3] at h;cases h
theorem ofd (h1:¬ (a.length:Int)=0) (h2:¬ 16<(a.length:Int)) (h3:a.contains 47=false) (h:(d.length:Int)=0∨40<(d.length:Int)):ofE a d n=some (.step ((#[100,101,110,111,109]:Array UInt8).toList) d.length (.num 43)):=by unfold ofE;rw[if_neg (ofno h1 h2 h3),if_pos h]
theorem ofdn (h1:¬ (d.length:Int)=0) (h2:¬ 40<(d.length:Int)):¬ ((d.length:Int)=0∨40<(d.length:Int)):=by rintro (h | h);exact h1 h;exact h2 h
theorem ofn (h1:¬ (a.length:Int)=0) (h2:¬ 16<(a.length:Int)) (h3:a.contains 47=false) (h4:¬ (d.length:Int)=0) (h5:¬ 40<(d.length:Int)) (h:n=0):ofE a d n=some (.step ((#[97,109,111,117,110,116]:Array UInt8).toList) 0 (.num 44)):=by unfold ofE;rw[if_neg (ofno h1 h2 h3),if_neg (ofdn h4 h5),if_pos h]
theorem ofz (h1:¬ (a.length:Int)=0) (h2:¬ 16<(a.length:Int)) (h3:a.contains 47=false) (h4:¬ (d.length:Int)=0) (h5:¬ 40<(d.length:Int)) (h:¬ n=0):ofE a d n=none:=by unfold ofE;rw[if_neg (ofno h1 h2 h3),if_neg (ofdn h4 h5),if_neg h]
theorem pa0 (h:ofE a d n=some e):[]=pa a d n:=by unfold pa;rw[h];rfl
theorem pd0 (h:ofE a d n=some e):[]=pd a d n:=by unfold pd;rw[h];rfl
theorem pa1 (h:ofE a d n=none):a=pa a d n:=by unfold pa;rw[h];rfl
theorem pd1 (h:ofE a d n=none):d=pd a d n:=by unfold pd;rw[h];rfl
theorem pe0 (h:ofE a d n=some e):PE (some e)=PE (ofE a d n):=by rw[h]
theorem pn0 (h:ofE a d n=some e):false=(ofE a d n).isNone:=by rw[h];rfl
end
noncomputable def ccU1_9:Code:=(Tryd.f9.body).getD .skip
theorem New_ok:FOk EN 9 ⟨[],[],Unit,fun _=>([.mp 54 [],.bx 56 [.n 0]],.p 1 0),fun _=>True⟩:=by
 refine v_fun Tryd.f9 ccU1_9 MX (fun ν F σ w=>?_) Tryd.func9
 refine v_nl ?_
 exact v_ret () [1,2] ((Eq (α:=List ((List UInt8 × List UInt8) × UInt64)) [] [])) rfl trivial
noncomputable def ccU1_24:Code:=(Tryd.f24.body).getD .skip
theorem of_ok (a d:List UInt8) (n:UInt64):FOk EN 24 ⟨[],[.s a,.s d,.u n],Unit,fun _=>([.pn (PE (ofE a d n)) true (ofE a d n).isNone],.t [.a [.s (pa a d n),.s (pd a d n)],.n 0]),fun _=>True⟩:=by
 refine v_fun Tryd.f24 ccU1_24 MX (fun ν F σ w=>?_) Tryd.func24
 refine v_nl ?_
 refine v_guard 12 (decide ((↑a.length:Int)=0)) True trivial (fun h1=>?_) (fun h1=>?_)
 ·have h1:=of_decide_eq_true h1
  refine v_al [] (al_e1 (42)) True trivial ?_
  refine v_call _ [2] (faultAt2_ok (#[97,99,99,111,117,110,116].toList) (↑a.length) (some (Er.num 42)) rfl) ((#[(97:UInt8),(99:UInt8),(99:UInt8),(111:UInt8),(117:UInt8),(110:UInt8),(116:UInt8)].toList=#[(97:UInt8),(99:UInt8),(99:UInt8),(111:UInt8),(117:UInt8),(110:UInt8),(116:UInt8)].toList)∧((↑a.length:Int)=(↑a.length:Int))∧((42:Int)=(42:Int))∧(PE (some (Er.num 42))=PE (some (Er.num 42)))∧(false=false)) ⟨rfl,rfl,rfl,rfl,rfl⟩ (fun g2 p3=>?_)
  have p3:True:=p3
  exact v_ret () [3] (([]=pa a d n)∧([]=pd a d n)∧(PE (some (Er.step #[97,99,99,111,117,110,116].toList (↑a.length) ((some (Er.num 42)).getD (Er.num 0))))=PE (ofE a d n))∧(false=(ofE a d n).isNone)) ⟨(by exact pa0 (ofa (.inl ‹_›))),(by exact pd0 (ofa (.inl ‹_›))),(by exact pe0 (ofa (.inl ‹_›))),(by exact pn0 (ofa (.inl ‹_›)))⟩ trivial
 ·have h1:=of_decide_eq_false h1
  refine v_guard 17 (decide (16<(↑a.length:Int))) True trivial (fun h4=>?_) (fun h4=>?_)
  ·have h4:=of_decide_eq_true h4
   refine v_al [] (al_e1 (42)) True trivial ?_
   refine v_call _ [2] (faultAt2_ok (#[97,99,99,111,117,110,116].toList) (↑a.length) (some (Er.num 42)) rfl) ((#[(97:UInt8),(99:UInt8),(99:UInt8),(111:UInt8),(117:UInt8),(110:UInt8),(116:UInt8)].toList=#[(97:UInt8),(99:UInt8),(99:UInt8),(111:UInt8),(117:UInt8),(110:UInt8),(116:UInt8)].toList)∧((↑a.length:Int)=(↑a.length:Int))∧((42:Int)=(42:Int))∧(PE (some (Er.num 42))=PE (some (Er.num 42)))∧(false=false)) ⟨rfl,rfl,rfl,rfl,rfl⟩ (fun g5 p6=>?_)
   have p6:True:=p6
   exact v_ret () [3] (([]=pa a d n)∧([]=pd a d n)∧(PE (some (Er.step #[97,99,99,111,117,110,116].toList (↑a.length) ((some (Er.num 42)).getD (Er.num 0))))=PE (ofE a d n))∧(false=(ofE a d n).isNone)) ⟨(by exact pa0 (ofa (.inr (.inl ‹_›)))),(by exact pd0 (ofa (.inr (.inl ‹_›)))),(by exact pe0 (ofa (.inr (.inl ‹_›)))),(by exact pn0 (ofa (.inr (.inl ‹_›))))⟩ trivial
  ·have h4:=of_decide_eq_false h4
   refine v_call _ [] (Contains_ok (a)) ((a=a)∧(#[(47:UInt8)].toList=#[(47:UInt8)].toList)) ⟨rfl,rfl⟩ (fun g7 p8=>?_)
   have p8:True:=p8
   refine v_if (a.contains 47) True trivial (fun h9=>?_) (fun h9=>?_)
   ·skip
    refine v_al [] (al_e1 (42)) True trivial ?_
    refine v_call _ [2] (faultAt2_ok (#[97,99,99,111,117,110,116].toList) (↑a.length) (some (Er.num 42)) rfl) ((#[(97:UInt8),(99:UInt8),(99:UInt8),(111:UInt8),(117:UInt8),(110:UInt8),(116:UInt8)].toList=#[(97:UInt8),(99:UInt8),(99:UInt8),(111:UInt8),(117:UInt8),(110:UInt8),(116:UInt8)].toList)∧((↑a.length:Int)=(↑a.length:Int))∧((42:Int)=(42:Int))∧(PE (some (Er.num 42))=PE (some (Er.num 42)))∧(false=false)) ⟨rfl,rfl,rfl,rfl,rfl⟩ (fun g10 p11=>?_)
    have p11:True:=p11
    exact v_ret () [3] (([]=pa a d n)∧([]=pd a d n)∧(PE (some (Er.step #[97,99,99,111,117,110,116].toList (↑a.length) ((some (Er.num 42)).getD (Er.num 0))))=PE (ofE a d n))∧(false=(ofE a d n).isNone)) ⟨(by exact pa0 (ofa (.inr (.inr ‹_›)))),(by exact pd0 (ofa (.inr (.inr ‹_›)))),(by exact pe0 (ofa (.inr (.inr ‹_›)))),(by exact pn0 (ofa (.inr (.inr ‹_›))))⟩ trivial
   ·skip
    refine v_guard 30 (decide ((↑d.length:Int)=0)) True trivial (fun h12=>?_) (fun h12=>?_)
    ·have h12:=of_decide_eq_true h12
     refine v_al [] (al_e1 (43)) True trivial ?_
     refine v_call _ [2] (faultAt2_ok (#[100,101,110,111,109].toList) (↑d.length) (some (Er.num 43)) rfl) ((#[(100:UInt8),(101:UInt8),(110:UInt8),(111:UInt8),(109:UInt8)].toList=#[(100:UInt8),(101:UInt8),(110:UInt8),(111:UInt8),(109:UInt8)].toList)∧((↑d.length:Int)=(↑d.length:Int))∧((43:Int)=(43:Int))∧(PE (some (Er.num 43))=PE (some (Er.num 43)))∧(false=false)) ⟨rfl,rfl,rfl,rfl,rfl⟩ (fun g13 p14=>?_)
     have p14:True:=p14
     exact v_ret () [3] (([]=pa a d n)∧([]=pd a d n)∧(PE (some (Er.step #[100,101,110,111,109].toList (↑d.length) ((some (Er.num 43)).getD (Er.num 0))))=PE (ofE a d n))∧(false=(ofE a d n).isNone)) ⟨(by exact pa0 (ofd ‹_› ‹_› ‹_› (.inl ‹_›))),(by exact pd0 (ofd ‹_› ‹_› ‹_› (.inl ‹_›))),(by exact pe0 (ofd ‹_› ‹_› ‹_› (.inl ‹_›))),(by exact pn0 (ofd ‹_› ‹_› ‹_› (.inl ‹_›)))⟩ trivial
    ·have h12:=of_decide_eq_false h12
     refine v_if (decide (40<(↑d.length:Int))) True trivial (fun h15=>?_) (fun h15=>?_)
     ·have h15:=of_decide_eq_true h15
      refine v_al [] (al_e1 (43)) True trivial ?_
      refine v_call _ [2] (faultAt2_ok (#[100,101,110,111,109].toList) (↑d.length) (some (Er.num 43)) rfl) ((#[(100:UInt8),(101:UInt8),(110:UInt8),(111:UInt8),(109:UInt8)].toList=#[(100:UInt8),(101:UInt8),(110:UInt8),(111:UInt8),(109:UInt8)].toList)∧((↑d.length:Int)=(↑d.length:Int))∧((43:Int)=(43:Int))∧(PE (some (Er.num 43))=PE (some (Er.num 43)))∧(false=false)) ⟨rfl,rfl,rfl,rfl,rfl⟩ (fun g16 p17=>?_)
      have p17:True:=p17
      exact v_ret () [3] (([]=pa a d n)∧([]=pd a d n)∧(PE (some (Er.step #[100,101,110,111,109].toList (↑d.length) ((some (Er.num 43)).getD (Er.num 0))))=PE (ofE a d n))∧(false=(ofE a d n).isNone)) ⟨(by exact pa0 (ofd ‹_› ‹_› ‹_› (.inr ‹_›))),(by exact pd0 (ofd ‹_› ‹_› ‹_› (.inr ‹_›))),(by exact pe0 (ofd ‹_› ‹_› ‹_› (.inr ‹_›))),(by exact pn0 (ofd ‹_› ‹_› ‹_› (.inr ‹_›)))⟩ trivial
     ·have h15:=of_decide_eq_false h15
      refine v_if (decide (n=0)) True trivial (fun h18=>?_) (fun h18=>?_)
      ·have h18:=of_decide_eq_true h18
       refine v_al [] (al_e1 (44)) True trivial ?_
       refine v_call _ [2] (faultAt2_ok (#[97,109,111,117,110,116].toList) (0) (some (Er.num 44)) rfl) ((#[(97:UInt8),(109:UInt8),(111:UInt8),(117:UInt8),(110:UInt8),(116:UInt8)].toList=#[(97:UInt8),(109:UInt8),(111:UInt8),(117:UInt8),(110:UInt8),(116:UInt8)].toList)∧((0:Int)=(0:Int))∧((44:Int)=(44:Int))∧(PE (some (Er.num 44))=PE (some (Er.num 44)))∧(false=false)) ⟨rfl,rfl,rfl,rfl,rfl⟩ (fun g19 p20=>?_)
       have p20:True:=p20
       exact v_ret () [3] (([]=pa a d n)∧([]=pd a d n)∧(PE (some (Er.step #[97,109,111,117,110,116].toList 0 ((some (Er.num 44)).getD (Er.num 0))))=PE (ofE a d n))∧(false=(ofE a d n).isNone)) ⟨(by exact pa0 (ofn ‹_› ‹_› ‹_› ‹_› ‹_› ‹_›)),(by exact pd0 (ofn ‹_› ‹_› ‹_› ‹_› ‹_› ‹_›)),(by exact pe0 (ofn ‹_› ‹_› ‹_› ‹_› ‹_› ‹_›)),(by exact pn0 (ofn ‹_› ‹_› ‹_› ‹_› ‹_› ‹_›))⟩ trivial
      ·have h18:=of_decide_eq_false h18
       refine v_al [] (al_e0 (ofE a d n) (by exact ofz ‹_› ‹_› ‹_› ‹_› ‹_› ‹_›)) True trivial ?_
       exact v_ret () [2] ((a=pa a d n)∧(d=pd a d n)∧(PE (ofE a d n)=PE (ofE a d n))∧((ofE a d n).isNone=(ofE a d n).isNone)) ⟨(by exact pa1 (ofz ‹_› ‹_› ‹_› ‹_› ‹_› ‹_›)),(by exact pd1 (ofz ‹_› ‹_› ‹_› ‹_› ‹_› ‹_›)),rfl,rfl⟩ trivial
noncomputable def ccU1_21:Code:=(Tryd.f21.body).getD .skip
theorem Has_ok (B:BK) (a d:List UInt8):FOk EN 21 ⟨[.mp 54 B,.bx 56 [.n 0]],[.p 1 0,.s a,.s d],Unit,fun _=>([.mp 54 B,.bx 56 [.n 0]],.u (bget B a d)),fun _=>True⟩:=by
 refine v_fun Tryd.f21 ccU1_21 MX (fun ν F σ w=>?_) Tryd.func21
 refine v_nl ?_
 exact v_ret () [] (((mget B (a,d)).getD 0=bget B a d)∧(@Eq (List (Prod (Prod (List UInt8) (List UInt8)) UInt64)) B B)) ⟨rfl,rfl⟩ trivial
section
variable {B:BK} {a d t:List UInt8} {n:UInt64}
theorem nz {o:Option Er} (h:o.isNone=true):o=none:=by cases o with | none=>rfl | some _=>cases h
theorem paz (h:(ofE a d n).isNone=true):pa a d n=a:=(pa1 (nz h)).symm
theorem pdz (h:(ofE a d n).isNone=true):pd a d n=d:=(pd1 (nz h)).symm
theorem bgz (h:(ofE a d n).isNone=true):(mget B (pa a d n,pd a d n)).getD 0=bget B a d:=by rw[paz h,pdz h];rfl
theorem giE1 (h:(ofE a d n).isNone=false):giE B a d n=ofE a d n:=by unfold giE;rw[if_pos h]
theorem giE2 (h:(ofE a d n).isNone=true) (h2:18446744073709551615 - n<(mget B (pa a d n,pd a d n)).getD 0):giE B a d n=some (.step ((#[98,97,110,107]:Array UInt8).toList) 1 (.num 41)):=by
  rw[bgz h] at h2;unfold giE;rw[if_neg (by rw[h];decide),if_pos h2]
theorem giE3 (h:(ofE a d n).isNone=true) (h2:¬ 18446744073709551615 - n<(mget B (pa a d n,pd a d n)).getD 0):giE B a d n=none:=by
  rw[bgz h] at h2;unfold giE;rw[if_neg (by rw[h];decide),if_neg h2]
theorem giB1 (h:(ofE a d n).isNone=false):B=giB B a d n:=by unfold giB;rw[giE1 h,h];rfl
theorem giB2 (h:(ofE a d n).isNone=true) (h2:18446744073709551615 - n<(mget B (pa a d n,pd a d n)).getD 0):B=giB B a d n:=by unfold giB;rw[giE2 h h2];rfl
theorem giB3 (h:(ofE a d n).isNone=true) (h2:¬ 18446744073709551615 - n<(mget B (pa a d n,pd a d n)).getD 0):mput B (pa a d n,pd a d n) ((mget B (pa a d n,pd a d n)).getD 0+n)=giB B a d n:=by
  unfold giB;rw[giE3 h h2,bgz h,paz h,pdz h];rfl
end
noncomputable def ccU2_15:Code:=(Tryd.f15.body).getD .skip
theorem Give_ok (B:BK) (a d:List UInt8) (n:UInt64):FOk EN 15 ⟨[.mp 54 B,.bx 56 [.n 0]],[.p 1 0,.s a,.s d,.u n],Unit,fun _=>([.mp 54 (giB B a d n),.bx 56 [.n 0],.pn (PE (giE B a d n)) true (giE B a d n).isNone],.n 2),fun _=>True⟩:=by
 refine v_fun Tryd.f15 ccU2_15 MX (fun ν F σ w=>?_) Tryd.func15
 refine v_nl ?_
 refine v_call _ [] (of_ok (a) (d) (n)) ((a=a)∧(d=d)∧(n=n)) ⟨rfl,rfl,rfl⟩ (fun g1 p2=>?_)
 have p2:True:=p2
 refine v_if (!(ofE a d n).isNone) True trivial (fun h3=>?_) (fun h3=>?_)
 ·have h3:=(nt h3)
  exact v_ret () [3] ((@Eq (List (Prod (Prod (List UInt8) (List UInt8)) UInt64)) B (giB B a d n))∧(PE (ofE a d n)=PE (giE B a d n))∧((ofE a d n).isNone=(giE B a d n).isNone)) ⟨(by exact giB1 ‹_›),(by(rw[giE1 ‹_›])),(by(rw[giE1 ‹_›]))⟩ trivial
 ·have h3:=(nf h3)
  refine v_plan (.fs [0,1,2,3,4,5,6,7,8,9] .e) [0,1,4] True trivial ?_
  refine v_if (decide (18446744073709551615 - n<(mget B (pa a d n,pd a d n)).getD 0)) True trivial (fun h4=>?_) (fun h4=>?_)
  ·have h4:=of_decide_eq_true h4
   refine v_al [] (al_e1 (41)) True trivial ?_
   refine v_call _ [5] (faultAt2_ok (#[98,97,110,107].toList) (1) (some (Er.num 41)) rfl) ((#[(98:UInt8),(97:UInt8),(110:UInt8),(107:UInt8)].toList=#[(98:UInt8),(97:UInt8),(110:UInt8),(107:UInt8)].toList)∧((1:Int)=(1:Int))∧((41:Int)=(41:Int))∧(PE (some (Er.num 41))=PE (some (Er.num 41)))∧(false=false)) ⟨rfl,rfl,rfl,rfl,rfl⟩ (fun g5 p6=>?_)
   have p6:True:=p6
   exact v_ret () [6] ((@Eq (List (Prod (Prod (List UInt8) (List UInt8)) UInt64)) B (giB B a d n))∧(PE (some (Er.step #[98,97,110,107].toList 1 ((some (Er.num 41)).getD (Er.num 0))))=PE (giE B a d n))∧(false=(giE B a d n).isNone)) ⟨(by exact giB2 ‹_› ‹_›),(by(rw[giE2 ‹_› ‹_›];rfl)),(by(rw[giE2 ‹_› ‹_›];rfl))⟩ trivial
  ·have h4:=of_decide_eq_false h4
   refine v_plan (.fs [0,1,2,3,4,6] (.c 5 (.fs [7] (.o 8 (.fs [9] (.o 10 .e)))) (.o 8 (.fs [9] (.o 5 (.fs [7] (.o 10 .e))))))) [1,4] True trivial ?_
   refine v_pick True trivial ?_ ?_
   ·skip
    refine v_al [] (al_e0 (giE B a d n) (by(rw[giE3 ‹_› ‹_›];done))) True trivial ?_
    exact v_ret () [6] ((mput B (pa a d n,pd a d n) ((mget B (pa a d n,pd a d n)).getD 0+n)=giB B a d n)∧(PE (giE B a d n)=PE (giE B a d n))∧((giE B a d n).isNone=(giE B a d n).isNone)) ⟨(by exact giB3 ‹_› ‹_›),rfl,rfl⟩ trivial
   ·skip
    refine v_al [] (al_e0 (giE B a d n) (by(rw[giE3 ‹_› ‹_›];done))) True trivial ?_
    exact v_ret () [6] ((mput B (pa a d n,pd a d n) ((mget B (pa a d n,pd a d n)).getD 0+n)=giB B a d n)∧(PE (giE B a d n)=PE (giE B a d n))∧((giE B a d n).isNone=(giE B a d n).isNone)) ⟨(by exact giB3 ‹_› ‹_›),rfl,rfl⟩ trivial
section
variable {B:BK} {a d t:List UInt8} {n:UInt64}
theorem taE1 (h:(ofE a d n).isNone=false):taE B a d n=ofE a d n:=by unfold taE;rw[if_pos h]
theorem taE2 (h:(ofE a d n).isNone=true) (h2:(mget B (pa a d n,pd a d n)).getD 0<n):taE B a d n=some (.step ((#[98,97,110,107]:Array UInt8).toList) 2 (.num 40)):=by
  rw[bgz h] at h2;unfold taE;rw[if_neg (by rw[h];decide),if_pos h2]
theorem taE3 (h:(ofE a d n).isNone=true) (h2:¬ (mget B (pa a d n,pd a d n)).getD 0<n):taE B a d n=none:=by
  rw[bgz h] at h2;unfold taE;rw[if_neg (by rw[h];decide),if_neg h2]
theorem taB1 (h:(ofE a d n).isNone=false):B=taB B a d n:=by unfold taB;rw[taE1 h,if_pos h]
theorem taB2 (h:(ofE a d n).isNone=true) (h2:(mget B (pa a d n,pd a d n)).getD 0<n):B=taB B a d n:=by unfold taB;rw[taE2 h h2];rfl
theorem mgp (k:List UInt8 × List UInt8) (v:UInt64):(mget (mput B k v) k).getD 0=v:=by rw[mget_mput,if_pos rfl];rfl
theorem taB3 (h:(ofE a d n).isNone=true) (h2:¬ (mget B (pa a d n,pd a d n)).getD 0<n) (h3:(mget (mput B (pa a d n,pd a d n) ((mget B (pa a d n,pd a d n)).getD 0 - n)) (pa a d n,pd a d n)).getD 0=0) :
    mdel (mput B (pa a d n,pd a d n) ((mget B (pa a d n,pd a d n)).getD 0 - n)) (pa a d n,pd a d n)=taB B a d n:=by
  rw[mgp] at h3
  unfold taB;rw[taE3 h h2];rw[bgz h] at *;rw[paz h,pdz h]
  rw[if_neg (by decide),if_pos h3]
theorem taB4 (h:(ofE a d n).isNone=true) (h2:¬ (mget B (pa a d n,pd a d n)).getD 0<n) (h3:¬ (mget (mput B (pa a d n,pd a d n) ((mget B (pa a d n,pd a d n)).getD 0 - n)) (pa a d n,pd a d n)).getD 0=0) :
    mput B (pa a d n,pd a d n) ((mget B (pa a d n,pd a d n)).getD 0 - n)=taB B a d n:=by
  rw[mgp] at h3
  unfold taB;rw[taE3 h h2];rw[bgz h] at *;rw[paz h,pdz h]
  rw[if_neg (by decide),if_neg h3]
end
noncomputable def ccU2_11:Code:=(Tryd.f11.body).getD .skip
theorem Take_ok (B:BK) (a d:List UInt8) (n:UInt64):FOk EN 11 ⟨[.mp 54 B,.bx 56 [.n 0]],[.p 1 0,.s a,.s d,.u n],Unit,fun _=>([.mp 54 (taB B a d n),.bx 56 [.n 0],.pn (PE (taE B a d n)) true (taE B a d n).isNone],.n 2),fun _=>True⟩:=by
 refine v_fun Tryd.f11 ccU2_11 MX (fun ν F σ w=>?_) Tryd.func11
 refine v_nl ?_
 refine v_call _ [] (of_ok (a) (d) (n)) ((a=a)∧(d=d)∧(n=n)) ⟨rfl,rfl,rfl⟩ (fun g1 p2=>?_)
 have p2:True:=p2
 refine v_if (!(ofE a d n).isNone) True trivial (fun h3=>?_) (fun h3=>?_)
 ·have h3:=(nt h3)
  exact v_ret () [3] ((@Eq (List (Prod (Prod (List UInt8) (List UInt8)) UInt64)) B (taB B a d n))∧(PE (ofE a d n)=PE (taE B a d n))∧((ofE a d n).isNone=(taE B a d n).isNone)) ⟨(by exact taB1 ‹_›),(by(rw[taE1 ‹_›])),(by(rw[taE1 ‹_›]))⟩ trivial
 ·have h3:=(nf h3)
  refine v_plan (.fs [0,1,2,3,4,5,6,7,8] .e) [0,1,4] True trivial ?_
  refine v_if (decide ((mget B (pa a d n,pd a d n)).getD 0<n)) True trivial (fun h4=>?_) (fun h4=>?_)
  ·have h4:=of_decide_eq_true h4
   refine v_al [] (al_e1 (40)) True trivial ?_
   refine v_call _ [5] (faultAt2_ok (#[98,97,110,107].toList) (2) (some (Er.num 40)) rfl) ((#[(98:UInt8),(97:UInt8),(110:UInt8),(107:UInt8)].toList=#[(98:UInt8),(97:UInt8),(110:UInt8),(107:UInt8)].toList)∧((2:Int)=(2:Int))∧((40:Int)=(40:Int))∧(PE (some (Er.num 40))=PE (some (Er.num 40)))∧(false=false)) ⟨rfl,rfl,rfl,rfl,rfl⟩ (fun g5 p6=>?_)
   have p6:True:=p6
   exact v_ret () [6] ((@Eq (List (Prod (Prod (List UInt8) (List UInt8)) UInt64)) B (taB B a d n))∧(PE (some (Er.step #[98,97,110,107].toList 2 ((some (Er.num 40)).getD (Er.num 0))))=PE (taE B a d n))∧(false=(taE B a d n).isNone)) ⟨(by exact taB2 ‹_› ‹_›),(by(rw[taE2 ‹_› ‹_›];rfl)),(by(rw[taE2 ‹_› ‹_›];rfl))⟩ trivial
  ·have h4:=of_decide_eq_false h4
   refine v_plan (.fs [0,1,2,3,4,6] (.c 5 (.fs [7] (.o 8 (.fs [9] (.o 10 .e)))) (.o 8 (.fs [9] (.o 5 (.fs [7] (.o 10 .e))))))) [1,4] True trivial ?_
   refine v_pick True trivial ?_ ?_
   ·skip
    refine v_plan (.fs [0,1,2,3,4,5,6] .e) [0,1,4] True trivial ?_
    refine v_if (decide ((mget (mput B (pa a d n,pd a d n) ((mget B (pa a d n,pd a d n)).getD 0 - n)) (pa a d n,pd a d n)).getD 0=0)) True trivial (fun h7=>?_) (fun h7=>?_)
    ·have h7:=of_decide_eq_true h7
     refine v_plan (.fs [0,1,2] (.c 3 (.o 4 (.o 5 .e)) (.o 4 (.o 3 (.o 5 .e))))) [] True trivial ?_
     refine v_pick True trivial ?_ ?_
     ·skip
      refine v_al [] (al_e0 (taE B a d n) (by(rw[taE3 ‹_› ‹_›];done))) True trivial ?_
      exact v_ret () [6] ((mdel (mput B (pa a d n,pd a d n) ((mget B (pa a d n,pd a d n)).getD 0 - n)) (pa a d n,pd a d n)=taB B a d n)∧(PE (taE B a d n)=PE (taE B a d n))∧((taE B a d n).isNone=(taE B a d n).isNone)) ⟨(by exact taB3 ‹_› ‹_› ‹_›),rfl,rfl⟩ trivial
     ·skip
      refine v_al [] (al_e0 (taE B a d n) (by(rw[taE3 ‹_› ‹_›];done))) True trivial ?_
      exact v_ret () [6] ((mdel (mput B (pa a d n,pd a d n) ((mget B (pa a d n,pd a d n)).getD 0 - n)) (pa a d n,pd a d n)=taB B a d n)∧(PE (taE B a d n)=PE (taE B a d n))∧((taE B a d n).isNone=(taE B a d n).isNone)) ⟨(by exact taB3 ‹_› ‹_› ‹_›),rfl,rfl⟩ trivial
    ·have h7:=of_decide_eq_false h7
     refine v_al [] (al_e0 (taE B a d n) (by(rw[taE3 ‹_› ‹_›];done))) True trivial ?_
     exact v_ret () [6] ((mput B (pa a d n,pd a d n) ((mget B (pa a d n,pd a d n)).getD 0 - n)=taB B a d n)∧(PE (taE B a d n)=PE (taE B a d n))∧((taE B a d n).isNone=(taE B a d n).isNone)) ⟨(by exact taB4 ‹_› ‹_› ‹_›),rfl,rfl⟩ trivial
   ·skip
    refine v_plan (.fs [0,1,2,3,4,5,6] .e) [0,1,4] True trivial ?_
    refine v_if (decide ((mget (mput B (pa a d n,pd a d n) ((mget B (pa a d n,pd a d n)).getD 0 - n)) (pa a d n,pd a d n)).getD 0=0)) True trivial (fun h8=>?_) (fun h8=>?_)
    ·have h8:=of_decide_eq_true h8
     refine v_plan (.fs [0,1,2] (.c 3 (.o 4 (.o 5 .e)) (.o 4 (.o 3 (.o 5 .e))))) [] True trivial ?_
     refine v_pick True trivial ?_ ?_
     ·skip
      refine v_al [] (al_e0 (taE B a d n) (by(rw[taE3 ‹_› ‹_›];done))) True trivial ?_
      exact v_ret () [6] ((mdel (mput B (pa a d n,pd a d n) ((mget B (pa a d n,pd a d n)).getD 0 - n)) (pa a d n,pd a d n)=taB B a d n)∧(PE (taE B a d n)=PE (taE B a d n))∧((taE B a d n).isNone=(taE B a d n).isNone)) ⟨(by exact taB3 ‹_› ‹_› ‹_›),rfl,rfl⟩ trivial
     ·skip
      refine v_al [] (al_e0 (taE B a d n) (by(rw[taE3 ‹_› ‹_›];done))) True trivial ?_
      exact v_ret () [6] ((mdel (mput B (pa a d n,pd a d n) ((mget B (pa a d n,pd a d n)).getD 0 - n)) (pa a d n,pd a d n)=taB B a d n)∧(PE (taE B a d n)=PE (taE B a d n))∧((taE B a d n).isNone=(taE B a d n).isNone)) ⟨(by exact taB3 ‹_› ‹_› ‹_›),rfl,rfl⟩ trivial
    ·have h8:=of_decide_eq_false h8
     refine v_al [] (al_e0 (taE B a d n) (by(rw[taE3 ‹_› ‹_›];done))) True trivial ?_
     exact v_ret () [6] ((mput B (pa a d n,pd a d n) ((mget B (pa a d n,pd a d n)).getD 0 - n)=taB B a d n)∧(PE (taE B a d n)=PE (taE B a d n))∧((taE B a d n).isNone=(taE B a d n).isNone)) ⟨(by exact taB4 ‹_› ‹_› ‹_›),rfl,rfl⟩ trivial
section
variable {B:BK} {f t d:List UInt8} {n:UInt64}
theorem moE1 (h:(taE B f d n).isNone=false):moE B f t d n=taE B f d n:=by unfold moE;rw[if_pos h]
theorem moE2 (h:(taE B f d n).isNone=true) (h2:(giE (taB B f d n) t d n).isNone=false):moE B f t d n=some (.step ((#[116,111]:Array UInt8).toList) 0 ((giE (taB B f d n) t d n).getD (.num 0))):=by
  unfold moE;rw[if_neg (by rw[h];decide),if_pos h2]
theorem moE3 (h:(taE B f d n).isNone=true) (h2:(giE (taB B f d n) t d n).isNone=true):moE B f t d n=none:=by
  unfold moE;rw[if_neg (by rw[h];decide),if_neg (by rw[h2];decide)]
theorem moB1 (h:(taE B f d n).isNone=false):taB B f d n=moB B f t d n:=by unfold moB taB;rw[if_pos h,if_pos h]
theorem moB2 (h:(taE B f d n).isNone=true) (h2:(giE (taB B f d n) t d n).isNone=false):mput (giB (taB B f d n) t d n) (f,d) ((mget (giB (taB B f d n) t d n) (f,d)).getD 0+n)=moB B f t d n:=by
  have e:giB (taB B f d n) t d n=taB B f d n:=by unfold giB;rw[if_neg (by rw[h2];decide)]
  unfold moB;rw[if_neg (by rw[h];decide),if_pos h2,e];rfl
theorem moB3 (h:(taE B f d n).isNone=true) (h2:(giE (taB B f d n) t d n).isNone=true):giB (taB B f d n) t d n=moB B f t d n:=by
  unfold moB;rw[if_neg (by rw[h];decide),if_neg (by rw[h2];decide)]
end
noncomputable def ccU3_13:Code:=(Tryd.f13.body).getD .skip
theorem Move_ok (B:BK) (f t d:List UInt8) (n:UInt64):FOk EN 13 ⟨[.mp 54 B,.bx 56 [.n 0]],[.p 1 0,.s f,.s t,.s d,.u n],Unit,fun _=>([.mp 54 (moB B f t d n),.bx 56 [.n 0],.pn (PE (moE B f t d n)) true (moE B f t d n).isNone],.n 2),fun _=>True⟩:=by
 refine v_fun Tryd.f13 ccU3_13 MX (fun ν F σ w=>?_) Tryd.func13
 refine v_nl ?_
 refine v_call _ [0,1] (Take_ok (B) (f) (d) (n)) ((f=f)∧(d=d)∧(n=n)∧(@Eq (List (Prod (Prod (List UInt8) (List UInt8)) UInt64)) B B)) ⟨rfl,rfl,rfl,rfl⟩ (fun g1 p2=>?_)
 have p2:True:=p2
 refine v_if (!(taE B f d n).isNone) True trivial (fun h3=>?_) (fun h3=>?_)
 ·have h3:=(nt h3)
  exact v_ret () [3] ((@Eq (List (Prod (Prod (List UInt8) (List UInt8)) UInt64)) (taB B f d n) (moB B f t d n))∧(PE (taE B f d n)=PE (moE B f t d n))∧((taE B f d n).isNone=(moE B f t d n).isNone)) ⟨(by exact moB1 ‹_›),(by(rw[moE1 ‹_›])),(by(rw[moE1 ‹_›]))⟩ trivial
 ·have h3:=(nf h3)
  refine v_call _ [0,1] (Give_ok (taB B f d n) (t) (d) (n)) ((t=t)∧(d=d)∧(n=n)∧(@Eq (List (Prod (Prod (List UInt8) (List UInt8)) UInt64)) (taB B f d n) (taB B f d n))) ⟨rfl,rfl,rfl,rfl⟩ (fun g4 p5=>?_)
  have p5:True:=p5
  refine v_if (!(giE (taB B f d n) t d n).isNone) True trivial (fun h6=>?_) (fun h6=>?_)
  ·have h6:=(nt h6)
   refine v_plan (.fs [0,1,2,3,4,5,6,8] (.c 7 (.fs [9] (.o 10 (.fs [11] (.o 12 .e)))) (.o 10 (.fs [11] (.o 7 (.fs [9] (.o 12 .e))))))) [1] True trivial ?_
   refine v_pick True trivial ?_ ?_
   ·skip
    refine v_call _ [4] (faultAt2_ok (#[116,111].toList) (0) (giE (taB B f d n) t d n) ‹_›) ((#[(116:UInt8),(111:UInt8)].toList=#[(116:UInt8),(111:UInt8)].toList)∧((0:Int)=(0:Int))∧(PE (giE (taB B f d n) t d n)=PE (giE (taB B f d n) t d n))∧((giE (taB B f d n) t d n).isNone=(giE (taB B f d n) t d n).isNone)) ⟨rfl,rfl,rfl,rfl⟩ (fun g7 p8=>?_)
    have p8:True:=p8
    exact v_ret () [6] ((mput (giB (taB B f d n) t d n) (f,d) ((mget (giB (taB B f d n) t d n) (f,d)).getD 0+n)=moB B f t d n)∧(PE (some (Er.step #[116,111].toList 0 ((giE (taB B f d n) t d n).getD (Er.num 0))))=PE (moE B f t d n))∧(false=(moE B f t d n).isNone)) ⟨(by exact moB2 ‹_› ‹_›),(by(rw[moE2 ‹_› ‹_›])),(by(rw[moE2 ‹_› ‹_›];rfl))⟩ trivial
   ·skip
    refine v_call _ [4] (faultAt2_ok (#[116,111].toList) (0) (giE (taB B f d n) t d n) ‹_›) ((#[(116:UInt8),(111:UInt8)].toList=#[(116:UInt8),(111:UInt8)].toList)∧((0:Int)=(0:Int))∧(PE (giE (taB B f d n) t d n)=PE (giE (taB B f d n) t d n))∧((giE (taB B f d n) t d n).isNone=(giE (taB B f d n) t d n).isNone)) ⟨rfl,rfl,rfl,rfl⟩ (fun g9 p10=>?_)
    have p10:True:=p10
    exact v_ret () [6] ((mput (giB (taB B f d n) t d n) (f,d) ((mget (giB (taB B f d n) t d n) (f,d)).getD 0+n)=moB B f t d n)∧(PE (some (Er.step #[116,111].toList 0 ((giE (taB B f d n) t d n).getD (Er.num 0))))=PE (moE B f t d n))∧(false=(moE B f t d n).isNone)) ⟨(by exact moB2 ‹_› ‹_›),(by(rw[moE2 ‹_› ‹_›])),(by(rw[moE2 ‹_› ‹_›];rfl))⟩ trivial
  ·have h6:=(nf h6)
   refine v_al [] (al_e0 (moE B f t d n) (by(rw[moE3 ‹_› ‹_›];done))) True trivial ?_
   exact v_ret () [5] ((@Eq (List (Prod (Prod (List UInt8) (List UInt8)) UInt64)) (giB (taB B f d n) t d n) (moB B f t d n))∧(PE (moE B f t d n)=PE (moE B f t d n))∧((moE B f t d n).isNone=(moE B f t d n).isNone)) ⟨(by exact moB3 ‹_› ‹_›),rfl,rfl⟩ trivial
abbrev nm (k:UInt8) (raw:List UInt8):List UInt8:=if k % 16=15 then raw else[97+k % 5]
theorem nm1 {k:UInt8} {raw:List UInt8} (h:k % 16=15):raw=nm k raw:=by unfold nm;rw[if_pos h]
theorem nm2 {k:UInt8} {raw:List UInt8} (h:¬ k % 16=15):[97+k % 5]=nm k raw:=by unfold nm;rw[if_neg h]
noncomputable def ccV1_10:Code:=(Tryd.f10.body).getD .skip
theorem name_ok (k:UInt8) (raw:List UInt8):FOk EN 10 ⟨[],[.c k,.s raw],Unit,fun _=>([],.s (nm k raw)),fun _=>True⟩:=by
 refine v_fun Tryd.f10 ccV1_10 MX (fun ν F σ w=>?_) Tryd.func10
 refine v_nl ?_
 refine v_if (decide (k % 16=15)) (((16:UInt8)≠(0:UInt8))) (by decide) (fun h1=>?_) (fun h1=>?_)
 ·have h1:=of_decide_eq_true h1
  exact v_ret () [] ((raw=nm k raw)) (by exact nm1 ‹_›) trivial
 ·have h1:=of_decide_eq_false h1
  exact v_ret () [] (((5:UInt8)≠(0:UInt8))∧([97+k % 5]=nm k raw)) ⟨(by decide),(by exact nm2 ‹_›)⟩ trivial
abbrev aw1:BK:=giB [] ((#[97]:Array UInt8).toList) ((#[120]:Array UInt8).toList) 5
abbrev aw2:BK:=moB aw1 ((#[97]:Array UInt8).toList) ((#[98]:Array UInt8).toList) ((#[120]:Array UInt8).toList) 3
noncomputable def ccV1_8:Code:=(Tryd.f8.body).getD .skip
theorem Awake12_aux (e1:(giE [] ((#[97]:Array UInt8).toList) ((#[120]:Array UInt8).toList) 5).isNone=true) (e2:(moE aw1 ((#[97]:Array UInt8).toList) ((#[98]:Array UInt8).toList) ((#[120]:Array UInt8).toList) 3).isNone=true) (v1:bget aw2 ((#[97]:Array UInt8).toList) ((#[120]:Array UInt8).toList)=2) (v2:bget aw2 ((#[98]:Array UInt8).toList) ((#[120]:Array UInt8).toList)=3) (t1:codeO (taE aw2 ((#[97]:Array UInt8).toList) ((#[120]:Array UInt8).toList) 3)=40) (d1:depO (taE aw2 ((#[97]:Array UInt8).toList) ((#[120]:Array UInt8).toList) 3)≤3):FOk EN 8 ⟨[.pr etP],[],Unit,fun _=>([.pr etP],.b true),fun _=>True⟩:=by
 refine v_fun Tryd.f8 ccV1_8 MX (fun ν F σ w=>?_) Tryd.func8
 refine v_nl ?_
 refine v_call _ [] (New_ok) True trivial (fun g1 p2=>?_)
 have p2:True:=p2
 refine v_call _ [2,3] (Give_ok ([]) (#[97].toList) (#[120].toList) (5)) ((#[(97:UInt8)].toList=#[(97:UInt8)].toList)∧(#[(120:UInt8)].toList=#[(120:UInt8)].toList)∧((5:UInt64)=(5:UInt64))∧(Eq (α:=List ((List UInt8 × List UInt8) × UInt64)) [] [])) ⟨rfl,rfl,rfl,rfl⟩ (fun g3 p4=>?_)
 have p4:True:=p4
 refine v_call _ [2,3] (Move_ok (giB [] #[97].toList #[120].toList 5) (#[97].toList) (#[98].toList) (#[120].toList) (3)) ((#[(97:UInt8)].toList=#[(97:UInt8)].toList)∧(#[(98:UInt8)].toList=#[(98:UInt8)].toList)∧(#[(120:UInt8)].toList=#[(120:UInt8)].toList)∧((3:UInt64)=(3:UInt64))∧(giB [] #[(97:UInt8)].toList #[(120:UInt8)].toList (5:UInt64)=giB [] #[(97:UInt8)].toList #[(120:UInt8)].toList (5:UInt64))) ⟨rfl,rfl,rfl,rfl,rfl⟩ (fun g5 p6=>?_)
 have p6:True:=p6
 refine v_guard 11 ((giE [] #[97].toList #[120].toList 5).isNone) True trivial (fun h7=>?_) (fun h7=>?_)
 ·skip
  refine v_guard 15 ((moE (giB [] #[97].toList #[120].toList 5) #[97].toList #[98].toList #[120].toList 3).isNone) True trivial (fun h8=>?_) (fun h8=>?_)
  ·skip
   refine v_call _ [2,3] (Has_ok (moB (giB [] #[97].toList #[120].toList 5) #[97].toList #[98].toList #[120].toList 3) (#[97].toList) (#[120].toList)) ((#[(97:UInt8)].toList=#[(97:UInt8)].toList)∧(#[(120:UInt8)].toList=#[(120:UInt8)].toList)∧(moB (giB [] #[(97:UInt8)].toList #[(120:UInt8)].toList (5:UInt64)) #[(97:UInt8)].toList #[(98:UInt8)].toList #[(120:UInt8)].toList (3:UInt64)=moB (giB [] #[(97:UInt8)].toList #[(120:UInt8)].toList (5:UInt64)) #[(97:UInt8)].toList #[(98:UInt8)].toList #[(120:UInt8)].toList (3:UInt64))) ⟨rfl,rfl,rfl⟩ (fun g9 p10=>?_)
   have p10:True:=p10
   refine v_guard 20 (decide (bget (moB (giB [] #[97].toList #[120].toList 5) #[97].toList #[98].toList #[120].toList 3) #[97].toList #[120].toList=2)) True trivial (fun h11=>?_) (fun h11=>?_)
   ·have h11:=of_decide_eq_true h11
    refine v_call _ [2,3] (Has_ok (moB (giB [] #[97].toList #[120].toList 5) #[97].toList #[98].toList #[120].toList 3) (#[98].toList) (#[120].toList)) ((#[(98:UInt8)].toList=#[(98:UInt8)].toList)∧(#[(120:UInt8)].toList=#[(120:UInt8)].toList)∧(moB (giB [] #[(97:UInt8)].toList #[(120:UInt8)].toList (5:UInt64)) #[(97:UInt8)].toList #[(98:UInt8)].toList #[(120:UInt8)].toList (3:UInt64)=moB (giB [] #[(97:UInt8)].toList #[(120:UInt8)].toList (5:UInt64)) #[(97:UInt8)].toList #[(98:UInt8)].toList #[(120:UInt8)].toList (3:UInt64))) ⟨rfl,rfl,rfl⟩ (fun g12 p13=>?_)
    have p13:True:=p13
    refine v_guard 25 (decide (bget (moB (giB [] #[97].toList #[120].toList 5) #[97].toList #[98].toList #[120].toList 3) #[98].toList #[120].toList=3)) True trivial (fun h14=>?_) (fun h14=>?_)
    ·have h14:=of_decide_eq_true h14
     refine v_call _ [2,3] (Take_ok (moB (giB [] #[97].toList #[120].toList 5) #[97].toList #[98].toList #[120].toList 3) (#[97].toList) (#[120].toList) (3)) ((#[(97:UInt8)].toList=#[(97:UInt8)].toList)∧(#[(120:UInt8)].toList=#[(120:UInt8)].toList)∧((3:UInt64)=(3:UInt64))∧(moB (giB [] #[(97:UInt8)].toList #[(120:UInt8)].toList (5:UInt64)) #[(97:UInt8)].toList #[(98:UInt8)].toList #[(120:UInt8)].toList (3:UInt64)=moB (giB [] #[(97:UInt8)].toList #[(120:UInt8)].toList (5:UInt64)) #[(97:UInt8)].toList #[(98:UInt8)].toList #[(120:UInt8)].toList (3:UInt64))) ⟨rfl,rfl,rfl,rfl⟩ (fun g15 p16=>?_)
     have p16:True:=p16
     refine v_call _ [0,6] (Code_ok (taE (moB (giB [] #[97].toList #[120].toList 5) #[97].toList #[98].toList #[120].toList 3) #[97].toList #[120].toList 3) (by decide)) ((etP=etP)∧(PE (taE (moB (giB [] #[97].toList #[120].toList 5) #[97].toList #[98].toList #[120].toList 3) #[97].toList #[120].toList 3)=PE (taE (moB (giB [] #[97].toList #[120].toList 5) #[97].toList #[98].toList #[120].toList 3) #[97].toList #[120].toList 3))∧((taE (moB (giB [] #[97].toList #[120].toList 5) #[97].toList #[98].toList #[120].toList 3) #[97].toList #[120].toList 3).isNone=(taE (moB (giB [] #[97].toList #[120].toList 5) #[97].toList #[98].toList #[120].toList 3) #[97].toList #[120].toList 3).isNone)) ⟨rfl,rfl,rfl⟩ (fun g17 p18=>?_)
     have p18:True:=p18
     exact v_ret () [] ((decide (codeO (taE (moB (giB [] #[97].toList #[120].toList 5) #[97].toList #[98].toList #[120].toList 3) #[97].toList #[120].toList 3)=40)=true)∧(etP=etP)) ⟨rfl,rfl⟩ trivial
    ·have h14:=of_decide_eq_false h14
     contradiction
   ·have h11:=of_decide_eq_false h11
    contradiction
  ·skip
   contradiction
 ·skip
  contradiction
theorem Awake12_ok:FOk EN 8 ⟨[.pr etP],[],Unit,fun _=>([.pr etP],.b true),fun _=>True⟩:=Awake12_aux (by decide) (by decide) (by decide) (by decide) (by decide) (by decide)
noncomputable def ccA1_41:Code:=(Tryd.f41.body).getD .skip
theorem isNaN_ok (a:List UInt8):FOk EN 41 ⟨[],[.s a],Unit,fun _=>([],.b false),fun _=>True⟩:=by
 refine v_fun Tryd.f41 ccA1_41 MX (fun ν F σ w=>?_) Tryd.func41
 refine v_nl ?_
 exact v_ret () [] ((decide (a≠a)=false)) (by exact decide_eq_false (fun q=>q rfl)) trivial
theorem cb_range:∀ a b:List UInt8,Lib.compareBytes a b = -1∨Lib.compareBytes a b=0∨Lib.compareBytes a b=1
  | [],[]=>.inr (.inl rfl)
  | [],_::_=>.inl rfl
  | _::_,[]=>.inr (.inr rfl)
  | a :: xs, b :: ys => by
    unfold Lib.compareBytes
    split
    · exact .inl rfl
    · split
      · exact .inr (.inr rfl)
      · exact cb_range xs ys
theorem cmpB_lt {a b:List UInt8} (h:Op.bytesLess a b=true) : -1=Lib.compareBytes a b:=by
  have:=less_t h
  rcases cb_range a b with h | h | h <;> omega
theorem cmpB_gt {a b:List UInt8} (h1:Op.bytesLess a b=false) (h:(Op.bytesLess a b || decide (a=b))=false):1=Lib.compareBytes a b:=by
  have:=less_f h1
  have hn:¬ Lib.compareBytes a b=0:=fun e=>by rw[cmp_zero] at e;rw[e] at h;simp at h
  rcases cb_range a b with h | h | h <;> omega
theorem cmpB_eq {a b:List UInt8} (h1:Op.bytesLess a b=false) (h:(Op.bytesLess a b || decide (a=b))=true):0=Lib.compareBytes a b:=by
  rw[h1,Bool.false_or,decide_eq_true_eq] at h
  exact(cmp_zero.2 h).symm
noncomputable def ccA1_32:Code:=(Tryd.f32.body).getD .skip
theorem Compare_ok (a b:List UInt8):FOk EN 32 ⟨[],[.s a,.s b],Unit,fun _=>([],.i (Lib.compareBytes a b)),fun _=>True⟩:=by
 refine v_fun Tryd.f32 ccA1_32 MX (fun ν F σ w=>?_) Tryd.func32
 refine v_nl ?_
 refine v_call _ [] (isNaN_ok (a)) ((a=a)) rfl (fun g1 p2=>?_)
 have p2:True:=p2
 refine v_call _ [] (isNaN_ok (b)) ((b=b)) rfl (fun g3 p4=>?_)
 have p4:True:=p4
 refine v_if (false) True trivial (fun h5=>?_) (fun h5=>?_)
 ·skip
  contradiction
 ·skip
  refine v_if (false) True trivial (fun h6=>?_) (fun h6=>?_)
  ·skip
   contradiction
  ·skip
   refine v_if (Op.bytesLess a b) True trivial (fun h7=>?_) (fun h7=>?_)
   ·skip
    exact v_ret () [] ((-1=Lib.compareBytes a b)) (by exact cmpB_lt ‹_›) trivial
   ·skip
    refine v_if (!(Op.bytesLess a b || decide (a=b))) True trivial (fun h8=>?_) (fun h8=>?_)
    ·have h8:=(nt h8)
     exact v_ret () [] ((1=Lib.compareBytes a b)) (by exact cmpB_gt ‹_› ‹_›) trivial
    ·have h8:=(nf h8)
     exact v_ret () [] ((0=Lib.compareBytes a b)) (by exact cmpB_eq ‹_› ‹_›) trivial
def orI:List Int→Int
  | []=>0
  | x::l=>if x≠0 then x else orI l
section
variable {l:List Int} {i:Nat}
abbrev orQ (l:List Int) (i:Nat):Prop:=orI (l.drop i)=orI l∧i≤l.length
theorem or_drop (h:(i:Int)<l.length):l.drop i=l.getD i 0::l.drop (i+1):=by
  have h':i<l.length:=by omega
  rw[List.drop_eq_getElem_cons h',List.getD_eq_getElem?_getD,List.getElem?_eq_getElem h'];rfl
theorem or1 (h:orQ l i) (hi:(i:Int)<l.length) (e:l.getD i 0≠0):l.getD i 0=orI l:=by rw[← h.1,or_drop hi,orI,if_pos e]
theorem or2 (h:orQ l i) (hi:(i:Int)<l.length) (e:¬ l.getD i 0≠0):orQ l (i+1)∧l.length - (i+1)<l.length - i:=by
  refine⟨⟨?_,by omega⟩,by omega⟩
  rw[← h.1,or_drop hi,orI,if_neg e]
theorem or3 (h:orQ l i) (hi:¬ (i:Int)<l.length):0=orI l:=by rw[← h.1,List.drop_of_length_le (by omega)];rfl
end
noncomputable def ccA1_31:Code:=(Tryd.f31.body).getD .skip
theorem Or_ok (l:List Int) (hl:l.length≤1000):FOk EN 31 ⟨[.rd 3 l],[.n 0],Unit,fun _=>([.rd 3 l],.i (orI l)),fun _=>True⟩:=by
 refine v_fun Tryd.f31 ccA1_31 MX (fun ν F σ w=>?_) Tryd.func31
 refine v_nl ?_
 refine v_loop (fun i:Nat=>([(8,.i i)],[])) (fun i=>orQ l i) (fun i=>l.length - i) 0 [] (((0:Int)=(↑(0:Nat):Int))) rfl (by exact⟨rfl,Nat.zero_le _⟩) (fun i hk1=>?_)
 refine v_if (decide ((↑i:Int)<(↑l.length:Int))) True trivial (fun h2=>?_) (fun h2=>?_)
 ·have h2:=of_decide_eq_true h2
  refine v_if (decide (l.getD (↑i:Int).toNat 0≠0)) ((0≤(↑i:Int)∧(↑i:Int)<(↑l.length:Int))) (by omega) (fun h3=>?_) (fun h3=>?_)
  ·have h3:=of_decide_eq_true h3
   refine v_leave .rt True trivial ?_
   exact v_ret () [] ((l.getD (↑i:Int).toNat 0=orI l)∧(l=l)) ⟨(by exact or1 ‹_› ‹_› ‹_›),rfl⟩ trivial
  ·have h3:=of_decide_eq_false h3
   exact v_back (i+1) [] ((I64 (↑i+1))∧((↑i:Int)+1=(↑(i+1):Int))) ⟨(by(unfold I64;omega)),rfl⟩ (show orQ l (i+1)∧l.length - (i+1)<l.length - i from(by exact or2 ‹_› ‹_› ‹_›))
 ·have h2:=of_decide_eq_false h2
  refine v_leave (.ex 0) True trivial ?_
  exact v_ret () [] ((0=orI l)∧(l=l)) ⟨(by exact or3 ‹_› ‹_›),rfl⟩ trivial
abbrev cmpC (x y:Coin):Int:=orI [Lib.compareBytes x.account y.account,Lib.compareBytes x.denom y.denom]
noncomputable def ccA2_30:Code:=(Tryd.f30.body).getD .skip
theorem Less_ok (x y:Coin):FOk EN 30 ⟨[],[.a [.s x.account,.s x.denom,.u x.amount],.a [.s y.account,.s y.denom,.u y.amount]],Unit,fun _=>([],.i (cmpC x y)),fun _=>True⟩:=by
 refine v_fun Tryd.f30 ccA2_30 MX (fun ν F σ w=>?_) Tryd.func30
 refine v_nl ?_
 refine v_plan (.fs [0,1,2,3,5,6,7,8] (.o 4 (.o 9 (.o 10 (.o 11 (.fs [12] .e)))))) [1,2] True trivial ?_
 refine v_call _ [] (Compare_ok (x.account) (y.account)) ((x.account=x.account)∧(y.account=y.account)) ⟨rfl,rfl⟩ (fun g1 p2=>?_)
 have p2:True:=p2
 refine v_call _ [] (Compare_ok (x.denom) (y.denom)) ((x.denom=x.denom)∧(y.denom=y.denom)) ⟨rfl,rfl⟩ (fun g3 p4=>?_)
 have p4:True:=p4
 refine v_call _ [3] (Or_ok ([Lib.compareBytes x.account y.account,Lib.compareBytes x.denom y.denom]) (by exact(show 2≤1000 by decide))) (([Lib.compareBytes x.account y.account,Lib.compareBytes x.denom y.denom]=[Lib.compareBytes x.account y.account,Lib.compareBytes x.denom y.denom])) rfl (fun g5 p6=>?_)
 have p6:True:=p6
 exact v_ret () [] ((orI [Lib.compareBytes x.account y.account,Lib.compareBytes x.denom y.denom]=cmpC x y)) rfl trivial
noncomputable def ccA2_28:Code:=(Tryd.f28.body).getD .skip
theorem Keys_ok (B:BK):FOk EN 28 ⟨[.mp 54 B],[.n 0],Unit,fun _=>([.mp 54 B,.bx 54 [.n 0]],.f 38 [] [.p 1 0]),fun _=>True⟩:=by
 refine v_fun Tryd.f28 ccA2_28 MX (fun ν F σ w=>?_) Tryd.func28
 refine v_nl ?_
 exact v_ret () [2] ((38=38)∧(@Eq (List (Prod (Prod (List UInt8) (List UInt8)) UInt64)) B B)) ⟨rfl,rfl⟩ trivial
end Go.Proofs.YtblnnkkelkjbiaaDoor.X
set_option linter.unusedVariables false
set_option linter.unusedSimpArgs false
set_option maxRecDepth 100000
namespace Go.Proofs.YtblnnkkelkjbiaaDoor.X
open Go Go.RowKit Go.Proofs Go.Proofs.YtblnnkkelkjbiaaDoor.E Go.Sort Go.Shelf
def slf_ren:Go.Shelf.Ren:=⟨fun | 6=>29 | 14=>39 | 15=>40 | 20=>46 | 21=>47 | 22=>48 | 23=>49 | 24=>50 | 25=>51 | 26=>52 | 27=>53 | 28=>54 | 29=>55 | 46=>57 | 47=>58 | 48=>59 | 49=>60 | 50=>61 | 57=>66 | n=>n,fun | 0=>0 | 3=>3 | 4=>4 | 5=>5 | 9=>9 | 22=>27 | 24=>49 | 25=>71 | 39=>91 | 45=>109 | 46=>110 | 50=>114 | 53=>117 | 55=>30 | 66=>119 | 70=>123 | 76=>127 | 77=>128 | n=>n,fun n=>n⟩
theorem slf:SlLaysF0.n6 Tryd.prog slf_ren where
  mixed:=by kernel_rfl
  f6:=⟨"slices.SortFunc[[]ferryman/api.Coin,ferryman/api.Coin]",by decide,Tryd.func29.trans (congrArg some (by kernel_rfl))⟩
  f14:=⟨"slices.pdqsortCmpFunc[ferryman/api.Coin]",by decide,Tryd.func39.trans (congrArg some (by kernel_rfl))⟩
  f15:=Tryd.func40.trans (congrArg some (by kernel_rfl))
  f20:=⟨"slices.insertionSortCmpFunc[ferryman/api.Coin]",by decide,Tryd.func46.trans (congrArg some (by kernel_rfl))⟩
  f21:=⟨"slices.heapSortCmpFunc[ferryman/api.Coin]",by decide,Tryd.func47.trans (congrArg some (by kernel_rfl))⟩
  f22:=⟨"slices.breakPatternsCmpFunc[ferryman/api.Coin]",by decide,Tryd.func48.trans (congrArg some (by kernel_rfl))⟩
  f23:=⟨"slices.choosePivotCmpFunc[ferryman/api.Coin]",by decide,Tryd.func49.trans (congrArg some (by kernel_rfl))⟩
  f24:=⟨"slices.reverseRangeCmpFunc[ferryman/api.Coin]",by decide,Tryd.func50.trans (congrArg some (by kernel_rfl))⟩
  f25:=⟨"slices.partialInsertionSortCmpFunc[ferryman/api.Coin]",by decide,Tryd.func51.trans (congrArg some (by kernel_rfl))⟩
  f26:=⟨"slices.partitionEqualCmpFunc[ferryman/api.Coin]",by decide,Tryd.func52.trans (congrArg some (by kernel_rfl))⟩
  f27:=⟨"slices.partitionCmpFunc[ferryman/api.Coin]",by decide,Tryd.func53.trans (congrArg some (by kernel_rfl))⟩
  f28:=Tryd.func54.trans (congrArg some (by kernel_rfl))
  f29:=Tryd.func55.trans (congrArg some (by kernel_rfl))
  f46:=⟨"slices.siftDownCmpFunc[ferryman/api.Coin]",by decide,Tryd.func57.trans (congrArg some (by kernel_rfl))⟩
  f47:=Tryd.func58.trans (congrArg some (by kernel_rfl))
  f48:=Tryd.func59.trans (congrArg some (by kernel_rfl))
  f49:=⟨"slices.medianAdjacentCmpFunc[ferryman/api.Coin]",by decide,Tryd.func60.trans (congrArg some (by kernel_rfl))⟩
  f50:=⟨"slices.medianCmpFunc[ferryman/api.Coin]",by decide,Tryd.func61.trans (congrArg some (by kernel_rfl))⟩
  f57:=⟨"slices.order2CmpFunc[ferryman/api.Coin]",by decide,Tryd.func66.trans (congrArg some (by kernel_rfl))⟩
  t0:=Tryd.underlying0
  a0:=Tryd.isAgg0
  z0:=Tryd.sizeOf0
  v0:=Tryd.zeroValue0
  t3:=Tryd.underlying3
  a3:=Tryd.isAgg3
  z3:=Tryd.sizeOf3
  v3:=Tryd.zeroValue3
  t4:=Tryd.underlying4
  a4:=Tryd.isAgg4
  z4:=Tryd.sizeOf4
  v4:=Tryd.zeroValue4
  t5:=Tryd.underlying5
  a5:=Tryd.isAgg5
  z5:=Tryd.sizeOf5
  v5:=Tryd.zeroValue5
  t9:=Tryd.underlying9
  a9:=Tryd.isAgg9
  z9:=Tryd.sizeOf9
  v9:=Tryd.zeroValue9
  t22:=Tryd.underlying27
  a22:=Tryd.isAgg27
  z22:=Tryd.sizeOf27
  v22:=Tryd.zeroValue27
  t25:=Tryd.underlying71
  a25:=Tryd.isAgg71
  z25:=Tryd.sizeOf71
  v25:=Tryd.zeroValue71
  t39:=Tryd.underlying91
  a39:=Tryd.isAgg91
  z39:=Tryd.sizeOf91
  v39:=Tryd.zeroValue91
  t45:=Tryd.underlying109
  a45:=Tryd.isAgg109
  z45:=Tryd.sizeOf109
  v45:=Tryd.zeroValue109
  t46:=Tryd.underlying110
  a46:=Tryd.isAgg110
  z46:=Tryd.sizeOf110
  v46:=Tryd.zeroValue110
  t50:=Tryd.underlying114
  a50:=Tryd.isAgg114
  z50:=Tryd.sizeOf114
  v50:=Tryd.zeroValue114
  t53:=Tryd.underlying117
  a53:=Tryd.isAgg117
  z53:=Tryd.sizeOf117
  v53:=Tryd.zeroValue117
  t55:=Tryd.underlying30
  a55:=Tryd.isAgg30
  z55:=Tryd.sizeOf30
  v55:=Tryd.zeroValue30
  t66:=Tryd.underlying119
  a66:=Tryd.isAgg119
  z66:=Tryd.sizeOf119
  v66:=Tryd.zeroValue119
  t70:=Tryd.underlying123
  a70:=Tryd.isAgg123
  z70:=Tryd.sizeOf123
  v70:=Tryd.zeroValue123
  t76:=Tryd.underlying127
  a76:=Tryd.isAgg127
  z76:=Tryd.sizeOf127
  v76:=Tryd.zeroValue127
  t77:=Tryd.underlying128
  a77:=Tryd.isAgg128
  z77:=Tryd.sizeOf128
  v77:=Tryd.zeroValue128
def encC (c:Coin):List Value:=[sv c.account,sv c.denom,.int .u64 (c.amount.toNat:Int)]
instance instC:Inhabited Coin:=⟨⟨[],[],0⟩⟩
theorem encC_len (c:Coin):(encC c).length=3:=rfl
theorem coin_rep {σ:Nat→Nat} {w:World} {x:Coin} {c:List Value}:tCoin.rep σ w x c↔c=encC x:=by
  constructor
  · rintro ⟨c1, c2, e, h1, c3, c4, e2, h2, h3⟩
    have h1':c1=[sv x.account]:=h1
    have h2':c3=[sv x.denom]:=h2
    have h3':c4=[.int .u64 (x.amount.toNat:Int)]:=h3
    subst h1';subst h2';subst h3';subst e2;exact e
  · intro e;exact⟨[sv x.account],[sv x.denom,.int .u64 (x.amount.toNat:Int)],e,rfl,[sv x.denom],[.int .u64 (x.amount.toNat:Int)],rfl,rfl,rfl⟩
theorem reps_coin {σ:Nat→Nat} {w:World}:∀ {xs:List Coin} {cs:List Value},Reps (tCoin.rep σ w) xs cs↔cs=(xs.map encC).flatten
  | [],cs=>Iff.rfl
  | x :: xs, cs => by
    constructor
    · rintro ⟨c, r, e, hx, hr⟩
      rw[coin_rep.1 hx,reps_coin.1 hr] at e;exact e
    · intro e;exact⟨encC x,(xs.map encC).flatten,e,coin_rep.2 rfl,reps_coin.2 rfl⟩
theorem flat_get:∀(l:List Coin) (t:Nat),t<l.length*3→((l.map encC).flatten)[t]? = (encC (l.getD (t / 3) default))[t % 3]?
  | [],t,h=>by simp at h
  | x :: r, t, h => by
    rw[List.map_cons,List.flatten_cons]
    by_cases c:t<3
    · have h1 : t / 3 = 0 := by omega
      have h2:t % 3=t:=by omega
      rw[List.getElem?_append_left (by rw[encC_len];exact c),h1,h2];rfl
    · have h1 : t / 3 = (t - 3) / 3 + 1 := by omega
      have h2:t % 3=(t - 3) % 3:=by omega
      rw[List.getElem?_append_right (by rw[encC_len];omega),encC_len,flat_get r (t - 3) (by rw[List.length_cons] at h;omega),h1,h2];rfl
theorem flat_len (l:List Coin):((l.map encC).flatten).length=l.length*3:=by
  induction l with
  | nil=>rfl
  | cons x r ih=>rw[List.map_cons,List.flatten_cons,List.length_append,ih,encC_len,List.length_cons];omega
theorem flatK_eq (d:Array Coin):flatK encC 3 d=((d.toList.map encC).flatten).toArray:=by
  refine ext_get! (by simp only[size_flatK,List.size_toArray,flat_len,Array.length_toList]) fun t ht=>?_
  rw[size_flatK] at ht
  rw[get_flatK _ _ _ _ ht]
  have h:=flat_get d.toList t (by rw[Array.length_toList];exact ht)
  have h3:t / 3<d.size:=by omega
  have e:d.toList.getD (t / 3) default=d[t / 3]!:=by
    rw[getElem!_pos d _ h3,List.getD_eq_getElem?_getD,List.getElem?_eq_getElem (by simpa using h3)];simp
  rw[e] at h
  have e2:(((d.toList.map encC).flatten).toArray)[t]! = ((d.toList.map encC).flatten)[t]!:=by simp
  rw[e2,List.getElem!_eq_getElem?_getD,List.getElem!_eq_getElem?_getD,h]
theorem cmpC_lt (x y:Coin):cmpC x y<0↔ltC x y:=by
  unfold cmpC orI ltC klt
  by_cases h:Lib.compareBytes x.account y.account=0
  · rw [if_neg (by simpa using h)]
    have e:=cmp_zero.1 h
    unfold orI
    by_cases h2:Lib.compareBytes x.denom y.denom=0
    · rw[if_neg (by simpa using h2)];unfold orI;rw[h,h2];simp
    · rw[if_pos h2,h];simp[e]
  · rw [if_pos h]
    have:¬ x.account=y.account:=fun e=>h (cmp_zero.2 e)
    simp[this]
theorem lt_c (x y:Coin):ltOf cmpC x y=true↔ltC x y:=by unfold ltOf;rw[decide_eq_true_eq];exact cmpC_lt x y
theorem nlt_c (x y:Coin):ltOf cmpC x y=false↔¬ ltC x y:=by rw[← lt_c];cases ltOf cmpC x y <;> simp
theorem ltC_key {x y z:Coin} (h:ckey x=ckey y) (k:ltC x z):ltC y z:=by
  unfold ckey at h;injection h with h1 h2;unfold ltC at *;rw[h1,h2] at k;exact k
theorem swoC:SWO (ltOf cmpC) where
  irrefl x:=(nlt_c x x).2 (ltC_irr _)
  trans x y z h1 h2:=(lt_c x z).2 (ltC_trans ((lt_c x y).1 h1) ((lt_c y z).1 h2))
  ntrans x y z h1 h2:=(nlt_c x z).2 fun h=>by
    rw[nlt_c] at h1 h2
    by_cases e:ckey x=ckey y
    · exact h2 (ltC_key e h)
    · exact(ltC_tot e).elim h1 fun q=>h2 (ltC_trans q h)
theorem stp_grow {M:Nat→Prop} {σ σ':Nat→Nat} {w w':World} (hM:∀ b,¬ M b) (h:Stp M σ w σ' w'):∃ q os,w'=grow (w.drewN q) os:=by
  refine⟨w'.drawn - w.drawn,w'.heap.extract w.heap.size w'.heap.size,?_⟩
  have h1:=h.os;have h2:=h.tape;have h3:=h.output;have h4:=h.drawn;have h5:=h.size;have h6:=h.block
  obtain⟨H,T,D,O,U⟩:=w
  obtain⟨H',T',D',O',U'⟩:=w'
  simp only at h1 h2 h3 h4 h5 h6
  subst h1;subst h2;subst h3
  unfold grow World.drewN
  have e1:D+(D' - D)=D':=by omega
  have e2:H'=H++H'.extract H.size H'.size:=by
    refine Array.ext (by simp;omega) fun i hi hi2=>?_
    by_cases c:i<H.size
    · have := h6 i c (hM i)
      rw[Array.getElem?_eq_getElem hi,Array.getElem?_eq_getElem c] at this
      rw[Array.getElem_append_left c];injection this
    · rw [Array.getElem_append_right (by omega), Array.getElem_extract]
      congr 1;omega
  simp only[e1]
  rw[← e2]
theorem less_lays (x y:Coin) (W:World):Calls Tryd.prog 30 #[.agg (encC x).toArray,.agg (encC y).toArray] W fun e w'=>e=.returned (.int .i64 (cmpC x y))∧∃ q os',w'=grow (W.drewN q) os':=by
  have h:=(Less_ok x y).2 (fun _=>.bool false) (fun _ _=>False) (fun _=>0) W ⟨fun _=>rfl,fun k e he=>by simp at he,fun k e he=>by simp at he,fun k m b h=>h.elim,fun k b h=>h.elim⟩
  refine Calls.mono h ?_
  rintro e w' ⟨g,ν',F',σ',e1,pk⟩
  exact⟨e1,stp_grow (fun b ⟨i,h⟩=>h) pk.st⟩
section
variable {σ:Nat→Nat} {w:World}
theorem sortV_stp {g:Nat} (hg:g<w.heap.size) (hσ:σ g=0) (m:Nat) (d:Array Value) (os:Array Obj):Stp (· = g) σ w σ (sortWorld id w g 0 m d os):=by
  have hb:∀ b,b<w.heap.size→b≠g→(sortWorld id w g 0 m d os).heap[b]? = w.heap[b]?:=fun b hb hn=>by
    unfold sortWorld
    rw[heap_grow_old _ _ (by rw[size_putRow];exact hb)]
    show(w.heap.modify g _)[b]? = _
    rw[Array.getElem?_modify,if_neg (Ne.symm hn)]
  refine⟨rfl,rfl,rfl,?_,fun b h hn=>hb b h hn,fun _ _ _=>rfl,fun b o h ho=>?_,fun _ _=>Nat.le_refl _,Nat.le_add_right _ _⟩
  · unfold sortWorld;rw[size_grow,size_putRow];exact Nat.le_add_right _ _
  · have hn : b ≠ g := by rintro rfl; rw [hσ] at ho; omega
    exact World.cell?_of_block (hb b h hn)
theorem sortV_row {g:Nat} {cur:Array Value} {e:TypeId} (hg:w.heap[g]? = some (.cells cur e (0,0))) {vs:List Value} (hn:vs.length≤cur.size) (m:Nat) (os:Array Obj) :
    ∃ cur',(sortWorld id w g 0 m vs.toArray os).heap[g]? = some (.cells cur' e (0,0))∧cur'.size=cur.size∧cur'.toList.take vs.length=vs:=by
  have hlt:=(Array.getElem?_eq_some_iff.1 hg).1
  refine⟨putCells id 0 vs.toArray cur,?_,by simp[putCells],?_⟩
  · unfold sortWorld
    rw[heap_grow_old _ _ (by rw[size_putRow];exact hlt)]
    show(w.heap.modify g _)[g]? = _
    rw[Array.getElem?_modify,if_pos rfl,hg];rfl
  · refine List.ext_getElem? fun j => ?_
    rw[List.getElem?_take]
    by_cases hj:j<vs.length
    · rw [if_pos hj, Array.getElem?_toList]
      simp only[putCells,Array.getElem?_mapIdx,Array.getElem?_eq_getElem (show j<cur.size by omega),Option.map_some]
      rw[if_pos ⟨Nat.zero_le _,by simpa using hj⟩,Nat.sub_zero,List.getElem?_eq_getElem hj]
      simp[hj]
    · rw[if_neg hj,List.getElem?_eq_none (by simpa using hj)]
theorem perm_whole {α:Type} [Inhabited α] {d d':Array α} (h:PermIn 0 d.size d d'):d'.toList.Perm d.toList:=by
  have:=h.2.2
  rw[Array.extract_size] at this
  rw[← h.1] at this
  rwa [Array.extract_size] at this
theorem sorted_whole {d':Array Coin} (h:SortedIn (ltOf cmpC) 0 d'.size d'):d'.toList.Pairwise fun x y=>¬ ltC y x:=by
  refine List.pairwise_iff_getElem.2 fun i j hi hj hij=>?_
  have:=h i j (Nat.zero_le _) hij (by simpa using hj)
  rw[getElem!_pos _ j (by simpa using hj),getElem!_pos _ i (by simpa using hi)] at this
  simpa using(nlt_c _ _).1 this
theorem sorted_all {l xs:List Coin} (hp:l.Perm xs) (hn:(xs.map ckey).Nodup) (hs:l.Pairwise fun x y=>¬ ltC y x):l=allL xs:=by
  refine srt_unique (hp.trans (allL_perm xs).symm) ?_ (allL_srt hn)
  have hn2:(l.map ckey).Nodup:=((hp.map ckey).nodup_iff).2 hn
  rw[List.nodup_iff_pairwise_ne,List.pairwise_map] at hn2
  exact(hs.and hn2).imp fun⟨h1,h2⟩=>(ltC_tot h2).resolve_right h1
end
theorem sortC_ok (xs:List Coin) (hl:xs.length≤1000000) (hnd:(xs.map ckey).Nodup):FOk EN 29 ⟨[.mu 49 xs],[.n 0,.f 30 [] []],Unit,fun _=>([.mu 49 (allL xs)],.t []),fun _=>True⟩:=by
  refine⟨by kernel_rfl,fun ν F σ w S=>?_⟩
  obtain⟨⟨cs,ho,hr,hb,hs⟩,hF⟩:=S.ent 0 _ rfl
  rcases ho.2 with⟨hv,h0⟩ | ⟨g,cap,cur,hv,hg,hnc,hcm,hcs,htake⟩
  · have h0' : xs = [] := List.eq_nil_of_length_eq_zero h0
    subst h0'
    have h:=AnyF.slices_SortFunc_none (P:=Tryd.prog) (ρ:=slf_ren) { slf with } none 0 (.func (.func 30) #[] #[]) w
    have ea:(denL ν [SV.n 0,.f 30 [] []]).toArray=#[.slice none 0 0,.func (.func 30) #[] #[]]:=by simp only[denL,den,hv]
    show Calls Tryd.prog 29 (denL ν [SV.n 0,.f 30 [] []]).toArray w _
    rw[ea]
    refine Calls.mono h ?_
    rintro e w' ⟨rfl,rfl⟩
    exact⟨(),ν,F,σ,rfl,trivial,fun _ _=>rfl,Stp.refl _ _ _,S,Nat.le_refl _,fun i b hb=>.inl ⟨i,hb⟩,rfl⟩
  · have hσ := hs g (by rw [hv]; rfl)
    have hlt:=(Array.getElem?_eq_some_iff.1 hg).1
    have hcs0:cs=(xs.map encC).flatten:=reps_coin.1 hr
    have hsz3:(GT.Γ 49).T.sz=3:=rfl
    have hlen:cs.length=xs.length*3:=ho.1
    have hcs':cs.length≤cur.size:=by rw[hlen];exact Nat.le_trans (Nat.mul_le_mul_right 3 hnc) hcs
    have hHolds:HoldsK encC 3 w g 0 xs.toArray:=fun j hj=>by
      rw[flatK_eq] at hj ⊢
      rw[List.toList_toArray,← hcs0] at hj ⊢
      have hj':j<cs.length:=by simpa using hj
      refine⟨?_,by simp[World.frozen?,hg]⟩
      rw[Nat.zero_add,cell_of_row w g j cur _ _ hg,← Array.getElem?_toList]
      have:(cur.toList.take (xs.length*3))[j]? = cs[j]?:=by rw[← htake];rfl
      rw[List.getElem?_take,if_pos (show j<xs.length*3 by omega)] at this
      rw[this,List.getElem?_eq_getElem hj'];simp[hj']
    have eg:∀ args w,(callFunc 30 args).run Tryd.prog w=.ok (.enter 30 args) w:=enters_of Tryd.func30 (by kernel_rfl) rfl
    have hcmp:CmpLays Tryd.prog 30 #[] encC 3 cmpC g 0 xs.toArray.size w:=fun m os dk _ x y=>less_lays x y _
    have h:=AnyQ.slices_SortFunc (P:=Tryd.prog) (ρ:=slf_ren) slf 3 Tryd.isAgg49 Tryd.sizeOf49 encC encC_len (fun x v hv=>by simp only[encC,List.mem_cons,List.not_mem_nil,or_false] at hv;rcases hv with rfl | rfl | rfl <;> rfl) cmpC swoC 30 #[] g 0 cap xs.toArray w eg hcmp hHolds hlt (by simp;omega)
    have ea:(denL ν [SV.n 0,.f 30 [] []]).toArray=#[.slice (some ⟨g,0,none⟩) xs.toArray.size cap,.func (.func 30) #[] #[]]:=by
      simp only[denL,den,hv,List.size_toArray];rfl
    show Calls Tryd.prog 29 (denL ν [SV.n 0,.f 30 [] []]).toArray w _
    rw[ea]
    refine Calls.mono h ?_
    rintro e w' ⟨rfl,d',n,os,hp,hso,rfl⟩
    have hp':=perm_whole hp
    have hsz:d'.size=xs.length:=by rw[hp.1];simp
    rw[show xs.toArray.size=d'.size by rw[hsz];simp] at hso
    have hall:d'.toList=allL xs:=sorted_all hp' hnd (sorted_whole hso)
    have ew:sortWorldK encC 3 w g 0 n d' os=sortWorld id w g 0 n (((allL xs).map encC).flatten).toArray os:=by
      show sortWorld id w g 0 n (flatK encC 3 d') os=_
      rw[flatK_eq,hall]
    rw[ew]
    have hal:(((allL xs).map encC).flatten).length=xs.length*3:=by rw[flat_len,allL_len]
    obtain⟨cur',r1,r2,r3⟩:=sortV_row hg (vs:=((allL xs).map encC).flatten) (by rw[hal,← hlen];exact hcs') n os
    have st:=sortV_stp hlt hσ n (((allL xs).map encC).flatten).toArray os
    have hgF:F 0 g:=hF g (by rw[hv];rfl)
    have hsl:(allL xs).length=xs.length:=allL_len xs
    have hent:(Ent.mu (G:=GT) 49 (allL xs)).holds ν (F 0) σ (sortWorld id w g 0 n (((allL xs).map encC).flatten).toArray os) (ν 0):=by
      refine⟨⟨((allL xs).map encC).flatten,⟨hal.trans (congrArg (· * 3) hsl.symm),.inr ⟨g,cap,cur',hv.trans (congrArg (fun n=>Value.slice (some ⟨g,0,none⟩) n cap) hsl.symm),r1,Nat.le_trans (Nat.le_of_eq hsl) hnc,hcm,Nat.le_trans hcs (Nat.le_of_eq r2.symm),?_⟩⟩,reps_coin.2 rfl,Nat.le_trans (Nat.le_of_eq (congrArg (· * (GT.Γ 49).T.by_) hsl)) hb,hs⟩,hF⟩
      have hk:(allL xs).length*(GT.Γ 49).T.sz=(((allL xs).map encC).flatten).length:=(flat_len _).symm
      exact(congrArg (fun n=>List.take n cur'.toList) hk).trans r3
    obtain⟨ν',F',σ2,w2,q1,q2,q3,q4,q5,q6⟩:=do_set S (n:=0) (by simp) (st.mono fun b _ e=>by subst e;exact hgF) (.mu 49 (allL xs)) hent rfl (run:=fun ν' σ2 w2=>ν'=ν∧σ2=σ∧w2=sortWorld id w g 0 n (((allL xs).map encC).flatten).toArray os) ⟨rfl,rfl,rfl⟩
    obtain⟨rfl,rfl,rfl⟩:=q6
    refine⟨(),_,F',_,rfl,trivial,fun _ _=>rfl,st.mono fun b _ e=>⟨0,by subst e;exact hgF⟩,q4,by simp,fun i b hb=>?_,rfl⟩
    rcases q5 i b hb with⟨_,q⟩ | ⟨_,⟨m,hm,q⟩ | q⟩
    · exact .inl ⟨i,q⟩
    · exact .inl ⟨m,q⟩
    · exact .inr q
end Go.Proofs.YtblnnkkelkjbiaaDoor.X
set_option linter.unusedVariables false
set_option linter.unusedSimpArgs false
namespace Go.Proofs.YtblnnkkelkjbiaaDoor.E
open Go Go.RowKit
theorem rowsIn_of {n:Nat} {P:Program} {row:String} {args:Array Value} {w:World} {R:Value→World→Prop} (h:Rows P row args w R):RowsIn Fence.wide n P row args w R :=
  fun c cs _=>let ⟨v,w',r,s⟩:=h c cs;⟨v,w',r,stepsIn_wide.2 s⟩
def noDef (ops:Array Oper):Bool:=ops.toList.all fun o=>match o.op with | .defer _=>false | _=>true
theorem noDef_at {ops:Array Oper} (h:noDef ops=true) {i:Nat} {o:Oper} (ho:ops[i]? = some o):∀ c,o.op≠.defer c:=by
  intro c e
  have:=List.all_eq_true.1 h o (List.mem_of_getElem? (by rw[Array.getElem?_toList];exact ho))
  rw[e] at this;cases this
theorem uponIn_of {l n:Nat} {P:Program} {o:Oper} {a:Act} {next next':Act→World→Prop} {Q:Exit→Act→World→Prop} (hn:∀ a w,next a w→next' a w) :
    ∀ {r:Result Next},o.upon P a next Q r→o.uponIn (Fence.wide.inRound l) n P a next' Q r:=by
  intro r h
  unfold Oper.upon at h
  split at h
  · exact hn _ _ h
  · exact hn _ _ h
  · exact hn _ _ h
  · refine ⟨fun e => (by cases e), ?_⟩
    have:=callsIn_wide (n:=n - 1) |>.2 h
    refine CallsIn.mono this fun e w' h=>?_
    cases e with
    | returned v=>exact hn _ _ h
    | panicked ch=>exact h
    | outgrown=>exact h
  · exact⟨fun e=>(by cases e),(rowsIn_of h).mono fun v w' h=>hn _ _ h⟩
  · exact h
  · exact h.elim
theorem opsIn {l n:Nat} {P:Program} {ops:Array Oper} {Q:Exit→Act→World→Prop} (hd:noDef ops=true) (hl:¬ LetsOut Q):∀(is:List Nat) (a:Act) (w:World),wpOps P ops Q is a w→wpOpsIn (Fence.wide.inRound l) n P ops Q is a w
  | [],a,w,h=>h
  | i :: rest, a, w, h => by
    simp only[wpOps] at h
    simp only[wpOpsIn]
    cases ho:ops[i]? with
    | none=>simp only[ho] at h ⊢;exact opsIn hd hl rest a w h
    | some o =>
      simp only[ho] at h ⊢
      by_cases hw:Region.wanted o (yielded ops a.tmps)=true
      · simp only [hw, if_true] at h ⊢
        rcases h with h | ⟨_,h⟩
        · refine ⟨fun _ _ => trivial, ?_⟩
          rw[Oper.semAt_eq _ _ _ (noDef_at hd ho)]
          exact uponIn_of (fun a w=>opsIn hd hl rest a w) h
        · exact absurd h hl
      · simp only [hw, Bool.false_eq_true, if_false] at h ⊢
        exact⟨fun _ _=>trivial,opsIn hd hl rest _ _ h⟩
theorem region_in {l n id:Nat} {P:Program} {ops:Array Oper} {Q:Exit→Act→World→Prop} {S:World→Prop} {a:Act} {w:World} (hm:P.follows .mixedOrders=true) (hd:noDef ops=true) (hl:¬ LetsOut Q)
    (h:wpAnyH P .any ops Q S ops.size (Array.replicate ops.size false) a { w with drawn:=w.drawn+1 }):(Code.region id ops true).wpIn (Fence.wide.inRound l) n P Q a w :=
  wpIn_region_draw fun t=>by
    simp only[Region.schedule,hm,Bool.true_or,if_true]
    exact opsIn hd hl _ _ _ (wpAny_sound ops.size t _ a _ (wpAny_of_held _ _ _ _ h))
theorem region_in_list {l n id:Nat} {P:Program} {ops:Array Oper} {Q:Exit→Act→World→Prop} {a:Act} {w:World} (hd:noDef ops=true) (hl:¬ LetsOut Q)
    (h:wpAt P ops Q 0 a w):(Code.region id ops false).wpIn (Fence.wide.inRound l) n P Q a w :=
  wpIn_region (opsIn hd hl _ _ _ (by unfold wpAt at h;rw[List.drop_zero] at h;rw[List.range_eq_range',← Array.length_toList,wpOps_eq_wpList ops.toList 0 (by simp)];exact h))
theorem wpOp_q {P:Program} {ops:Array Oper} {Q Q':Exit→Act→World→Prop} {K K':Act→World→Prop} {i:Nat} {a:Act} {w:World} (hK:∀ a w,K a w→K' a w) (hp:∀ c a w,Q (.panic c) a w→Q' (.panic c) a w) (ho:LetsOut Q→LetsOut Q')
    (h:wpOp P ops Q i K a w):wpOp P ops Q' i K' a w:=by
  unfold wpOp at h ⊢
  split
  · rename_i e;simp only[e] at h;exact hK _ _ h
  · rename_i o e
    simp only[e] at h
    by_cases hw:Region.wanted o (yielded ops a.tmps)=true
    · rw [if_pos hw] at h ⊢
      rcases h with h | ⟨h1,h2⟩
      · refine .inl ?_
        unfold Oper.wp at h ⊢
        unfold Oper.upon at h ⊢
        split at h
        · exact hK _ _ h
        · exact hK _ _ h
        · exact hK _ _ h
        · refine Calls.mono h fun e w' h => ?_
          cases e with
          | returned v=>exact hK _ _ h
          | panicked ch=>exact hp _ _ _ h
          | outgrown=>exact ho h
        · exact Rows.mono h fun v w' h=>hK _ _ h
        · exact hp _ _ _ h
        · exact h.elim
      · exact .inr ⟨h1,ho h2⟩
    · rw[if_neg hw] at h ⊢;exact hK _ _ h
theorem wpPl_stp {P:Program} {ops:Array Oper} {Q:Exit→Act→World→Prop} {M:Nat→Prop}:∀(π:Pl) {σ:Nat→Nat} {a:Act} {w:World},wpPl P ops Q M π σ a w →
    wpPl P ops (fun e a' w'=>Q e a' w'∧(e=.normal→∃ σ',Stp M σ w σ' w')) M π σ a w:=by
  intro π
  have gen:∀(π:Pl) {σ0 σ:Nat→Nat} {a:Act} {w0 w:World},Stp M σ0 w0 σ w→wpPl P ops Q M π σ a w→wpPl P ops (fun e a' w'=>Q e a' w'∧(e=.normal→∃ σ',Stp M σ0 w0 σ' w')) M π σ a w:=by
    intro π
    have lo:∀ {σ0:Nat→Nat} {w0:World},LetsOut Q→LetsOut (fun e a' w'=>Q e a' w'∧(e=.normal→∃ σ',Stp M σ0 w0 σ' w')):=fun⟨a,w,h⟩=>⟨a,w,h,fun e=>by cases e⟩
    have pn:∀ {σ0:Nat→Nat} {w0:World} (c:List PanicEntry) (a:Act) (w:World),Q (.panic c) a w→Q (.panic c) a w∧((.panic c:Exit)=.normal→∃ σ',Stp M σ0 w0 σ' w):=fun c a w h=>⟨h,fun e=>by cases e⟩
    induction π with
    | e=>intro σ0 σ a w0 w st h;exact⟨h,fun _=>⟨σ,st⟩⟩
    | f i r ih =>
      intro σ0 σ a w0 w st h
      obtain⟨o,v,h1,h2,h3,h4⟩:=h
      exact⟨o,v,h1,h2,fun c a w q=>⟨h3 c a w q.1,fun e=>by cases e⟩,ih st h4⟩
    | o i r ih =>
      intro σ0 σ a w0 w st h
      exact wpOp_q (fun a' w' ⟨σ',s,k⟩=>⟨σ',s,ih (st.trans s fun b _ e=>e.elim id id) k⟩) pn lo h
    | c i r alt ih ih2 =>
      intro σ0 σ a w0 w st h
      exact⟨wpOp_q (fun a' w' ⟨σ',s,k⟩=>⟨σ',s,ih (st.trans s fun b _ e=>e.elim id id) k⟩) pn lo h.1,ih2 st h.2⟩
  exact fun {σ a w} h=>gen π (Stp.refl M σ w) h
/-- Only blocks of NW, and new ones, have turned. -/
structure Frn (NW:List Nat) (w w':World):Prop where
  os:w'.os=w.os
  tape:w'.tape=w.tape
  output:w'.output=w.output
  size:w.heap.size≤w'.heap.size
  block:∀ b,b<w.heap.size→b∉NW→w'.heap[b]? = w.heap[b]?
  drawn:w.drawn≤w'.drawn
theorem Frn.refl (NW:List Nat) (w:World):Frn NW w w:=⟨rfl,rfl,rfl,Nat.le_refl _,fun _ _ _=>rfl,Nat.le_refl _⟩
theorem Frn.put {NW:List Nat} {w:World} {b:Nat} (o:Obj) (h:b∈NW):Frn NW w (w.putObj b o) :=
  ⟨rfl,rfl,rfl,by simp,fun k _ hk=>World.putObj_heap_other (fun e=>hk (e ▸ h)),Nat.le_refl _⟩
theorem Frn.alloc (NW:List Nat) (w:World) (o:Obj):Frn NW w (w.alloc o) :=
  ⟨rfl,rfl,rfl,by simp,fun b hb _=>Below.heap_alloc w o b hb,Nat.le_refl _⟩
def Fix (bs:List Nat) (w w':World):Prop:=∀ b∈bs,w'.heap[b]? = w.heap[b]?
theorem Fix.refl (bs:List Nat) (w:World):Fix bs w w:=fun _ _=>rfl
theorem Fix.trans {bs:List Nat} {a b c:World} (h:Fix bs a b) (k:Fix bs b c):Fix bs a c:=fun x hx=>(k x hx).trans (h x hx)
theorem Fix.sub {bs cs:List Nat} {a b:World} (h:Fix bs a b) (s:∀ x∈cs,x∈bs):Fix cs a b:=fun x hx=>h x (s x hx)
/-- An invariant that knows its own blocks: those of NW may turn, and new ones may come. -/
def Clo (I:List Nat→List Value→World→Prop):Prop :=
  ∀ NW NW' s w w',I NW s w→Frn NW w w'→(∀ b∈NW',b∈NW∨(w.heap.size≤b∧b<w'.heap.size))→I NW' s w'
def IterOk (P:Program) (kf:Nat) (lb:List Value) (bs:List Nat) (ks:List Value) (w0:World):Prop :=
  ∀ (l : Nat) (I : List Nat → List Value → World → Prop) (NW : List Nat) (w : World), Clo I → I NW [] w → l ∈ NW → Fix bs w0 w → (∀ b ∈ bs, b ∉ NW) → (∀ b ∈ bs ++ NW, b < w.heap.size) →
    (∀ NW' pre x rest w1,I NW' pre w1→(pre++x::rest).Perm ks→Fix (bs++NW) w w1→(∀ b∈NW,b∈NW')→(∀ b∈NW',b<w1.heap.size∧b∉bs) →
      YieldAt Fence.wide 0 P l #[x] w1 fun e w2=>e=.returned (.bool true)∧I NW' (pre++[x]) w2∧Fix (bs++NW') w1 w2) →
    CallsIn Fence.wide 0 P kf ((.func (.yield l) #[] #[]::lb).toArray) w fun e w'=>(∃ v,e=.returned v)∧∃ NW' xs,xs.Perm ks∧I NW' xs w'∧Fix (bs++NW) w w'∧(∀ b∈NW,b∈NW')
theorem range_law {P:Program} {g:Operand} {p:Tmp} {assign body:Code} {Q:Exit→Act→World→Prop} {a:Act} {w:World} {kf:Nat} {lb:List Value} {bs:List Nat} {ks:List Value}
    {I:List Nat→List Value→World→Prop} {A:List Nat→List Value→Value→Act→World→Prop}
    (hg:a.eval g=.func (.func kf) #[] lb.toArray) (hc:callable P kf=true) (hI:Clo I) (hA:∀ NW pre x a1 w2 w3,A NW pre x a1 w2→Frn NW w2 w3→A NW pre x a1 w3)
    (h0:I [] [] w) (hbs:∀ b∈bs,b<w.heap.size) (it:IterOk P kf lb bs ks w)
    (hassign:∀ l NW pre x rest w1,I NW pre w1→(pre++x::rest).Perm ks→Fix bs w w1→(∀ b∈NW,b∉bs) →
      assign.wpIn (Fence.wide.inRound l) 0 P (Exit.then (fun a1 w2=>A NW pre x a1 w2∧Fix (bs++NW) w1 w2) (fun _ _ _=>False)) { tmps:=a.tmps.setIfInBounds p x,defers:=[] } w1)
    (hbody:∀ l NW pre x rest a1 w3,A NW pre x a1 w3→(pre++x::rest).Perm ks→(∀ b∈NW,b∉bs) →
      body.wpIn (Fence.wide.inRound l) 0 P (fun e a4 w4=>e=.normal∧I NW (pre++[x]) w4∧Fix (bs++NW) w3 w4) a1 w3)
    (hdone:∀ D NW xs w',xs.Perm ks→I NW xs w'→D∈NW→w.heap.size≤D→w'.heap[D]? = some (.deferred (some []))→Fix bs w w'→Q .normal { a with defers:={ target:=.collected D,args:=#[] }::a.defers } w') :
    (Code.rangeFunc g #[p] assign body).wp P Q a w:=by
  refine(wpIn_wide (n:=0)).1 (wpIn_rangeFunc ?_)
  intro fn hfn
  obtain⟨rec,hrec⟩:∃ rec:LoopState→Option Code→Loop,rec=fun st pe=>{ state:=st,pending:=pe,fn,tmps:=a.tmps,params:=#[p],assign,body,defers:=w.heap.size }:=⟨_,rfl⟩
  obtain⟨W1,hW1⟩:∃ W1,(w.alloc (.deferred (some []))).alloc (.loop (rec .ready none))=W1:=⟨_,rfl⟩
  have hL1:W1.heap[w.heap.size+1]? = some (.loop (rec .ready none)):=by
    rw[← hW1];have:=World.alloc_heap_new (w.alloc (.deferred (some []))) (.loop (rec .ready none));rwa [World.size_alloc] at this
  have hK1:W1.heap[w.heap.size]? = some (.deferred (some [])):=by
    rw[← hW1];exact(Below.heap_alloc _ _ _ (by simp)).trans (World.alloc_heap_new w _)
  have hs1:W1.heap.size=w.heap.size+2:=by rw[← hW1];simp
  have hold:∀ b,b<w.heap.size→W1.heap[b]? = w.heap[b]?:=fun b hb=>by
    rw[← hW1];exact(Below.heap_alloc _ _ _ (by simp;omega)).trans (Below.heap_alloc _ _ _ hb)
  have hfr:Frn [] w W1:=⟨by rw[← hW1];rfl,by rw[← hW1];rfl,by rw[← hW1];rfl,by omega,fun b hb _=>hold b hb,by rw[← hW1];exact Nat.le_refl _⟩
  have hI1:I [w.heap.size+1,w.heap.size] [] W1:=hI [] _ [] w W1 h0 hfr fun b hb=>by
    simp only[List.mem_cons,List.not_mem_nil,or_false] at hb
    right;rcases hb with rfl | rfl <;> omega
  have hbn:∀ b∈bs,b∉[w.heap.size+1,w.heap.size]:=fun b hb hm=>by
    have:=hbs b hb
    simp only[List.mem_cons,List.not_mem_nil,or_false] at hm
    omega
  refine⟨w.heap.size+1,[{ target:=.collected w.heap.size,args:=#[] }],W1,{ target:=.fn (.func kf) lb.toArray,args:=#[.func (.yield (w.heap.size+1)) #[] #[]] },W1,kf,
    (.func (.yield (w.heap.size+1)) #[] #[]::lb).toArray,W1,?_,?_,fun _ _=>trivial,?_,fun e=>(by cases e),?_⟩
  · rw[← hW1,hrec];exact run_enterLoop_outer _ _ _ _ _
  · simp only [resolve, hg]
    simp[go_sem]
  · have e : #[.func (.yield (w.heap.size + 1)) #[] #[]] ++ lb.toArray = (Value.func (.yield (w.heap.size + 1)) #[] #[] :: lb).toArray := by simp
    simp only[invoke,e]
    exact run_callFunc hc _ _
  · have hcall:=it (w.heap.size+1) I [w.heap.size+1,w.heap.size] W1 hI hI1 (by simp) (fun b hb=>hold b (hbs b hb)) hbn (fun b hb=>by
      rcases List.mem_append.1 hb with hb | hb
      · have:=hbs b hb;omega
      · simp only[List.mem_cons,List.not_mem_nil,or_false] at hb;omega) ?_
    · refine CallsIn.mono hcall ?_
      rintro e w2 ⟨⟨v,rfl⟩,NW',xs,hp,hi,hf,hsub⟩
      have hl2:w2.heap[w.heap.size+1]? = some (.loop (rec .ready none)):=(hf _ (by simp)).trans hL1
      have hk2:w2.heap[w.heap.size]? = some (.deferred (some [])):=(hf _ (by simp)).trans hK1
      have hend:=run_endLoop (P:=P) hl2 (by rw[hrec];simp)
      have hmem:w.heap.size+1∈NW':=hsub _ (by simp)
      refine⟨none,_,by rw[hrec] at hend;exact hend,?_⟩
      refine hdone w.heap.size NW' xs _ hp (hI _ _ _ _ _ hi (Frn.put _ hmem) fun b hb=>.inl hb) (hsub _ (by simp)) (Nat.le_refl _) ((World.putObj_heap_other (by omega)).trans hk2) fun b hb=>?_
      rw[World.putObj_heap_other (by have:=hbs b hb;omega)]
      exact(hf b (List.mem_append_left _ hb)).trans (hold b (hbs b hb))
    · intro NW' pre x rest w1 hi hp hf hsub hn
      have hl:w1.heap[w.heap.size+1]? = some (.loop (rec .ready none)):=(hf _ (by simp)).trans hL1
      have hmem:w.heap.size+1∈NW':=hsub _ (by simp)
      have hbl:w.heap.size+1∉bs:=fun e=>by have:=hbs _ e;omega
      have hy:=run_yield (P:=P) (args:=#[x]) hl (by rw[hrec];rfl)
      rw[hrec] at hy
      refine⟨fn,_,assign,body,hy,roundIn_of_wpIn hfn ?_⟩
      have hzip:((#[p]:Array Tmp).zip #[x]).foldl (fun(t:Array Value) (q:Tmp × Value)=>t.setIfInBounds q.1 q.2) a.tmps=a.tmps.setIfInBounds p x:=by simp
      have hz:((#[p]:Array Tmp).zip #[x]).foldl (fun(tmps:Array Value) (x:Tmp × Value)=>match x with | (t,a)=>tmps.setIfInBounds t a) a.tmps=a.tmps.setIfInBounds p x:=hzip
      rw[hz]
      refine wpIn_mono (hassign _ NW' pre x rest w1 hi hp (fun b hb=>((hf b (List.mem_append_left _ hb)).trans (hold b (hbs b hb)))) fun b hb=>(hn b hb).2) ?_
      rintro e a1 w2 he
      cases e with
      | normal =>
        obtain⟨ha,hf2⟩:=he
        have hl2:w2.heap[w.heap.size+1]? = some (.loop (rec .ready none)):=(hf2 _ (List.mem_append_right _ hmem)).trans hl
        have hlt:w.heap.size+1<w2.heap.size:=(Array.getElem?_eq_some_iff.1 hl2).1
        refine⟨_,run_beginRound hl2 (by rw[hrec]),?_⟩
        refine wpIn_mono (hbody _ NW' pre x rest a1 _ (hA _ _ _ _ _ _ ha (Frn.put _ hmem)) hp fun b hb=>(hn b hb).2) ?_
        rintro e a4 w4 ⟨rfl,hi4,hf4⟩
        have hl4:w4.heap[w.heap.size+1]? = some (.loop { rec .ready none with state:=.busy }):=(hf4 _ (List.mem_append_right _ hmem)).trans (World.putObj_heap_same hlt)
        have hlt4:w.heap.size+1<w4.heap.size:=(Array.getElem?_eq_some_iff.1 hl4).1
        have hend:=run_endRound (P:=P) none hl4
        have hobj:Obj.loop { ({ rec .ready none with state:=.busy }:Loop) with state:=if(none:Option Code).isNone then .ready else .done,pending:=none }=.loop (rec .ready none):=by rw[hrec];rfl
        rw[hobj] at hend
        refine⟨_,_,hend,rfl,hI _ _ _ _ _ hi4 (Frn.put _ hmem) (fun b hb=>.inl hb),fun b hb=>?_⟩
        by_cases e:b=w.heap.size+1
        · subst e;rw[World.putObj_heap_same hlt4,hl]
        · rw [World.putObj_heap_other e, hf4 b hb, World.putObj_heap_other e]
          exact hf2 b hb
      | exit id=>exact he.elim
      | goto t=>exact he.elim
      | ret=>exact he.elim
      | panic ch=>exact he.elim
      | outgrown=>exact he.elim
end Go.Proofs.YtblnnkkelkjbiaaDoor.E
set_option linter.unusedVariables false
set_option linter.unusedSimpArgs false
set_option maxRecDepth 100000
namespace Go.Proofs.YtblnnkkelkjbiaaDoor.X
open Go Go.RowKit Go.Proofs Go.Proofs.YtblnnkkelkjbiaaDoor.E Go.ChangeMaps
theorem wpListIn_range_x {F:Fence} {n:Nat} {P:Program} (w:World) {ops:Array Oper} {rest:List Oper} {o:Oper} {a:Go.Act} {Q:Exit→Go.Act→World→Prop} (hg:o.guard=none) (m:Operand) (t:TypeId) (hop:o.op=Op.range t m) (k e:TypeId) (ht:P.underlying t=some (.map k e)) (b:Nat) (es:Array MapEntry) (clock:Nat)
    (hm:a.eval m=.map (some b)) (hb:w.heap[b]? = some (.map es clock))
    (hK:wpListIn F n P ops Q rest (a.put o.dst (.pointer (some ⟨w.heap.size,0,none⟩))) (w.alloc (.mapIter (some b) clock #[] clock))) :
    wpListIn F n P ops Q (o::rest) a w:=by
  refine wpListIn_plain hg fun K' hK'=>?_
  unfold Oper.wpIn
  refine⟨by simp[Oper.about,hop],?_⟩
  rw[Oper.semAt_plain F _ _ (by rw[hop];intro c hc';cases hc')]
  simp[execOp,hop,hm,run_range_map w t k e b es clock ht hb,Result.andThen]
  exact hK' _ _ hK
theorem wpListIn_next_x {F:Fence} {n:Nat} {P:Program} (w:World) {ops:Array Oper} {rest:List Oper} {o:Oper} {a:Go.Act} {Q:Exit→Go.Act→World→Prop} (hg:o.guard=none) (it:Operand) (hop:o.op=Op.next it false) (r b since c0:Nat) (seen:Array Nat) (es:Array MapEntry) (clock:Nat)
    (hit:a.eval it=.pointer (some ⟨r,0,none⟩)) (hr:w.heap[r]? = some (.mapIter (some b) since seen c0)) (hb:w.heap[b]? = some (.map es clock)) (hold:∀ x∈es.toList,x.born<since) (hsc:since≤c0)
    (hDone:(leftOf es seen).size=0→wpListIn F n P ops Q rest (a.put o.dst (.tuple #[.bool false])) w)
    (hMore:∀(e:MapEntry) (w1:World),e∈(leftOf es seen).toList→(w1=w∨w1=w.drew)→wpListIn F n P ops Q rest (a.put o.dst (.tuple #[.bool true,e.key,e.val])) (setBlock w1 r (.mapIter (some b) since (seen.push e.born) clock))) :
    wpListIn F n P ops Q (o::rest) a w:=by
  refine wpListIn_plain hg fun K' hK'=>?_
  unfold Oper.wpIn
  refine⟨by simp[Oper.about,hop],?_⟩
  rw[Oper.semAt_plain F _ _ (by rw[hop];intro c hc';cases hc')]
  rcases run_next_at (P:=P) w o.type r b since c0 seen es clock hr hb hold hsc with⟨h0,hrun⟩ | ⟨e,he,w1,h1,hrun⟩
  · simp [execOp, hop, hit, hrun, Result.andThen]
    exact hK' _ _ (hDone h0)
  · simp [execOp, hop, hit, hrun, Result.andThen]
    exact hK' _ _ (hMore e w1 he h1)
theorem filt_perm {e:MapEntry}:∀ {L:List MapEntry},(L.map (·.born)).Nodup→e∈L→L.Perm (e::L.filter fun x=>decide (x.born≠e.born))
  | [],_,h=>by cases h
  | x :: r, hn, h => by
    rw[List.map_cons,List.nodup_cons] at hn
    rcases List.mem_cons.1 h with rfl | h
    · rw [List.filter_cons_of_neg (by simp)]
      refine List.Perm.cons _ ?_
      rw[List.filter_eq_self.2]
      intro y hy
      exact decide_eq_true fun q=>hn.1 (List.mem_map.2 ⟨y,hy,q⟩)
    · have hx : x.born ≠ e.born := fun q => hn.1 (List.mem_map.2 ⟨e, h, q.symm⟩)
      have e2:(x::r).filter (fun(y:MapEntry)=>decide (y.born≠e.born))=x::r.filter (fun(y:MapEntry)=>decide (y.born≠e.born)):=by simp[hx]
      rw[e2]
      exact((filt_perm hn.2 h).cons x).trans (.swap ..)
theorem left_step {es:Array MapEntry} {seen:Array Nat} {e:MapEntry} (hnd:(es.toList.map (·.born)).Nodup) (he:e∈(leftOf es seen).toList):(leftOf es seen).toList.Perm (e::(leftOf es (seen.push e.born)).toList):=by
  have e1:(leftOf es (seen.push e.born)).toList=(leftOf es seen).toList.filter fun x=>decide (x.born≠e.born):=by
    unfold leftOf
    rw[Array.toList_filter,Array.toList_filter,List.filter_filter]
    refine List.filter_congr fun x _=>?_
    by_cases q:x.born=e.born <;> simp[q]
  rw[e1]
  refine filt_perm ?_ he
  unfold leftOf;rw[Array.toList_filter]
  exact hnd.sublist (List.filter_sublist.map _)
set_option maxHeartbeats 1000000 in
theorem keys1_iter {mb bm clock:Nat} {es:Array MapEntry} {w0:World} (hm:w0.cell? ⟨mb,0,none⟩=some (.map (some bm))) (hb:w0.heap[bm]? = some (.map es clock)) (hbl:∀ x∈es.toList,x.born<clock) (hnd:(es.toList.map (·.born)).Nodup)
    (hkey:∀ x∈es.toList,∃ s t:ByteArray,x.key=.agg #[.string s,.string t]):IterOk Tryd.prog 38 [.pointer (some ⟨mb,0,none⟩)] [mb,bm] (es.toList.map (·.key)) w0:=by
  intro l I NW w hI h0 hl hfix hdis hlt hY
  have hm':w.cell? ⟨mb,0,none⟩=some (.map (some bm)):=(World.cell?_of_block (hfix mb (by simp))).trans hm
  have hb':w.heap[bm]? = some (.map es clock):=(hfix bm (by simp)).trans hb
  have u54:=run_underlying Tryd.underlying54
  refine callsIn_of_wp (n:=0) Tryd.func38 rfl trivial ?_
  simp only[Tryd.ntmps38,List.size_toArray,List.length_cons,List.length_nil,Nat.reduceAdd,Nat.reduceSub,Array.replicate_succ,Array.replicate_zero,List.push_toArray,List.append_toArray,List.nil_append,List.cons_append]
  gi_wp2_with (first
    | (gi_at_range;refine wpListIn_range_x _ rfl _ 54 rfl 59 30 Tryd.underlying54 bm es clock rfl hb' ?_)
    | gi_in)
  go_frame
  have hW1:(w.alloc (.mapIter (some bm) clock #[] clock)).heap[w.heap.size]? = some (.mapIter (some bm) clock #[] clock):=(MapKept.heap_alloc w _).1
  gi_loopw [3] (fun _ wr=>∃(NW':List Nat) (cons:List MapEntry) (seen:Array Nat) (c0:Nat),wr.heap[w.heap.size]? = some (.mapIter (some bm) clock seen c0)∧clock≤c0∧(cons++(leftOf es seen).toList).Perm es.toList∧I NW' (cons.map (·.key)) wr∧Fix ([mb,bm]++NW) w wr∧(∀ b∈NW,b∈NW')∧w.heap.size∈NW'∧(∀ b∈NW',b<wr.heap.size∧b∉[mb,bm]))
    (fun _ wr=>match wr.heap[w.heap.size]? with | some (.mapIter _ _ seen _)=>(leftOf es seen).size | _=>0)
  case atStart =>
    refine⟨w.heap.size::NW,[],#[],clock,hW1,Nat.le_refl _,?_,?_,fun b hb=>?_,fun b hb=>List.mem_cons_of_mem _ hb,List.mem_cons_self ..,fun b hb=>?_⟩
    · have e1 : (leftOf es #[]).toList = es.toList := by unfold leftOf; rw [Array.toList_filter]; exact List.filter_eq_self.2 fun x _ => by simp
      rw[e1];exact List.Perm.refl _
    · refine hI NW _ [] w _ h0 (Frn.alloc _ _ _) fun b hb => ?_
      rcases List.mem_cons.1 hb with rfl | hb
      · exact .inr ⟨Nat.le_refl _,by simp⟩
      · exact .inl hb
    · exact Below.heap_alloc _ _ _ (hlt b hb)
    · rcases List.mem_cons.1 hb with rfl | hb
      · exact⟨by simp,fun e=>Nat.lt_irrefl _ (hlt _ (List.mem_append_left _ e))⟩
      · exact⟨by have:=hlt b (List.mem_append_right _ hb);simp;omega,fun e=>hdis b e hb⟩
  case round =>
    obtain⟨NW',cons,seen,c0,hr,hc,hp,hi,hf,hsub,hmem,hn⟩:=hrel
    have hbr:wr.heap[bm]? = some (.map es clock):=(hf bm (by simp)).trans hb'
    have hmu:(match wr.heap[w.heap.size]? with | some (.mapIter _ _ seen _)=>(leftOf es seen).size | _=>0)=(leftOf es seen).size:=by rw[hr]
    rw[hmu]
    gi_wp2_with (first
      | (gi_at_next;refine wpListIn_next_x _ rfl _ rfl w.heap.size bm clock c0 seen es clock rfl hr hbr hbl hc ?_ ?_)
      | gi_in)
    · intro hz
      gi_wp2
      go_end0
      have h1:(leftOf es seen).toList=[]:=by first | (rw[hz]) | (rw[Array.eq_empty_of_size_eq_zero hz])
      rw[h1,List.append_nil] at hp
      exact⟨⟨_,rfl⟩,NW',_,hp.map _,hi,hf,hsub⟩
    · intro e w1 he hw1
      have he:e∈(leftOf es seen).toList:=by simpa using he
      have hes:e∈es.toList:=by unfold leftOf at he;rw[Array.toList_filter] at he;exact(List.mem_filter.1 he).1
      obtain⟨s,t,hk⟩:=hkey e hes
      have hrlt:w.heap.size<w1.heap.size:=by
        have:=(Array.getElem?_eq_some_iff.1 hr).1
        rcases hw1 with rfl | rfl <;> exact this
      generalize hW2:setBlock w1 w.heap.size (.mapIter (some bm) clock (seen.push e.born) clock)=W2
      have h2r:W2.heap[w.heap.size]? = some (.mapIter (some bm) clock (seen.push e.born) clock):=by rw[← hW2];simp[setBlock,hrlt]
      have h2o:∀ b,b≠w.heap.size→W2.heap[b]? = wr.heap[b]?:=fun b hb=>by
        rw[← hW2];show(w1.heap.setIfInBounds _ _)[b]? = _
        rw[Array.getElem?_setIfInBounds_ne (Ne.symm hb)]
        rcases hw1 with rfl | rfl <;> rfl
      have h2b:W2.heap[bm]? = some (.map es clock):=(h2o bm (fun e=>by have:=hlt bm (by simp);omega)).trans hbr
      have hen:=run_entry_at (P:=Tryd.prog) W2 w.heap.size bm clock seen es clock e h2r h2b hes hnd
      rw[hk] at hen ⊢
      gi_wp2
      have hsz:W2.heap.size=wr.heap.size:=by rw[← hW2];rcases hw1 with rfl | rfl <;> exact Array.size_setIfInBounds ..
      have hdr:wr.drawn≤W2.drawn:=by
        rw[← hW2];rcases hw1 with rfl | rfl
        · exact Nat.le_refl _
        · exact Nat.le_succ _
      have hrl:w.heap.size<wr.heap.size:=(Array.getElem?_eq_some_iff.1 hr).1
      have hls:=left_step hnd he
      have hp2:(cons++e::(leftOf es (seen.push e.born)).toList).Perm es.toList:=((hls.append_left cons).symm).trans hp
      have hold3:∀ b,b<wr.heap.size→b≠w.heap.size→(W2.alloc (.cells #[.string s,.string t] 59)).heap[b]? = wr.heap[b]?:=fun b hb hne=>(Below.heap_alloc _ _ _ (by omega)).trans (h2o b hne)
      have hI3:I (W2.heap.size::NW') (cons.map (·.key)) (W2.alloc (.cells #[.string s,.string t] 59)):=by
        refine hI NW' _ _ wr _ hi ⟨by rw[← hW2];rcases hw1 with rfl | rfl <;> rfl,by rw[← hW2];rcases hw1 with rfl | rfl <;> rfl,by rw[← hW2];rcases hw1 with rfl | rfl <;> rfl,by simp;omega,fun b hb hm=>hold3 b hb fun q=>hm (q ▸ hmem),hdr⟩ fun b hb=>?_
        rcases List.mem_cons.1 hb with rfl | hb
        · exact .inr ⟨by omega,by simp⟩
        · exact .inl hb
      have hx:(cons.map (·.key)++(Value.agg #[.string s,.string t])::(leftOf es (seen.push e.born)).toList.map (·.key)).Perm (es.toList.map (·.key)):=by
        have:=hp2.map (·.key)
        rw[List.map_append,List.map_cons,hk] at this;exact this
      have hbs:∀ b∈[mb,bm]++NW,b<wr.heap.size∧b≠w.heap.size:=fun b hb=>⟨by
        rcases List.mem_append.1 hb with h | h
        · have:=hlt b hb;omega
        · exact(hn b (hsub b h)).1,fun q=>by have:=hlt b hb;omega⟩
      have hf3:Fix ([mb,bm]++NW) w (W2.alloc (.cells #[.string s,.string t] 59)):=fun b hb=>(hold3 b (hbs b hb).1 (hbs b hb).2).trans (hf b hb)
      obtain⟨fn,tmps,assign,body,hy,hR⟩:=hY (W2.heap.size::NW') (cons.map (·.key)) (.agg #[.string s,.string t]) _ _ hI3 hx hf3 (fun b hb=>List.mem_cons_of_mem _ (hsub b hb)) (fun b hb=>by
        rcases List.mem_cons.1 hb with rfl | hb
        · exact⟨by simp,fun q=>by have:=(hbs _ (List.mem_append_left _ q)).1;omega⟩
        · exact⟨by have:=(hn b hb).1;simp;omega,(hn b hb).2⟩)
      rw[hy]
      refine⟨fun q=>(by cases q),hR.mono ?_⟩
      rintro e' W4 ⟨rfl,hi4,hf4⟩
      have h4r:W4.heap[w.heap.size]? = some (.mapIter (some bm) clock (seen.push e.born) clock):=by
        rw[hf4 _ (List.mem_append_right _ (List.mem_cons_of_mem _ hmem)),Below.heap_alloc _ _ _ (by omega)];exact h2r
      gi_wp2
      go_roundw
      case rel =>
        refine⟨W2.heap.size::NW',cons++[e],seen.push e.born,clock,h4r,Nat.le_refl _,by rw[List.append_assoc];exact hp2,by rw[List.map_append];rw[← hk] at hi4;exact hi4,fun b hb=>?_,fun b hb=>List.mem_cons_of_mem _ (hsub b hb),List.mem_cons_of_mem _ hmem,fun b hb=>?_⟩
        · have:b∈[mb,bm]++(W2.heap.size::NW'):=by
            rcases List.mem_append.1 hb with h | h
            · exact List.mem_append_left _ h
            · exact List.mem_append_right _ (List.mem_cons_of_mem _ (hsub b h))
          exact(hf4 b this).trans (hf3 b hb)
        · have hq:∃ o,(W2.alloc (.cells #[.string s,.string t] 59)).heap[b]? = some o:=by
            have:b<(W2.alloc (.cells #[.string s,.string t] 59)).heap.size:=by
              rcases List.mem_cons.1 hb with rfl | hb
              · simp
              · have:=(hn b hb).1;simp;omega
            exact⟨_,Array.getElem?_eq_getElem this⟩
          obtain⟨o,ho⟩:=hq
          refine⟨(Array.getElem?_eq_some_iff.1 ((hf4 b (List.mem_append_right _ hb)).trans ho)).1,?_⟩
          rcases List.mem_cons.1 hb with rfl | hb
          · exact fun q=>by have:=(hbs _ (List.mem_append_left _ q)).1;omega
          · exact(hn b hb).2
      case measure =>
        rw[h4r]
        have h1:(leftOf es seen).size=(leftOf es (seen.push e.born)).size+1:=by
          have:=hls.length_eq
          rw[List.length_cons,Array.length_toList,Array.length_toList] at this;exact this
        show(leftOf es (seen.push e.born)).size<(leftOf es seen).size
        omega
end Go.Proofs.YtblnnkkelkjbiaaDoor.X
set_option linter.unusedVariables false
set_option linter.unusedSimpArgs false
namespace Go.Proofs.YtblnnkkelkjbiaaDoor.X
open Go Go.RowKit Go.Proofs.YtblnnkkelkjbiaaDoor.E
variable {G:Tys}
/-- What is said from a world on: the names that were there stand. -/
def rX (X:Cx G) (w:World) (σ:Nat→Nat) (F:Nat→Nat→Prop) (n:Nat) (ν:NV):Cx G :=
  { X with w0:=w,σ0:=σ,M0:=fun b=>∃ k,F k b,np:=n,ν0:=ν,Q:=fun _ _ _=>False,pn:=fun _ _ _ _ _ h=>h }
def NWok (X:Cx G) (NW:List Nat) (F:Nat→Nat→Prop) (σ:Nat→Nat) (w:World):Prop:=∀ b∈NW,X.w0.heap.size≤b∧b<w.heap.size∧σ b=0∧∀ k,¬ F k b
/-- A part that ends in one state. -/
def doneCx (X:Cx G) (st:St G):Cx G:={ X with Q:=fun e a w=>e=.normal∧∃ ν F σ,SatSt X ν F σ a w st,pn:=fun _ _ _ _ _ h=>by cases h.1 }
section
variable {X:Cx G} {ν ν':NV} {F F':Nat→Nat→Prop} {σ σ':Nat→Nat} {a a':Go.Act} {w w':World} {s s':St G} {c:Cfg G}
theorem v_doneL {st:St G} (V:Prop) (hV:V) (h:evRun (doneCx X st) c=V:=by kernel_rfl) (ht:(match(nxt (doneCx X st) c).top,(nxt (doneCx X st) c).k with | .exit .nm,[]=>true | _,_=>false)=true:=by kernel_rfl)
    (hl:(st.l.map fun p=>(nxt (doneCx X st) c).st.l.lookup p.1)=st.l.map fun p=>some p.2:=by kernel_rfl) (hH:(nxt (doneCx X st) c).st.H=st.H:=by kernel_rfl):VC (doneCx X st) c:=by
  refine run_ok (by rw[h];exact hV) ⟨fun ν F σ a w hs=>?_⟩
  split at ht
  · rename_i e1 e2
    rw[e1,e2]
    have S':Sat ν F σ w st.H:=hH ▸ hs.S
    refine⟨rfl,ν,F,σ,S',hs.d,hs.sz,fun t x hx=>?_,hs.st,hs.pm,by rw[← hH];exact hs.np,hs.ag⟩
    have hm:=lookup_mem hx
    obtain⟨i,hi,hi2⟩:=List.mem_iff_getElem.1 hm
    have:=congrArg (fun q=>q[i]?) hl
    simp only[List.getElem?_map,List.getElem?_eq_getElem hi,Option.map_some,hi2,Option.some.injEq] at this
    rw[← hH];exact hs.sl t x this
  · cases ht
/-- On from where one state is. -/
theorem v_at (c':Cfg G) (V:Prop) (hV:V) (K:VC X c') (h:evRun X c=V:=by kernel_rfl) (hc:nxt X c=c':=by kernel_rfl):VC X c:=by
  refine run_ok (by rw[h];exact hV) ?_
  rw[hc];exact K
theorem SatSt.base (h:SatSt X ν F σ a w s):SatSt (rX X w σ F s.H.length ν) ν F σ a w s:=⟨h.S,h.d,h.sz,h.sl,Stp.refl _ _ _,fun k b hk=>.inl ⟨k,hk⟩,Nat.le_refl _,fun _ _=>rfl⟩
theorem SatSt.over (h:SatSt X ν F σ a w s) (k:SatSt (rX X w σ F s.H.length ν) ν' F' σ' a' w' s'):SatSt X ν' F' σ' a' w' s' :=
  ⟨k.S,k.d,k.sz,k.sl,h.st.trans k.st fun b hb e=>e.elim id fun⟨m,hm⟩=>(h.pm m b hm).elim id fun c=>absurd hb (by omega),fun n b hn=>by
    rcases k.pm n b hn with⟨m,hm⟩ | c
    · exact h.pm m b hm
    · exact .inr (Nat.le_trans h.st.size c),Nat.le_trans h.np k.np,fun i hi=>(k.ag i (Nat.lt_of_lt_of_le hi h.np)).trans (h.ag i hi)⟩
theorem NWok.over {NW:List Nat} {n:Nat} {μ:NV} (hw:NWok X NW F σ w) (k:SatSt (rX X w σ F n μ) ν' F' σ' a' w' s'):NWok X NW F' σ' w'∧Fix NW w w':=by
  have hn:∀ b∈NW,¬ (rX X w σ F n μ).M0 b:=fun b hb ⟨m,hm⟩=>(hw b hb).2.2.2 m hm
  refine⟨fun b hb=>?_,fun b hb=>k.st.block b (hw b hb).2.1 (hn b hb)⟩
  obtain⟨h1,h2,h3,h4⟩:=hw b hb
  refine⟨h1,Nat.lt_of_lt_of_le h2 k.st.size,(k.st.wm b h2 (hn b hb)).trans h3,fun m hm=>?_⟩
  rcases k.pm m b hm with c | c
  · exact hn b hb c
  · have:w.heap.size≤b:=c;omega
/-- Blocks of NW turn, and new ones come. -/
theorem SatSt.frn {NW NW':List Nat} (h:SatSt X ν F σ a w s) (hw:NWok X NW F σ w) (f:Frn NW w w') (hn:∀ b∈NW',b∈NW∨(w.heap.size≤b∧b<w'.heap.size)) :
    ∃ σ',SatSt X ν F σ' a w' s∧NWok X NW' F σ' w':=by
  have st:Stp (fun b=>b∈NW) σ w (fun b=>if b<w.heap.size then σ b else 0) w':=by
    refine⟨f.os,f.tape,f.output,f.size,fun b hb hm=>f.block b hb hm,fun b hb _=>if_pos hb,fun b o hb ho=>?_,fun b hb=>by simp only[if_pos hb];exact Nat.le_refl _,f.drawn⟩
    by_cases hm:b∈NW
    · have:=(hw b hm).2.2.1;omega
    · exact World.cell?_of_block (f.block b hb hm)
  have hlt:=fun k b (hk:F k b)=>(h.S.lt k b hk).2
  refine⟨_,⟨h.S.step st fun k b hk hm=>(hw b hm).2.2.2 k hk,h.d,h.sz,h.sl,h.st.trans st fun b hb e=>e.elim id fun hm=>absurd (hw b hm).1 (by omega),h.pm,h.np,h.ag⟩,fun b hb=>?_⟩
  rcases hn b hb with hb | ⟨c1,c2⟩
  · obtain ⟨h1, h2, h3, h4⟩ := hw b hb
    exact⟨h1,Nat.lt_of_lt_of_le h2 f.size,by simp only[if_pos h2];exact h3,h4⟩
  · exact⟨Nat.le_trans h.st.size c1,c2,by rw[if_neg (by omega)],fun k hk=>by have:=hlt k b hk;omega⟩
/-- Another frame, in which the slots stand. -/
theorem SatSt.act (h:SatSt X ν F σ a' w s) (hd:a.defers=X.df) (hsz:a.tmps.size=X.nt) (hl:∀ t x,s.l.lookup t=some x→a.tmps.getD t undef=den ν x):SatSt X ν F σ a w s :=
  ⟨h.S,hd,hsz,fun t x hx=>⟨hl t x hx,(h.sl t x hx).2⟩,h.st,h.pm,h.np,h.ag⟩
theorem wpPl_mono {P:Program} {ops:Array Oper} {Q Q':Exit→Go.Act→World→Prop} {M:Nat→Prop} (hQ:∀ a w,Q .normal a w→Q' .normal a w) (hp:∀ c a w,Q (.panic c) a w→Q' (.panic c) a w) (ho:LetsOut Q→LetsOut Q')
    (hn:∀ c a d v w,Q' (.panic c) (Go.Act.put a d v) w→Q' (.panic c) a w):∀(π:Pl) {σ:Nat→Nat} {a:Go.Act} {w:World},wpPl P ops Q M π σ a w→wpPl P ops Q' M π σ a w:=by
  intro π
  induction π with
  | e=>intro σ a w h;exact hQ _ _ h
  | f i r ih=>intro σ a w ⟨o,v,h1,h2,h3,h4⟩;exact⟨o,v,h1,h2,fun c a w=>hn c a o.dst v w,ih h4⟩
  | o i r ih=>intro σ a w h;exact wpOp_q (fun a' w' ⟨σ',s,k⟩=>⟨σ',s,ih k⟩) hp ho h
  | c i r alt ih ih2=>intro σ a w h;exact⟨wpOp_q (fun a' w' ⟨σ',s,k⟩=>⟨σ',s,ih k⟩) hp ho h.1,ih2 h.2⟩
/-- What a region of a round leaves. -/
def segQ (X:Cx G) (st':St G) (n:Nat) (NW prot:List Nat) (ν:NV) (F:Nat→Nat→Prop) (w:World):Exit→Go.Act→World→Prop:=fun e a' w' =>
  e=.normal∧∃ ν' F' σ',SatSt X ν' F' σ' a' w' st'∧(∀ i,i<n→ν' i=ν i)∧NWok X NW F' σ' w'∧Fix NW w w'∧∀ k b,k∈prot→F k b→w'.heap[b]? = w.heap[b]?
theorem segQ_out (st':St G) (n:Nat) (NW prot:List Nat):¬ LetsOut (segQ X st' n NW prot ν F w):=fun⟨_,_,h,_⟩=>by cases h
theorem seg_core {st':St G} {NW prot:List Nat} {ops:Array Oper} {π:Pl} (K:VC (doneCx (rX X w σ F s.H.length ν) st') ⟨.plan ops π prot,[],s⟩) (hs:SatSt X ν F σ a w s) (hw:NWok X NW F σ w) :
    wpPl X.En.P ops (segQ X st' s.H.length NW prot ν F w) (fun b=>(∃ k,k∉prot∧F k b)∨w.heap.size≤b) π σ a w:=by
  have hM:MOk prot F w (fun b=>(∃ k,k∉prot∧F k b)∨w.heap.size≤b):=by
    refine⟨fun k b hk hp hm=>?_,fun k b hk hp=>.inl ⟨k,hp,hk⟩,fun b hb=>.inr hb⟩
    rcases hm with⟨k',hp',hk'⟩ | c
    · have:=hs.S.dis k k' b hk hk';subst this;exact hp' hp
    · have:=(hs.S.lt k b hk).2;omega
  have hb:=hs.base
  have h:=K.h ν F σ a w ⟨hb.S,hb.d,hb.sz,hb.sl,hb.st,hb.pm,hb.np,hb.ag⟩ _ hM
  have h2:=wpPl_stp (M:=fun b=>(∃ k,k∉prot∧F k b)∨w.heap.size≤b) π h
  refine wpPl_mono ?_ ?_ ?_ (fun c a d v w q=>by cases q.1) π h2
  · rintro a' w' ⟨⟨_, ν', F', σ', hk⟩, hst⟩
    obtain⟨n1,n2⟩:=hw.over hk
    obtain⟨σ2,st⟩:=hst rfl
    refine⟨rfl,ν',F',σ',hs.over hk,hk.ag,n1,n2,fun k b hp hkb=>st.block b (hs.S.lt k b hkb).2 ?_⟩
    exact hM.p k b hkb hp
  · rintro c a' w' q;cases q.1.1
  · rintro ⟨a',w',q⟩;cases q.1.1
/-- The plan of a region that runs in its own order. -/
def inOrd:Nat→Nat→Pl
  | _,0=>.e
  | i,n+1=>.o i (inOrd (i+1) n)
theorem inOrd_at {P:Program} {ops:Array Oper} {Q:Exit→Go.Act→World→Prop} {M:Nat→Prop}:∀(n i:Nat) {σ:Nat→Nat} {a:Go.Act} {w:World},ops.size=i+n→wpPl P ops Q M (inOrd i n) σ a w→wpAt P ops Q i a w
  | 0,i,σ,a,w,h,k=>wpAt_end (by rw[Array.getElem?_eq_none (by omega)]) k
  | n + 1, i, σ, a, w, h, k => by
    have hlt:i<ops.size:=by omega
    refine r_at ?_
    exact wpOp_mono (fun a' w' ⟨σ',_,q⟩=>inOrd_at n (i+1) (by omega) q) k
theorem seg_list {st':St G} {NW prot:List Nat} {ops:Array Oper} {l id:Nat} (hd:noDef ops=true) (K:∀ w σ F ν,VC (doneCx (rX X w σ F s.H.length ν) st') ⟨.plan ops (inOrd 0 ops.size) prot,[],s⟩) (hs:SatSt X ν F σ a w s) (hw:NWok X NW F σ w) :
    (Code.region id ops false).wpIn (Fence.wide.inRound l) 0 X.En.P (segQ X st' s.H.length NW prot ν F w) a w :=
  region_in_list hd (segQ_out st' _ NW prot) (inOrd_at ops.size 0 (by omega) (seg_core (K w σ F ν) hs hw))
theorem seg_draw {st':St G} {NW prot:List Nat} {ops:Array Oper} {π:Pl} {l id:Nat} (hd:(noDef ops && Region.noSelect ops && plOk (infoOf ops) π ops.size 0 0)=true) (K:∀ w σ F ν,VC (doneCx (rX X w σ F s.H.length ν) st') ⟨.plan ops π prot,[],s⟩) (hs:SatSt X ν F σ a w s) (hw:NWok X NW F σ w) :
    (Code.region id ops true).wpIn (Fence.wide.inRound l) 0 X.En.P (segQ X st' s.H.length NW prot ν F w) a w:=by
  simp only[Bool.and_eq_true] at hd
  obtain⟨⟨h1,h2⟩,h3⟩:=hd
  refine region_in X.mx h1 (segQ_out st' _ NW prot) (S:=Since (fun b=>(∃ k,k∉prot∧F k b)∨w.heap.size≤b) σ { w with drawn:=w.drawn+1 }) ?_
  have hs':SatSt X ν F σ a { w with drawn:=w.drawn+1 } s :=
    hs.grow (H':=s.H) (hs.S.step (Stp.drew σ w) (fun _ _ _ e=>e)) (fun _ _=>rfl) (Nat.le_refl _) (Stp.drew σ w) (fun _ e=>e.elim) (fun k b hk=>.inl ⟨k,hk⟩)
  have hw':NWok X NW F σ { w with drawn:=w.drawn+1 }:=hw
  exact(pl_sound (P:=X.En.P) h2 π _ 0 0 _ σ a { w with drawn:=w.drawn+1 } h3 (rel0 _) (seg_core (K _ σ F ν) hs' hw')).1 rfl
/-- One state said as another: which names stand for which is known. -/
theorem canon {l0:SSl} {H0:List (Ent G)} {inv:SSl × List (Ent G)} {ρ:List Nat} (hs:SatSt X ν F σ a w s) (V:Prop) (hV:V) (h:(mtS X.np l0 H0 inv ρ s).map (conj ·)=some V)
    (hl:(l0.map fun p=>s.l.lookup p.1)=l0.map fun p=>some p.2) (hH:maskH H0 s.H=H0) :
    ∃ F',SatSt X (fun n=>ν (rnm H0.length ρ n)) F' σ a w ⟨inv.1++l0,H0++inv.2⟩∧∀ k b,F' k b→∃ m,F m b:=by
  obtain⟨vs,h1,h2⟩:=Option.map_eq_some_iff.1 h
  subst h2
  have hlen:H0.length≤s.H.length:=by have:=maskH_len H0 s.H;rw[hH] at this;omega
  exact mtS_okN hs h1 (conj_all hV) (fun t x hx=>by
    have hm:=lookup_mem hx
    obtain⟨i,hi,hi2⟩:=List.mem_iff_getElem.1 hm
    have:=congrArg (fun q=>q[i]?) hl
    simp only[List.getElem?_map,List.getElem?_eq_getElem hi,Option.map_some,hi2,Option.some.injEq] at this
    exact this) (fun m e hm=>maskH_get H0 _ m e (by rw[hH];exact hm)) hlen
end
def mCx (En:Env G) (fn:Func) (S:Spec G) (ν:NV) (F:Nat→Nat→Prop) (σ:Nat→Nat) (w:World) (mx:En.P.follows .mixedOrders=true):Cx G :=
  { fnCx En fn S ν F σ w mx with
    Q:=fun e a w'=>(∀ c,e≠.panic c)∧bodyPostM Fence.wide 0 En.P fn (RetOk S ν F σ w) e a w'
    pn:=fun c _ _ _ _ h=>absurd rfl (h.1 c) }
theorem v_funM {En:Env G} {f:FuncId} {S:Spec G} (fn:Func) (cd:Code) (mx:En.P.follows .mixedOrders=true)
    (K:∀ ν F σ w,VC (mCx En fn S ν F σ w mx) ⟨.code cd,[],⟨zipL 0 S.args,S.H⟩⟩)
    (hf:En.P.funcs[f]? = some fn:=by kernel_rfl) (hb:fn.body=some cd:=by kernel_rfl) (hc:callable En.P f=true:=by kernel_rfl)
    (hl:(decide (S.args.length≤fn.ntmps) && bdAll S.H.length S.args)=true:=by kernel_rfl):FOk En f S:=by
  refine⟨hc,fun ν F σ w hS=>?_⟩
  simp only[Bool.and_eq_true,decide_eq_true_eq,bdAll,List.all_eq_true] at hl
  refine(callsIn_wide (n:=0)).1 (callsIn_of_wp_marks (F:=Fence.wide) hf hb trivial (wpIn_wide.2 (wp_mono ((K ν F σ w).h ν F σ _ w ⟨hS,rfl,?_,fun t x hx=>?_,Stp.refl _ _ _,fun k b hk=>.inl ⟨k,hk⟩,Nat.le_refl _,fun _ _=>rfl⟩) fun e a w h=>h.2)))
  · show (_ ++ _ : Array Value).size = fn.ntmps
    simp[denL_map];omega
  · obtain ⟨_, h2⟩ := zipL_lookup S.args 0 t x hx
    simp only[Nat.sub_zero] at h2
    refine⟨?_,hl.2 x (List.mem_of_getElem? h2)⟩
    have hlt:t<S.args.length:=(List.getElem?_eq_some_iff.1 h2).1
    simp only[Array.getD_eq_getD_getElem?]
    rw[Array.getElem?_append_left (by simpa [denL_map] using hlt)]
    simp[denL_map,h2]
/-- Behind the range. -/
def aX (X:Cx G) (D:Nat) (w:World) (σ:Nat→Nat) (F:Nat→Nat→Prop):Cx G :=
  { X with w0:=w,σ0:=σ,M0:=fun b=>∃ k,F k b,df:={ target:=.collected D,args:=#[] }::X.df }
section
variable {X:Cx G} {ν:NV} {F:Nat→Nat→Prop} {σ:Nat→Nat} {a:Go.Act} {w:World} {s:St G} {c:Cfg G}
theorem SatSt.behind (h:SatSt X ν F σ a w s) (D:Nat):SatSt (aX X D w σ F) ν F σ { a with defers:={ target:=.collected D,args:=#[] }::a.defers } w s :=
  ⟨h.S,by show _::a.defers=_::X.df;rw[h.d],h.sz,h.sl,Stp.refl _ _ _,fun k b hk=>.inl ⟨k,hk⟩,h.np,h.ag⟩
theorem v_retM {En:Env G} {fn:Func} {S:Spec G} {ν0:NV} {F0 F1:Nat→Nat→Prop} {σ0 σ1:Nat→Nat} {w0 w1:World} {D:Nat} {mx:En.P.follows .mixedOrders=true} (hD:w1.heap[D]? = some (.deferred (some []))) (hD0:w0.heap.size≤D) (hσ:σ1 D=0) (hF:∀ k,¬ F1 k D)
    (hst:Stp (fun b=>∃ k,F0 k b) σ0 w0 σ1 w1) (hpm:∀ k b,F1 k b→(∃ k,F0 k b)∨w0.heap.size≤b)
    (g:S.γ) (ρ:List Nat) (V:Prop) (hV:V) (hg:S.prop g)
    (h:evRet En fn S (aX (mCx En fn S ν0 F0 σ0 w0 mx) D w1 σ1 F1) c ρ (S.post g)=some V:=by kernel_rfl):VC (aX (mCx En fn S ν0 F0 σ0 w0 mx) D w1 σ1 F1) c:=by
  unfold evRet at h
  split at h
  · rename_i e ht hk
    split at h
    · rename_i hc
      simp only[Bool.and_eq_true,decide_eq_true_eq,List.all_eq_true] at hc
      obtain⟨⟨⟨⟨⟨c0,c1⟩,c2⟩,c3⟩,c4⟩,c5⟩:=hc
      obtain⟨rs,h1,h⟩:=Option.bind_eq_some_iff.1 h
      obtain⟨v1,h2,h⟩:=Option.bind_eq_some_iff.1 h
      obtain⟨v2,h3,h4⟩:=Option.map_eq_some_iff.1 h
      subst h4
      obtain⟨p1,p2⟩:=conj_append hV
      obtain⟨p3,p4⟩:=conj_append p2
      refine run_ok p1 ⟨fun ν F σ a w hs=>?_⟩
      rw[ht,hk]
      have hDl:D<w1.heap.size:=(Array.getElem?_eq_some_iff.1 hD).1
      have hDn:¬ ∃ k,F1 k D:=fun⟨k,q⟩=>hF k q
      have hDw:w.heap[D]? = some (.deferred (some [])):=(hs.st.block D hDl hDn).trans hD
      have hDσ:σ D=0:=(hs.st.wm D hDl hDn).trans hσ
      have hDF:∀ k,¬ F k D:=fun k q=>(hs.pm k D q).elim hDn fun c=>by have:w1.heap.size≤D:=c;omega
      have stD:Stp (fun b=>b=D) σ w σ (w.putObj D (.deferred none)):=by
        refine⟨rfl,rfl,rfl,by simp,fun b _ hb=>World.putObj_heap_other hb,fun _ _ _=>rfl,fun b o hb ho=>?_,fun _ _=>Nat.le_refl _,Nat.le_refl _⟩
        by_cases e:b=D
        · subst e;omega
        · exact World.cell?_of_block (World.putObj_heap_other e)
      have S':Sat ν F σ (w.putObj D (.deferred none)) (nxt (aX (mCx En fn S ν0 F0 σ0 w0 mx) D w1 σ1 F1) c).st.H:=hs.S.step stD fun k b hkb e=>by have e2:b=D:=e;rw[e2] at hkb;exact hDF k hkb
      have hs':SatSt (rX (aX (mCx En fn S ν0 F0 σ0 w0 mx) D w1 σ1 F1) (w.putObj D (.deferred none)) σ F S.H.length ν0) ν F σ a (w.putObj D (.deferred none)) (nxt (aX (mCx En fn S ν0 F0 σ0 w0 mx) D w1 σ1 F1) c).st :=
        ⟨S',hs.d,hs.sz,hs.sl,Stp.refl _ _ _,fun k b hk=>.inl ⟨k,hk⟩,hs.np,hs.ag⟩
      have st3:Stp (fun b=>∃ k,F0 k b) σ0 w0 σ (w.putObj D (.deferred none)):=by
        have s1:Stp (fun b=>∃ k,F0 k b) σ0 w0 σ w:=hst.trans hs.st fun b hb e=>e.elim id fun⟨k,hk⟩=>(hpm k b hk).elim id fun c=>absurd hb (by omega)
        exact s1.trans stD fun b hb e=>e.elim id fun e=>by subst e;omega
      have pm3:∀ k b,F k b→(∃ k,F0 k b)∨w0.heap.size≤b:=fun k b hk=>by
        rcases hs.pm k b hk with⟨k',hk'⟩ | c
        · exact hpm k' b hk'
        · have c' : w1.heap.size ≤ b := c
          exact .inr (Nat.le_trans hst.size c')
      obtain⟨hl,hE⟩:=mtE_ok h3 (conj_all p4)
      have hr:∀ i n,(List.range S.H.length++ρ)[i]? = some n→(List.range S.H.length++ρ).getD i 0=n:=fun i n hn=>by rw[List.getD_eq_getElem?_getD,hn];rfl
      have hSat:=hs'.S.remap (H':=(S.post g).1) (fun n=>(List.range S.H.length++ρ).getD n 0) (fun m e hm=>by
        obtain⟨n,cur,q,e1,e2,e3,e4⟩:=hE m e hm
        have hmem:=c4 e (List.mem_of_getElem? hm)
        refine⟨hmem.1,?_⟩
        rw[hr m n e1]
        exact(Ent.holds_ren e).1 (eqE_ok (nlOf_ok hs'.S) e3 e4 (hs'.S.ent n cur e2) (by rw[Ent.cok_ren];exact hmem.2))) (fun m m' e e' hm hm' hse hse' hrr=>by
        obtain⟨n,cur,q,e1,e2,e3,e4⟩:=hE m e hm
        obtain⟨n',cur',q',e1',e2',e3',e4'⟩:=hE m' e' hm'
        rw[hr m n e1,hr m' n' e1'] at hrr
        subst hrr
        exact ownNames_inj (nodup_ok c3) hm hm' e1 e1' hse hse')
      have hres:=resS_ok (En:=En) rfl hs' h1
      have hval:(results fn a.tmps).run En.P (w.putObj D (.deferred none))=.ok (den ν (oneOrT rs)) (w.putObj D (.deferred none)):=by
        refine results_of (rs:=fn.results.toList) (by simp) hres _ ?_
        exact oneOrT_ok ν rs
      have hfin:RetOk S ν0 F0 σ0 w0 (.returned (den ν (oneOrT rs))) (w.putObj D (.deferred none)):=by
        refine⟨g,_,_,σ,?_,⟨hg,fun i hi=>?_,st3,hSat,by omega,fun k b ⟨e,_,_,hF⟩=>pm3 _ b hF,c5⟩⟩
        · rw[(eqS_ok ν (nlOf_ok hs'.S) _ _ h2 (conj_all p3)).1,den_ren]
        · have : (List.range S.H.length ++ ρ).getD i 0 = i := hr i i (by rw [List.getElem?_append_left (by simpa using hi), List.getElem?_range hi])
          show ν ((List.range S.H.length++ρ).getD i 0)=ν0 i
          rw[this]
          exact hs.ag i hi
      have hd:a.defers=[{ target:=.collected D,args:=#[] }]:=hs.d
      have hfinM:LeavesInM Fence.wide 0 En.P fn a.tmps (RetOk S ν0 F0 σ0 w0) a.defers .returning w:=by
        rw[hd]
        refine⟨fun q=>(by cases q),.inl ⟨D,_,rfl,run_takeDeferred hDw,?_⟩⟩
        exact⟨_,hval,hfin⟩
      cases e with
      | nm=>exact⟨fun c q=>(by cases q),hfinM⟩
      | rt=>exact⟨fun c q=>(by cases q),hfinM⟩
      | ex i=>simp[isEnd] at c0
    · simp at h
  · simp at h
end
end Go.Proofs.YtblnnkkelkjbiaaDoor.X
set_option linter.unusedVariables false
set_option linter.unusedSimpArgs false
set_option maxRecDepth 100000
namespace Go.Proofs.YtblnnkkelkjbiaaDoor.X
open Go Go.RowKit Go.Proofs Go.Proofs.YtblnnkkelkjbiaaDoor.E
noncomputable def cAll:Code:=(Tryd.f19.body).getD .skip
def cFst:Code→Code | .seq a _=>a | c=>c
def cSnd:Code→Code | .seq _ b=>b | c=>c
def cBlk:Code→Code | .block _ b=>b | c=>c
def cRfA:Code→Code | .rangeFunc _ _ a _=>a | c=>c
def cRfB:Code→Code | .rangeFunc _ _ _ b=>b | c=>c
def cOps:Code→Array Oper | .region _ ops _=>ops | _=>#[]
noncomputable def rfN:Code:=cBlk (cSnd (cFst (cSnd (cSnd (cSnd cAll)))))
noncomputable def rstN:Code:=cSnd (cSnd (cSnd (cSnd cAll)))
noncomputable def ops5:Array Oper:=cOps (cRfA rfN)
noncomputable def ops6:Array Oper:=cOps (cBlk (cRfB rfN))
/-- The state between two rounds. -/
def stN (B:BK) (cs:List Coin):St GT:=⟨[(1,.p 2 0),(3,.p 3 0),(11,.f 38 [] [.p 4 0])],[.mp 54 B,.bx 56 [.n 0],.bx 24 [.p 1 0],.bx 27 [.n 6],.bx 54 [.n 0],.mu 49 [],.mu 49 cs]⟩
/-- .. with the round's key. -/
def stP (B:BK) (cs:List Coin) (k:List UInt8 × List UInt8):St GT:=⟨(12,.a [.s k.1,.s k.2])::(stN B cs).l,(stN B cs).H⟩
def stA (B:BK) (cs:List Coin) (k:List UInt8 × List UInt8):St GT:=⟨[(4,.p 7 0),(12,.a [.s k.1,.s k.2]),(1,.p 2 0),(3,.p 3 0),(11,.f 38 [] [.p 4 0])],[.mp 54 B,.bx 56 [.n 0],.bx 24 [.p 1 0],.bx 27 [.n 6],.bx 54 [.n 0],.mu 49 [],.mu 49 cs,.bx 59 [.s k.1,.s k.2]]⟩
def p6b:Pl:=.o 12 (.o 0 (.o 13 (.o 14 .e)))
def p6 (r:Pl):Pl:=.f 1 (.f 2 (.f 3 (.f 4 (.f 5 (.f 6 (.f 7 (.f 8 (.f 9 (.f 10 (.f 11 r))))))))))
def stE (B:BK) (cs:List Coin) (k:List UInt8 × List UInt8):St GT:=⟨[(1,.p 2 0),(3,.p 3 0),(11,.f 38 [] [.p 4 0])],[.mp 54 B,.bx 56 [.n 0],.bx 24 [.p 1 0],.bx 27 [.n 9],.bx 54 [.n 0],.mu 49 [],.no,.bx 59 [.s k.1,.s k.2],.mu 49 [⟨k.1,k.2,(mget B (k.1,k.2)).getD 0⟩],.mu 49 (cs++[⟨k.1,k.2,(mget B (k.1,k.2)).getD 0⟩])]⟩
def gC (B:BK):Value→Coin
  | .agg #[.string s,.string t]=>⟨s.data.toList,t.data.toList,(mget B (s.data.toList,t.data.toList)).getD 0⟩
  | _=>⟨[],[],0⟩
theorem gC_enc (B:BK) (k:List UInt8 × List UInt8):gC B (encSS k)=⟨k.1,k.2,(mget B (k.1,k.2)).getD 0⟩:=by rfl
abbrev SAll (B:BK):Spec GT:=⟨[.mp 54 B,.bx 56 [.n 0]],[.p 1 0],Unit,fun _=>([.mp 54 B,.bx 56 [.n 0],.rd 49 (allL (coinsB B))],.n 2),fun _=>True⟩
noncomputable abbrev XA (B:BK) (ν:NV) (F:Nat→Nat→Prop) (σ:Nat→Nat) (w:World):Cx GT:=mCx EN Tryd.f19 (SAll B) ν F σ w MX
def IA (X:Cx GT) (B:BK) (a:Go.Act) (NW:List Nat) (pre:List Value) (W:World):Prop:=∃ ν F σ,SatSt X ν F σ a W (stN B (pre.map (gC B)))∧NWok X NW F σ W
def AA (X:Cx GT) (B:BK) (a:Go.Act) (NW:List Nat) (pre:List Value) (x:Value) (a1:Go.Act) (W:World):Prop :=
  ∃ k,x=encSS k∧∃ ν F σ,SatSt X ν F σ a1 W (stA B (pre.map (gC B)) k)∧NWok X NW F σ W∧∀ t∈[1,3,11],a.tmps.getD t undef=a1.tmps.getD t undef
theorem IA_clo (X:Cx GT) (B:BK) (a:Go.Act):Clo (IA X B a):=fun NW NW' s w w' ⟨ν,F,σ,hs,hw⟩ f hn=>by
  obtain⟨σ',h1,h2⟩:=hs.frn hw f hn;exact⟨ν,F,σ',h1,h2⟩
theorem AA_clo (X:Cx GT) (B:BK) (a:Go.Act) (NW:List Nat) (pre:List Value) (x:Value) (a1:Go.Act) (w2 w3:World) (h:AA X B a NW pre x a1 w2) (f:Frn NW w2 w3):AA X B a NW pre x a1 w3:=by
  obtain⟨k,hx,ν,F,σ,hs,hw,ht⟩:=h
  obtain⟨σ',h1,h2⟩:=hs.frn hw f fun b hb=>.inl hb
  exact⟨k,hx,ν,F,σ',h1,h2,ht⟩
section
variable {B:BK} {ν0:NV} {F0:Nat→Nat→Prop} {σ0:Nat→Nat} {w0:World}
theorem seg5 (cs:List Coin) (k:List UInt8 × List UInt8) (w:World) (σ:Nat→Nat) (F:Nat→Nat→Prop) (ν:NV):VC (doneCx (rX (XA B ν0 F0 σ0 w0) w σ F (stP B cs k).H.length ν) (stA B cs k)) ⟨.plan ops5 (inOrd 0 ops5.size) [0,4],[],stP B cs k⟩ :=
  v_doneL True trivial
def p6c:Pl:=p6 (.c 0 (.o 12 (.o 13 (.o 14 .e))) p6b)
theorem ops6_ok:(noDef ops6 && Region.noSelect ops6 && plOk (infoOf ops6) p6c ops6.size 0 0)=true:=by kernel_rfl
theorem seg6 (cs:List Coin) (k:List UInt8 × List UInt8) (hl:cs.length+1≤1000000) (w:World) (σ:Nat→Nat) (F:Nat→Nat→Prop) (ν:NV):VC (doneCx (rX (XA B ν0 F0 σ0 w0) w σ F (stA B cs k).H.length ν) (stE B cs k)) ⟨.plan ops6 p6c [0,1,2,4,7],[],stA B cs k⟩:=by
  refine v_pick True trivial ?_ ?_
  · exact v_doneL (cs.length+1≤1000000) hl
  · exact v_doneL (cs.length+1≤1000000) hl
theorem fst_map {α β:Type} (l:List (α × β)) (f:α→Value) (g:β→Value):(l.map fun p=>(f p.1,g p.2)).map Prod.fst=l.map fun p=>f p.1:=by rw[List.map_map];rfl
theorem getD_of {X:Cx GT} {ν:NV} {F:Nat→Nat→Prop} {σ:Nat→Nat} {a:Go.Act} {w:World} {s:St GT} (h:SatSt X ν F σ a w s) {t:Nat} {x:SV} (hx:s.l.lookup t=some x):a.tmps.getD t undef=den ν x:=(h.sl t x hx).1
theorem bm_of {X:Cx GT} {ν:NV} {F:Nat→Nat→Prop} {σ:Nat→Nat} {a:Go.Act} {w:World} {s:St GT} {bm:Nat} (h:SatSt X ν F σ a w s) (h0:s.H[0]? = some (.mp 54 B)) (hn:0<X.np) (hb:X.ν0 0=.map (some bm)):F 0 bm:=by
  obtain⟨b,e,hF,_⟩:=h.S.ent 0 _ h0
  rw[h.ag 0 hn,hb] at e
  injection e with e;injection e with e;subst e;exact hF
theorem mb_of {X:Cx GT} {ν:NV} {F:Nat→Nat→Prop} {σ:Nat→Nat} {a:Go.Act} {w:World} {s:St GT} {mb:Nat} (h:SatSt X ν F σ a w s) (h4:s.H[4]? = some (.bx 54 [.n 0])) (hl:s.l.lookup 11=some (.f 38 [] [.p 4 0])) (hb:a.tmps.getD 11 undef=.func (.func 38) #[] #[.pointer (some ⟨mb,0,none⟩)]):F 4 mb:=by
  obtain⟨b,e,_,hF,_⟩:=h.S.ent 4 _ h4
  have h1:=getD_of h hl
  rw[hb] at h1
  simp only[den,denL,e,padd] at h1
  injection h1 with _ _ h1
  have h2:Value.pointer (some ⟨mb,0,none⟩)=.pointer (some ⟨b,0+0,none⟩):=by
    have:=congrArg (fun(q:Array Value)=>q[0]?) h1
    simpa using this
  injection h2 with h2;injection h2 with h2;injection h2 with h2 _ _;subst h2;exact hF
theorem fix_of {F:Nat→Nat→Prop} {w w':World} {mb bm:Nat} {NW prot:List Nat} (h0:F 0 bm) (h4:F 4 mb) (p0:0∈prot) (p4:4∈prot) (hf:Fix NW w w') (hp:∀ k b,k∈prot→F k b→w'.heap[b]? = w.heap[b]?):Fix ([mb,bm]++NW) w w':=fun b hb=>by
  rcases List.mem_append.1 hb with hb | hb
  · simp only [List.mem_cons, List.not_mem_nil, or_false] at hb
    rcases hb with rfl | rfl
    · exact hp 4 _ p4 h4
    · exact hp 0 _ p0 h0
  · exact hf b hb
end
theorem All_aux (B:BK) (hl:B.length≤100000) (hn:(B.map (·.1)).Nodup):FOk EN 19 (SAll B):=by
 refine v_funM Tryd.f19 cAll MX (fun ν0 F0 σ0 w0=>?_) Tryd.func19
 refine v_nl ?_
 refine v_mark 49 ?_
 refine v_call _ [0] (Keys_ok B) (B=B) rfl (fun g1 p2=>?_)
 refine v_at ⟨.code (.rangeFunc (.tmp 11) #[12] (.region 5 ops5 false) (.block 1 (.region 6 ops6 true))),[.bk 0,.c rstN],⟨[(11,.f 38 [] [.p 6 0]),(10,.n 0),(9,.p 1 0),(8,.p 1 0),(7,.p 1 0),(6,.v (.bool false)),(5,.p 1 0),(3,.p 5 0),(2,.v (.slice none 0 0)),(1,.p 4 0),(0,.p 1 0)],[.mp 54 B,.bx 56 [.n 0],.nl,.mu 49 [],.bx 24 [.p 1 0],.bx 27 [.v (.slice none 0 0)],.bx 54 [.n 0]]⟩⟩ True trivial ?_
 refine⟨fun ν F σ a w hs=>?_⟩
 obtain⟨F1,hs1,-⟩:=canon (l0:=[]) (H0:=[.mp 54 B,.bx 56 [.n 0]]) (inv:=([(1,.p 2 0),(3,.p 3 0),(11,.f 38 [] [.p 4 0])],[.bx 24 [.p 1 0],.bx 27 [.n 6],.bx 54 [.n 0],.mu 49 [],.mu 49 []])) (ρ:=[4,5,6,3,2]) hs (38=38∧([]:List Coin)=[]∧([]:List Coin)=[]) ⟨rfl,rfl,rfl⟩ (by kernel_rfl) rfl rfl
 have hs1:SatSt (XA B ν0 F0 σ0 w0) (fun n=>ν (rnm 2 [4,5,6,3,2] n)) F1 σ a w (stN B []):=hs1
 generalize (fun n=>ν (rnm 2 [4,5,6,3,2] n))=ν1 at hs1
 clear hs
 have hnt:a.tmps.size=30:=hs1.sz
 have hdf:a.defers=[]:=hs1.d
 obtain⟨bm,e0,f0,es,clock,hbm,hmap,hborn,hnd⟩:=hs1.S.ent 0 _ rfl
 obtain⟨mb,e4,hbx,f4,_⟩:=hs1.S.ent 4 _ rfl
 have hν0:ν0 0=.map (some bm):=(hs1.ag 0 (Nat.le_of_ble_eq_true rfl)).symm.trans e0
 have h11:a.tmps.getD 11 undef=.func (.func 38) #[] #[.pointer (some ⟨mb,0,none⟩)]:=by
  rw[getD_of hs1 (t:=11) (x:=.f 38 [] [.p 4 0]) rfl]
  simp only[den,denL,e4,padd]
 have hks:es.toList.map (·.key)=B.map fun p=>encSS p.1:=by
  have h1:es.toList.map (·.key)=(es.toList.map fun e=>(e.key,e.val)).map Prod.fst:=by rw[List.map_map];rfl
  rw[h1,hmap];exact fst_map B encSS _
 have hmbc:w.cell? ⟨mb,0,none⟩=some (.map (some bm)):=by
  have:denC ν1 [SV.n 0]=[ν1 0]:=rfl
  rw[this,e0] at hbx
  have h:=hbx.cell 0
  simpa using h
 have hkeyf:∀ x∈es.toList,∃ s t:ByteArray,x.key=.agg #[.string s,.string t]:=fun x hx=>by
  have:x.key∈B.map fun p=>encSS p.1:=by rw[← hks];exact List.mem_map.2 ⟨x,hx,rfl⟩
  obtain⟨p,_,hp⟩:=List.mem_map.1 this
  exact⟨_,_,hp.symm⟩
 have it:IterOk Tryd.prog 38 [.pointer (some ⟨mb,0,none⟩)] [mb,bm] (B.map fun p=>encSS p.1) w:=by
  rw[← hks]
  exact keys1_iter hmbc hbm (fun x hx=>hborn _ (List.mem_map.2 ⟨x,hx,rfl⟩)) hnd hkeyf
 have hnw:NWok (XA B ν0 F0 σ0 w0) [] F1 σ w:=fun b hb=>by cases hb
 have hlen:∀ {pre:List Value} {x:Value} {rest:List Value},(pre++x::rest).Perm (B.map fun p=>encSS p.1)→(pre.map (gC B)).length+1≤1000000:=fun {pre x rest} hp=>by
  have:=hp.length_eq
  rw[List.length_append,List.length_cons,List.length_map] at this
  rw[List.length_map];omega
 refine range_law (kf:=38) (lb:=[.pointer (some ⟨mb,0,none⟩)]) (bs:=[mb,bm]) (P:=Tryd.prog) (ks:=B.map fun(p:(List UInt8 × List UInt8) × UInt64)=>encSS p.1) (I:=IA (XA B ν0 F0 σ0 w0) B a) (A:=AA (XA B ν0 F0 σ0 w0) B a) h11 (by kernel_rfl) (IA_clo _ B a) (AA_clo _ B a) ⟨ν1,F1,σ,hs1,hnw⟩ (fun b hb=>?_) it ?_ ?_ ?_
 ·simp only[List.mem_cons,List.not_mem_nil,or_false] at hb
  rcases hb with rfl | rfl
  ·exact hbx.lt
  ·exact(Array.getElem?_eq_some_iff.1 hbm).1
 ·rintro l NW pre x rest w1 ⟨ν,F,σ,hs,hw⟩ hp hfix hdis
  obtain⟨k,hx⟩:∃ k,x=encSS k:=by
   have:x∈B.map fun p=>encSS p.1:=hp.subset (by simp)
   obtain⟨p,_,hp⟩:=List.mem_map.1 this
   exact⟨p.1,hp.symm⟩
  subst hx
  have hact:({ tmps:=a.tmps.setIfInBounds 12 (encSS k),defers:=[] }:Go.Act)=a.put (some 12) (den ν (.a [.s k.1,.s k.2])):=by
   rw[← hdf];rfl
  rw[hact]
  have hs2:SatSt (XA B ν0 F0 σ0 w0) ν F σ (a.put (some 12) (den ν (.a [.s k.1,.s k.2]))) w1 (stP B (pre.map (gC B)) k):=hs.put (d:=some 12) (x:=.a [.s k.1,.s k.2]) rfl rfl
  refine wpIn_mono (seg_list (NW:=NW) (prot:=[0,4]) (st':=stA B (pre.map (gC B)) k) (by kernel_rfl) (seg5 _ _) hs2 hw) ?_
  rintro e a5 w5 ⟨rfl,ν5,F5,σ5,h5,hag,hw5,hf5,hpr⟩
  have tie:∀ t∈[1,3,11],a.tmps.getD t undef=a5.tmps.getD t undef:=fun t ht=>by
   simp only[List.mem_cons,List.not_mem_nil,or_false] at ht
   rcases ht with rfl | rfl | rfl
   ·rw[getD_of hs (t:=1) (x:=.p 2 0) rfl,getD_of h5 (t:=1) (x:=.p 2 0) rfl];simp only[den,hag 2 (Nat.le_of_ble_eq_true rfl)]
   ·rw[getD_of hs (t:=3) (x:=.p 3 0) rfl,getD_of h5 (t:=3) (x:=.p 3 0) rfl];simp only[den,hag 3 (Nat.le_of_ble_eq_true rfl)]
   ·rw[getD_of hs (t:=11) (x:=.f 38 [] [.p 4 0]) rfl,getD_of h5 (t:=11) (x:=.f 38 [] [.p 4 0]) rfl];simp only[den,denL,hag 4 (Nat.le_of_ble_eq_true rfl)]
  exact⟨⟨k,rfl,ν5,F5,σ5,h5,hw5,tie⟩,fix_of (bm_of hs rfl (Nat.le_of_ble_eq_true rfl) hν0) (mb_of hs rfl rfl h11) (by decide) (by decide) hf5 hpr⟩
 ·rintro l NW pre x rest a1 w3 ⟨k,hx,ν,F,σ,hs,hw,tie⟩ hp hdis
  subst hx
  refine wpIn_block (wpIn_mono (seg_draw (NW:=NW) (π:=p6c) (prot:=[0,1,2,4,7]) (st':=stE B (pre.map (gC B)) k) ops6_ok (seg6 _ _ (hlen hp)) hs hw) ?_)
  rintro e a6 w6 ⟨rfl,ν6,F6,σ6,h6,hag,hw6,hf6,hpr⟩
  obtain⟨F7,h7,hF7⟩:=canon (l0:=[]) (H0:=[.mp 54 B,.bx 56 [.n 0]]) (inv:=([(1,.p 2 0),(3,.p 3 0),(11,.f 38 [] [.p 4 0])],[.bx 24 [.p 1 0],.bx 27 [.n 6],.bx 54 [.n 0],.mu 49 [],.mu 49 ((pre++[encSS k]).map (gC B))])) (ρ:=[2,3,4,5,9]) h6 (38=38∧([]:List Coin)=[]∧(pre.map (gC B)++[⟨k.1,k.2,(mget B (k.1,k.2)).getD 0⟩])=(pre++[encSS k]).map (gC B)) ⟨rfl,rfl,by rw[List.map_append,List.map_cons,List.map_nil,gC_enc]⟩ (by kernel_rfl) rfl rfl
  have h7:SatSt (XA B ν0 F0 σ0 w0) (fun n=>ν6 (rnm 2 [2,3,4,5,9] n)) F7 σ6 a6 w6 (stN B ((pre++[encSS k]).map (gC B))):=h7
  have tie6:∀ t∈[1,3,11],a.tmps.getD t undef=a6.tmps.getD t undef:=fun t ht=>by
   rw[tie t ht]
   simp only[List.mem_cons,List.not_mem_nil,or_false] at ht
   rcases ht with rfl | rfl | rfl
   ·rw[getD_of hs (t:=1) (x:=.p 2 0) rfl,getD_of h6 (t:=1) (x:=.p 2 0) rfl];simp only[den,hag 2 (Nat.le_of_ble_eq_true rfl)]
   ·rw[getD_of hs (t:=3) (x:=.p 3 0) rfl,getD_of h6 (t:=3) (x:=.p 3 0) rfl];simp only[den,hag 3 (Nat.le_of_ble_eq_true rfl)]
   ·rw[getD_of hs (t:=11) (x:=.f 38 [] [.p 4 0]) rfl,getD_of h6 (t:=11) (x:=.f 38 [] [.p 4 0]) rfl];simp only[den,denL,hag 4 (Nat.le_of_ble_eq_true rfl)]
  refine⟨rfl,⟨_,F7,σ6,h7.act hdf hnt fun t x hx=>?_,fun b hb=>⟨(hw6 b hb).1,(hw6 b hb).2.1,(hw6 b hb).2.2.1,fun m hm=>let ⟨m',q⟩:=hF7 m b hm;(hw6 b hb).2.2.2 m' q⟩⟩,fix_of (bm_of hs rfl (Nat.le_of_ble_eq_true rfl) hν0) (mb_of hs rfl rfl ((tie 11 (by simp)).symm.trans h11)) (by decide) (by decide) hf6 hpr⟩
  rw[← getD_of h7 hx]
  have ht:t∈[1,3,11]:=by
   have h:=List.mem_map_of_mem (f:=Prod.fst) (lookup_mem hx)
   exact h
  exact tie6 t ht
 ·rintro D NW xs w' hp ⟨ν,F,σ,hs,hw⟩ hD hDw hDd hfix
  have hcs:(xs.map (gC B)).Perm (coinsB B):=by
   have h1:=hp.map (gC B)
   rw[List.map_map] at h1
   have h2:B.map (gC B ∘ fun p=>encSS p.1)=coinsB B:=by
    unfold coinsB
    refine List.map_congr_left fun p hp=>?_
    show gC B (encSS p.1)=_
    rw[gC_enc,show(p.1.1,p.1.2)=p.1 from rfl,mget_mem hn hp];rfl
   rwa [h2] at h1
  have hl2:(xs.map (gC B)).length≤1000000:=by have:=hcs.length_eq;have h3:(coinsB B).length=B.length:=List.length_map ..;omega
  have hck:(coinsB B).map ckey=B.map (·.1):=by unfold coinsB;rw[List.map_map];rfl
  have hnd2:((xs.map (gC B)).map ckey).Nodup:=((hcs.map ckey).nodup_iff).2 (by rw[hck];exact hn)
  have hall:allL (xs.map (gC B))=allL (coinsB B):=allL_eq hcs hnd2
  have hb:=hs.behind D
  have K:VC (aX (XA B ν0 F0 σ0 w0) D w' σ F) ⟨.exit .nm,[.bk 0,.c rstN],stN B (xs.map (gC B))⟩:=by
   refine v_call _ [6] (sortC_ok (xs.map (gC B)) hl2 hnd2) (30=30∧xs.map (gC B)=xs.map (gC B)) ⟨rfl,rfl⟩ (fun g p=>?_)
   refine v_stop 6 True trivial ?_
   exact v_retM hDd (hw D hD).1 (hw D hD).2.2.1 (hw D hD).2.2.2 hs.st hs.pm () [6] (B=B∧allL (xs.map (gC B))=allL (coinsB B)) ⟨rfl,hall⟩ trivial
  exact K.h ν F σ _ w' hb
abbrev cD:Coin:=⟨[],[],0⟩
section
variable {L:List Coin} {a d:List UInt8} {n:UInt64} {i:Nat}
end
theorem All_ok (B:BK) (hl:B.length≤100000) (hn:(B.map (·.1)).Nodup):FOk EN 19 ⟨[.mp 54 B,.bx 56 [.n 0]],[.p 1 0],Unit,fun _=>([.mp 54 B,.bx 56 [.n 0],.rd 49 (allL (coinsB B))],.n 2),fun _=>True⟩:=All_aux B hl hn
abbrev aD:Act:=⟨0,0,0,0,[],0⟩
def grB (acts:List Act):Nat→BK
  | 0=>[]
  | i+1=>if i<50 then giB (grB acts i) (nm ((acts.getD i aD).a % 15) []) [120+(acts.getD i aD).d % 3] (acts.getD i aD).n else grB acts i
section
variable {acts:List Act} {i:Nat} {B:BK} {a d t:List UInt8} {n:UInt64}
theorem mdel_len (l:BK) (k:List UInt8 × List UInt8):(mdel l k).length≤l.length:=(mdel_sub l k).length_le
theorem giB_len:(giB B a d n).length≤B.length+1:=by unfold giB;split;exact mput_len ..;exact Nat.le_succ _
theorem taB_len:(taB B a d n).length≤B.length+1:=by
  unfold taB;split
  · exact Nat.le_succ _
  · split
    · exact Nat.le_trans (mdel_len _ _) (mput_len ..)
    · exact mput_len ..
theorem moB_len:(moB B a t d n).length≤B.length+2:=by
  have h1:=taB_len (B:=B) (a:=a) (d:=d) (n:=n)
  unfold moB;split
  · omega
  · split
    · have:=mput_len (taB B a d n) (a,d) (bget (taB B a d n) a d+n);omega
    · have:=giB_len (B:=taB B a d n) (a:=t) (d:=d) (n:=n);omega
theorem grB_len:∀ i,(grB acts i).length≤50∧(grB acts i).length≤i
  | 0=>⟨Nat.zero_le _,Nat.zero_le _⟩
  | i + 1 => by
    have h:=grB_len i
    unfold grB;split
    · have:=giB_len (B:=grB acts i) (a:=nm ((acts.getD i aD).a % 15) []) (d:=[120+(acts.getD i aD).d % 3]) (n:=(acts.getD i aD).n);omega
    · omega
theorem all_len (B:BK):(allL (coinsB B)).length=B.length:=by rw[allL_len];exact List.length_map ..
theorem ln0:(grB acts i).length≤50:=(grB_len i).1
theorem lnG (h:B.length≤1000):(giB B a d n).length≤1001:=Nat.le_trans giB_len (by omega)
theorem lnT (h:B.length≤1001):(taB B a d n).length≤1002:=Nat.le_trans taB_len (by omega)
theorem l0:(grB acts i).length≤1000:=Nat.le_trans ln0 (by decide)
theorem l1 (acts:List Act) (i:Nat) (a d:List UInt8) (n:UInt64):(giB (grB acts i) a d n).length≤1001:=lnG l0
theorem l2 (acts:List Act) (i:Nat) (a d:List UInt8) (n:UInt64):(taB (giB (grB acts i) a d n) a d n).length≤1002:=lnT (l1 ..)
section
variable {c:List UInt8}
end
theorem rd_ln {α:Type} {T:Ty α} {σ:Nat→Nat} {w:World} {v:Value} {xs:List α} (h:Rd T σ w v xs) (hb:0<T.by_):xs.length≤140737488355328:=Nat.le_trans (Nat.le_mul_of_pos_right _ hb) h.bd
end
def cS (e:List UInt8):List Coin→UInt64
  | []=>0
  | c::r=>(if c.denom=e then c.amount else 0)+cS e r
def dS (B:BK) (e:List UInt8):UInt64:=cS e (coinsB B)
theorem ac0 (x y z:UInt64):x+(y+z)=y+(x+z):=by rw[← UInt64.add_assoc,UInt64.add_comm x y,UInt64.add_assoc]
theorem cS_perm (e:List UInt8) {L M:List Coin} (h:L.Perm M):cS e L=cS e M:=by
  induction h with
  | nil=>rfl
  | cons x _ ih=>unfold cS;rw[ih]
  | swap x y l=>simp only[cS];exact ac0 ..
  | trans _ _ h1 h2=>exact h1.trans h2
theorem cS_app (e:List UInt8) (M:List Coin):∀ L:List Coin,cS e (L++M)=cS e L+cS e M
  | []=>by show cS e M=0+cS e M;rw[UInt64.zero_add]
  | c::L=>by show _+cS e (L++M)=(_+cS e L)+cS e M;rw[cS_app e M L,UInt64.add_assoc]
section
variable {B:BK} {a d t e:List UInt8} {n:UInt64}
theorem ar1 (a s b v:UInt64):a+(s - b+v)=a+s - b+v:=by rw[UInt64.sub_eq_add_neg,UInt64.sub_eq_add_neg,← UInt64.add_assoc,← UInt64.add_assoc]
theorem ar2 (v b s:UInt64):v+s=b+s - b+v:=by rw[UInt64.add_comm b s,UInt64.add_sub_cancel,UInt64.add_comm]
theorem ar3 (b s:UInt64):s=b+s - b:=by rw[UInt64.add_comm b s,UInt64.add_sub_cancel]
theorem ar4 (a s b:UInt64):a+(s - b)=a+s - b:=by rw[UInt64.sub_eq_add_neg,UInt64.sub_eq_add_neg,← UInt64.add_assoc]
theorem dS_cons (p:(List UInt8 × List UInt8) × UInt64) (r:BK):dS (p::r) e=(if p.1.2=e then p.2 else 0)+dS r e:=rfl
theorem bget_cons (p:(List UInt8 × List UInt8) × UInt64) (r:BK):bget (p::r) a d=if p.1=(a,d) then p.2 else bget r a d:=by
  unfold bget;rw[show mget (p::r) (a,d)=if p.1=(a,d) then some p.2 else mget r (a,d) from rfl];split <;> rfl
theorem dS_put (v:UInt64):∀ B:BK,dS (mput B (a,d) v) e=if d=e then dS B e - bget B a d+v else dS B e
  | [] => by
    show(if d=e then v else 0)+0=if d=e then(0:UInt64) - 0+v else 0
    split <;> simp
  | p :: r => by
    unfold mput
    by_cases h:p.1=(a,d)
    · rw [if_pos h, dS_cons, dS_cons, bget_cons, if_pos h, h]
      by_cases q:d=e
      · rw[if_pos q,if_pos q,if_pos q];exact ar2 ..
      · rw[if_neg q,if_neg q,if_neg q]
    · rw [if_neg h, dS_cons, dS_cons, bget_cons, if_neg h, dS_put v r]
      by_cases q:d=e
      · rw[if_pos q,if_pos q];exact ar1 ..
      · rw[if_neg q,if_neg q]
theorem dS_del:∀ B:BK,dS (mdel B (a,d)) e=if d=e then dS B e - bget B a d else dS B e
  | [] => by
    show(0:UInt64)=if d=e then(0:UInt64) - 0 else 0
    split <;> simp
  | p :: r => by
    unfold mdel
    by_cases h:p.1=(a,d)
    · rw [if_pos h, dS_cons, bget_cons, if_pos h, h]
      by_cases q:d=e
      · rw[if_pos q,if_pos q];exact ar3 ..
      · rw[if_neg q,if_neg q,UInt64.zero_add]
    · rw [if_neg h, dS_cons, dS_cons, bget_cons, if_neg h, dS_del r]
      by_cases q:d=e
      · rw[if_pos q,if_pos q];exact ar4 ..
      · rw[if_neg q,if_neg q]
theorem ar5 (s b n:UInt64):s - b+(b+n)=s+n:=by rw[← UInt64.add_assoc,UInt64.sub_add_cancel]
theorem ar6 (s b n:UInt64):s - b+(b - n)=s - n:=by rw[UInt64.sub_eq_add_neg b n,← UInt64.add_assoc,UInt64.sub_add_cancel,UInt64.sub_eq_add_neg]
theorem dS_give:dS (giB B a d n) e=if(giE B a d n).isNone=true∧d=e then dS B e+n else dS B e:=by
  unfold giB
  by_cases h:(giE B a d n).isNone=true
  · rw [if_pos h, dS_put]
    by_cases q:d=e
    · rw[if_pos q,if_pos ⟨h,q⟩];exact ar5 ..
    · rw[if_neg q,if_neg (fun z=>q z.2)]
  · rw[if_neg h,if_neg (fun z=>h z.1)]
theorem dS_take:dS (taB B a d n) e=if(taE B a d n).isNone=true∧d=e then dS B e - n else dS B e:=by
  unfold taB
  by_cases h:(taE B a d n).isNone=false
  · rw[if_pos h,if_neg (fun z=>by rw[h] at z;cases z.1)]
  · have h' : (taE B a d n).isNone = true := by simpa using h
    rw[if_neg h]
    by_cases z:bget B a d - n=0
    · rw [if_pos z, dS_del, dS_put]
      by_cases q:d=e
      · rw[if_pos q,if_pos q,if_pos ⟨h',q⟩,bget_put,if_pos ⟨rfl,rfl⟩,UInt64.add_sub_cancel,← ar6 (dS B e) (bget B a d) n,z,UInt64.add_zero]
      · rw[if_neg q,if_neg q,if_neg (fun z=>q z.2)]
    · rw [if_neg z, dS_put]
      by_cases q:d=e
      · rw[if_pos q,if_pos ⟨h',q⟩];exact ar6 ..
      · rw[if_neg q,if_neg (fun z=>q z.2)]
theorem dS_move:dS (moB B a t d n) e=dS B e:=by
  unfold moB
  by_cases h:(taE B a d n).isNone=false
  · rw[if_pos h]
  · have h' : (taE B a d n).isNone = true := by simpa using h
    rw[if_neg h]
    by_cases g:(giE (taB B a d n) t d n).isNone=false
    · rw [if_pos g, dS_put]
      by_cases q:d=e
      · rw[if_pos q,ar5,dS_take,if_pos ⟨h',q⟩,UInt64.sub_add_cancel]
      · rw[if_neg q,dS_take,if_neg (fun z=>q z.2)]
    · have g' : (giE (taB B a d n) t d n).isNone = true := by simpa using g
      rw[if_neg g,dS_give,dS_take]
      by_cases q:d=e
      · rw[if_pos ⟨g',q⟩,if_pos ⟨h',q⟩,UInt64.sub_add_cancel]
      · rw[if_neg (fun z=>q z.2),if_neg (fun z=>q z.2)]
def Dk (d:List UInt8):Prop:=d=[120]∨d=[121]∨d=[122]
def DB (B:BK):Prop:=∀ p∈B,Dk p.1.2
theorem DBput (hd:Dk d) {v:UInt64}:∀ {B:BK},DB B→DB (mput B (a,d) v)
  | [],_=>fun p hp=>by rw[List.mem_singleton.1 hp];exact hd
  | q :: r, h => fun p hp => by
    unfold mput at hp
    split at hp
    · rename_i z
      rcases List.mem_cons.1 hp with hp | hp
      · rw[hp];exact hd
      · exact h p (List.mem_cons_of_mem _ hp)
    · rcases List.mem_cons.1 hp with hp | hp
      · rw[hp];exact h q (List.mem_cons_self ..)
      · exact DBput hd (fun s hs=>h s (List.mem_cons_of_mem _ hs)) p hp
theorem DB.del (h:DB B) {k:List UInt8 × List UInt8}:DB (mdel B k):=fun p hp=>h p ((mdel_sub B k).subset hp)
theorem DB.give (h:DB B) (hd:Dk d):DB (giB B a d n):=by
  unfold giB;split
  · exact DBput hd h
  · exact h
theorem DB.take (h:DB B) (hd:Dk d):DB (taB B a d n):=by
  unfold taB;split
  · exact h
  · split
    · exact(DBput hd h).del
    · exact DBput hd h
theorem DB.move (h:DB B) (hd:Dk d):DB (moB B a t d n):=by
  unfold moB;split
  · exact h
  · split
    · exact DBput hd (h.take hd)
    · exact(h.take hd).give hd
theorem dk3 (x:UInt8):x % 3=0∨x % 3=1∨x % 3=2:=by
  have:(x % 3).toNat<3:=by rw[UInt8.toNat_mod];exact Nat.mod_lt _ (by decide)
  rcases(show(x % 3).toNat=0∨(x % 3).toNat=1∨(x % 3).toNat=2 by omega) with h | h | h
  · exact .inl (UInt8.toNat_inj.1 h)
  · exact .inr (.inl (UInt8.toNat_inj.1 h))
  · exact .inr (.inr (UInt8.toNat_inj.1 h))
theorem dk (x:UInt8):Dk [120+x % 3]:=by
  rcases dk3 x with h | h | h <;> rw[h]
  · exact .inl rfl
  · exact .inr (.inl rfl)
  · exact .inr (.inr rfl)
end
abbrev gvE (g:List Act) (B:BK) (i:Nat):Option Er:=giE B (nm ((g.getD i aD).a % 15) []) [120+(g.getD i aD).d % 3] ((g.getD i aD).n % 1099511627776)
def gsB (g:List Act):Nat→BK
  | 0=>[]
  | i+1=>if i<50 then giB (gsB g i) (nm ((g.getD i aD).a % 15) []) [120+(g.getD i aD).d % 3] ((g.getD i aD).n % 1099511627776) else gsB g i
abbrev mvN (x:Act):UInt64:=if x.kind % 2=0 then x.n % 1048576 else x.n
def mvB (B:BK) (m:List Act):Nat→BK
  | 0=>B
  | i+1=>moB (mvB B m i) (nm ((m.getD i aD).a % 15) []) (nm ((m.getD i aD).b % 15) []) [120+(m.getD i aD).d % 3] (mvN (m.getD i aD))
section
variable {g m:List Act} {i:Nat} {B:BK}
theorem gsB_ok:∀ i,BOk (gsB g i)∧DB (gsB g i)
  | 0=>⟨.nil,fun p h=>absurd h List.not_mem_nil⟩
  | i + 1 => by
    unfold gsB;split
    · exact⟨(gsB_ok i).1.give,(gsB_ok i).2.give (dk _)⟩
    · exact gsB_ok i
theorem gsB_len:∀ i,(gsB g i).length≤50∧(gsB g i).length≤i
  | 0=>⟨Nat.zero_le _,Nat.zero_le _⟩
  | i + 1 => by
    have h:=gsB_len i
    unfold gsB;split
    · have:=giB_len (B:=gsB g i) (a:=nm ((g.getD i aD).a % 15) []) (d:=[120+(g.getD i aD).d % 3]) (n:=(g.getD i aD).n % 1099511627776);omega
    · omega
theorem mvB_ok (h:BOk B∧DB B):∀ i,BOk (mvB B m i)∧DB (mvB B m i)
  | 0=>h
  | i+1=>⟨(mvB_ok h i).1.move,(mvB_ok h i).2.move (dk _)⟩
theorem mvB_len:∀ i,(mvB B m i).length≤B.length+2*i
  | 0=>Nat.le_refl _
  | i + 1 => by
    have h:=mvB_len i
    exact Nat.le_trans moB_len (by omega)
theorem mvB_dS (e:List UInt8):∀ i,dS (mvB B m i) e=dS B e
  | 0=>rfl
  | i+1=>dS_move.trans (mvB_dS e i)
theorem cS_take (e:List UInt8) {L:List Coin} (h:(i:Int)<L.length):cS e (L.take (i+1))=cS e (L.take i)+(if(L.getD i cD).denom=e then(L.getD i cD).amount else 0):=by
  have h':i<L.length:=by omega
  rw[List.take_succ_eq_append_getElem h',cS_app,List.getD_eq_getElem?_getD,List.getElem?_eq_getElem h']
  show _+(_+0)=_;rw[UInt64.add_zero];rfl
end
section
variable {g m:List Act} {i:Nat} {B:BK} {a e:List UInt8} {n:UInt64} {x:UInt8}
theorem su0 (h:(giE B a [120+x % 3] n).isNone=true):(if 0+((x % 3).toNat:Int).toNat=0 then[dS B [120],dS B [121],dS B [122]].getD (0+((x % 3).toNat:Int).toNat) 0+n else dS B [120])=dS (giB B a [120+x % 3] n) [120]:=by
  rw[dS_give]
  rcases dk3 x with q | q | q <;> rw[q] at h ⊢
  · rw[if_pos (by decide),if_pos ⟨h,by decide⟩];rfl
  · rw[if_neg (by decide),if_neg (fun z=>absurd z.2 (by decide))]
  · rw[if_neg (by decide),if_neg (fun z=>absurd z.2 (by decide))]
theorem su1 (h:(giE B a [120+x % 3] n).isNone=true):(if 0+((x % 3).toNat:Int).toNat=0+1 then[dS B [120],dS B [121],dS B [122]].getD (0+((x % 3).toNat:Int).toNat) 0+n else dS B [121])=dS (giB B a [120+x % 3] n) [121]:=by
  rw[dS_give]
  rcases dk3 x with q | q | q <;> rw[q] at h ⊢
  · rw[if_neg (by decide),if_neg (fun z=>absurd z.2 (by decide))]
  · rw[if_pos (by decide),if_pos ⟨h,by decide⟩];rfl
  · rw[if_neg (by decide),if_neg (fun z=>absurd z.2 (by decide))]
theorem su2 (h:(giE B a [120+x % 3] n).isNone=true):(if 0+((x % 3).toNat:Int).toNat=0+1+1 then[dS B [120],dS B [121],dS B [122]].getD (0+((x % 3).toNat:Int).toNat) 0+n else dS B [122])=dS (giB B a [120+x % 3] n) [122]:=by
  rw[dS_give]
  rcases dk3 x with q | q | q <;> rw[q] at h ⊢
  · rw[if_neg (by decide),if_neg (fun z=>absurd z.2 (by decide))]
  · rw[if_neg (by decide),if_neg (fun z=>absurd z.2 (by decide))]
  · rw[if_pos (by decide),if_pos ⟨h,by decide⟩];rfl
abbrev gvB (g:List Act) (i:Nat):BK:=giB (gsB g i) (nm ((g.getD i aD).a % 15) []) [120+(g.getD i aD).d % 3] ((g.getD i aD).n % 1099511627776)
theorem gs_n (h:(i:Int)<50):gvB g i=gsB g (i+1):=by rw[gsB,if_pos (by omega)]
theorem gs_s (h:¬ (i:Int)<50):gsB g i=gsB g (i+1):=by rw[gsB,if_neg (by omega)]
theorem gs_t (h:¬ (i:Int)<50):dS (gsB g i) e=dS (gsB g (i+1)) e:=by rw[← gs_s h]
theorem gs_f (h:(i:Int)<50) (h2:(gvE g (gsB g i) i).isNone=false):dS (gsB g i) e=dS (gsB g (i+1)) e:=by rw[← gs_n h,gvB,giB_f h2]
theorem gm0 (h:(i:Int)<50) (h2:(gvE g (gsB g i) i).isNone=true):(if 0+(((g.getD i aD).d % 3).toNat:Int).toNat=0 then[dS (gsB g i) [120],dS (gsB g i) [121],dS (gsB g i) [122]].getD (0+(((g.getD i aD).d % 3).toNat:Int).toNat) 0+(g.getD i aD).n % 1099511627776 else dS (gsB g i) [120])=dS (gsB g (i+1)) [120]:=by rw[← gs_n h];exact su0 h2
theorem gm1 (h:(i:Int)<50) (h2:(gvE g (gsB g i) i).isNone=true):(if 0+(((g.getD i aD).d % 3).toNat:Int).toNat=0+1 then[dS (gsB g i) [120],dS (gsB g i) [121],dS (gsB g i) [122]].getD (0+(((g.getD i aD).d % 3).toNat:Int).toNat) 0+(g.getD i aD).n % 1099511627776 else dS (gsB g i) [121])=dS (gsB g (i+1)) [121]:=by rw[← gs_n h];exact su1 h2
theorem gm2 (h:(i:Int)<50) (h2:(gvE g (gsB g i) i).isNone=true):(if 0+(((g.getD i aD).d % 3).toNat:Int).toNat=0+1+1 then[dS (gsB g i) [120],dS (gsB g i) [121],dS (gsB g i) [122]].getD (0+(((g.getD i aD).d % 3).toNat:Int).toNat) 0+(g.getD i aD).n % 1099511627776 else dS (gsB g i) [122])=dS (gsB g (i+1)) [122]:=by rw[← gs_n h];exact su2 h2
theorem mv_1 (h:(m.getD i aD).kind % 2=0):moB (mvB B m i) (nm ((m.getD i aD).a % 15) []) (nm ((m.getD i aD).b % 15) []) [120+(m.getD i aD).d % 3] ((m.getD i aD).n % 1048576)=mvB B m (i+1):=by rw[mvB,mvN,if_pos h]
theorem mv_2 (h:¬ (m.getD i aD).kind % 2=0):moB (mvB B m i) (nm ((m.getD i aD).a % 15) []) (nm ((m.getD i aD).b % 15) []) [120+(m.getD i aD).d % 3] (m.getD i aD).n=mvB B m (i+1):=by rw[mvB,mvN,if_neg h]
end
section
variable {x:Coin} {p q r:UInt64} {L:List Coin} {k:Nat} {B:BK}
theorem cu0 (hx:Dk x.denom):(if 0+((x.denom.getD 0 0 - 120).toNat:Int).toNat=0 then[p,q,r].getD (0+((x.denom.getD 0 0 - 120).toNat:Int).toNat) 0+x.amount else p)=p+(if x.denom=[120] then x.amount else 0):=by
  rcases hx with h | h | h <;> rw[h]
  · rw[if_pos (by decide),if_pos (by decide)];rfl
  · rw[if_neg (by decide),if_neg (by decide),UInt64.add_zero]
  · rw[if_neg (by decide),if_neg (by decide),UInt64.add_zero]
theorem cu1 (hx:Dk x.denom):(if 0+((x.denom.getD 0 0 - 120).toNat:Int).toNat=0+1 then[p,q,r].getD (0+((x.denom.getD 0 0 - 120).toNat:Int).toNat) 0+x.amount else q)=q+(if x.denom=[121] then x.amount else 0):=by
  rcases hx with h | h | h <;> rw[h]
  · rw[if_neg (by decide),if_neg (by decide),UInt64.add_zero]
  · rw[if_pos (by decide),if_pos (by decide)];rfl
  · rw[if_neg (by decide),if_neg (by decide),UInt64.add_zero]
theorem cu2 (hx:Dk x.denom):(if 0+((x.denom.getD 0 0 - 120).toNat:Int).toNat=0+1+1 then[p,q,r].getD (0+((x.denom.getD 0 0 - 120).toNat:Int).toNat) 0+x.amount else r)=r+(if x.denom=[122] then x.amount else 0):=by
  rcases hx with h | h | h <;> rw[h]
  · rw[if_neg (by decide),if_neg (by decide),UInt64.add_zero]
  · rw[if_neg (by decide),if_neg (by decide),UInt64.add_zero]
  · rw[if_pos (by decide),if_pos (by decide)];rfl
def FL (L:List Coin):Prop:=∀ c∈L,c.amount≠0∧Dk c.denom
theorem fl_all (h:BOk B∧DB B):FL (allL (coinsB B)):=fun c hc=>by
  have hc:=coins_mem.1 ((allL_perm _).subset hc)
  exact⟨h.1.nz _ hc,h.2 _ hc⟩
theorem fl_at (h:FL L) (hk:(k:Int)<L.length):(L.getD k cD).amount≠0∧Dk (L.getD k cD).denom:=by
  have h':k<L.length:=by omega
  rw[List.getD_eq_getElem?_getD,List.getElem?_eq_getElem h']
  exact h _ (List.getElem_mem h')
theorem dk_len {d:List UInt8} (h:Dk d):(d.length:Int)=1:=by rcases h with h | h | h <;> rw[h] <;> rfl
theorem dk_ix {d:List UInt8} (h:Dk d):0≤((d.getD 0 0 - 120).toNat:Int)∧((d.getD 0 0 - 120).toNat:Int)<3:=by rcases h with h | h | h <;> rw[h] <;> decide
theorem dk_iy {d:List UInt8} (h:Dk d):0+((d.getD 0 0 - 120).toNat:Int).toNat<3:=by rcases h with h | h | h <;> rw[h] <;> decide
theorem cv0 (h:FL L) (hk:(k:Int)<L.length):(if 0+(((L.getD k cD).denom.getD 0 0 - 120).toNat:Int).toNat=0 then[cS [120] (L.take k),cS [121] (L.take k),cS [122] (L.take k)].getD (0+(((L.getD k cD).denom.getD 0 0 - 120).toNat:Int).toNat) 0+(L.getD k cD).amount else cS [120] (L.take k))=cS [120] (L.take (k+1)):=by rw[cS_take _ hk];exact cu0 (fl_at h hk).2
theorem cv1 (h:FL L) (hk:(k:Int)<L.length):(if 0+(((L.getD k cD).denom.getD 0 0 - 120).toNat:Int).toNat=0+1 then[cS [120] (L.take k),cS [121] (L.take k),cS [122] (L.take k)].getD (0+(((L.getD k cD).denom.getD 0 0 - 120).toNat:Int).toNat) 0+(L.getD k cD).amount else cS [121] (L.take k))=cS [121] (L.take (k+1)):=by rw[cS_take _ hk];exact cu1 (fl_at h hk).2
theorem cv2 (h:FL L) (hk:(k:Int)<L.length):(if 0+(((L.getD k cD).denom.getD 0 0 - 120).toNat:Int).toNat=0+1+1 then[cS [120] (L.take k),cS [121] (L.take k),cS [122] (L.take k)].getD (0+(((L.getD k cD).denom.getD 0 0 - 120).toNat:Int).toNat) 0+(L.getD k cD).amount else cS [122] (L.take k))=cS [122] (L.take (k+1)):=by rw[cS_take _ hk];exact cu2 (fl_at h hk).2
theorem fl_nz (h:FL L) (hk:(k:Int)<L.length) (z:(L.getD k cD).amount=0):False:=(fl_at h hk).1 z
theorem fl_ln (h:FL L) (hk:(k:Int)<L.length) (z:((L.getD k cD).denom.length:Int)≠1):False:=z (dk_len (fl_at h hk).2)
theorem cS_all {e:List UInt8} {g m:List Act} {i j:Nat} (hk:¬ (k:Int)<(allL (coinsB (mvB (gsB g i) m j))).length):cS e ((allL (coinsB (mvB (gsB g i) m j))).take k)=dS (gsB g i) e:=by
  rw[List.take_of_length_le (by omega),cS_perm e (allL_perm _),← mvB_dS (m:=m) e j];rfl
theorem fin3 {g m:List Act} {i j:Nat} (hk:¬ (k:Int)<(allL (coinsB (mvB (gsB g i) m j))).length):decide ([cS [120] ((allL (coinsB (mvB (gsB g i) m j))).take k),cS [121] ((allL (coinsB (mvB (gsB g i) m j))).take k),cS [122] ((allL (coinsB (mvB (gsB g i) m j))).take k)]=[dS (gsB g i) [120],dS (gsB g i) [121],dS (gsB g i) [122]])=true:=by
  rw[cS_all hk,cS_all hk,cS_all hk];exact decide_eq_true rfl
abbrev fL (g m:List Act) (i j:Nat):List Coin:=allL (coinsB (mvB (gsB g i) m j))
theorem fl_fl {g m:List Act} {i j:Nat}:FL (allL (coinsB (mvB (gsB g i) m j))):=fl_all (mvB_ok (gsB_ok i) j)
theorem fl_i {g m:List Act} {i j n:Nat} (h:j≤n∧j≤51) (hk:(k:Int)<(fL g m i j).length):I64 ((k:Int)+1):=by
  have h1:(fL g m i j).length=(mvB (gsB g i) m j).length:=all_len _
  have h2:=mvB_len (B:=gsB g i) (m:=m) j;have h3:=(gsB_len (g:=g) i).1
  unfold I64;omega
theorem fl_b {n:Nat} (hk:(k:Int)<n):k+1≤n∧n - (k+1)<n - k:=by omega
theorem mvl1 {g m:List Act} {i j n:Nat} (h:j≤n∧j≤51):(mvB (gsB g i) m j).length≤100000:=Nat.le_trans (mvB_len j) (by have:=(gsB_len (g:=g) i).1;omega)
end
noncomputable def ccV7_4:Code:=(Tryd.f4.body).getD .skip
theorem BankSums_ok (given moves:List Act) (hx:given.length≤140737488355328) (hy:moves.length≤140737488355328):FOk EN 4 ⟨[.pr etP,.rd 32 given,.rd 32 moves],[.n 1,.n 2],Unit,fun _=>([.pr etP,.rd 32 given,.rd 32 moves],.b true),fun _=>True⟩:=by
 refine v_fun Tryd.f4 ccV7_4 MX (fun ν F σ w=>?_) Tryd.func4
 refine v_nl ?_
 refine v_call _ [0] (Awake12_ok) ((etP=etP)) rfl (fun g1 p2=>?_)
 have p2:True:=p2
 refine v_if (!true) True trivial (fun h3=>?_) (fun h3=>?_)
 ·have h3:=(nt h3)
  contradiction
 ·have h3:=(nf h3)
  refine v_call _ [] (New_ok) True trivial (fun g4 p5=>?_)
  have p5:True:=p5
  refine v_loop (fun i:Nat=>([(21,.i i),(5,.p 7 0),(6,.p 9 0)],[.bx 56 [.n 8],.mp 54 (gsB given i),.bx 47 [.u (dS (gsB given i) [120]),.u (dS (gsB given i) [121]),.u (dS (gsB given i) [122])]])) (fun i=>i≤given.length) (fun i=>given.length - i) 0 [5,4,6] (((0:Int)=(↑(0:Nat):Int))∧([]=gsB given 0)∧(0=dS (gsB given 0) [120])∧(0=dS (gsB given 0) [121])∧(0=dS (gsB given 0) [122])) ⟨rfl,rfl,rfl,rfl,rfl⟩ (by omega) (fun i hk6=>?_)
  refine v_if (decide ((↑i:Int)<(↑given.length:Int))) True trivial (fun h7=>?_) (fun h7=>?_)
  ·have h7:=of_decide_eq_true h7
   refine v_plan (.fs [0,1,2,3,4,5,6,8,9,10,11,14] (.c 7 (.o 12 (.fs [13] (.o 15 (.fs [16,17] .e)))) (.o 12 (.fs [13] (.o 7 (.o 15 (.fs [16,17] .e))))))) [9,11] ((0≤(↑i:Int)∧(↑i:Int)<(↑given.length:Int))∧((1099511627776:UInt64)≠(0:UInt64))) ⟨(by omega),(by decide)⟩ ?_
   refine v_guard 31 (decide ((↑i:Int)<50)) True trivial (fun h8=>?_) (fun h8=>?_)
   ·have h8:=of_decide_eq_true h8
    refine v_pick (((15:UInt8)≠(0:UInt8))∧((3:UInt8)≠(0:UInt8))) ⟨(by decide),(by decide)⟩ ?_ ?_
    ·skip
     refine v_call _ [] (name_ok ((given.getD (↑i:Int).toNat (Act.mk 0 0 0 0 [] 0)).a % 15) (#[].toList)) (((given.getD (↑i:Int).toNat (Act.mk 0 0 0 0 [] 0)).a % 15=(given.getD (↑i:Int).toNat (Act.mk 0 0 0 0 [] 0)).a % 15)∧(Eq (α:=List UInt8) (Array.toList #[]) (Array.toList #[]))) ⟨rfl,rfl⟩ (fun g9 p10=>?_)
     have p10:True:=p10
     refine v_call _ [8,7] (Give_ok (gsB given i) (nm ((given.getD (↑i:Int).toNat (Act.mk 0 0 0 0 [] 0)).a % 15) #[].toList) ([120+(given.getD (↑i:Int).toNat (Act.mk 0 0 0 0 [] 0)).d % 3]) ((given.getD (↑i:Int).toNat (Act.mk 0 0 0 0 [] 0)).n % 1099511627776)) ((nm ((given.getD (↑i:Int).toNat (Act.mk 0 0 0 0 [] 0)).a % 15) #[].toList=nm ((given.getD (↑i:Int).toNat (Act.mk 0 0 0 0 [] 0)).a % 15) #[].toList)∧([120+(given.getD (↑i:Int).toNat (Act.mk 0 0 0 0 [] 0)).d % 3]=[120+(given.getD (↑i:Int).toNat (Act.mk 0 0 0 0 [] 0)).d % 3])∧((given.getD (↑i:Int).toNat (Act.mk 0 0 0 0 [] 0)).n % 1099511627776=(given.getD (↑i:Int).toNat (Act.mk 0 0 0 0 [] 0)).n % 1099511627776)∧(@Eq (List (Prod (Prod (List UInt8) (List UInt8)) UInt64)) (gsB given i) (gsB given i))) ⟨rfl,rfl,rfl,rfl⟩ (fun g11 p12=>?_)
     have p12:True:=p12
     refine v_if ((giE (gsB given i) (nm ((given.getD (↑i:Int).toNat (Act.mk 0 0 0 0 [] 0)).a % 15) #[].toList) [120+(given.getD (↑i:Int).toNat (Act.mk 0 0 0 0 [] 0)).d % 3] ((given.getD (↑i:Int).toNat (Act.mk 0 0 0 0 [] 0)).n % 1099511627776)).isNone) True trivial (fun h13=>?_) (fun h13=>?_)
     ·skip
      exact v_back (i+1) [7,8,9] (((3:UInt8)≠(0:UInt8))∧((0:Int)≤(↑((given.getD (↑i:Int).toNat (Act.mk (0:UInt8) (0:UInt8) (0:UInt8) (0:UInt8) [] (0:UInt64))).d % (3:UInt8)).toNat:Int)∧(↑((given.getD (↑i:Int).toNat (Act.mk (0:UInt8) (0:UInt8) (0:UInt8) (0:UInt8) [] (0:UInt64))).d % (3:UInt8)).toNat:Int)<(↑(3:Nat):Int))∧(0+(↑((given.getD (↑i:Int).toNat (Act.mk 0 0 0 0 [] 0)).d % 3).toNat:Int).toNat<3)∧((0:Int)≤(↑((given.getD (↑i:Int).toNat (Act.mk (0:UInt8) (0:UInt8) (0:UInt8) (0:UInt8) [] (0:UInt64))).d % (3:UInt8)).toNat:Int)∧(↑((given.getD (↑i:Int).toNat (Act.mk (0:UInt8) (0:UInt8) (0:UInt8) (0:UInt8) [] (0:UInt64))).d % (3:UInt8)).toNat:Int)<(↑(3:Nat):Int))∧(0+(↑((given.getD (↑i:Int).toNat (Act.mk 0 0 0 0 [] 0)).d % 3).toNat:Int).toNat<3)∧(I64 (↑i+1))∧((↑i:Int)+1=(↑(i+1):Int))∧(giB (gsB given i) (nm ((given.getD (↑i:Int).toNat (Act.mk (0:UInt8) (0:UInt8) (0:UInt8) (0:UInt8) [] (0:UInt64))).a % (15:UInt8)) #[].toList) [(120:UInt8)+(given.getD (↑i:Int).toNat (Act.mk (0:UInt8) (0:UInt8) (0:UInt8) (0:UInt8) [] (0:UInt64))).d % (3:UInt8)] ((given.getD (↑i:Int).toNat (Act.mk (0:UInt8) (0:UInt8) (0:UInt8) (0:UInt8) [] (0:UInt64))).n % (1099511627776:UInt64))=gsB given (i+(1:Nat)))∧((if 0+(↑((given.getD (↑i:Int).toNat (Act.mk 0 0 0 0 [] 0)).d % 3).toNat:Int).toNat=0 then[dS (gsB given i) [120],dS (gsB given i) [121],dS (gsB given i) [122]].getD (0+(↑((given.getD (↑i:Int).toNat (Act.mk 0 0 0 0 [] 0)).d % 3).toNat:Int).toNat) 0+(given.getD (↑i:Int).toNat (Act.mk 0 0 0 0 [] 0)).n % 1099511627776 else dS (gsB given i) [120])=dS (gsB given (i+1)) [120])∧((if 0+(↑((given.getD (↑i:Int).toNat (Act.mk 0 0 0 0 [] 0)).d % 3).toNat:Int).toNat=0+1 then[dS (gsB given i) [120],dS (gsB given i) [121],dS (gsB given i) [122]].getD (0+(↑((given.getD (↑i:Int).toNat (Act.mk 0 0 0 0 [] 0)).d % 3).toNat:Int).toNat) 0+(given.getD (↑i:Int).toNat (Act.mk 0 0 0 0 [] 0)).n % 1099511627776 else dS (gsB given i) [121])=dS (gsB given (i+1)) [121])∧((if 0+(↑((given.getD (↑i:Int).toNat (Act.mk 0 0 0 0 [] 0)).d % 3).toNat:Int).toNat=0+1+1 then[dS (gsB given i) [120],dS (gsB given i) [121],dS (gsB given i) [122]].getD (0+(↑((given.getD (↑i:Int).toNat (Act.mk 0 0 0 0 [] 0)).d % 3).toNat:Int).toNat) 0+(given.getD (↑i:Int).toNat (Act.mk 0 0 0 0 [] 0)).n % 1099511627776 else dS (gsB given i) [122])=dS (gsB given (i+1)) [122])) ⟨(by decide),(by(simp;omega)),(by(simp;omega)),(by(simp;omega)),(by(simp;omega)),(by(unfold I64;omega)),rfl,(by exact gs_n ‹_›),(by exact gm0 ‹_› ‹_›),(by exact gm1 ‹_› ‹_›),(by exact gm2 ‹_› ‹_›)⟩ (show i+1≤given.length∧given.length - (i+1)<given.length - i from(by omega))
     ·skip
      exact v_back (i+1) [7,8,9] ((I64 (↑i+1))∧((↑i:Int)+1=(↑(i+1):Int))∧(giB (gsB given i) (nm ((given.getD (↑i:Int).toNat (Act.mk (0:UInt8) (0:UInt8) (0:UInt8) (0:UInt8) [] (0:UInt64))).a % (15:UInt8)) #[].toList) [(120:UInt8)+(given.getD (↑i:Int).toNat (Act.mk (0:UInt8) (0:UInt8) (0:UInt8) (0:UInt8) [] (0:UInt64))).d % (3:UInt8)] ((given.getD (↑i:Int).toNat (Act.mk (0:UInt8) (0:UInt8) (0:UInt8) (0:UInt8) [] (0:UInt64))).n % (1099511627776:UInt64))=gsB given (i+(1:Nat)))∧(dS (gsB given i) [120]=dS (gsB given (i+1)) [120])∧(dS (gsB given i) [121]=dS (gsB given (i+1)) [121])∧(dS (gsB given i) [122]=dS (gsB given (i+1)) [122])) ⟨(by(unfold I64;omega)),rfl,(by exact gs_n ‹_›),(by exact gs_f ‹_› ‹_›),(by exact gs_f ‹_› ‹_›),(by exact gs_f ‹_› ‹_›)⟩ (show i+1≤given.length∧given.length - (i+1)<given.length - i from(by omega))
    ·skip
     refine v_call _ [] (name_ok ((given.getD (↑i:Int).toNat (Act.mk 0 0 0 0 [] 0)).a % 15) (#[].toList)) (((given.getD (↑i:Int).toNat (Act.mk 0 0 0 0 [] 0)).a % 15=(given.getD (↑i:Int).toNat (Act.mk 0 0 0 0 [] 0)).a % 15)∧(Eq (α:=List UInt8) (Array.toList #[]) (Array.toList #[]))) ⟨rfl,rfl⟩ (fun g14 p15=>?_)
     have p15:True:=p15
     refine v_call _ [8,7] (Give_ok (gsB given i) (nm ((given.getD (↑i:Int).toNat (Act.mk 0 0 0 0 [] 0)).a % 15) #[].toList) ([120+(given.getD (↑i:Int).toNat (Act.mk 0 0 0 0 [] 0)).d % 3]) ((given.getD (↑i:Int).toNat (Act.mk 0 0 0 0 [] 0)).n % 1099511627776)) ((nm ((given.getD (↑i:Int).toNat (Act.mk 0 0 0 0 [] 0)).a % 15) #[].toList=nm ((given.getD (↑i:Int).toNat (Act.mk 0 0 0 0 [] 0)).a % 15) #[].toList)∧([120+(given.getD (↑i:Int).toNat (Act.mk 0 0 0 0 [] 0)).d % 3]=[120+(given.getD (↑i:Int).toNat (Act.mk 0 0 0 0 [] 0)).d % 3])∧((given.getD (↑i:Int).toNat (Act.mk 0 0 0 0 [] 0)).n % 1099511627776=(given.getD (↑i:Int).toNat (Act.mk 0 0 0 0 [] 0)).n % 1099511627776)∧(@Eq (List (Prod (Prod (List UInt8) (List UInt8)) UInt64)) (gsB given i) (gsB given i))) ⟨rfl,rfl,rfl,rfl⟩ (fun g16 p17=>?_)
     have p17:True:=p17
     refine v_if ((giE (gsB given i) (nm ((given.getD (↑i:Int).toNat (Act.mk 0 0 0 0 [] 0)).a % 15) #[].toList) [120+(given.getD (↑i:Int).toNat (Act.mk 0 0 0 0 [] 0)).d % 3] ((given.getD (↑i:Int).toNat (Act.mk 0 0 0 0 [] 0)).n % 1099511627776)).isNone) True trivial (fun h18=>?_) (fun h18=>?_)
     ·skip
      exact v_back (i+1) [7,8,9] (((3:UInt8)≠(0:UInt8))∧((0:Int)≤(↑((given.getD (↑i:Int).toNat (Act.mk (0:UInt8) (0:UInt8) (0:UInt8) (0:UInt8) [] (0:UInt64))).d % (3:UInt8)).toNat:Int)∧(↑((given.getD (↑i:Int).toNat (Act.mk (0:UInt8) (0:UInt8) (0:UInt8) (0:UInt8) [] (0:UInt64))).d % (3:UInt8)).toNat:Int)<(↑(3:Nat):Int))∧(0+(↑((given.getD (↑i:Int).toNat (Act.mk 0 0 0 0 [] 0)).d % 3).toNat:Int).toNat<3)∧((0:Int)≤(↑((given.getD (↑i:Int).toNat (Act.mk (0:UInt8) (0:UInt8) (0:UInt8) (0:UInt8) [] (0:UInt64))).d % (3:UInt8)).toNat:Int)∧(↑((given.getD (↑i:Int).toNat (Act.mk (0:UInt8) (0:UInt8) (0:UInt8) (0:UInt8) [] (0:UInt64))).d % (3:UInt8)).toNat:Int)<(↑(3:Nat):Int))∧(0+(↑((given.getD (↑i:Int).toNat (Act.mk 0 0 0 0 [] 0)).d % 3).toNat:Int).toNat<3)∧(I64 (↑i+1))∧((↑i:Int)+1=(↑(i+1):Int))∧(giB (gsB given i) (nm ((given.getD (↑i:Int).toNat (Act.mk (0:UInt8) (0:UInt8) (0:UInt8) (0:UInt8) [] (0:UInt64))).a % (15:UInt8)) #[].toList) [(120:UInt8)+(given.getD (↑i:Int).toNat (Act.mk (0:UInt8) (0:UInt8) (0:UInt8) (0:UInt8) [] (0:UInt64))).d % (3:UInt8)] ((given.getD (↑i:Int).toNat (Act.mk (0:UInt8) (0:UInt8) (0:UInt8) (0:UInt8) [] (0:UInt64))).n % (1099511627776:UInt64))=gsB given (i+(1:Nat)))∧((if 0+(↑((given.getD (↑i:Int).toNat (Act.mk 0 0 0 0 [] 0)).d % 3).toNat:Int).toNat=0 then[dS (gsB given i) [120],dS (gsB given i) [121],dS (gsB given i) [122]].getD (0+(↑((given.getD (↑i:Int).toNat (Act.mk 0 0 0 0 [] 0)).d % 3).toNat:Int).toNat) 0+(given.getD (↑i:Int).toNat (Act.mk 0 0 0 0 [] 0)).n % 1099511627776 else dS (gsB given i) [120])=dS (gsB given (i+1)) [120])∧((if 0+(↑((given.getD (↑i:Int).toNat (Act.mk 0 0 0 0 [] 0)).d % 3).toNat:Int).toNat=0+1 then[dS (gsB given i) [120],dS (gsB given i) [121],dS (gsB given i) [122]].getD (0+(↑((given.getD (↑i:Int).toNat (Act.mk 0 0 0 0 [] 0)).d % 3).toNat:Int).toNat) 0+(given.getD (↑i:Int).toNat (Act.mk 0 0 0 0 [] 0)).n % 1099511627776 else dS (gsB given i) [121])=dS (gsB given (i+1)) [121])∧((if 0+(↑((given.getD (↑i:Int).toNat (Act.mk 0 0 0 0 [] 0)).d % 3).toNat:Int).toNat=0+1+1 then[dS (gsB given i) [120],dS (gsB given i) [121],dS (gsB given i) [122]].getD (0+(↑((given.getD (↑i:Int).toNat (Act.mk 0 0 0 0 [] 0)).d % 3).toNat:Int).toNat) 0+(given.getD (↑i:Int).toNat (Act.mk 0 0 0 0 [] 0)).n % 1099511627776 else dS (gsB given i) [122])=dS (gsB given (i+1)) [122])) ⟨(by decide),(by(simp;omega)),(by(simp;omega)),(by(simp;omega)),(by(simp;omega)),(by(unfold I64;omega)),rfl,(by exact gs_n ‹_›),(by exact gm0 ‹_› ‹_›),(by exact gm1 ‹_› ‹_›),(by exact gm2 ‹_› ‹_›)⟩ (show i+1≤given.length∧given.length - (i+1)<given.length - i from(by omega))
     ·skip
      exact v_back (i+1) [7,8,9] ((I64 (↑i+1))∧((↑i:Int)+1=(↑(i+1):Int))∧(giB (gsB given i) (nm ((given.getD (↑i:Int).toNat (Act.mk (0:UInt8) (0:UInt8) (0:UInt8) (0:UInt8) [] (0:UInt64))).a % (15:UInt8)) #[].toList) [(120:UInt8)+(given.getD (↑i:Int).toNat (Act.mk (0:UInt8) (0:UInt8) (0:UInt8) (0:UInt8) [] (0:UInt64))).d % (3:UInt8)] ((given.getD (↑i:Int).toNat (Act.mk (0:UInt8) (0:UInt8) (0:UInt8) (0:UInt8) [] (0:UInt64))).n % (1099511627776:UInt64))=gsB given (i+(1:Nat)))∧(dS (gsB given i) [120]=dS (gsB given (i+1)) [120])∧(dS (gsB given i) [121]=dS (gsB given (i+1)) [121])∧(dS (gsB given i) [122]=dS (gsB given (i+1)) [122])) ⟨(by(unfold I64;omega)),rfl,(by exact gs_n ‹_›),(by exact gs_f ‹_› ‹_›),(by exact gs_f ‹_› ‹_›),(by exact gs_f ‹_› ‹_›)⟩ (show i+1≤given.length∧given.length - (i+1)<given.length - i from(by omega))
   ·have h8:=of_decide_eq_false h8
    refine v_pick True trivial ?_ ?_
    ·skip
     exact v_back (i+1) [7,8,9] ((I64 (↑i+1))∧((↑i:Int)+1=(↑(i+1):Int))∧(@Eq (List (Prod (Prod (List UInt8) (List UInt8)) UInt64)) (gsB given i) (gsB given (@HAdd.hAdd Nat Nat Nat (@instHAdd Nat instAddNat) i (@OfNat.ofNat Nat (nat_lit 1) (instOfNatNat (nat_lit 1))))))∧(dS (gsB given i) [120]=dS (gsB given (i+1)) [120])∧(dS (gsB given i) [121]=dS (gsB given (i+1)) [121])∧(dS (gsB given i) [122]=dS (gsB given (i+1)) [122])) ⟨(by(unfold I64;omega)),rfl,(by with_reducible exact gs_s ‹_›),(by with_reducible exact gs_t ‹_›),(by with_reducible exact gs_t ‹_›),(by with_reducible exact gs_t ‹_›)⟩ (show i+1≤given.length∧given.length - (i+1)<given.length - i from(by omega))
    ·skip
     exact v_back (i+1) [7,8,9] ((I64 (↑i+1))∧((↑i:Int)+1=(↑(i+1):Int))∧(@Eq (List (Prod (Prod (List UInt8) (List UInt8)) UInt64)) (gsB given i) (gsB given (@HAdd.hAdd Nat Nat Nat (@instHAdd Nat instAddNat) i (@OfNat.ofNat Nat (nat_lit 1) (instOfNatNat (nat_lit 1))))))∧(dS (gsB given i) [120]=dS (gsB given (i+1)) [120])∧(dS (gsB given i) [121]=dS (gsB given (i+1)) [121])∧(dS (gsB given i) [122]=dS (gsB given (i+1)) [122])) ⟨(by(unfold I64;omega)),rfl,(by with_reducible exact gs_s ‹_›),(by with_reducible exact gs_t ‹_›),(by with_reducible exact gs_t ‹_›),(by with_reducible exact gs_t ‹_›)⟩ (show i+1≤given.length∧given.length - (i+1)<given.length - i from(by omega))
  ·have h7:=of_decide_eq_false h7
   refine v_leave (.ex 0) True trivial ?_
   refine v_loop (fun j:Nat=>([(58,.i j),(5,.p 10 0)],[.bx 56 [.n 11],.mp 54 (mvB (gsB given i) moves j)])) (fun j=>j≤moves.length∧j≤51) (fun j=>moves.length - j) 0 [7,8] (((0:Int)=(↑(0:Nat):Int))∧(@Eq (List (Prod (Prod (List UInt8) (List UInt8)) UInt64)) (gsB given i) (mvB (gsB given i) moves (@OfNat.ofNat Nat (nat_lit 0) (instOfNatNat (nat_lit 0)))))) ⟨rfl,rfl⟩ (by omega) (fun j hk19=>?_)
   refine v_if (decide ((↑j:Int)<(↑moves.length:Int))) True trivial (fun h20=>?_) (fun h20=>?_)
   ·have h20:=of_decide_eq_true h20
    refine v_if (decide (50<(↑j:Int))) ((0≤(↑j:Int)∧(↑j:Int)<(↑moves.length:Int))) (by omega) (fun h21=>?_) (fun h21=>?_)
    ·have h21:=of_decide_eq_true h21
     refine v_leave (.ex 2) True trivial ?_
     refine v_call _ [11,10] (All_ok (mvB (gsB given i) moves j) (by exact mvl1 ‹_›) (by with_reducible exact(mvB_ok (gsB_ok _) _).1.nd)) ((@Eq (List (Prod (Prod (List UInt8) (List UInt8)) UInt64)) (mvB (gsB given i) moves j) (mvB (gsB given i) moves j))) rfl (fun g22 p23=>?_)
     have p23:True:=p23
     refine v_loop (fun k:Nat=>([(94,.i k),(13,.p 16 0)],[.bx 47 [.u (cS [120] ((fL given moves i j).take k)),.u (cS [121] ((fL given moves i j).take k)),.u (cS [122] ((fL given moves i j).take k))]])) (fun k=>k≤(fL given moves i j).length) (fun k=>(fL given moves i j).length - k) 0 [14] (((0:Int)=(↑(0:Nat):Int))∧(0=cS [120] (List.take 0 (fL given moves i j)))∧(0=cS [121] (List.take 0 (fL given moves i j)))∧(0=cS [122] (List.take 0 (fL given moves i j)))) ⟨rfl,rfl,rfl,rfl⟩ (by omega) (fun k hk24=>?_)
     refine v_if (decide ((↑k:Int)<(↑(allL (coinsB (mvB (gsB given i) moves j))).length:Int))) True trivial (fun h25=>?_) (fun h25=>?_)
     ·have h25:=of_decide_eq_true h25
      refine v_guard 101 (decide (((allL (coinsB (mvB (gsB given i) moves j))).getD (↑k:Int).toNat cD).amount=0)) ((0≤(↑k:Int)∧(↑k:Int)<(↑(allL (coinsB (mvB (gsB given i) moves j))).length:Int))) (by omega) (fun h26=>?_) (fun h26=>?_)
      ·have h26:=of_decide_eq_true h26
       exfalso;exact(fl_nz fl_fl ‹_› ‹_›).elim
      ·have h26:=of_decide_eq_false h26
       refine v_if (decide ((↑((allL (coinsB (mvB (gsB given i) moves j))).getD (↑k:Int).toNat cD).denom.length:Int)≠1)) True trivial (fun h27=>?_) (fun h27=>?_)
       ·have h27:=of_decide_eq_true h27
        exfalso;exact(fl_ln fl_fl ‹_› ‹_›).elim
       ·have h27:=of_decide_eq_false h27
        refine v_plan (.fs [0,1,2,3,4,6,7] (.o 5 (.fs [8,9] (.o 10 .e)))) [9,10,11,13,18] True trivial ?_
        exact v_back (k+1) [16] (((0:Int)≤(0:Int)∧(0:Int)<(↑((allL (coinsB (mvB (gsB given i) moves j))).getD (↑k:Int).toNat cD).denom.length:Int))∧((0:Int)≤(↑(((allL (coinsB (mvB (gsB given i) moves j))).getD (↑k:Int).toNat cD).denom.getD (0:Nat) (0:UInt8) - (120:UInt8)).toNat:Int)∧(↑(((allL (coinsB (mvB (gsB given i) moves j))).getD (↑k:Int).toNat cD).denom.getD (0:Nat) (0:UInt8) - (120:UInt8)).toNat:Int)<(↑(3:Nat):Int))∧(0+(↑(((allL (coinsB (mvB (gsB given i) moves j))).getD (↑k:Int).toNat cD).denom.getD 0 0 - 120).toNat:Int).toNat<3)∧((0:Int)≤(↑(((allL (coinsB (mvB (gsB given i) moves j))).getD (↑k:Int).toNat cD).denom.getD (0:Nat) (0:UInt8) - (120:UInt8)).toNat:Int)∧(↑(((allL (coinsB (mvB (gsB given i) moves j))).getD (↑k:Int).toNat cD).denom.getD (0:Nat) (0:UInt8) - (120:UInt8)).toNat:Int)<(↑(3:Nat):Int))∧(0+(↑(((allL (coinsB (mvB (gsB given i) moves j))).getD (↑k:Int).toNat cD).denom.getD 0 0 - 120).toNat:Int).toNat<3)∧(I64 (↑k+1))∧((↑k:Int)+1=(↑(k+1):Int))∧((if 0+(↑(((allL (coinsB (mvB (gsB given i) moves j))).getD (↑k:Int).toNat cD).denom.getD 0 0 - 120).toNat:Int).toNat=0 then[cS [120] (List.take k (fL given moves i j)),cS [121] (List.take k (fL given moves i j)),cS [122] (List.take k (fL given moves i j))].getD (0+(↑(((allL (coinsB (mvB (gsB given i) moves j))).getD (↑k:Int).toNat cD).denom.getD 0 0 - 120).toNat:Int).toNat) 0+((allL (coinsB (mvB (gsB given i) moves j))).getD (↑k:Int).toNat cD).amount else cS [120] (List.take k (fL given moves i j)))=cS [120] (List.take (k+1) (fL given moves i j)))∧((if 0+(↑(((allL (coinsB (mvB (gsB given i) moves j))).getD (↑k:Int).toNat cD).denom.getD 0 0 - 120).toNat:Int).toNat=0+1 then[cS [120] (List.take k (fL given moves i j)),cS [121] (List.take k (fL given moves i j)),cS [122] (List.take k (fL given moves i j))].getD (0+(↑(((allL (coinsB (mvB (gsB given i) moves j))).getD (↑k:Int).toNat cD).denom.getD 0 0 - 120).toNat:Int).toNat) 0+((allL (coinsB (mvB (gsB given i) moves j))).getD (↑k:Int).toNat cD).amount else cS [121] (List.take k (fL given moves i j)))=cS [121] (List.take (k+1) (fL given moves i j)))∧((if 0+(↑(((allL (coinsB (mvB (gsB given i) moves j))).getD (↑k:Int).toNat cD).denom.getD 0 0 - 120).toNat:Int).toNat=0+1+1 then[cS [120] (List.take k (fL given moves i j)),cS [121] (List.take k (fL given moves i j)),cS [122] (List.take k (fL given moves i j))].getD (0+(↑(((allL (coinsB (mvB (gsB given i) moves j))).getD (↑k:Int).toNat cD).denom.getD 0 0 - 120).toNat:Int).toNat) 0+((allL (coinsB (mvB (gsB given i) moves j))).getD (↑k:Int).toNat cD).amount else cS [122] (List.take k (fL given moves i j)))=cS [122] (List.take (k+1) (fL given moves i j)))) ⟨(by omega),(by exact dk_ix (fl_at fl_fl ‹_›).2),(by exact dk_iy (fl_at fl_fl ‹_›).2),(by exact dk_ix (fl_at fl_fl ‹_›).2),(by exact dk_iy (fl_at fl_fl ‹_›).2),(by exact fl_i ‹_∧_› ‹_›),rfl,(by exact cv0 fl_fl ‹_›),(by exact cv1 fl_fl ‹_›),(by exact cv2 fl_fl ‹_›)⟩ (show k+1≤(fL given moves i j).length∧(fL given moves i j).length - (k+1)<(fL given moves i j).length - k from(by exact fl_b ‹(k:Int)<_›))
     ·have h25:=of_decide_eq_false h25
      refine v_leave (.ex 4) True trivial ?_
      exact v_ret () [] ((EN.P.eqGuardType EN.P.depth (47:Nat)=false)∧(decide ([cS [120] (List.take k (fL given moves i j)),cS [121] (List.take k (fL given moves i j)),cS [122] (List.take k (fL given moves i j))]=[dS (gsB given i) [120],dS (gsB given i) [121],dS (gsB given i) [122]])=true)∧(etP=etP)∧(given=given)∧(moves=moves)) ⟨rfl,(by exact fin3 ‹_›),rfl,rfl,rfl⟩ trivial
    ·have h21:=of_decide_eq_false h21
     refine v_if (decide ((moves.getD (↑j:Int).toNat (Act.mk 0 0 0 0 [] 0)).kind % 2=0)) (((2:UInt8)≠(0:UInt8))) (by decide) (fun h28=>?_) (fun h28=>?_)
     ·have h28:=of_decide_eq_true h28
      refine v_plan (.fs [0,1,2,3,5,6,7,9,10,11,12,15] (.c 4 (.c 8 (.o 13 (.fs [14] (.o 16 .e))) (.o 13 (.fs [14] (.o 8 (.o 16 .e))))) (.o 13 (.fs [14] (.o 4 (.o 8 (.o 16 .e))))))) [9,13] (((1048576:UInt64)≠(0:UInt64))) (by decide) ?_
      refine v_pick (((15:UInt8)≠(0:UInt8))∧((15:UInt8)≠(0:UInt8))∧((3:UInt8)≠(0:UInt8))) ⟨(by decide),(by decide),(by decide)⟩ ?_ ?_
      ·skip
       refine v_call _ [] (name_ok ((moves.getD (↑j:Int).toNat (Act.mk 0 0 0 0 [] 0)).a % 15) (#[].toList)) (((moves.getD (↑j:Int).toNat (Act.mk 0 0 0 0 [] 0)).a % 15=(moves.getD (↑j:Int).toNat (Act.mk 0 0 0 0 [] 0)).a % 15)∧(Eq (α:=List UInt8) (Array.toList #[]) (Array.toList #[]))) ⟨rfl,rfl⟩ (fun g29 p30=>?_)
       have p30:True:=p30
       refine v_pick True trivial ?_ ?_
       ·skip
        refine v_call _ [] (name_ok ((moves.getD (↑j:Int).toNat (Act.mk 0 0 0 0 [] 0)).b % 15) (#[].toList)) (((moves.getD (↑j:Int).toNat (Act.mk 0 0 0 0 [] 0)).b % 15=(moves.getD (↑j:Int).toNat (Act.mk 0 0 0 0 [] 0)).b % 15)∧(Eq (α:=List UInt8) (Array.toList #[]) (Array.toList #[]))) ⟨rfl,rfl⟩ (fun g31 p32=>?_)
        have p32:True:=p32
        refine v_call _ [11,10] (Move_ok (mvB (gsB given i) moves j) (nm ((moves.getD (↑j:Int).toNat (Act.mk 0 0 0 0 [] 0)).a % 15) #[].toList) (nm ((moves.getD (↑j:Int).toNat (Act.mk 0 0 0 0 [] 0)).b % 15) #[].toList) ([120+(moves.getD (↑j:Int).toNat (Act.mk 0 0 0 0 [] 0)).d % 3]) ((moves.getD (↑j:Int).toNat (Act.mk 0 0 0 0 [] 0)).n % 1048576)) ((nm ((moves.getD (↑j:Int).toNat (Act.mk 0 0 0 0 [] 0)).a % 15) #[].toList=nm ((moves.getD (↑j:Int).toNat (Act.mk 0 0 0 0 [] 0)).a % 15) #[].toList)∧(nm ((moves.getD (↑j:Int).toNat (Act.mk 0 0 0 0 [] 0)).b % 15) #[].toList=nm ((moves.getD (↑j:Int).toNat (Act.mk 0 0 0 0 [] 0)).b % 15) #[].toList)∧([120+(moves.getD (↑j:Int).toNat (Act.mk 0 0 0 0 [] 0)).d % 3]=[120+(moves.getD (↑j:Int).toNat (Act.mk 0 0 0 0 [] 0)).d % 3])∧((moves.getD (↑j:Int).toNat (Act.mk 0 0 0 0 [] 0)).n % 1048576=(moves.getD (↑j:Int).toNat (Act.mk 0 0 0 0 [] 0)).n % 1048576)∧(@Eq (List (Prod (Prod (List UInt8) (List UInt8)) UInt64)) (mvB (gsB given i) moves j) (mvB (gsB given i) moves j))) ⟨rfl,rfl,rfl,rfl,rfl⟩ (fun g33 p34=>?_)
        have p34:True:=p34
        exact v_back (j+1) [10,11] ((I64 (↑j+1))∧((↑j:Int)+1=(↑(j+1):Int))∧(moB (mvB (gsB given i) moves j) (nm ((moves.getD (↑j:Int).toNat (Act.mk (0:UInt8) (0:UInt8) (0:UInt8) (0:UInt8) [] (0:UInt64))).a % (15:UInt8)) #[].toList) (nm ((moves.getD (↑j:Int).toNat (Act.mk (0:UInt8) (0:UInt8) (0:UInt8) (0:UInt8) [] (0:UInt64))).b % (15:UInt8)) #[].toList) [(120:UInt8)+(moves.getD (↑j:Int).toNat (Act.mk (0:UInt8) (0:UInt8) (0:UInt8) (0:UInt8) [] (0:UInt64))).d % (3:UInt8)] ((moves.getD (↑j:Int).toNat (Act.mk (0:UInt8) (0:UInt8) (0:UInt8) (0:UInt8) [] (0:UInt64))).n % (1048576:UInt64))=mvB (gsB given i) moves (j+(1:Nat)))) ⟨(by(unfold I64;omega)),rfl,(by exact mv_1 ‹_›)⟩ (show(j+1≤moves.length∧j+1≤51)∧moves.length - (j+1)<moves.length - j from(by omega))
       ·skip
        refine v_call _ [] (name_ok ((moves.getD (↑j:Int).toNat (Act.mk 0 0 0 0 [] 0)).b % 15) (#[].toList)) (((moves.getD (↑j:Int).toNat (Act.mk 0 0 0 0 [] 0)).b % 15=(moves.getD (↑j:Int).toNat (Act.mk 0 0 0 0 [] 0)).b % 15)∧(Eq (α:=List UInt8) (Array.toList #[]) (Array.toList #[]))) ⟨rfl,rfl⟩ (fun g35 p36=>?_)
        have p36:True:=p36
        refine v_call _ [11,10] (Move_ok (mvB (gsB given i) moves j) (nm ((moves.getD (↑j:Int).toNat (Act.mk 0 0 0 0 [] 0)).a % 15) #[].toList) (nm ((moves.getD (↑j:Int).toNat (Act.mk 0 0 0 0 [] 0)).b % 15) #[].toList) ([120+(moves.getD (↑j:Int).toNat (Act.mk 0 0 0 0 [] 0)).d % 3]) ((moves.getD (↑j:Int).toNat (Act.mk 0 0 0 0 [] 0)).n % 1048576)) ((nm ((moves.getD (↑j:Int).toNat (Act.mk 0 0 0 0 [] 0)).a % 15) #[].toList=nm ((moves.getD (↑j:Int).toNat (Act.mk 0 0 0 0 [] 0)).a % 15) #[].toList)∧(nm ((moves.getD (↑j:Int).toNat (Act.mk 0 0 0 0 [] 0)).b % 15) #[].toList=nm ((moves.getD (↑j:Int).toNat (Act.mk 0 0 0 0 [] 0)).b % 15) #[].toList)∧([120+(moves.getD (↑j:Int).toNat (Act.mk 0 0 0 0 [] 0)).d % 3]=[120+(moves.getD (↑j:Int).toNat (Act.mk 0 0 0 0 [] 0)).d % 3])∧((moves.getD (↑j:Int).toNat (Act.mk 0 0 0 0 [] 0)).n % 1048576=(moves.getD (↑j:Int).toNat (Act.mk 0 0 0 0 [] 0)).n % 1048576)∧(@Eq (List (Prod (Prod (List UInt8) (List UInt8)) UInt64)) (mvB (gsB given i) moves j) (mvB (gsB given i) moves j))) ⟨rfl,rfl,rfl,rfl,rfl⟩ (fun g37 p38=>?_)
        have p38:True:=p38
        exact v_back (j+1) [10,11] ((I64 (↑j+1))∧((↑j:Int)+1=(↑(j+1):Int))∧(moB (mvB (gsB given i) moves j) (nm ((moves.getD (↑j:Int).toNat (Act.mk (0:UInt8) (0:UInt8) (0:UInt8) (0:UInt8) [] (0:UInt64))).a % (15:UInt8)) #[].toList) (nm ((moves.getD (↑j:Int).toNat (Act.mk (0:UInt8) (0:UInt8) (0:UInt8) (0:UInt8) [] (0:UInt64))).b % (15:UInt8)) #[].toList) [(120:UInt8)+(moves.getD (↑j:Int).toNat (Act.mk (0:UInt8) (0:UInt8) (0:UInt8) (0:UInt8) [] (0:UInt64))).d % (3:UInt8)] ((moves.getD (↑j:Int).toNat (Act.mk (0:UInt8) (0:UInt8) (0:UInt8) (0:UInt8) [] (0:UInt64))).n % (1048576:UInt64))=mvB (gsB given i) moves (j+(1:Nat)))) ⟨(by(unfold I64;omega)),rfl,(by exact mv_1 ‹_›)⟩ (show(j+1≤moves.length∧j+1≤51)∧moves.length - (j+1)<moves.length - j from(by omega))
      ·skip
       refine v_call _ [] (name_ok ((moves.getD (↑j:Int).toNat (Act.mk 0 0 0 0 [] 0)).a % 15) (#[].toList)) (((moves.getD (↑j:Int).toNat (Act.mk 0 0 0 0 [] 0)).a % 15=(moves.getD (↑j:Int).toNat (Act.mk 0 0 0 0 [] 0)).a % 15)∧(Eq (α:=List UInt8) (Array.toList #[]) (Array.toList #[]))) ⟨rfl,rfl⟩ (fun g39 p40=>?_)
       have p40:True:=p40
       refine v_call _ [] (name_ok ((moves.getD (↑j:Int).toNat (Act.mk 0 0 0 0 [] 0)).b % 15) (#[].toList)) (((moves.getD (↑j:Int).toNat (Act.mk 0 0 0 0 [] 0)).b % 15=(moves.getD (↑j:Int).toNat (Act.mk 0 0 0 0 [] 0)).b % 15)∧(Eq (α:=List UInt8) (Array.toList #[]) (Array.toList #[]))) ⟨rfl,rfl⟩ (fun g41 p42=>?_)
       have p42:True:=p42
       refine v_call _ [11,10] (Move_ok (mvB (gsB given i) moves j) (nm ((moves.getD (↑j:Int).toNat (Act.mk 0 0 0 0 [] 0)).a % 15) #[].toList) (nm ((moves.getD (↑j:Int).toNat (Act.mk 0 0 0 0 [] 0)).b % 15) #[].toList) ([120+(moves.getD (↑j:Int).toNat (Act.mk 0 0 0 0 [] 0)).d % 3]) ((moves.getD (↑j:Int).toNat (Act.mk 0 0 0 0 [] 0)).n % 1048576)) ((nm ((moves.getD (↑j:Int).toNat (Act.mk 0 0 0 0 [] 0)).a % 15) #[].toList=nm ((moves.getD (↑j:Int).toNat (Act.mk 0 0 0 0 [] 0)).a % 15) #[].toList)∧(nm ((moves.getD (↑j:Int).toNat (Act.mk 0 0 0 0 [] 0)).b % 15) #[].toList=nm ((moves.getD (↑j:Int).toNat (Act.mk 0 0 0 0 [] 0)).b % 15) #[].toList)∧([120+(moves.getD (↑j:Int).toNat (Act.mk 0 0 0 0 [] 0)).d % 3]=[120+(moves.getD (↑j:Int).toNat (Act.mk 0 0 0 0 [] 0)).d % 3])∧((moves.getD (↑j:Int).toNat (Act.mk 0 0 0 0 [] 0)).n % 1048576=(moves.getD (↑j:Int).toNat (Act.mk 0 0 0 0 [] 0)).n % 1048576)∧(@Eq (List (Prod (Prod (List UInt8) (List UInt8)) UInt64)) (mvB (gsB given i) moves j) (mvB (gsB given i) moves j))) ⟨rfl,rfl,rfl,rfl,rfl⟩ (fun g43 p44=>?_)
       have p44:True:=p44
       exact v_back (j+1) [10,11] ((I64 (↑j+1))∧((↑j:Int)+1=(↑(j+1):Int))∧(moB (mvB (gsB given i) moves j) (nm ((moves.getD (↑j:Int).toNat (Act.mk (0:UInt8) (0:UInt8) (0:UInt8) (0:UInt8) [] (0:UInt64))).a % (15:UInt8)) #[].toList) (nm ((moves.getD (↑j:Int).toNat (Act.mk (0:UInt8) (0:UInt8) (0:UInt8) (0:UInt8) [] (0:UInt64))).b % (15:UInt8)) #[].toList) [(120:UInt8)+(moves.getD (↑j:Int).toNat (Act.mk (0:UInt8) (0:UInt8) (0:UInt8) (0:UInt8) [] (0:UInt64))).d % (3:UInt8)] ((moves.getD (↑j:Int).toNat (Act.mk (0:UInt8) (0:UInt8) (0:UInt8) (0:UInt8) [] (0:UInt64))).n % (1048576:UInt64))=mvB (gsB given i) moves (j+(1:Nat)))) ⟨(by(unfold I64;omega)),rfl,(by exact mv_1 ‹_›)⟩ (show(j+1≤moves.length∧j+1≤51)∧moves.length - (j+1)<moves.length - j from(by omega))
     ·have h28:=of_decide_eq_false h28
      refine v_plan (.fs [0,1,2,3,5,6,7,9,10,11,12,15] (.c 4 (.c 8 (.o 13 (.fs [14] (.o 16 .e))) (.o 13 (.fs [14] (.o 8 (.o 16 .e))))) (.o 13 (.fs [14] (.o 4 (.o 8 (.o 16 .e))))))) [9,13] True trivial ?_
      refine v_pick (((15:UInt8)≠(0:UInt8))∧((15:UInt8)≠(0:UInt8))∧((3:UInt8)≠(0:UInt8))) ⟨(by decide),(by decide),(by decide)⟩ ?_ ?_
      ·skip
       refine v_call _ [] (name_ok ((moves.getD (↑j:Int).toNat (Act.mk 0 0 0 0 [] 0)).a % 15) (#[].toList)) (((moves.getD (↑j:Int).toNat (Act.mk 0 0 0 0 [] 0)).a % 15=(moves.getD (↑j:Int).toNat (Act.mk 0 0 0 0 [] 0)).a % 15)∧(Eq (α:=List UInt8) (Array.toList #[]) (Array.toList #[]))) ⟨rfl,rfl⟩ (fun g45 p46=>?_)
       have p46:True:=p46
       refine v_pick True trivial ?_ ?_
       ·skip
        refine v_call _ [] (name_ok ((moves.getD (↑j:Int).toNat (Act.mk 0 0 0 0 [] 0)).b % 15) (#[].toList)) (((moves.getD (↑j:Int).toNat (Act.mk 0 0 0 0 [] 0)).b % 15=(moves.getD (↑j:Int).toNat (Act.mk 0 0 0 0 [] 0)).b % 15)∧(Eq (α:=List UInt8) (Array.toList #[]) (Array.toList #[]))) ⟨rfl,rfl⟩ (fun g47 p48=>?_)
        have p48:True:=p48
        refine v_call _ [11,10] (Move_ok (mvB (gsB given i) moves j) (nm ((moves.getD (↑j:Int).toNat (Act.mk 0 0 0 0 [] 0)).a % 15) #[].toList) (nm ((moves.getD (↑j:Int).toNat (Act.mk 0 0 0 0 [] 0)).b % 15) #[].toList) ([120+(moves.getD (↑j:Int).toNat (Act.mk 0 0 0 0 [] 0)).d % 3]) ((moves.getD (↑j:Int).toNat (Act.mk 0 0 0 0 [] 0)).n)) ((nm ((moves.getD (↑j:Int).toNat (Act.mk 0 0 0 0 [] 0)).a % 15) #[].toList=nm ((moves.getD (↑j:Int).toNat (Act.mk 0 0 0 0 [] 0)).a % 15) #[].toList)∧(nm ((moves.getD (↑j:Int).toNat (Act.mk 0 0 0 0 [] 0)).b % 15) #[].toList=nm ((moves.getD (↑j:Int).toNat (Act.mk 0 0 0 0 [] 0)).b % 15) #[].toList)∧([120+(moves.getD (↑j:Int).toNat (Act.mk 0 0 0 0 [] 0)).d % 3]=[120+(moves.getD (↑j:Int).toNat (Act.mk 0 0 0 0 [] 0)).d % 3])∧((moves.getD (↑j:Int).toNat (Act.mk 0 0 0 0 [] 0)).n=(moves.getD (↑j:Int).toNat (Act.mk 0 0 0 0 [] 0)).n)∧(@Eq (List (Prod (Prod (List UInt8) (List UInt8)) UInt64)) (mvB (gsB given i) moves j) (mvB (gsB given i) moves j))) ⟨rfl,rfl,rfl,rfl,rfl⟩ (fun g49 p50=>?_)
        have p50:True:=p50
        exact v_back (j+1) [10,11] ((I64 (↑j+1))∧((↑j:Int)+1=(↑(j+1):Int))∧(moB (mvB (gsB given i) moves j) (nm ((moves.getD (↑j:Int).toNat (Act.mk (0:UInt8) (0:UInt8) (0:UInt8) (0:UInt8) [] (0:UInt64))).a % (15:UInt8)) #[].toList) (nm ((moves.getD (↑j:Int).toNat (Act.mk (0:UInt8) (0:UInt8) (0:UInt8) (0:UInt8) [] (0:UInt64))).b % (15:UInt8)) #[].toList) [(120:UInt8)+(moves.getD (↑j:Int).toNat (Act.mk (0:UInt8) (0:UInt8) (0:UInt8) (0:UInt8) [] (0:UInt64))).d % (3:UInt8)] (moves.getD (↑j:Int).toNat (Act.mk (0:UInt8) (0:UInt8) (0:UInt8) (0:UInt8) [] (0:UInt64))).n=mvB (gsB given i) moves (j+(1:Nat)))) ⟨(by(unfold I64;omega)),rfl,(by exact mv_2 ‹_›)⟩ (show(j+1≤moves.length∧j+1≤51)∧moves.length - (j+1)<moves.length - j from(by omega))
       ·skip
        refine v_call _ [] (name_ok ((moves.getD (↑j:Int).toNat (Act.mk 0 0 0 0 [] 0)).b % 15) (#[].toList)) (((moves.getD (↑j:Int).toNat (Act.mk 0 0 0 0 [] 0)).b % 15=(moves.getD (↑j:Int).toNat (Act.mk 0 0 0 0 [] 0)).b % 15)∧(Eq (α:=List UInt8) (Array.toList #[]) (Array.toList #[]))) ⟨rfl,rfl⟩ (fun g51 p52=>?_)
        have p52:True:=p52
        refine v_call _ [11,10] (Move_ok (mvB (gsB given i) moves j) (nm ((moves.getD (↑j:Int).toNat (Act.mk 0 0 0 0 [] 0)).a % 15) #[].toList) (nm ((moves.getD (↑j:Int).toNat (Act.mk 0 0 0 0 [] 0)).b % 15) #[].toList) ([120+(moves.getD (↑j:Int).toNat (Act.mk 0 0 0 0 [] 0)).d % 3]) ((moves.getD (↑j:Int).toNat (Act.mk 0 0 0 0 [] 0)).n)) ((nm ((moves.getD (↑j:Int).toNat (Act.mk 0 0 0 0 [] 0)).a % 15) #[].toList=nm ((moves.getD (↑j:Int).toNat (Act.mk 0 0 0 0 [] 0)).a % 15) #[].toList)∧(nm ((moves.getD (↑j:Int).toNat (Act.mk 0 0 0 0 [] 0)).b % 15) #[].toList=nm ((moves.getD (↑j:Int).toNat (Act.mk 0 0 0 0 [] 0)).b % 15) #[].toList)∧([120+(moves.getD (↑j:Int).toNat (Act.mk 0 0 0 0 [] 0)).d % 3]=[120+(moves.getD (↑j:Int).toNat (Act.mk 0 0 0 0 [] 0)).d % 3])∧((moves.getD (↑j:Int).toNat (Act.mk 0 0 0 0 [] 0)).n=(moves.getD (↑j:Int).toNat (Act.mk 0 0 0 0 [] 0)).n)∧(@Eq (List (Prod (Prod (List UInt8) (List UInt8)) UInt64)) (mvB (gsB given i) moves j) (mvB (gsB given i) moves j))) ⟨rfl,rfl,rfl,rfl,rfl⟩ (fun g53 p54=>?_)
        have p54:True:=p54
        exact v_back (j+1) [10,11] ((I64 (↑j+1))∧((↑j:Int)+1=(↑(j+1):Int))∧(moB (mvB (gsB given i) moves j) (nm ((moves.getD (↑j:Int).toNat (Act.mk (0:UInt8) (0:UInt8) (0:UInt8) (0:UInt8) [] (0:UInt64))).a % (15:UInt8)) #[].toList) (nm ((moves.getD (↑j:Int).toNat (Act.mk (0:UInt8) (0:UInt8) (0:UInt8) (0:UInt8) [] (0:UInt64))).b % (15:UInt8)) #[].toList) [(120:UInt8)+(moves.getD (↑j:Int).toNat (Act.mk (0:UInt8) (0:UInt8) (0:UInt8) (0:UInt8) [] (0:UInt64))).d % (3:UInt8)] (moves.getD (↑j:Int).toNat (Act.mk (0:UInt8) (0:UInt8) (0:UInt8) (0:UInt8) [] (0:UInt64))).n=mvB (gsB given i) moves (j+(1:Nat)))) ⟨(by(unfold I64;omega)),rfl,(by exact mv_2 ‹_›)⟩ (show(j+1≤moves.length∧j+1≤51)∧moves.length - (j+1)<moves.length - j from(by omega))
      ·skip
       refine v_call _ [] (name_ok ((moves.getD (↑j:Int).toNat (Act.mk 0 0 0 0 [] 0)).a % 15) (#[].toList)) (((moves.getD (↑j:Int).toNat (Act.mk 0 0 0 0 [] 0)).a % 15=(moves.getD (↑j:Int).toNat (Act.mk 0 0 0 0 [] 0)).a % 15)∧(Eq (α:=List UInt8) (Array.toList #[]) (Array.toList #[]))) ⟨rfl,rfl⟩ (fun g55 p56=>?_)
       have p56:True:=p56
       refine v_call _ [] (name_ok ((moves.getD (↑j:Int).toNat (Act.mk 0 0 0 0 [] 0)).b % 15) (#[].toList)) (((moves.getD (↑j:Int).toNat (Act.mk 0 0 0 0 [] 0)).b % 15=(moves.getD (↑j:Int).toNat (Act.mk 0 0 0 0 [] 0)).b % 15)∧(Eq (α:=List UInt8) (Array.toList #[]) (Array.toList #[]))) ⟨rfl,rfl⟩ (fun g57 p58=>?_)
       have p58:True:=p58
       refine v_call _ [11,10] (Move_ok (mvB (gsB given i) moves j) (nm ((moves.getD (↑j:Int).toNat (Act.mk 0 0 0 0 [] 0)).a % 15) #[].toList) (nm ((moves.getD (↑j:Int).toNat (Act.mk 0 0 0 0 [] 0)).b % 15) #[].toList) ([120+(moves.getD (↑j:Int).toNat (Act.mk 0 0 0 0 [] 0)).d % 3]) ((moves.getD (↑j:Int).toNat (Act.mk 0 0 0 0 [] 0)).n)) ((nm ((moves.getD (↑j:Int).toNat (Act.mk 0 0 0 0 [] 0)).a % 15) #[].toList=nm ((moves.getD (↑j:Int).toNat (Act.mk 0 0 0 0 [] 0)).a % 15) #[].toList)∧(nm ((moves.getD (↑j:Int).toNat (Act.mk 0 0 0 0 [] 0)).b % 15) #[].toList=nm ((moves.getD (↑j:Int).toNat (Act.mk 0 0 0 0 [] 0)).b % 15) #[].toList)∧([120+(moves.getD (↑j:Int).toNat (Act.mk 0 0 0 0 [] 0)).d % 3]=[120+(moves.getD (↑j:Int).toNat (Act.mk 0 0 0 0 [] 0)).d % 3])∧((moves.getD (↑j:Int).toNat (Act.mk 0 0 0 0 [] 0)).n=(moves.getD (↑j:Int).toNat (Act.mk 0 0 0 0 [] 0)).n)∧(@Eq (List (Prod (Prod (List UInt8) (List UInt8)) UInt64)) (mvB (gsB given i) moves j) (mvB (gsB given i) moves j))) ⟨rfl,rfl,rfl,rfl,rfl⟩ (fun g59 p60=>?_)
       have p60:True:=p60
       exact v_back (j+1) [10,11] ((I64 (↑j+1))∧((↑j:Int)+1=(↑(j+1):Int))∧(moB (mvB (gsB given i) moves j) (nm ((moves.getD (↑j:Int).toNat (Act.mk (0:UInt8) (0:UInt8) (0:UInt8) (0:UInt8) [] (0:UInt64))).a % (15:UInt8)) #[].toList) (nm ((moves.getD (↑j:Int).toNat (Act.mk (0:UInt8) (0:UInt8) (0:UInt8) (0:UInt8) [] (0:UInt64))).b % (15:UInt8)) #[].toList) [(120:UInt8)+(moves.getD (↑j:Int).toNat (Act.mk (0:UInt8) (0:UInt8) (0:UInt8) (0:UInt8) [] (0:UInt64))).d % (3:UInt8)] (moves.getD (↑j:Int).toNat (Act.mk (0:UInt8) (0:UInt8) (0:UInt8) (0:UInt8) [] (0:UInt64))).n=mvB (gsB given i) moves (j+(1:Nat)))) ⟨(by(unfold I64;omega)),rfl,(by exact mv_2 ‹_›)⟩ (show(j+1≤moves.length∧j+1≤51)∧moves.length - (j+1)<moves.length - j from(by omega))
   ·have h20:=of_decide_eq_false h20
    refine v_leave (.ex 2) True trivial ?_
    refine v_call _ [11,10] (All_ok (mvB (gsB given i) moves j) (by exact mvl1 ‹_›) (by with_reducible exact(mvB_ok (gsB_ok _) _).1.nd)) ((@Eq (List (Prod (Prod (List UInt8) (List UInt8)) UInt64)) (mvB (gsB given i) moves j) (mvB (gsB given i) moves j))) rfl (fun g61 p62=>?_)
    have p62:True:=p62
    refine v_loop (fun k:Nat=>([(94,.i k),(13,.p 14 0)],[.bx 47 [.u (cS [120] ((fL given moves i j).take k)),.u (cS [121] ((fL given moves i j).take k)),.u (cS [122] ((fL given moves i j).take k))]])) (fun k=>k≤(fL given moves i j).length) (fun k=>(fL given moves i j).length - k) 0 [12] (((0:Int)=(↑(0:Nat):Int))∧(0=cS [120] (List.take 0 (fL given moves i j)))∧(0=cS [121] (List.take 0 (fL given moves i j)))∧(0=cS [122] (List.take 0 (fL given moves i j)))) ⟨rfl,rfl,rfl,rfl⟩ (by omega) (fun k hk63=>?_)
    refine v_if (decide ((↑k:Int)<(↑(allL (coinsB (mvB (gsB given i) moves j))).length:Int))) True trivial (fun h64=>?_) (fun h64=>?_)
    ·have h64:=of_decide_eq_true h64
     refine v_guard 101 (decide (((allL (coinsB (mvB (gsB given i) moves j))).getD (↑k:Int).toNat cD).amount=0)) ((0≤(↑k:Int)∧(↑k:Int)<(↑(allL (coinsB (mvB (gsB given i) moves j))).length:Int))) (by omega) (fun h65=>?_) (fun h65=>?_)
     ·have h65:=of_decide_eq_true h65
      exfalso;exact(fl_nz fl_fl ‹_› ‹_›).elim
     ·have h65:=of_decide_eq_false h65
      refine v_if (decide ((↑((allL (coinsB (mvB (gsB given i) moves j))).getD (↑k:Int).toNat cD).denom.length:Int)≠1)) True trivial (fun h66=>?_) (fun h66=>?_)
      ·have h66:=of_decide_eq_true h66
       exfalso;exact(fl_ln fl_fl ‹_› ‹_›).elim
      ·have h66:=of_decide_eq_false h66
       refine v_plan (.fs [0,1,2,3,4,6,7] (.o 5 (.fs [8,9] (.o 10 .e)))) [9,10,11,16] True trivial ?_
       exact v_back (k+1) [14] (((0:Int)≤(0:Int)∧(0:Int)<(↑((allL (coinsB (mvB (gsB given i) moves j))).getD (↑k:Int).toNat cD).denom.length:Int))∧((0:Int)≤(↑(((allL (coinsB (mvB (gsB given i) moves j))).getD (↑k:Int).toNat cD).denom.getD (0:Nat) (0:UInt8) - (120:UInt8)).toNat:Int)∧(↑(((allL (coinsB (mvB (gsB given i) moves j))).getD (↑k:Int).toNat cD).denom.getD (0:Nat) (0:UInt8) - (120:UInt8)).toNat:Int)<(↑(3:Nat):Int))∧(0+(↑(((allL (coinsB (mvB (gsB given i) moves j))).getD (↑k:Int).toNat cD).denom.getD 0 0 - 120).toNat:Int).toNat<3)∧((0:Int)≤(↑(((allL (coinsB (mvB (gsB given i) moves j))).getD (↑k:Int).toNat cD).denom.getD (0:Nat) (0:UInt8) - (120:UInt8)).toNat:Int)∧(↑(((allL (coinsB (mvB (gsB given i) moves j))).getD (↑k:Int).toNat cD).denom.getD (0:Nat) (0:UInt8) - (120:UInt8)).toNat:Int)<(↑(3:Nat):Int))∧(0+(↑(((allL (coinsB (mvB (gsB given i) moves j))).getD (↑k:Int).toNat cD).denom.getD 0 0 - 120).toNat:Int).toNat<3)∧(I64 (↑k+1))∧((↑k:Int)+1=(↑(k+1):Int))∧((if 0+(↑(((allL (coinsB (mvB (gsB given i) moves j))).getD (↑k:Int).toNat cD).denom.getD 0 0 - 120).toNat:Int).toNat=0 then[cS [120] (List.take k (fL given moves i j)),cS [121] (List.take k (fL given moves i j)),cS [122] (List.take k (fL given moves i j))].getD (0+(↑(((allL (coinsB (mvB (gsB given i) moves j))).getD (↑k:Int).toNat cD).denom.getD 0 0 - 120).toNat:Int).toNat) 0+((allL (coinsB (mvB (gsB given i) moves j))).getD (↑k:Int).toNat cD).amount else cS [120] (List.take k (fL given moves i j)))=cS [120] (List.take (k+1) (fL given moves i j)))∧((if 0+(↑(((allL (coinsB (mvB (gsB given i) moves j))).getD (↑k:Int).toNat cD).denom.getD 0 0 - 120).toNat:Int).toNat=0+1 then[cS [120] (List.take k (fL given moves i j)),cS [121] (List.take k (fL given moves i j)),cS [122] (List.take k (fL given moves i j))].getD (0+(↑(((allL (coinsB (mvB (gsB given i) moves j))).getD (↑k:Int).toNat cD).denom.getD 0 0 - 120).toNat:Int).toNat) 0+((allL (coinsB (mvB (gsB given i) moves j))).getD (↑k:Int).toNat cD).amount else cS [121] (List.take k (fL given moves i j)))=cS [121] (List.take (k+1) (fL given moves i j)))∧((if 0+(↑(((allL (coinsB (mvB (gsB given i) moves j))).getD (↑k:Int).toNat cD).denom.getD 0 0 - 120).toNat:Int).toNat=0+1+1 then[cS [120] (List.take k (fL given moves i j)),cS [121] (List.take k (fL given moves i j)),cS [122] (List.take k (fL given moves i j))].getD (0+(↑(((allL (coinsB (mvB (gsB given i) moves j))).getD (↑k:Int).toNat cD).denom.getD 0 0 - 120).toNat:Int).toNat) 0+((allL (coinsB (mvB (gsB given i) moves j))).getD (↑k:Int).toNat cD).amount else cS [122] (List.take k (fL given moves i j)))=cS [122] (List.take (k+1) (fL given moves i j)))) ⟨(by omega),(by exact dk_ix (fl_at fl_fl ‹_›).2),(by exact dk_iy (fl_at fl_fl ‹_›).2),(by exact dk_ix (fl_at fl_fl ‹_›).2),(by exact dk_iy (fl_at fl_fl ‹_›).2),(by exact fl_i ‹_∧_› ‹_›),rfl,(by exact cv0 fl_fl ‹_›),(by exact cv1 fl_fl ‹_›),(by exact cv2 fl_fl ‹_›)⟩ (show k+1≤(fL given moves i j).length∧(fL given moves i j).length - (k+1)<(fL given moves i j).length - k from(by exact fl_b ‹(k:Int)<_›))
    ·have h64:=of_decide_eq_false h64
     refine v_leave (.ex 4) True trivial ?_
     exact v_ret () [] ((EN.P.eqGuardType EN.P.depth (47:Nat)=false)∧(decide ([cS [120] (List.take k (fL given moves i j)),cS [121] (List.take k (fL given moves i j)),cS [122] (List.take k (fL given moves i j))]=[dS (gsB given i) [120],dS (gsB given i) [121],dS (gsB given i) [122]])=true)∧(etP=etP)∧(given=given)∧(moves=moves)) ⟨rfl,(by exact fin3 ‹_›),rfl,rfl,rfl⟩ trivial
end Go.Proofs.YtblnnkkelkjbiaaDoor.X
set_option linter.unusedVariables false
set_option linter.unusedSimpArgs false
namespace Go.Proofs.YtblnnkkelkjbiaaDoor.X
open Go Go.RowKit Go.Proofs.YtblnnkkelkjbiaaDoor.E
def OpF {α:Type} (P:Program) (t:TypeId) (fs:Array Go.Field) (off:Nat) (T:Ty α):Prop :=
  ∀(w:World) (cs:List Value),cs.length=P.cellsOf t→(∀(i:Nat) (f:Go.Field),fs[i]? = some f→∀ {β:Type} {U:Ty β},E.Opens P f.type U→∀ o sz,f.offset=o→P.cellsOf f.type=sz→∃ a,U.rep (sig0 w) w a ((cs.drop o).take sz))→∃ a,T.rep (sig0 w) w a (cs.drop off)
section
variable {α β:Type} {P:Program} {t:TypeId} {fs:Array Go.Field} {off n:Nat} {A:Ty α} {B:Ty β} {f:Go.Field}
theorem opF_cons (i:Nat) (hf:fs[i]? = some f) (ho:f.offset=off) (O:E.Opens P f.type A) (hs:P.cellsOf f.type=n) (hB:OpF P t fs (off+n) B):OpF P t fs off (tProd A B):=by
  intro w cs hl h
  obtain⟨a,ha⟩:=h i f hf O off n ho hs
  obtain⟨b,hb⟩:=hB w cs hl h
  exact⟨(a,b),_,_,by rw[← List.drop_drop];exact(List.take_append_drop n _).symm,ha,hb⟩
theorem opF_last (i:Nat) (hf:fs[i]? = some f) (ho:f.offset=off) (O:E.Opens P f.type A) (hs:P.cellsOf f.type=n) (tot:P.cellsOf t=off+n):OpF P t fs off A:=by
  intro w cs hl h
  obtain⟨a,ha⟩:=h i f hf O off n ho hs
  rw[List.take_of_length_le (by rw[List.length_drop];omega)] at ha
  exact⟨a,ha⟩
theorem opens_rec (ht:P.underlying t=some (.struct fs)) (h:OpF P t fs 0 A):E.Opens P t A:=by
  intro H enc w sp held fuel cs x hx hw
  obtain⟨hl,hf⟩:=opens_field ht hx hw
  obtain⟨a,ha⟩:=h w cs hl (fun i f hi β U O o sz ho hs=>hf i f hi O o sz ho hs)
  exact⟨a,by simpa using ha⟩
theorem opens_by (n:Nat) (h:E.Opens P t A):E.Opens P t (tBy A n):=h
theorem opens_iso {g:β→α} (k:α→β) (hg:∀ b,g (k b)=b) (h:E.Opens P t A):E.Opens P t (tIso g A):=by
  intro H enc w sp held fuel cs x hx hw
  obtain⟨b,hb⟩:=h hx hw
  exact⟨k b,by show A.rep _ _ (g (k b)) _;rw[hg];exact hb⟩
end
end Go.Proofs.YtblnnkkelkjbiaaDoor.X
set_option linter.unusedVariables false
set_option maxRecDepth 100000
namespace Go.Proofs.YtblnnkkelkjbiaaDoor.X
open Go Go.RowKit Go.Proofs.YtblnnkkelkjbiaaDoor.E
theorem opAct:E.Opens Tryd.prog 32 tAct:=opens_by 32 (opens_iso (fun p=>⟨p.1,p.2.1,p.2.2.1,p.2.2.2.1,p.2.2.2.2.1,p.2.2.2.2.2⟩) (fun _=>rfl) (opens_rec Tryd.underlying32 (opF_cons (n:=1) 0 rfl rfl (opens_u8 Tryd.underlying5) (by kernel_rfl) (opF_cons (n:=1) 1 rfl rfl (opens_u8 Tryd.underlying5) (by kernel_rfl) (opF_cons (n:=1) 2 rfl rfl (opens_u8 Tryd.underlying5) (by kernel_rfl) (opF_cons (n:=1) 3 rfl rfl (opens_u8 Tryd.underlying5) (by kernel_rfl) (opF_cons (n:=1) 4 rfl rfl (opens_str Tryd.underlying9) (by kernel_rfl) (opF_last (n:=1) 5 rfl rfl (opens_u64 Tryd.underlying30) (by kernel_rfl) (by kernel_rfl)))))))))
end Go.Proofs.YtblnnkkelkjbiaaDoor.X
