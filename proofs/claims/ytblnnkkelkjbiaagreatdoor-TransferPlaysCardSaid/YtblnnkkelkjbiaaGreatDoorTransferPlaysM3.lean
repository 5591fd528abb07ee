/- What the law TransferPlays needs: the engine, the walks of what it reaches, plain laws; part 3. -/
import Derived.Test.YtblnnkkelkjbiaaGreatDoorTransferPlaysM2
import Derived.Shelf.SlSortCmp.NoneTotal
import Derived.RangeFuncRecord
import Derived.RangeFuncSeq
import Derived.Maps.RangeRun
import Derived.Test.YtblnnkkelkjbiaaGreatDoorProg
import Derived.Sort.MapsRangeIn
import Derived.WalkKit
import Derived.OwnWalkIn
import Derived.TacticsInMore
import Derived.RegionIn
import Derived.LoopNIn
import Derived.LoopIn
set_option linter.unnecessarySimpa false
set_option linter.deprecated false
set_option linter.unusedVariables false
set_option linter.unusedSimpArgs false
set_option maxRecDepth 100000
namespace Go.Proofs.YtblnnkkelkjbiaaGreatDoor.X
open Go Go.RowKit Go.Proofs Go.Proofs.YtblnnkkelkjbiaaGreatDoor.E Go.Extern.Stop Go.Stop Go.Extern
theorem as_tA (v:Value) (w:World):(Instr.typeAssert (.iface 82 v) 34 113 true).run Tryz.prog w=.ok (.tuple #[.nilIface,.bool false]) w :=
  run_typeAssert_lacksB (want:=(match Tryz.prog.underlying 113 with | some (.interface m)=>m | _=>#[])) (z:=.nilIface) (by kernel_rfl) (by kernel_rfl) (by kernel_rfl) v 34 w
theorem as_tU (v:Value) (w:World):(Instr.typeAssert (.iface 82 v) 34 116 true).run Tryz.prog w=.ok (.tuple #[.iface 82 v,.bool true]) w:=by kernel_rfl
set_option maxHeartbeats 16000000 in
theorem as55_s1 (c:Int) (b1 o1:Nat) (t a:Addr) (old:Value) (w:World) (ha:w.cell? a=some (.pointer (some t))) (ht:w.cell? t=some old) (hf:w.frozen? t=false) (hs1:w.cell? ⟨b1,o1+2,none⟩=some (.iface 46 (.int .i64 c))) :
    Calls Tryz.prog 55 #[.iface 82 (.pointer (some ⟨b1,o1,none⟩)),.iface 74 (.pointer (some t)),.agg #[.pointer (some ⟨2,74,none⟩),.pointer (some a),.int .u64 150],.iface 108 (.agg #[.pointer (some ⟨2,46,none⟩)])] w
      fun ev w'=>ev=.returned (.bool true)∧w'=((w.alloc (.cells #[.pointer (some ⟨2,74,none⟩),.pointer (some a),.int .u64 150] 93)).alloc (.cells #[.int .i64 c] 46)).setCell t (.int .i64 c):=by
  have h52:=@run_callFunc_extern Tryz.prog 52 _ (fun args=>ReflectliteValue.unpack (args.getD 0 (.tuple #[]))) Tryz.func52 (by kernel_rfl) (by kernel_rfl) (by kernel_rfl) (by kernel_rfl)
  have h63:=@run_callFunc_extern Tryz.prog 63 _ ReflectliteType.typeOf Tryz.func63 (by kernel_rfl) (by kernel_rfl) (by kernel_rfl) (by kernel_rfl)
  have h114:=@run_callFunc_extern Tryz.prog 114 _ (ReflectliteType.relation "AssignableTo" ReflectliteType.assignableTo) Tryz.func114 (by kernel_rfl) (by kernel_rfl) (by kernel_rfl) (by kernel_rfl)
  have h64:=@run_callFunc_extern Tryz.prog 64 _ (ReflectliteValue.method (ReflectliteValue.valueError "reflectlite.Value.Elem" 0) ReflectliteValue.elem) Tryz.func64 (by kernel_rfl) (by kernel_rfl) (by kernel_rfl) (by kernel_rfl)
  have h65:=@run_callFunc_extern Tryz.prog 65 _ ReflectliteValue.set Tryz.func65 (by kernel_rfl) (by kernel_rfl) (by kernel_rfl) (by kernel_rfl)
  have tO:=as_typeOf46
  have mA:=as_mAss
  have a46:=as_ass46
  have v46:=as_vo46
  have tS:=as_typeOf82
  have aS:=as_ass82
  have mU:=as_mUn
  have tA:=as_tA
  have tU:=as_tU
  have hal:a.block<w.heap.size:=by
    rcases Nat.lt_or_ge a.block w.heap.size with h | h
    · exact h
    · simp[World.cell?,Array.getElem?_eq_none h] at ha
  have htl:t.block<w.heap.size:=by
    rcases Nat.lt_or_ge t.block w.heap.size with h | h
    · exact h
    · simp[World.cell?,Array.getElem?_eq_none h] at ht
  have el:=as_elemV a t (w.alloc (.cells #[.pointer (some ⟨2,74,none⟩),.pointer (some a),.int .u64 150] 93)) (by rw[World.cell?_alloc_lt _ _ a hal];exact ha)
  have st:=as_set t ⟨w.heap.size+1,0,none⟩ c old ((w.alloc (.cells #[.pointer (some ⟨2,74,none⟩),.pointer (some a),.int .u64 150] 93)).alloc (.cells #[.int .i64 c] 46))
    (by rw[World.cell?_alloc_at _ _ _ _ (by simp)];rfl)
    (by rw[World.cell?_alloc_lt _ _ t (by simp;omega),World.cell?_alloc_lt _ _ t htl];exact ht)
    (by rw[World.frozen?_alloc_old _ _ t (by simp;omega),World.frozen?_alloc_old _ _ t (Nat.ne_of_lt htl)];exact hf)
  have g1:(w.alloc (.cells #[.pointer (some ⟨2,74,none⟩),.pointer (some a),.int .u64 150] 93)).cell? ⟨b1,o1+2,none⟩=some (.iface 46 (.int .i64 c)):=by
    have:b1<w.heap.size:=by
      rcases Nat.lt_or_ge b1 w.heap.size with h | h
      · exact h
      · simp[World.cell?,Array.getElem?_eq_none h] at hs1
    rw[World.cell?_alloc_lt _ _ ⟨b1,o1+2,none⟩ this];exact hs1
  go_enter Tryz.func55,Tryz.ntmps55
  go_wp2
  refine wp_loop_rounds 2 ?_
  rw[rounds_succ]
  go_wp2_with (first | (go_at_call 109;refine(as_unwrap _ _ _ _ g1).mono ?_;rintro e w' ⟨rfl,rfl⟩))
  rw[rounds_succ]
  go_wp2_with (first | (go_at_call 109;refine(as_unwrap _ _ _ _ g1).mono ?_;rintro e w' ⟨rfl,rfl⟩))
  go_ret
  exact⟨rfl,rfl⟩
set_option maxHeartbeats 16000000 in
theorem as55_s2 (c:Int) (b1 o1 b2 o2:Nat) (t a:Addr) (old:Value) (w:World) (ha:w.cell? a=some (.pointer (some t))) (ht:w.cell? t=some old) (hf:w.frozen? t=false) (hs1:w.cell? ⟨b1,o1+2,none⟩=some (.iface 82 (.pointer (some ⟨b2,o2,none⟩)))) (hs2:w.cell? ⟨b2,o2+2,none⟩=some (.iface 46 (.int .i64 c))) :
    Calls Tryz.prog 55 #[.iface 82 (.pointer (some ⟨b1,o1,none⟩)),.iface 74 (.pointer (some t)),.agg #[.pointer (some ⟨2,74,none⟩),.pointer (some a),.int .u64 150],.iface 108 (.agg #[.pointer (some ⟨2,46,none⟩)])] w
      fun ev w'=>ev=.returned (.bool true)∧w'=((w.alloc (.cells #[.pointer (some ⟨2,74,none⟩),.pointer (some a),.int .u64 150] 93)).alloc (.cells #[.int .i64 c] 46)).setCell t (.int .i64 c):=by
  have h52:=@run_callFunc_extern Tryz.prog 52 _ (fun args=>ReflectliteValue.unpack (args.getD 0 (.tuple #[]))) Tryz.func52 (by kernel_rfl) (by kernel_rfl) (by kernel_rfl) (by kernel_rfl)
  have h63:=@run_callFunc_extern Tryz.prog 63 _ ReflectliteType.typeOf Tryz.func63 (by kernel_rfl) (by kernel_rfl) (by kernel_rfl) (by kernel_rfl)
  have h114:=@run_callFunc_extern Tryz.prog 114 _ (ReflectliteType.relation "AssignableTo" ReflectliteType.assignableTo) Tryz.func114 (by kernel_rfl) (by kernel_rfl) (by kernel_rfl) (by kernel_rfl)
  have h64:=@run_callFunc_extern Tryz.prog 64 _ (ReflectliteValue.method (ReflectliteValue.valueError "reflectlite.Value.Elem" 0) ReflectliteValue.elem) Tryz.func64 (by kernel_rfl) (by kernel_rfl) (by kernel_rfl) (by kernel_rfl)
  have h65:=@run_callFunc_extern Tryz.prog 65 _ ReflectliteValue.set Tryz.func65 (by kernel_rfl) (by kernel_rfl) (by kernel_rfl) (by kernel_rfl)
  have tO:=as_typeOf46
  have mA:=as_mAss
  have a46:=as_ass46
  have v46:=as_vo46
  have tS:=as_typeOf82
  have aS:=as_ass82
  have mU:=as_mUn
  have tA:=as_tA
  have tU:=as_tU
  have hal:a.block<w.heap.size:=by
    rcases Nat.lt_or_ge a.block w.heap.size with h | h
    · exact h
    · simp[World.cell?,Array.getElem?_eq_none h] at ha
  have htl:t.block<w.heap.size:=by
    rcases Nat.lt_or_ge t.block w.heap.size with h | h
    · exact h
    · simp[World.cell?,Array.getElem?_eq_none h] at ht
  have el:=as_elemV a t (w.alloc (.cells #[.pointer (some ⟨2,74,none⟩),.pointer (some a),.int .u64 150] 93)) (by rw[World.cell?_alloc_lt _ _ a hal];exact ha)
  have st:=as_set t ⟨w.heap.size+1,0,none⟩ c old ((w.alloc (.cells #[.pointer (some ⟨2,74,none⟩),.pointer (some a),.int .u64 150] 93)).alloc (.cells #[.int .i64 c] 46))
    (by rw[World.cell?_alloc_at _ _ _ _ (by simp)];rfl)
    (by rw[World.cell?_alloc_lt _ _ t (by simp;omega),World.cell?_alloc_lt _ _ t htl];exact ht)
    (by rw[World.frozen?_alloc_old _ _ t (by simp;omega),World.frozen?_alloc_old _ _ t (Nat.ne_of_lt htl)];exact hf)
  have g1:(w.alloc (.cells #[.pointer (some ⟨2,74,none⟩),.pointer (some a),.int .u64 150] 93)).cell? ⟨b1,o1+2,none⟩=some (.iface 82 (.pointer (some ⟨b2,o2,none⟩))):=by
    have:b1<w.heap.size:=by
      rcases Nat.lt_or_ge b1 w.heap.size with h | h
      · exact h
      · simp[World.cell?,Array.getElem?_eq_none h] at hs1
    rw[World.cell?_alloc_lt _ _ ⟨b1,o1+2,none⟩ this];exact hs1
  have g2:(w.alloc (.cells #[.pointer (some ⟨2,74,none⟩),.pointer (some a),.int .u64 150] 93)).cell? ⟨b2,o2+2,none⟩=some (.iface 46 (.int .i64 c)):=by
    have:b2<w.heap.size:=by
      rcases Nat.lt_or_ge b2 w.heap.size with h | h
      · exact h
      · simp[World.cell?,Array.getElem?_eq_none h] at hs2
    rw[World.cell?_alloc_lt _ _ ⟨b2,o2+2,none⟩ this];exact hs2
  go_enter Tryz.func55,Tryz.ntmps55
  go_wp2
  refine wp_loop_rounds 3 ?_
  rw[rounds_succ]
  go_wp2_with (first | (go_at_call 109;refine(as_unwrap _ _ _ _ g1).mono ?_;rintro e w' ⟨rfl,rfl⟩) | (go_at_call 109;refine(as_unwrap _ _ _ _ g2).mono ?_;rintro e w' ⟨rfl,rfl⟩))
  rw[rounds_succ]
  go_wp2_with (first | (go_at_call 109;refine(as_unwrap _ _ _ _ g1).mono ?_;rintro e w' ⟨rfl,rfl⟩) | (go_at_call 109;refine(as_unwrap _ _ _ _ g2).mono ?_;rintro e w' ⟨rfl,rfl⟩))
  rw[rounds_succ]
  go_wp2_with (first | (go_at_call 109;refine(as_unwrap _ _ _ _ g1).mono ?_;rintro e w' ⟨rfl,rfl⟩) | (go_at_call 109;refine(as_unwrap _ _ _ _ g2).mono ?_;rintro e w' ⟨rfl,rfl⟩))
  go_ret
  exact⟨rfl,rfl⟩
set_option maxHeartbeats 16000000 in
theorem as55_s3 (c:Int) (b1 o1 b2 o2 b3 o3:Nat) (t a:Addr) (old:Value) (w:World) (ha:w.cell? a=some (.pointer (some t))) (ht:w.cell? t=some old) (hf:w.frozen? t=false) (hs1:w.cell? ⟨b1,o1+2,none⟩=some (.iface 82 (.pointer (some ⟨b2,o2,none⟩)))) (hs2:w.cell? ⟨b2,o2+2,none⟩=some (.iface 82 (.pointer (some ⟨b3,o3,none⟩)))) (hs3:w.cell? ⟨b3,o3+2,none⟩=some (.iface 46 (.int .i64 c))) :
    Calls Tryz.prog 55 #[.iface 82 (.pointer (some ⟨b1,o1,none⟩)),.iface 74 (.pointer (some t)),.agg #[.pointer (some ⟨2,74,none⟩),.pointer (some a),.int .u64 150],.iface 108 (.agg #[.pointer (some ⟨2,46,none⟩)])] w
      fun ev w'=>ev=.returned (.bool true)∧w'=((w.alloc (.cells #[.pointer (some ⟨2,74,none⟩),.pointer (some a),.int .u64 150] 93)).alloc (.cells #[.int .i64 c] 46)).setCell t (.int .i64 c):=by
  have h52:=@run_callFunc_extern Tryz.prog 52 _ (fun args=>ReflectliteValue.unpack (args.getD 0 (.tuple #[]))) Tryz.func52 (by kernel_rfl) (by kernel_rfl) (by kernel_rfl) (by kernel_rfl)
  have h63:=@run_callFunc_extern Tryz.prog 63 _ ReflectliteType.typeOf Tryz.func63 (by kernel_rfl) (by kernel_rfl) (by kernel_rfl) (by kernel_rfl)
  have h114:=@run_callFunc_extern Tryz.prog 114 _ (ReflectliteType.relation "AssignableTo" ReflectliteType.assignableTo) Tryz.func114 (by kernel_rfl) (by kernel_rfl) (by kernel_rfl) (by kernel_rfl)
  have h64:=@run_callFunc_extern Tryz.prog 64 _ (ReflectliteValue.method (ReflectliteValue.valueError "reflectlite.Value.Elem" 0) ReflectliteValue.elem) Tryz.func64 (by kernel_rfl) (by kernel_rfl) (by kernel_rfl) (by kernel_rfl)
  have h65:=@run_callFunc_extern Tryz.prog 65 _ ReflectliteValue.set Tryz.func65 (by kernel_rfl) (by kernel_rfl) (by kernel_rfl) (by kernel_rfl)
  have tO:=as_typeOf46
  have mA:=as_mAss
  have a46:=as_ass46
  have v46:=as_vo46
  have tS:=as_typeOf82
  have aS:=as_ass82
  have mU:=as_mUn
  have tA:=as_tA
  have tU:=as_tU
  have hal:a.block<w.heap.size:=by
    rcases Nat.lt_or_ge a.block w.heap.size with h | h
    · exact h
    · simp[World.cell?,Array.getElem?_eq_none h] at ha
  have htl:t.block<w.heap.size:=by
    rcases Nat.lt_or_ge t.block w.heap.size with h | h
    · exact h
    · simp[World.cell?,Array.getElem?_eq_none h] at ht
  have el:=as_elemV a t (w.alloc (.cells #[.pointer (some ⟨2,74,none⟩),.pointer (some a),.int .u64 150] 93)) (by rw[World.cell?_alloc_lt _ _ a hal];exact ha)
  have st:=as_set t ⟨w.heap.size+1,0,none⟩ c old ((w.alloc (.cells #[.pointer (some ⟨2,74,none⟩),.pointer (some a),.int .u64 150] 93)).alloc (.cells #[.int .i64 c] 46))
    (by rw[World.cell?_alloc_at _ _ _ _ (by simp)];rfl)
    (by rw[World.cell?_alloc_lt _ _ t (by simp;omega),World.cell?_alloc_lt _ _ t htl];exact ht)
    (by rw[World.frozen?_alloc_old _ _ t (by simp;omega),World.frozen?_alloc_old _ _ t (Nat.ne_of_lt htl)];exact hf)
  have g1:(w.alloc (.cells #[.pointer (some ⟨2,74,none⟩),.pointer (some a),.int .u64 150] 93)).cell? ⟨b1,o1+2,none⟩=some (.iface 82 (.pointer (some ⟨b2,o2,none⟩))):=by
    have:b1<w.heap.size:=by
      rcases Nat.lt_or_ge b1 w.heap.size with h | h
      · exact h
      · simp[World.cell?,Array.getElem?_eq_none h] at hs1
    rw[World.cell?_alloc_lt _ _ ⟨b1,o1+2,none⟩ this];exact hs1
  have g2:(w.alloc (.cells #[.pointer (some ⟨2,74,none⟩),.pointer (some a),.int .u64 150] 93)).cell? ⟨b2,o2+2,none⟩=some (.iface 82 (.pointer (some ⟨b3,o3,none⟩))):=by
    have:b2<w.heap.size:=by
      rcases Nat.lt_or_ge b2 w.heap.size with h | h
      · exact h
      · simp[World.cell?,Array.getElem?_eq_none h] at hs2
    rw[World.cell?_alloc_lt _ _ ⟨b2,o2+2,none⟩ this];exact hs2
  have g3:(w.alloc (.cells #[.pointer (some ⟨2,74,none⟩),.pointer (some a),.int .u64 150] 93)).cell? ⟨b3,o3+2,none⟩=some (.iface 46 (.int .i64 c)):=by
    have:b3<w.heap.size:=by
      rcases Nat.lt_or_ge b3 w.heap.size with h | h
      · exact h
      · simp[World.cell?,Array.getElem?_eq_none h] at hs3
    rw[World.cell?_alloc_lt _ _ ⟨b3,o3+2,none⟩ this];exact hs3
  go_enter Tryz.func55,Tryz.ntmps55
  go_wp2
  refine wp_loop_rounds 4 ?_
  rw[rounds_succ]
  go_wp2_with (first | (go_at_call 109;refine(as_unwrap _ _ _ _ g1).mono ?_;rintro e w' ⟨rfl,rfl⟩) | (go_at_call 109;refine(as_unwrap _ _ _ _ g2).mono ?_;rintro e w' ⟨rfl,rfl⟩) | (go_at_call 109;refine(as_unwrap _ _ _ _ g3).mono ?_;rintro e w' ⟨rfl,rfl⟩))
  rw[rounds_succ]
  go_wp2_with (first | (go_at_call 109;refine(as_unwrap _ _ _ _ g1).mono ?_;rintro e w' ⟨rfl,rfl⟩) | (go_at_call 109;refine(as_unwrap _ _ _ _ g2).mono ?_;rintro e w' ⟨rfl,rfl⟩) | (go_at_call 109;refine(as_unwrap _ _ _ _ g3).mono ?_;rintro e w' ⟨rfl,rfl⟩))
  rw[rounds_succ]
  go_wp2_with (first | (go_at_call 109;refine(as_unwrap _ _ _ _ g1).mono ?_;rintro e w' ⟨rfl,rfl⟩) | (go_at_call 109;refine(as_unwrap _ _ _ _ g2).mono ?_;rintro e w' ⟨rfl,rfl⟩) | (go_at_call 109;refine(as_unwrap _ _ _ _ g3).mono ?_;rintro e w' ⟨rfl,rfl⟩))
  rw[rounds_succ]
  go_wp2_with (first | (go_at_call 109;refine(as_unwrap _ _ _ _ g1).mono ?_;rintro e w' ⟨rfl,rfl⟩) | (go_at_call 109;refine(as_unwrap _ _ _ _ g2).mono ?_;rintro e w' ⟨rfl,rfl⟩) | (go_at_call 109;refine(as_unwrap _ _ _ _ g3).mono ?_;rintro e w' ⟨rfl,rfl⟩))
  go_ret
  exact⟨rfl,rfl⟩
def Er.dep:Er→Nat
  | .num _=>0
  | .step _ _ e=>e.dep+1
def Er.code:Er→Int
  | .num c=>c
  | .step _ _ e=>e.code
abbrev asW (w:World) (a:Addr) (c:Int):World:=(w.alloc (.cells #[.pointer (some ⟨2,74,none⟩),.pointer (some a),.int .u64 150] 93)).alloc (.cells #[.int .i64 c] 46)
theorem as55 {σ:Nat→Nat} {w:World}:∀(e:Er) (v:Value),e.dep≤3→ErAt σ w e v→∀(t a:Addr) (old:Value),w.cell? a=some (.pointer (some t))→w.cell? t=some old→w.frozen? t=false →
    Calls Tryz.prog 55 #[v,.iface 74 (.pointer (some t)),.agg #[.pointer (some ⟨2,74,none⟩),.pointer (some a),.int .u64 150],.iface 108 (.agg #[.pointer (some ⟨2,46,none⟩)])] w
      fun ev w'=>ev=.returned (.bool true)∧w'=(asW w a e.code).setCell t (.int .i64 e.code)
  | .num c, v, _, h, t, a, old, ha, ht, hf => by
    have h:v=.iface 46 (iv c):=h
    subst h;exact as55_num c t a old w ha ht hf
  | .step _ _ (.num c), v, _, ⟨b1, o1, e1, h1, s1, h2⟩, t, a, old, ha, ht, hf => by
    have h2:e1=.iface 46 (iv c):=h2
    subst h1;subst h2
    exact as55_s1 c b1 o1 t a old w ha ht hf (s1.h 2 _ rfl).2
  | .step _ _ (.step _ _ (.num c)), v, _, ⟨b1, o1, e1, h1, s1, b2, o2, e2, h2, s2, h3⟩, t, a, old, ha, ht, hf => by
    have h3:e2=.iface 46 (iv c):=h3
    subst h1;subst h2;subst h3
    exact as55_s2 c b1 o1 b2 o2 t a old w ha ht hf (s1.h 2 _ rfl).2 (s2.h 2 _ rfl).2
  | .step _ _ (.step _ _ (.step _ _ (.num c))), v, _, ⟨b1, o1, e1, h1, s1, b2, o2, e2, h2, s2, b3, o3, e3, h3, s3, h4⟩, t, a, old, ha, ht, hf => by
    have h4:e3=.iface 46 (iv c):=h4
    subst h1;subst h2;subst h3;subst h4
    exact as55_s3 c b1 o1 b2 o2 b3 o3 t a old w ha ht hf (s1.h 2 _ rfl).2 (s2.h 2 _ rfl).2 (s3.h 2 _ rfl).2
  | .step _ _ (.step _ _ (.step _ _ (.step _ _ e))),v,hd,_,t,a,old,ha,ht,hf=>by simp only[Er.dep] at hd;omega
theorem ErAt.ifc {σ:Nat→Nat} {w:World} {e:Er} {v:Value} (h:ErAt σ w e v):∃ ty x,v=.iface ty x:=by
  cases e with
  | num c=>exact⟨_,_,h⟩
  | step _ _ e=>obtain⟨b,o,ev,h,_⟩:=h;exact⟨_,_,h⟩
abbrev asV (w:World) (t:Addr):World:=(w.alloc (.cells #[.pointer (some t)] 74)).alloc (.cells #[.pointer (some ⟨2,74,none⟩),.pointer (some ⟨w.heap.size,0,none⟩),.int .u64 150] 93)
set_option maxHeartbeats 8000000 in
theorem as38 (c:Int) (ty:Nat) (x:Value) (t:Addr) (old:Value) (w:World) (R:Ending→World→Prop) (hg:w.cell? ⟨0,0,none⟩=some (.iface 108 (.agg #[.pointer (some ⟨2,34,none⟩)]))) (ht:w.cell? t=some old) (hf:w.frozen? t=false)
    (hc:Calls Tryz.prog 55 #[.iface ty x,.iface 74 (.pointer (some t)),.agg #[.pointer (some ⟨2,74,none⟩),.pointer (some ⟨w.heap.size,0,none⟩),.int .u64 150],.iface 108 (.agg #[.pointer (some ⟨2,46,none⟩)])] (asV w t)
      fun ev w'=>ev=.returned (.bool true)∧w'=(asW (asV w t) ⟨w.heap.size,0,none⟩ c).setCell t (.int .i64 c)) :
    Calls Tryz.prog 38 #[.iface ty x,.iface 74 (.pointer (some t))] w fun ev w'=>ev=.returned (.bool true)∧w'=(asW (asV w t) ⟨w.heap.size,0,none⟩ c).setCell t (.int .i64 c):=by
  have h52:=@run_callFunc_extern Tryz.prog 52 _ (fun args=>ReflectliteValue.unpack (args.getD 0 (.tuple #[]))) Tryz.func52 (by kernel_rfl) (by kernel_rfl) (by kernel_rfl) (by kernel_rfl)
  have h53:=@run_callFunc_extern Tryz.prog 53 _ (ReflectliteValue.methodAny (ReflectliteValue.valueError "reflectlite.Value.Type" 0) (fun t _ _ _=>ReflectliteType.toType t)) Tryz.func53 (by kernel_rfl) (by kernel_rfl) (by kernel_rfl) (by kernel_rfl)
  have h54:=@run_callFunc_extern Tryz.prog 54 _ (ReflectliteValue.method (ReflectliteValue.valueError "reflectlite.Value.IsNil" 0) ReflectliteValue.isNil) Tryz.func54 (by kernel_rfl) (by kernel_rfl) (by kernel_rfl) (by kernel_rfl)
  have h104:=@run_callFunc_extern Tryz.prog 104 _ (ReflectliteType.abiMethod fun t=>do pure (.int .u8 (← Rtype.kind t))) Tryz.func104 (by kernel_rfl) (by kernel_rfl) (by kernel_rfl) (by kernel_rfl)
  have h116:=@run_callFunc_extern Tryz.prog 116 _ (ReflectliteType.method ReflectliteType.elem) Tryz.func116 (by kernel_rfl) (by kernel_rfl) (by kernel_rfl) (by kernel_rfl)
  have h117:=@run_callFunc_extern Tryz.prog 117 _ (ReflectliteType.relation "Implements" ReflectliteType.implements_) Tryz.func117 (by kernel_rfl) (by kernel_rfl) (by kernel_rfl) (by kernel_rfl)
  have f6:=as_vo
  have f7:=as_type
  have mK:=as_mKind
  have mE:=as_mElem
  have mI:=as_mImpl
  have k1:=as_kind74
  have k2:=as_kind46
  have e1:=as_elem74
  have i1:=as_impl46
  have n8:=as_isNil ⟨w.heap.size,0,none⟩ t (asV w t) (by rw[World.cell?_alloc_lt _ _ ⟨w.heap.size,0,none⟩ (by simp)];simp)
  have hlt:0<w.heap.size:=by
    rcases Nat.eq_zero_or_pos w.heap.size with h0 | h
    · simp[World.cell?,h0] at hg
    · exact h
  have hg2:(asV w t).cell? ⟨0,0,none⟩=some (.iface 108 (.agg #[.pointer (some ⟨2,34,none⟩)])):=by
    rw[World.cell?_alloc_lt _ _ ⟨0,0,none⟩ (by simp),World.cell?_alloc_lt _ _ ⟨0,0,none⟩ hlt];exact hg
  go_enter Tryz.func38,Tryz.ntmps38
  go_wp2_with (first | (go_at_call 55;refine hc.mono ?_;rintro e w' ⟨rfl,rfl⟩))
  go_ret
  exact⟨rfl,rfl⟩
end Go.Proofs.YtblnnkkelkjbiaaGreatDoor.X
set_option linter.unusedVariables false
set_option linter.unusedSimpArgs false
set_option maxRecDepth 100000
namespace Go.Proofs.YtblnnkkelkjbiaaGreatDoor.X
open Go Go.RowKit Go.Proofs Go.Proofs.YtblnnkkelkjbiaaGreatDoor.E
def etP:PP:=⟨fun σ w _=>Seg σ w 0 0 [.iface 108 (.agg #[.pointer (some ⟨2,34,none⟩)])],fun st h=>h.step st⟩
theorem stp_setCell {σ:Nat→Nat} {w:World} {b:Nat} (hz:σ b=0) (v:Value):Stp (· = b) σ w σ (w.setCell ⟨b,0,none⟩ v):=by
  have oth:∀ x,x≠b→(w.setCell ⟨b,0,none⟩ v).heap[x]? = w.heap[x]?:=fun x hx=>by
    simp only[World.setCell,Array.getElem?_modify]
    rw[if_neg (Ne.symm hx)]
  refine⟨rfl,rfl,rfl,by simp[World.setCell],fun x _ hx=>oth x hx,fun _ _ _=>rfl,fun x o hx ho=>?_,fun _ _=>Nat.le_refl _,Nat.le_refl _⟩
  have hne:x≠b:=by rintro rfl;rw[hz] at ho;omega
  exact World.cell?_of_block (oth x hne)
theorem errAs_ok (e:Er) (c0:Int) (hd:e.dep≤3):FOk EN 38 ⟨[.pr etP,.pn (PE (some e)) true false,.bx 46 [.i c0]],[.n 1,.j 74 (.p 2 0)],Unit,fun _=>([.pr etP,.pn (PE (some e)) true false,.bx 46 [.i e.code]],.b true),fun _=>True⟩:=by
  refine⟨by kernel_rfl,fun ν F σ w S=>?_⟩
  obtain⟨b,hb1,hB,hFb,_⟩:=S.ent 2 _ rfl
  obtain⟨hE,_,_⟩:=S.ent 1 _ rfl
  have hE:ErAt σ w e (ν 1):=hE
  have hg:Seg σ w 0 0 [.iface 108 (.agg #[.pointer (some ⟨2,34,none⟩)])]:=S.ent 0 _ rfl
  have hg0:=(hg.h 0 _ rfl).2
  obtain⟨ty,x,hv⟩:=hE.ifc
  have hbl:=hB.lt
  have hargs:(denL ν [.n 1,.j 74 (.p 2 0)]).toArray=#[.iface ty x,.iface 74 (.pointer (some ⟨b,0,none⟩))]:=by
    simp only[denL,den,hv,hb1,padd,Nat.add_zero]
  have ht:w.cell? ⟨b,0,none⟩=some (iv c0):=by rw[hB.cell 0];rfl
  have hf:w.frozen? ⟨b,0,none⟩=false:=hB.free 0
  have s1:=Stp.alloc σ w (.cells #[.pointer (some ⟨b,0,none⟩)] 74) 0
  have s2:=s1.then (Stp.alloc _ _ (.cells #[.pointer (some ⟨2,74,none⟩),.pointer (some ⟨w.heap.size,0,none⟩),.int .u64 150] 93) 0)
  have s3:=s2.then (Stp.alloc _ _ (.cells #[.pointer (some ⟨2,74,none⟩),.pointer (some ⟨w.heap.size,0,none⟩),.int .u64 150] 93) 0)
  have s4:=s3.then (Stp.alloc _ _ (.cells #[.int .i64 e.code] 46) 0)
  have B2:=hB.step' s2
  have B4:=hB.step' s4
  have hc:=as55 e (ν 1) hd (ErAt.step s2 hE) ⟨b,0,none⟩ ⟨w.heap.size,0,none⟩ (iv c0) (by rw[World.cell?_alloc_lt _ _ ⟨w.heap.size,0,none⟩ (by simp)];simp) (by rw[B2.cell 0];rfl) (B2.free 0)
  rw[hv] at hc
  show Calls EN.P 38 (denL ν [.n 1,.j 74 (.p 2 0)]).toArray w _
  rw[hargs]
  refine Calls.mono (as38 e.code ty x ⟨b,0,none⟩ (iv c0) w (fun _ _=>True) hg0 ht hf hc) ?_
  rintro ev w' ⟨rfl,rfl⟩
  have s5:=(s4.mono (M':=(· = b)) (fun _ _ h=>h.elim)).trans (stp_setCell B4.z (.int .i64 e.code)) (M'':=(· = b)) (fun x _ h=>by rcases h with h | h <;> exact h)
  refine⟨(),ν,F,_,rfl,trivial,fun _ _=>rfl,s5.mono (fun x _ h=>⟨2,by subst h;exact hFb⟩),?_,by simp,fun i b' h=>.inl ⟨i,h⟩,rfl⟩
  refine S.gen s5 (· = 2) (fun _ _=>rfl) S.one (by simp) (fun k b' hk hm=>by subst hm;exact S.dis k 2 b' hk hFb) (fun k hk hne=>⟨?_,rfl⟩) (fun k en hk he=>?_) (fun k b' hk hb'=>?_) (fun k m b' _ _ e1 e2=>S.dis k m b' e1 e2)
  · have hk : k < 3 := hk
    match k,hk,hne with
    | 0,_,_=>rfl
    | 1,_,_=>rfl
    | 2,_,h=>exact absurd rfl h
  · rcases hk with rfl | hk
    · simp only [List.getElem?_cons_succ, List.getElem?_cons_zero, Option.some.injEq] at he
      subst he
      refine⟨⟨b,hb1,⟨?_,B4.z⟩,hFb,rfl⟩,rfl⟩
      have:=B4.h
      simp only[World.setCell,Array.getElem?_modify,if_pos]
      rw[this];rfl
    · have := (List.getElem?_eq_some_iff.1 he).1
      have hk:3≤k:=hk
      simp at this;omega
  · rcases hk with rfl | hk
    · exact⟨by simp,s5.lt (S.lt 2 b' hb').2,.inl ⟨2,rfl,hb'⟩⟩
    · have := (S.lt k b' hb').1
      have hk:3≤k:=hk
      simp at this;omega
def codeO:Option Er→Int
  | none=>0
  | some e=>e.code
def depO:Option Er→Nat
  | none=>0
  | some e=>e.dep
noncomputable def ccC7_16:Code:=(Tryz.f16.body).getD .skip
theorem Code1_aux:FOk EN 16 ⟨[.pr etP,.pn (PE none) true true],[.n 1],Unit,fun _=>([.pr etP,.pn (PE none) true true],.i 0),fun _=>True⟩:=by
 refine v_fun Tryz.f16 ccC7_16 MX (fun ν F σ w=>?_) Tryz.func16
 refine v_nl ?_
 refine v_if (true) True trivial (fun h1=>?_) (fun h1=>?_)
 ·skip
  exact v_ret () [] (((0:Int)=(0:Int))∧(etP=etP)∧(PE none=PE none)∧(true=true)) ⟨rfl,rfl,rfl,rfl⟩ trivial
 ·skip
  contradiction
theorem Code2_aux (e:Er) (h:e.dep≤3):FOk EN 16 ⟨[.pr etP,.pn (PE (some e)) true false],[.n 1],Unit,fun _=>([.pr etP,.pn (PE (some e)) true false],.i e.code),fun _=>True⟩:=by
 refine v_fun Tryz.f16 ccC7_16 MX (fun ν F σ w=>?_) Tryz.func16
 refine v_nl ?_
 refine v_if (false) True trivial (fun h1=>?_) (fun h1=>?_)
 ·skip
  contradiction
 ·skip
  refine v_call _ [0,1,3] (errAs_ok (e) (0) ‹_›) ((etP=etP)∧(PE (some e)=PE (some e))∧(false=false)∧((0:Int)=(0:Int))) ⟨rfl,rfl,rfl,rfl⟩ (fun g2 p3=>?_)
  have p3:True:=p3
  refine v_if (true) True trivial (fun h4=>?_) (fun h4=>?_)
  ·skip
   exact v_ret () [] ((e.code=e.code)∧(etP=etP)∧(PE (some e)=PE (some e))∧(false=false)) ⟨rfl,rfl,rfl,rfl⟩ trivial
  ·skip
   contradiction
theorem Code_ok (o:Option Er) (h:depO o≤3):FOk EN 16 ⟨[.pr etP,.pn (PE o) true o.isNone],[.n 1],Unit,fun _=>([.pr etP,.pn (PE o) true o.isNone],.i (codeO o)),fun _=>True⟩:=by
  cases o with
  | none=>exact Code1_aux
  | some e=>exact Code2_aux e h
theorem less_cmp:∀ a b:List UInt8,Op.bytesLess a b=decide (Lib.compareBytes a b<0)
  | [],[]=>rfl
  | [],_::_=>rfl
  | _::_,[]=>rfl
  | a :: xs, b :: ys => by
    unfold Op.bytesLess Lib.compareBytes
    by_cases h1:a<b
    · simp[h1]
    · by_cases h2 : b < a
      · have : ¬ a = b := fun e => by subst e; exact h1 h2
        simp[h1,h2,this]
      · have : a = b := UInt8.le_antisymm (UInt8.not_lt.1 h2) (UInt8.not_lt.1 h1)
        subst this
        simp[h1,less_cmp xs ys]
theorem cmp_zero:∀ {a b:List UInt8},Lib.compareBytes a b=0↔a=b
  | [],[]=>by simp[Lib.compareBytes]
  | [],_::_=>by simp[Lib.compareBytes]
  | _::_,[]=>by simp[Lib.compareBytes]
  | a :: xs, b :: ys => by
    unfold Lib.compareBytes
    by_cases h1:a<b
    · have : ¬ a = b := fun e => by subst e; exact absurd h1 (UInt8.lt_irrefl _)
      simp[h1,this]
    · by_cases h2 : b < a
      · have : ¬ a = b := fun e => by subst e; exact h1 h2
        simp[h1,h2,this]
      · have : a = b := UInt8.le_antisymm (UInt8.not_lt.1 h2) (UInt8.not_lt.1 h1)
        subst this
        simp[h1,cmp_zero (a:=xs) (b:=ys)]
theorem less_t {a b:List UInt8} (h:Op.bytesLess a b=true):Lib.compareBytes a b<0:=by rw[less_cmp] at h;simpa using h
theorem less_f {a b:List UInt8} (h:Op.bytesLess a b=false):¬ Lib.compareBytes a b<0:=by rw[less_cmp] at h;simpa using h
abbrev klt (a b:List UInt8):Prop:=Lib.compareBytes a b<0
theorem cmp_anti:∀ a b:List UInt8,Lib.compareBytes b a = - Lib.compareBytes a b
  | [],[]=>rfl
  | [],_::_=>rfl
  | _::_,[]=>rfl
  | a :: xs, b :: ys => by
    unfold Lib.compareBytes
    by_cases h1:a<b
    · have h2 : ¬ b < a := fun h => absurd (UInt8.lt_trans h1 h) (UInt8.lt_irrefl _)
      simp[h1,h2]
    · by_cases h2 : b < a
      · simp[h1,h2]
      · simp only[if_neg h1,if_neg h2];exact cmp_anti xs ys
theorem klt_trans:∀ {a b c:List UInt8},klt a b→klt b c→klt a c
  | [],[],_,h,_=>by simp[klt,Lib.compareBytes] at h
  | [],_::_,[],_,h=>by simp[klt,Lib.compareBytes] at h
  | [],_::_,_::_,_,_=>by simp[klt,Lib.compareBytes]
  | _::_,[],_,h,_=>by simp[klt,Lib.compareBytes] at h
  | _::_,_::_,[],_,h=>by simp[klt,Lib.compareBytes] at h
  | a :: xs, b :: ys, c :: zs, h1, h2 => by
    unfold klt at h1 h2 ⊢
    unfold Lib.compareBytes at h1 h2 ⊢
    by_cases p:a<b
    · by_cases q : b < c
      · rw[if_pos (UInt8.lt_trans p q)];decide
      · rw [if_neg q] at h2
        by_cases q2:c<b
        · rw[if_pos q2] at h2;exact absurd h2 (by decide)
        · have : b = c := UInt8.le_antisymm (UInt8.not_lt.1 q2) (UInt8.not_lt.1 q)
          subst this;rw[if_pos p];decide
    · rw [if_neg p] at h1
      by_cases p2:b<a
      · rw[if_pos p2] at h1;exact absurd h1 (by decide)
      · have : a = b := UInt8.le_antisymm (UInt8.not_lt.1 p2) (UInt8.not_lt.1 p)
        subst this
        rw[if_neg p2] at h1
        by_cases q:a<c
        · rw[if_pos q];decide
        · rw [if_neg q] at h2 ⊢
          by_cases q2:c<a
          · rw[if_pos q2] at h2;exact absurd h2 (by decide)
          · rw[if_neg q2] at h2 ⊢;exact klt_trans h1 h2
theorem klt_irr (a:List UInt8):¬ klt a a:=by have:=cmp_anti a a;unfold klt;omega
theorem kge {a b:List UInt8} (h:¬ klt a b):a=b∨klt b a:=by
  have:=cmp_anti a b
  unfold klt at *
  by_cases e:Lib.compareBytes a b=0
  · exact .inl (cmp_zero.1 e)
  · exact .inr (by omega)
noncomputable def cIxb:Code:=(Tryz.f83.body).getD .skip
theorem ixb_exact (σ:Nat→Nat) (w:World) (s:List UInt8) (c:UInt8):Ctr Tryz.prog 83 [sv s,bv c] noM σ w (fun _ _ v=>v=iv (Lib.indexByte s c)):=by
 refine ctr_enter Tryz.func83 cIxb (by kernel_rfl) 8 (by kernel_rfl) (Nat.le_of_ble_eq_true (by kernel_rfl)) [(0,sv s),(1,bv c)] (by kernel_rfl) ?_
 intro a hF1
 have hS2:=Stp.refl noM σ w
 refine q_seq ?_
 refine q_reg ?_
 refine q_run 1 [(4,(Value.int .i64 ((0:Nat):Int)))] hF1 fun a3 hF4=>?_
 refine q_end ?_
 refine q_seq ?_
 refine q_reg ?_
 refine q_run 2 [(6,bv c),(5,sv s)] hF4 fun a5 hF6=>?_
 have hr:(Extern.BytealgIndexByte.indexByte #[sv s,bv c]).run Tryz.prog w=.ok (iv (Lib.indexByte s c)) w:=by
  have h:=Lib.run_indexByteString (P:=Tryz.prog) ⟨s.toArray⟩ (c.toNat:Int) w
  rw[show((c.toNat:Int)).toNat.toUInt8=c by rw[Int.toNat_natCast];exact UInt8.ofNat_toNat] at h
  exact h
 refine r_at (q_val 7 (Op.call (Call.mk (Callee.value (Operand.func 88)) #[(Operand.tmp 5),(Operand.tmp 6)] #[9,5])) hF6 (iv (Lib.indexByte s c)) (exec_ext [sv s,bv c] (by kernel_rfl) (run_ext (e:=Extern.BytealgIndexByte.indexByte) Tryz.func88 (by kernel_rfl) (by kernel_rfl) (by kernel_rfl) (by kernel_rfl) hr)) ?_)
 intro a7 hF8
 refine q_run 1 [(4,(iv (Lib.indexByte s c)))] hF8 fun a9 hF10=>?_
 refine q_end ?_
 refine q_ret ?_
 try dsimp only[Exit.then,Exit.inBlock]
 refine f_ret1 hF10 4 (by kernel_rfl) (iv (Lib.indexByte s c)) (by kernel_rfl) σ hS2 ?_
 exact rfl
theorem IndexByte_ok (s:List UInt8) (c:UInt8):FOk EN 83 ⟨[],[.s s,.c c],Unit,fun _=>([],.i (Lib.indexByte s c)),fun _=>True⟩:=by
  refine fok_val (by kernel_rfl) rfl fun ν F σ w S=>?_
  exact ixb_exact σ w s c
theorem ixb_pos (s:List UInt8) (c:UInt8):decide (0≤Lib.indexByte s c)=s.contains c:=by
  induction s with
  | nil=>rfl
  | cons b l ih =>
    unfold Lib.indexByte
    have h1:=Lib.indexByte_ge l c
    by_cases e:b=c
    · subst e;simp
    · have e2 : ¬ c = b := fun q => e q.symm
      simp only[beq_iff_eq,e,if_false,List.contains_cons,e2,beq_eq_false_iff_ne.2 e2,Bool.false_or,← ih]
      by_cases q:Lib.indexByte l c = -1
      · simp[q]
      · simp only[q,if_false];congr 1;apply propext;omega
theorem ixb_one {s:List UInt8} (h:(#[47]:Array UInt8).toList=s):decide (0≤(0:Int))=s.contains 47:=by subst h;rfl
noncomputable def ccW1_76:Code:=(Tryz.f76.body).getD .skip
theorem Index_ok (s:List UInt8):FOk EN 76 ⟨[],[.s s,.s ((#[47]:Array UInt8).toList)],Int,fun v=>([],.i v),fun v=>decide (0≤v)=s.contains 47⟩:=by
 refine v_fun Tryz.f76 ccW1_76 MX (fun ν F σ w=>?_) Tryz.func76
 refine v_nl ?_
 refine v_guard 19 (decide ((↑#[(47:UInt8)].toList.length:Int)=(0:Int))) True trivial (fun h1=>?_) (fun h1=>?_)
 ·have h1:=of_decide_eq_true h1
  contradiction
 ·have h1:=of_decide_eq_false h1
  refine v_if (decide (#[47].toList=s)) True trivial (fun h2=>?_) (fun h2=>?_)
  ·have h2:=of_decide_eq_true h2
   exact v_ret (0) [] (((0:Int)=(0:Int))) rfl (by exact ixb_one ‹_›)
  ·have h2:=of_decide_eq_false h2
   refine v_if (decide ((↑#[(47:UInt8)].toList.length:Int)=(1:Int))) True trivial (fun h3=>?_) (fun h3=>?_)
   ·have h3:=of_decide_eq_true h3
    refine v_call _ [] (IndexByte_ok (s) (#[47].toList.getD 0 0)) (((0:Int)≤(0:Int)∧(0:Int)<(↑#[(47:UInt8)].toList.length:Int))∧(s=s)∧(#[(47:UInt8)].toList.getD (0:Nat) (0:UInt8)=#[(47:UInt8)].toList.getD (0:Nat) (0:UInt8))) ⟨(by decide),rfl,rfl⟩ (fun g4 p5=>?_)
    have p5:True:=p5
    exact v_ret (Lib.indexByte s (#[47].toList.getD 0 0)) [] ((Lib.indexByte s (#[47].toList.getD 0 0)=Lib.indexByte s (#[47].toList.getD 0 0))) rfl (by exact ixb_pos _ _)
   ·have h3:=of_decide_eq_false h3
    contradiction
noncomputable def ccW1_60:Code:=(Tryz.f60.body).getD .skip
theorem Index2_ok (s:List UInt8):FOk EN 60 ⟨[],[.s s,.s ((#[47]:Array UInt8).toList)],Int,fun v=>([],.i v),fun v=>decide (0≤v)=s.contains 47⟩:=by
 refine v_fun Tryz.f60 ccW1_60 MX (fun ν F σ w=>?_) Tryz.func60
 refine v_nl ?_
 refine v_call _ [] (Index_ok (s)) ((s=s)∧(#[(47:UInt8)].toList=#[(47:UInt8)].toList)) ⟨rfl,rfl⟩ (fun g1 p2=>?_)
 have p2:decide (0≤g1)=s.contains 47:=p2
 exact v_ret (g1) [] ((g1=g1)) rfl ‹_›
noncomputable def ccW1_44:Code:=(Tryz.f44.body).getD .skip
theorem Contains_ok (s:List UInt8):FOk EN 44 ⟨[],[.s s,.s ((#[47]:Array UInt8).toList)],Unit,fun _=>([],.b (s.contains 47)),fun _=>True⟩:=by
 refine v_fun Tryz.f44 ccW1_44 MX (fun ν F σ w=>?_) Tryz.func44
 refine v_nl ?_
 refine v_call _ [] (Index2_ok (s)) ((s=s)∧(#[(47:UInt8)].toList=#[(47:UInt8)].toList)) ⟨rfl,rfl⟩ (fun g1 p2=>?_)
 have p2:decide (0≤g1)=s.contains 47:=p2
 exact v_ret () [] ((decide (0≤g1)=s.contains 47)) ‹_› trivial
section
variable {α β:Type} [DecidableEq α]
theorem mput_keys (l:List (α × β)) (k:α) (v:β):(mput l k v).map (·.1)=if k∈l.map (·.1) then l.map (·.1) else l.map (·.1)++[k]:=by
  induction l with
  | nil=>simp[mput]
  | cons p r ih =>
    unfold mput
    by_cases e:p.1=k
    · rw[if_pos e,if_pos (by simp[e])];simp[e]
    · rw [if_neg e, List.map_cons, ih]
      by_cases c:k∈r.map (·.1)
      · have c2 : k ∈ (p :: r).map (·.1) := List.mem_cons_of_mem _ c
        rw[if_pos c,if_pos c2];rfl
      · have c2 : ¬ k ∈ (p :: r).map (·.1) := by simp only [List.map_cons, List.mem_cons, not_or]; exact ⟨fun q => e q.symm, c⟩
        rw[if_neg c,if_neg c2];rfl
theorem mput_nodup {l:List (α × β)} (h:(l.map (·.1)).Nodup) (k:α) (v:β):((mput l k v).map (·.1)).Nodup:=by
  rw[mput_keys];split
  · exact h
  · rename_i c
    exact List.nodup_append.2 ⟨h,by simp,fun x hx y hy e=>by rw[List.mem_singleton] at hy;subst hy;subst e;exact c hx⟩
theorem mput_len (l:List (α × β)) (k:α) (v:β):(mput l k v).length≤l.length+1:=by
  have:=congrArg List.length (mput_keys l k v)
  rw[List.length_map] at this
  rw[this];split <;> simp
theorem mem_mput {l:List (α × β)} (h:(l.map (·.1)).Nodup) {k:α} {v:β} {p:α × β}:p∈mput l k v↔(p∈l∧p.1≠k)∨p=(k,v):=by
  induction l with
  | nil=>simp[mput]
  | cons q r ih =>
    rw[List.map_cons,List.nodup_cons] at h
    unfold mput
    by_cases e:q.1=k
    · rw [if_pos e, List.mem_cons, List.mem_cons]
      constructor
      · rintro (h1 | h1)
        · exact .inr h1
        · exact .inl ⟨.inr h1,fun c=>h.1 (List.mem_map.2 ⟨p,h1,c.trans e.symm⟩)⟩
      · rintro (⟨h1 | h1, h2⟩ | h1)
        · subst h1;exact absurd e h2
        · exact .inr h1
        · exact .inl h1
    · rw [if_neg e, List.mem_cons, List.mem_cons, ih h.2]
      constructor
      · rintro (h1 | ⟨h1, h2⟩ | h1)
        · subst h1;exact .inl ⟨.inl rfl,e⟩
        · exact .inl ⟨.inr h1,h2⟩
        · exact .inr h1
      · rintro (⟨h1 | h1, h2⟩ | h1)
        · exact .inl h1
        · exact .inr (.inl ⟨h1,h2⟩)
        · exact .inr (.inr h1)
theorem mdel_sub (l:List (α × β)) (k:α):(mdel l k).Sublist l:=by
  induction l with
  | nil=>exact .slnil
  | cons q r ih =>
    unfold mdel
    split
    · exact List.sublist_cons_self _ _
    · exact ih.cons_cons _
theorem mem_mdel {l:List (α × β)} (h:(l.map (·.1)).Nodup) {k:α} {p:α × β}:p∈mdel l k↔p∈l∧p.1≠k:=by
  induction l with
  | nil=>simp[mdel]
  | cons q r ih =>
    rw[List.map_cons,List.nodup_cons] at h
    unfold mdel
    by_cases e:q.1=k
    · rw [if_pos e, List.mem_cons]
      constructor
      · exact fun h1=>⟨.inr h1,fun c=>h.1 (List.mem_map.2 ⟨p,h1,c.trans e.symm⟩)⟩
      · rintro ⟨h1 | h1, h2⟩
        · subst h1;exact absurd e h2
        · exact h1
    · rw [if_neg e, List.mem_cons, List.mem_cons, ih h.2]
      constructor
      · rintro (h1 | ⟨h1, h2⟩)
        · subst h1;exact⟨.inl rfl,e⟩
        · exact⟨.inr h1,h2⟩
      · rintro ⟨h1 | h1, h2⟩
        · exact .inl h1
        · exact .inr ⟨h1,h2⟩
theorem mget_mem {l:List (α × β)} (h:(l.map (·.1)).Nodup) {p:α × β} (hp:p∈l):mget l p.1=some p.2:=by
  induction l with
  | nil=>cases hp
  | cons q r ih =>
    rw[List.map_cons,List.nodup_cons] at h
    unfold mget
    rcases List.mem_cons.1 hp with rfl | hp
    · rw[if_pos rfl]
    · rw[if_neg (fun c=>h.1 (List.mem_map.2 ⟨p,hp,c.symm⟩)),ih h.2 hp]
theorem mget_none {l:List (α × β)} {k:α} (h:∀ p∈l,p.1≠k):mget l k=none:=by
  induction l with
  | nil=>rfl
  | cons q r ih=>unfold mget;rw[if_neg (h q (List.mem_cons_self ..))];exact ih fun p hp=>h p (List.mem_cons_of_mem _ hp)
theorem mget_mput (l:List (α × β)) (k k':α) (v:β):mget (mput l k v) k'=if k'=k then some v else mget l k':=by
  induction l with
  | nil =>
    unfold mput mget
    by_cases e:k'=k
    · rw[if_pos e,if_pos e.symm]
    · rw[if_neg e,if_neg (fun q=>e q.symm)];rfl
  | cons p r ih =>
    unfold mput
    by_cases e:p.1=k
    · rw [if_pos e]; unfold mget
      by_cases c:k'=k
      · rw[if_pos c,if_pos c.symm]
      · rw[if_neg c,if_neg (fun q=>c q.symm),if_neg (fun q=>c (q.symm.trans e))]
    · rw [if_neg e]; unfold mget
      by_cases c:p.1=k'
      · rw[if_pos c,if_pos c,if_neg (fun q=>e (c.trans q))]
      · rw[if_neg c,if_neg c,ih]
theorem mget_mdel {l:List (α × β)} (h:(l.map (·.1)).Nodup) (k k':α):mget (mdel l k) k'=if k'=k then none else mget l k':=by
  induction l with
  | nil=>unfold mdel mget;split <;> rfl
  | cons p r ih =>
    rw[List.map_cons,List.nodup_cons] at h
    unfold mdel
    by_cases e:p.1=k
    · rw [if_pos e]
      by_cases c:k'=k
      · rw[if_pos c];exact mget_none fun q hq z=>h.1 (List.mem_map.2 ⟨q,hq,z.trans (c.trans e.symm)⟩)
      · rw [if_neg c]; conv => rhs; unfold mget
        rw[if_neg (fun q=>c (q.symm.trans e))]
    · rw [if_neg e]
      conv=>lhs;unfold mget
      conv=>rhs;unfold mget
      by_cases c:p.1=k'
      · rw[if_pos c,if_pos c,if_neg (fun q=>e (c.trans q))]
      · rw[if_neg c,if_neg c,ih h.2]
end
abbrev BK:=List ((List UInt8 × List UInt8) × UInt64)
def bget (B:BK) (a d:List UInt8):UInt64:=(mget B (a,d)).getD 0
def coinsB (B:BK):List Coin:=B.map fun p=>⟨p.1.1,p.1.2,p.2⟩
def ofE (a d:List UInt8) (n:UInt64):Option Er :=
  if(a.length:Int)=0∨16<(a.length:Int)∨a.contains 47=true then some (.step ((#[97,99,99,111,117,110,116]:Array UInt8).toList) a.length (.num 42))
  else if(d.length:Int)=0∨40<(d.length:Int) then some (.step ((#[100,101,110,111,109]:Array UInt8).toList) d.length (.num 43))
  else if n=0 then some (.step ((#[97,109,111,117,110,116]:Array UInt8).toList) 0 (.num 44)) else none
def giE (B:BK) (a d:List UInt8) (n:UInt64):Option Er :=
  if(ofE a d n).isNone=false then ofE a d n
  else if 18446744073709551615 - n<bget B a d then some (.step ((#[98,97,110,107]:Array UInt8).toList) 1 (.num 41)) else none
def giB (B:BK) (a d:List UInt8) (n:UInt64):BK:=if(giE B a d n).isNone=true then mput B (a,d) (bget B a d+n) else B
def taE (B:BK) (a d:List UInt8) (n:UInt64):Option Er :=
  if(ofE a d n).isNone=false then ofE a d n
  else if bget B a d<n then some (.step ((#[98,97,110,107]:Array UInt8).toList) 2 (.num 40)) else none
def taB (B:BK) (a d:List UInt8) (n:UInt64):BK :=
  if(taE B a d n).isNone=false then B
  else if bget B a d - n=0 then mdel (mput B (a,d) (bget B a d - n)) (a,d) else mput B (a,d) (bget B a d - n)
def moE (B:BK) (f t d:List UInt8) (n:UInt64):Option Er :=
  if(taE B f d n).isNone=false then taE B f d n
  else if(giE (taB B f d n) t d n).isNone=false then some (.step ((#[116,111]:Array UInt8).toList) 0 ((giE (taB B f d n) t d n).getD (.num 0))) else none
def moB (B:BK) (f t d:List UInt8) (n:UInt64):BK :=
  if(taE B f d n).isNone=false then B
  else if(giE (taB B f d n) t d n).isNone=false then mput (taB B f d n) (f,d) (bget (taB B f d n) f d+n) else giB (taB B f d n) t d n
def ltC (x y:Coin):Prop:=klt x.account y.account∨(x.account=y.account∧klt x.denom y.denom)
instance (x y:Coin):Decidable (ltC x y):=by unfold ltC;infer_instance
def insC (c:Coin):List Coin→List Coin
  | []=>[c]
  | x::r=>if ltC x c then x::insC c r else c::x::r
def allL (L:List Coin):List Coin:=L.foldl (fun o c=>insC c o) []
def ckey (c:Coin):List UInt8 × List UInt8:=(c.account,c.denom)
theorem ltC_trans {x y z:Coin} (h1:ltC x y) (h2:ltC y z):ltC x z:=by
  rcases h1 with h1 | ⟨e1,h1⟩ <;> rcases h2 with h2 | ⟨e2,h2⟩
  · exact .inl (klt_trans h1 h2)
  · exact .inl (e2 ▸ h1)
  · exact .inl (e1 ▸ h2)
  · exact .inr ⟨e1.trans e2,klt_trans h1 h2⟩
theorem ltC_irr (x:Coin):¬ ltC x x:=by
  rintro (h | ⟨_,h⟩)
  · exact klt_irr _ h
  · exact klt_irr _ h
theorem ltC_tot {x y:Coin} (h:ckey x≠ckey y):ltC x y∨ltC y x:=by
  by_cases e:klt x.account y.account
  · exact .inl (.inl e)
  · rcases kge e with e1 | e1
    · by_cases c : klt x.denom y.denom
      · exact .inl (.inr ⟨e1,c⟩)
      · rcases kge c with c1 | c1
        · exact absurd (by unfold ckey;rw[e1,c1]) h
        · exact .inr (.inr ⟨e1.symm,c1⟩)
    · exact .inr (.inl e1)
theorem insC_perm (c:Coin):∀ l,(insC c l).Perm (c::l)
  | []=>.refl _
  | x :: r => by
    unfold insC;split
    · exact((insC_perm c r).cons x).trans (.swap ..)
    · exact .refl _
theorem insC_srt {c:Coin}:∀ {l:List Coin},l.Pairwise ltC→(∀ x∈l,ckey x≠ckey c)→(insC c l).Pairwise ltC
  | [],_,_=>List.pairwise_singleton ..
  | x :: r, h, hk => by
    obtain⟨h1,h2⟩:=List.pairwise_cons.1 h
    unfold insC;split
    · rename_i hx
      refine List.pairwise_cons.2 ⟨fun y hy=>?_,insC_srt h2 fun y hy=>hk y (List.mem_cons_of_mem _ hy)⟩
      rcases List.mem_cons.1 ((insC_perm c r).subset hy) with rfl | hy
      · exact hx
      · exact h1 y hy
    · rename_i hx
      have hc:ltC c x:=(ltC_tot (hk x (List.mem_cons_self ..))).resolve_left hx
      refine List.pairwise_cons.2 ⟨fun y hy=>?_,h⟩
      rcases List.mem_cons.1 hy with rfl | hy
      · exact hc
      · exact ltC_trans hc (h1 y hy)
theorem allL_go:∀(L o:List Coin),(L.foldl (fun o c=>insC c o) o).Perm (L++o)
  | [],o=>.refl _
  | c :: L, o => by
    refine(allL_go L (insC c o)).trans ?_
    exact((insC_perm c o).append_left L).trans List.perm_middle
theorem allL_perm (L:List Coin):(allL L).Perm L:=by have:=allL_go L [];rwa [List.append_nil] at this
theorem allL_len (L:List Coin):(allL L).length=L.length:=(allL_perm L).length_eq
theorem allL_srt_go:∀(L o:List Coin),o.Pairwise ltC→((L++o).map ckey).Nodup→(L.foldl (fun o c=>insC c o) o).Pairwise ltC
  | [],o,h,_=>h
  | c :: L, o, h, hn => by
    have hn':(ckey c::(L++o).map ckey).Nodup:=hn
    rw[List.nodup_cons] at hn'
    refine allL_srt_go L (insC c o) (insC_srt h fun x hx e=>hn'.1 (List.mem_map.2 ⟨x,List.mem_append_right _ hx,e⟩)) ?_
    have:((L++insC c o).map ckey).Perm ((c::(L++o)).map ckey):=((((insC_perm c o).append_left L)).trans List.perm_middle).map _
    exact this.nodup_iff.2 hn
theorem allL_srt {L:List Coin} (h:(L.map ckey).Nodup):(allL L).Pairwise ltC:=allL_srt_go L [] .nil (by rwa [List.append_nil])
theorem srt_unique:∀ {a b:List Coin},a.Perm b→a.Pairwise ltC→b.Pairwise ltC→a=b
  | [],b,h,_,_=>(h.symm.eq_nil).symm
  | x::a,[],h,_,_=>by have:=h.eq_nil;cases this
  | x :: a, y :: b, h, ha, hb => by
    obtain⟨a1,a2⟩:=List.pairwise_cons.1 ha
    obtain⟨b1,b2⟩:=List.pairwise_cons.1 hb
    have e:x=y:=by
      rcases List.mem_cons.1 (h.subset (List.mem_cons_self ..)) with e | e
      · exact e
      · rcases List.mem_cons.1 (h.symm.subset (List.mem_cons_self ..)) with e' | e'
        · exact e'.symm
        · exact absurd (ltC_trans (a1 y e') (b1 x e)) (ltC_irr _)
    subst e
    rw[srt_unique (List.Perm.cons_inv h) a2 b2]
theorem allL_eq {L M:List Coin} (h:L.Perm M) (hn:(L.map ckey).Nodup):allL L=allL M :=
  srt_unique ((allL_perm L).trans (h.trans (allL_perm M).symm)) (allL_srt hn) (allL_srt ((h.map ckey).nodup_iff.1 hn))
structure BOk (B:BK):Prop where
  nd:(B.map (·.1)).Nodup
  nz:∀ p∈B,p.2≠0
  nm:∀ p∈B,(ofE p.1.1 p.1.2 1).isNone=true
theorem BOk.nil:BOk []:=⟨List.nodup_nil,fun p h=>absurd h (List.not_mem_nil),fun p h=>absurd h (List.not_mem_nil)⟩
theorem coins_nd {B:BK} (h:BOk B):((coinsB B).map ckey).Nodup:=by
  have:(coinsB B).map ckey=B.map (·.1):=by unfold coinsB;rw[List.map_map];rfl
  rw[this];exact h.nd
theorem coins_mem {B:BK} {c:Coin}:c∈coinsB B↔((c.account,c.denom),c.amount)∈B:=by
  unfold coinsB;rw[List.mem_map]
  constructor
  · rintro ⟨p,hp,rfl⟩;exact hp
  · intro h;exact⟨_,h,rfl⟩
theorem BOk.put {B:BK} (h:BOk B) {k:List UInt8 × List UInt8} {v:UInt64} (hk:(ofE k.1 k.2 1).isNone=true) (hv:v≠0):BOk (mput B k v) :=
  ⟨mput_nodup h.nd _ _,fun p hp=>by
    rcases(mem_mput h.nd).1 hp with⟨h1,_⟩ | rfl
    · exact h.nz p h1
    · exact hv,fun p hp=>by
    rcases(mem_mput h.nd).1 hp with⟨h1,_⟩ | rfl
    · exact h.nm p h1
    · exact hk⟩
theorem BOk.del {B:BK} (h:BOk B) {k:List UInt8 × List UInt8} {v:UInt64}:BOk (mdel (mput B k v) k) :=
  ⟨(mput_nodup h.nd k v).sublist ((mdel_sub _ _).map _),fun p hp=>by
    obtain⟨h1,h2⟩:=(mem_mdel (mput_nodup h.nd k v)).1 hp
    rcases(mem_mput h.nd).1 h1 with⟨h3,_⟩ | rfl
    · exact h.nz p h3
    · exact absurd rfl h2,fun p hp=>by
    obtain⟨h1,h2⟩:=(mem_mdel (mput_nodup h.nd k v)).1 hp
    rcases(mem_mput h.nd).1 h1 with⟨h3,_⟩ | rfl
    · exact h.nm p h3
    · exact absurd rfl h2⟩
theorem bget_put (B:BK) (a d a' d':List UInt8) (v:UInt64):bget (mput B (a,d) v) a' d'=if a'=a∧d'=d then v else bget B a' d':=by
  unfold bget;rw[mget_mput]
  by_cases h:a'=a∧d'=d
  · rw[if_pos h,if_pos (by rw[h.1,h.2])];rfl
  · rw[if_neg h,if_neg (fun e=>h (by injection e with e1 e2;exact⟨e1,e2⟩))]
theorem bget_del {B:BK} (h:BOk B) (a d a' d':List UInt8) (v:UInt64):bget (mdel (mput B (a,d) v) (a,d)) a' d'=if a'=a∧d'=d then 0 else bget B a' d':=by
  unfold bget;rw[mget_mdel (mput_nodup h.nd _ _),mget_mput]
  by_cases q:a'=a∧d'=d
  · rw[if_pos q,if_pos (by rw[q.1,q.2])];rfl
  · rw[if_neg q,if_neg (fun e=>q (by injection e with e1 e2;exact⟨e1,e2⟩)),if_neg (fun e=>q (by injection e with e1 e2;exact⟨e1,e2⟩))]
def lhas:List Coin→List UInt8→List UInt8→UInt64
  | [],_,_=>0
  | c::r,a,d=>if c.account=a∧c.denom=d then c.amount else lhas r a d
theorem lhas_nil (a d:List UInt8):lhas [] a d=0:=rfl
theorem lhas_cons (c:Coin) (r:List Coin) (a d:List UInt8):lhas (c::r) a d=if c.account=a∧c.denom=d then c.amount else lhas r a d:=rfl
def lset (L:List Coin) (a d:List UInt8) (n:UInt64):List Coin:=(L.filter (fun c=>decide (¬ (c.account=a∧c.denom=d))))++if 0<n then[⟨a,d,n⟩] else[]
def wrI (a d:List UInt8) (n:UInt64):Int :=
  if(a.length:Int)<1∨16<(a.length:Int) then 42 else if a.contains 47=true then 42
  else if(d.length:Int)<1∨40<(d.length:Int) then 43 else if n=0 then 44 else 0
def lgiE (L:List Coin) (a d:List UInt8) (n:UInt64):Int:=if ¬ wrI a d n=0 then wrI a d n else if lhas L a d+n<lhas L a d then 41 else 0
def lgiL (L:List Coin) (a d:List UInt8) (n:UInt64):List Coin:=if ¬ lgiE L a d n=0 then L else lset L a d (lhas L a d+n)
def ltaE (L:List Coin) (a d:List UInt8) (n:UInt64):Int:=if ¬ wrI a d n=0 then wrI a d n else if lhas L a d<n then 40 else 0
def ltaL (L:List Coin) (a d:List UInt8) (n:UInt64):List Coin:=if ¬ ltaE L a d n=0 then L else lset L a d (lhas L a d - n)
def lmoE (L:List Coin) (f t d:List UInt8) (n:UInt64):Int:=if ¬ ltaE L f d n=0 then ltaE L f d n else lgiE (ltaL L f d n) t d n
def lmoL (L:List Coin) (f t d:List UInt8) (n:UInt64):List Coin:=if ¬ lmoE L f t d n=0 then L else lgiL (ltaL L f d n) t d n
structure LOk (L:List Coin):Prop where
  nd:(L.map ckey).Nodup
  nz:∀ c∈L,c.amount≠0
theorem LOk.nil:LOk []:=⟨List.nodup_nil,fun p h=>by cases h⟩
theorem lhas_mem {L:List Coin} (hn:(L.map ckey).Nodup) {c:Coin} (hc:c∈L):lhas L c.account c.denom=c.amount:=by
  induction L with
  | nil=>cases hc
  | cons x r ih =>
    rw[List.map_cons,List.nodup_cons] at hn
    unfold lhas
    rcases List.mem_cons.1 hc with rfl | hc
    · rw[if_pos ⟨rfl,rfl⟩]
    · rw[if_neg (fun e=>hn.1 (List.mem_map.2 ⟨c,hc,by unfold ckey;rw[e.1,e.2]⟩)),ih hn.2 hc]
theorem lhas_some {L:List Coin} {a d:List UInt8} {v:UInt64} (h:lhas L a d=v) (hv:v≠0):(⟨a,d,v⟩:Coin)∈L:=by
  induction L with
  | nil=>exact absurd h.symm hv
  | cons x r ih =>
    unfold lhas at h
    split at h
    · rename_i e;obtain⟨e1,e2⟩:=e;subst e1;subst e2;subst h;exact List.mem_cons_self ..
    · exact List.mem_cons_of_mem _ (ih h)
theorem LOk.mem {L:List Coin} (h:LOk L) {c:Coin}:c∈L↔lhas L c.account c.denom=c.amount∧c.amount≠0 :=
  ⟨fun hc=>⟨lhas_mem h.nd hc,h.nz c hc⟩,fun⟨h1,h2⟩=>lhas_some h1 h2⟩
theorem perm_mem {α:Type} [DecidableEq α]:∀ {l m:List α},l.Nodup→m.Nodup→(∀ x,x∈l↔x∈m)→l.Perm m
  | [], m, _, _, h => by
    cases m with
    | nil=>exact .refl _
    | cons x m=>exact absurd ((h x).2 (List.mem_cons_self ..)) (by simp)
  | a :: l, m, hl, hm, h => by
    rw[List.nodup_cons] at hl
    have ha:a∈m:=(h a).1 (List.mem_cons_self ..)
    refine((perm_mem hl.2 (hm.erase a) fun x=>?_).cons a).trans (List.perm_cons_erase ha).symm
    rw[hm.mem_erase_iff]
    constructor
    · exact fun hx=>⟨fun e=>hl.1 (e ▸ hx),(h x).1 (List.mem_cons_of_mem _ hx)⟩
    · rintro ⟨h1, h2⟩
      exact(List.mem_cons.1 ((h x).2 h2)).resolve_left h1
theorem nodup_of_map {α β:Type} {f:α→β} {l:List α} (h:(l.map f).Nodup):l.Nodup:=by
  rw[List.nodup_iff_pairwise_ne] at h ⊢
  rw[List.pairwise_map] at h
  exact h.imp fun hab e=>hab (by rw[e])
theorem LOk.perm {L M:List Coin} (h:LOk L) (k:LOk M) (e:∀ a d,lhas L a d=lhas M a d):L.Perm M :=
  perm_mem (nodup_of_map h.nd) (nodup_of_map k.nd) fun c=>by rw[h.mem,k.mem,e]
theorem LOk.all {L M:List Coin} (h:LOk L) (k:LOk M) (e:∀ a d,lhas L a d=lhas M a d):allL L=allL M:=allL_eq (h.perm k e) h.nd
theorem LOk.ne {L M:List Coin} (h:LOk L) (k:LOk M) {a d:List UInt8} (e:lhas L a d≠lhas M a d):allL L≠allL M:=fun q=>by
  have hp:L.Perm M:=((allL_perm L).symm.trans (q ▸ List.Perm.refl _)).trans (allL_perm M)
  apply e
  by_cases c:lhas L a d=0
  · by_cases c2 : lhas M a d = 0
    · rw[c,c2]
    · have:=lhas_mem h.nd (hp.symm.subset (lhas_some rfl c2));exact this
  · have:=lhas_mem k.nd (hp.subset (lhas_some rfl c));exact this.symm
theorem lhas_app (l m:List Coin) (a d:List UInt8) (h:∀ c∈l,c.amount≠0):lhas (l++m) a d=if lhas l a d=0 then lhas m a d else lhas l a d:=by
  induction l with
  | nil=>rw[List.nil_append,lhas_nil,if_pos rfl]
  | cons c r ih =>
    rw[List.cons_append,lhas_cons,lhas_cons]
    by_cases e:c.account=a∧c.denom=d
    · rw[if_pos e,if_pos e,if_neg (h c (List.mem_cons_self ..))]
    · rw[if_neg e,if_neg e];exact ih fun x hx=>h x (List.mem_cons_of_mem _ hx)
def notC (a d:List UInt8) (c:Coin):Bool:=decide (¬ (c.account=a∧c.denom=d))
theorem lhas_filter {L:List Coin} {a d:List UInt8} (a' d':List UInt8):lhas (L.filter (notC a d)) a' d'=if a'=a∧d'=d then 0 else lhas L a' d':=by
  induction L with
  | nil=>rw[List.filter_nil,lhas_nil];split <;> rfl
  | cons c r ih =>
    by_cases e:c.account=a∧c.denom=d
    · rw [List.filter_cons_of_neg (by unfold notC; simp [e]), ih, lhas_cons]
      by_cases q:a'=a∧d'=d
      · rw[if_pos q,if_pos q]
      · rw[if_neg q,if_neg q,if_neg (fun z=>q ⟨z.1.symm.trans e.1,z.2.symm.trans e.2⟩)]
    · rw [List.filter_cons_of_pos (by unfold notC; exact decide_eq_true e), lhas_cons, lhas_cons, ih]
      by_cases q:c.account=a'∧c.denom=d'
      · rw[if_pos q,if_neg (fun z=>e ⟨q.1.trans z.1,q.2.trans z.2⟩),if_pos q]
      · rw[if_neg q,if_neg q]
theorem u0 {n:UInt64}:¬ 0<n↔n=0:=by
  rw[UInt64.lt_iff_toNat_lt]
  constructor
  · intro h;apply UInt64.toNat_inj.1;have:(0:UInt64).toNat=0:=rfl;omega
  · intro h;subst h;decide
theorem lset_eq (L:List Coin) (a d:List UInt8) (n:UInt64):lset L a d n=L.filter (notC a d)++if 0<n then[⟨a,d,n⟩] else[]:=rfl
theorem lhas_set {L:List Coin} (h:LOk L) (a d:List UInt8) (n:UInt64) (a' d':List UInt8):lhas (lset L a d n) a' d'=if a'=a∧d'=d then n else lhas L a' d':=by
  rw[lset_eq,lhas_app _ _ _ _ fun c hc=>h.nz c (List.mem_filter.1 hc).1,lhas_filter]
  by_cases e:a'=a∧d'=d
  · rw [if_pos e, if_pos rfl, if_pos e]
    by_cases c:0<n
    · rw[if_pos c,lhas_cons,if_pos ⟨e.1.symm,e.2.symm⟩]
    · rw[if_neg c,lhas_nil];exact(u0.1 c).symm
  · rw [if_neg e, if_neg e]
    by_cases c:0<n
    · have z : ¬ (a = a' ∧ d = d') := fun q => e ⟨q.1.symm, q.2.symm⟩
      rw[if_pos c,lhas_cons,if_neg z,lhas_nil]
      by_cases q:lhas L a' d'=0
      · rw[if_pos q,q]
      · rw[if_neg q]
    · rw [if_neg c, lhas_nil]
      by_cases q:lhas L a' d'=0
      · rw[if_pos q,q]
      · rw[if_neg q]
theorem LOk.set {L:List Coin} (h:LOk L) (a d:List UInt8) (n:UInt64):LOk (lset L a d n):=by
  rw[lset_eq]
  refine⟨?_,fun c hc=>?_⟩
  · rw [List.map_append]
    refine List.nodup_append.2 ⟨h.nd.sublist ((List.filter_sublist ..).map _),by split <;> simp,fun x hx y hy e=>?_⟩
    obtain⟨c,hc,rfl⟩:=List.mem_map.1 hx
    obtain⟨c2,hc2,rfl⟩:=List.mem_map.1 hy
    have h1:=of_decide_eq_true (List.mem_filter.1 hc).2
    split at hc2
    · rw [List.mem_singleton] at hc2; subst hc2
      unfold ckey at e;injection e with e1 e2
      exact h1 ⟨e1,e2⟩
    · cases hc2
  · rcases List.mem_append.1 hc with hc | hc
    · exact h.nz c (List.mem_filter.1 hc).1
    · split at hc
      · rename_i hn; rw [List.mem_singleton] at hc; subst hc
        exact fun e=>u0.2 e hn
      · cases hc
theorem lset_len (L:List Coin) (a d:List UInt8) (n:UInt64):(lset L a d n).length≤L.length+1:=by
  rw[lset_eq,List.length_append]
  have:=List.length_filter_le (notC a d) L
  split
  · exact Nat.add_le_add_right this 1
  · exact Nat.le_trans this (Nat.le_succ _)
/-- The bank's own state as coins. -/
theorem coins_ok {B:BK} (h:BOk B):LOk (coinsB B):=⟨coins_nd h,fun c hc=>h.nz _ (coins_mem.1 hc)⟩
theorem coins_has {B:BK} (a d:List UInt8):lhas (coinsB B) a d=bget B a d:=by
  unfold bget coinsB
  induction B with
  | nil=>rfl
  | cons p r ih =>
    rw[List.map_cons];unfold lhas mget
    by_cases e:p.1=(a,d)
    · rw[if_pos e,if_pos (by rw[e];exact⟨rfl,rfl⟩)];rfl
    · rw[if_neg e,if_neg (fun q=>e (Prod.ext q.1 q.2))];exact ih
/-- The two banks have the same. -/
structure Rel (B:BK) (L:List Coin):Prop where
  b:BOk B
  l:LOk L
  e:∀ a d,lhas L a d=bget B a d
theorem Rel.nil:Rel [] []:=⟨.nil,.nil,fun _ _=>rfl⟩
theorem Rel.all {B:BK} {L:List Coin} (h:Rel B L):allL (coinsB B)=allL L:=(coins_ok h.b).all h.l fun a d=>by rw[coins_has,h.e]
theorem wr_of (a d:List UInt8) (n:UInt64):wrI a d n=codeO (ofE a d n):=by
  unfold wrI ofE
  by_cases h1:(a.length:Int)=0∨16<(a.length:Int)∨a.contains 47=true
  · rw [if_pos h1]
    by_cases c:(a.length:Int)<1∨16<(a.length:Int)
    · rw[if_pos c];rfl
    · rw[if_neg c,if_pos (by rcases h1 with h | h | h;exact absurd (.inl (by omega)) c;exact absurd (.inr h) c;exact h)];rfl
  · rw [if_neg h1, if_neg (by omega), if_neg (fun q => h1 (.inr (.inr q)))]
    by_cases h2:(d.length:Int)=0∨40<(d.length:Int)
    · rw[if_pos h2,if_pos (by omega)];rfl
    · rw[if_neg h2,if_neg (by omega)];split <;> rfl
theorem of_code (a d:List UInt8) (n:UInt64):(codeO (ofE a d n)=0)=((ofE a d n).isNone=true):=by
  unfold ofE;split
  · simp[codeO,Er.code]
  · split
    · simp[codeO,Er.code]
    · split <;> simp[codeO,Er.code]
theorem of_none {a d:List UInt8} {n:UInt64} (h:¬ (ofE a d n).isNone=false):ofE a d n=none:=by cases e:ofE a d n with | none=>rfl | some _=>rw[e] at h;simp at h
theorem of_n {a d:List UInt8} {n:UInt64} (h:¬ (ofE a d n).isNone=false):n≠0:=by
  intro e;have:=of_none h;unfold ofE at this;subst e
  split at this
  · cases this
  · split at this
    · cases this
    · simp at this
theorem of_1 {a d:List UInt8} {n:UInt64} (h:¬ (ofE a d n).isNone=false):(ofE a d 1).isNone=true:=by
  have:=of_none h;unfold ofE at this ⊢
  split at this
  · cases this
  · rename_i c1; rw [if_neg c1]
    split at this
    · cases this
    · rename_i c2;rw[if_neg c2,if_neg (by decide)];rfl
theorem over_iff (x n:UInt64):x+n<x↔18446744073709551615 - n<x:=by
  rw[UInt64.lt_iff_toNat_lt,UInt64.lt_iff_toNat_lt,UInt64.toNat_add,UInt64.toNat_sub]
  have h1:=x.toNat_lt;have h2:=n.toNat_lt
  have e:(18446744073709551615:UInt64).toNat=18446744073709551615:=rfl
  rw[e];omega
theorem add_nz {x n:UInt64} (hn:n≠0) (h:¬ 18446744073709551615 - n<x):x+n≠0:=by
  rw[← over_iff,UInt64.lt_iff_toNat_lt,UInt64.toNat_add] at h
  intro e
  have h1:=x.toNat_lt;have h2:=n.toNat_lt
  have e':=congrArg UInt64.toNat e
  rw[UInt64.toNat_add] at e'
  have z:(0:UInt64).toNat=0:=rfl
  have:n.toNat≠0:=fun q=>hn (UInt64.toNat_inj.1 (q.trans z.symm))
  omega
section
variable {B:BK} {L:List Coin} {a d t:List UInt8} {n:UInt64}
theorem giE_code (h:Rel B L) (a d:List UInt8) (n:UInt64):codeO (giE B a d n)=lgiE L a d n:=by
  unfold giE lgiE
  rw[h.e,wr_of]
  by_cases c:(ofE a d n).isNone=false
  · rw[if_pos c,if_pos (fun q=>by rw[of_code,c] at q;cases q)]
  · have z : ¬ ¬ codeO (ofE a d n) = 0 := by rw [of_none c]; exact fun q => q rfl
    rw[if_neg c,if_neg z]
    by_cases c2:18446744073709551615 - n<bget B a d
    · rw[if_pos c2,if_pos ((over_iff _ _).2 c2)];rfl
    · rw[if_neg c2,if_neg (fun q=>c2 ((over_iff _ _).1 q))];rfl
theorem taE_code (h:Rel B L) (a d:List UInt8) (n:UInt64):codeO (taE B a d n)=ltaE L a d n:=by
  unfold taE ltaE
  rw[h.e,wr_of]
  by_cases c:(ofE a d n).isNone=false
  · rw[if_pos c,if_pos (fun q=>by rw[of_code,c] at q;cases q)]
  · have z : ¬ ¬ codeO (ofE a d n) = 0 := by rw [of_none c]; exact fun q => q rfl
    rw[if_neg c,if_neg z]
    by_cases c2:bget B a d<n
    · rw[if_pos c2,if_pos c2];rfl
    · rw[if_neg c2,if_neg c2];rfl
theorem giE_none:(codeO (giE B a d n)=0)=((giE B a d n).isNone=true):=by
  unfold giE;split
  · exact of_code a d n
  · split <;> simp[codeO,Er.code]
theorem taE_none:(codeO (taE B a d n)=0)=((taE B a d n).isNone=true):=by
  unfold taE;split
  · exact of_code a d n
  · split <;> simp[codeO,Er.code]
theorem giE_nm (h:(giE B a d n).isNone=true):(ofE a d 1).isNone=true:=by
  unfold giE at h
  split at h
  · rename_i c;rw[c] at h;cases h
  · rename_i c;exact of_1 c
theorem taE_nm (h:¬ (taE B a d n).isNone=false):(ofE a d 1).isNone=true:=by
  unfold taE at h
  split at h
  · rename_i c;exact absurd c h
  · rename_i c;exact of_1 c
theorem giE_ok (h:(giE B a d n).isNone=true):n≠0∧¬ 18446744073709551615 - n<bget B a d:=by
  unfold giE at h
  split at h
  · rename_i c;rw[c] at h;cases h
  · rename_i c; split at h
    · cases h
    · rename_i c2;exact⟨of_n c,c2⟩
theorem taE_ok (h:¬ (taE B a d n).isNone=false):n≠0∧¬ bget B a d<n:=by
  unfold taE at h
  split at h
  · rename_i c;exact absurd c h
  · rename_i c; split at h
    · exact absurd rfl h
    · rename_i c2;exact⟨of_n c,c2⟩
theorem BOk.give (h:BOk B):BOk (giB B a d n):=by
  unfold giB;split
  · rename_i c;obtain⟨h1,h2⟩:=giE_ok c;exact h.put (giE_nm c) (add_nz h1 h2)
  · exact h
theorem BOk.take (h:BOk B):BOk (taB B a d n):=by
  unfold taB;split
  · exact h
  · rename_i c0; split
    · exact h.del
    · rename_i c;exact h.put (taE_nm c0) c
theorem bget_give (B:BK) (a d:List UInt8) (n:UInt64) (a' d':List UInt8):bget (giB B a d n) a' d'=if(giE B a d n).isNone=true∧a'=a∧d'=d then bget B a d+n else bget B a' d':=by
  unfold giB
  by_cases c:(giE B a d n).isNone=true
  · rw [if_pos c, bget_put]
    by_cases e:a'=a∧d'=d
    · rw[if_pos e,if_pos ⟨c,e⟩]
    · rw[if_neg e,if_neg (fun q=>e q.2)]
  · rw[if_neg c,if_neg (fun q=>c q.1)]
theorem bget_take (h:BOk B) (a d:List UInt8) (n:UInt64) (a' d':List UInt8):bget (taB B a d n) a' d'=if(taE B a d n).isNone=true∧a'=a∧d'=d then bget B a d - n else bget B a' d':=by
  unfold taB
  by_cases c:(taE B a d n).isNone=false
  · rw[if_pos c,if_neg (fun q=>by rw[c] at q;cases q.1)]
  · have c' : (taE B a d n).isNone = true := by simpa using c
    rw[if_neg c]
    by_cases z:bget B a d - n=0
    · rw [if_pos z, bget_del h]
      by_cases e:a'=a∧d'=d
      · rw[if_pos e,if_pos ⟨c',e⟩,z]
      · rw[if_neg e,if_neg (fun q=>e q.2)]
    · rw [if_neg z, bget_put]
      by_cases e:a'=a∧d'=d
      · rw[if_pos e,if_pos ⟨c',e⟩]
      · rw[if_neg e,if_neg (fun q=>e q.2)]
theorem Rel.give (h:Rel B L) (a d:List UInt8) (n:UInt64):Rel (giB B a d n) (lgiL L a d n):=by
  have hc:=giE_code h a d n
  refine⟨h.b.give,?_,fun a' d'=>?_⟩
  · unfold lgiL; split
    · exact h.l
    · exact h.l.set ..
  · rw [bget_give]; unfold lgiL
    by_cases c:lgiE L a d n=0
    · have c' : (giE B a d n).isNone = true := by rw [← giE_none, hc]; exact c
      rw[if_neg (fun q=>q c),lhas_set h.l,h.e,h.e]
      by_cases e:a'=a∧d'=d
      · rw[if_pos e,if_pos ⟨c',e⟩]
      · rw[if_neg e,if_neg (fun q=>e q.2)]
    · rw[if_pos c,if_neg (fun q=>c (by rw[← hc,giE_none];exact q.1)),h.e]
theorem Rel.take (h:Rel B L) (a d:List UInt8) (n:UInt64):Rel (taB B a d n) (ltaL L a d n):=by
  have hc:=taE_code h a d n
  refine⟨h.b.take,?_,fun a' d'=>?_⟩
  · unfold ltaL; split
    · exact h.l
    · exact h.l.set ..
  · rw [bget_take h.b]; unfold ltaL
    by_cases c:ltaE L a d n=0
    · have c' : (taE B a d n).isNone = true := by rw [← taE_none, hc]; exact c
      rw[if_neg (fun q=>q c),lhas_set h.l,h.e,h.e]
      by_cases e:a'=a∧d'=d
      · rw[if_pos e,if_pos ⟨c',e⟩]
      · rw[if_neg e,if_neg (fun q=>e q.2)]
    · rw[if_pos c,if_neg (fun q=>c (by rw[← hc,taE_none];exact q.1)),h.e]
theorem nn {o:Option Er} (h:¬ o.isNone=false):o.isNone=true:=by cases o <;> simp_all
theorem ns {o:Option Er} (h:¬ o.isNone=true):o.isNone=false:=by cases o <;> simp_all
theorem giE_f (h:(giE B a d n).isNone=false):∃ e,giE B a d n=some e:=by cases e:giE B a d n with | none=>rw[e] at h;cases h | some x=>exact⟨x,rfl⟩
theorem moE_code (h:Rel B L) (f t d:List UInt8) (n:UInt64):codeO (moE B f t d n)=lmoE L f t d n:=by
  have hc:=taE_code h f d n
  have hr:=h.take f d n
  unfold moE lmoE
  by_cases c:(taE B f d n).isNone=false
  · rw[if_pos c,if_pos (fun q=>by rw[← hc,taE_none,c] at q;cases q),hc]
  · have z : ¬ ¬ ltaE L f d n = 0 := fun q => q (by rw [← hc, taE_none]; exact nn c)
    rw[if_neg c,if_neg z,← giE_code hr t d n]
    by_cases c2:(giE (taB B f d n) t d n).isNone=false
    · rw [if_pos c2]
      obtain⟨e,he⟩:=giE_f c2
      rw[he];rfl
    · rw [if_neg c2]
      have:giE (taB B f d n) t d n=none:=by cases e:giE (taB B f d n) t d n with | none=>rfl | some x=>rw[e] at c2;exact absurd rfl c2
      rw[this]
/-- What is undone is as it was. -/
theorem undo_get (h:BOk B) (hc:(taE B a d n).isNone=true) (a' d':List UInt8):bget (mput (taB B a d n) (a,d) (bget (taB B a d n) a d+n)) a' d'=bget B a' d':=by
  have z:(taE B a d n).isNone=true∧a=a∧d=d:=⟨hc,rfl,rfl⟩
  rw[bget_put,bget_take h,bget_take h,if_pos z]
  by_cases e:a'=a∧d'=d
  · rw[if_pos e,e.1,e.2];exact UInt64.sub_add_cancel ..
  · have z2 : ¬ ((taE B a d n).isNone = true ∧ a' = a ∧ d' = d) := fun q => e q.2
    rw[if_neg e,if_neg z2]
theorem undo_ok (h:BOk B) (hc:(taE B a d n).isNone=true):BOk (mput (taB B a d n) (a,d) (bget (taB B a d n) a d+n)):=by
  refine h.take.put (taE_nm (by rw[hc];decide)) ?_
  rw[bget_take h,if_pos ⟨hc,rfl,rfl⟩,UInt64.sub_add_cancel]
  obtain⟨h1,h2⟩:=taE_ok (B:=B) (a:=a) (d:=d) (n:=n) (by rw[hc];decide)
  intro e;rw[e] at h2
  exact h2 (Decidable.not_not.1 fun q=>h1 (u0.1 q))
theorem BOk.move (h:BOk B):BOk (moB B a t d n):=by
  unfold moB;split
  · exact h
  · rename_i c; split
    · exact undo_ok h (nn c)
    · exact h.take.give
theorem Rel.move (h:Rel B L) (f t d:List UInt8) (n:UInt64):Rel (moB B f t d n) (lmoL L f t d n):=by
  have hc:=moE_code h f t d n
  have hr:=h.take f d n
  have ht:=taE_code h f d n
  unfold moB lmoL
  by_cases c:(taE B f d n).isNone=false
  · have : ¬ lmoE L f t d n = 0 := by unfold lmoE; rw [if_pos (fun q => by rw [← ht, taE_none, c] at q; cases q)]; exact fun q => by rw [← ht, taE_none, c] at q; cases q
    rw[if_pos c,if_pos this];exact h
  · have c0 := nn c
    have el:lmoE L f t d n=lgiE (ltaL L f d n) t d n:=by unfold lmoE;rw[if_neg (fun q=>q (by rw[← ht,taE_none];exact c0))]
    rw[if_neg c]
    by_cases c2:(giE (taB B f d n) t d n).isNone=false
    · rw [if_pos c2, if_pos (fun q => by rw [el, ← giE_code hr, giE_none, c2] at q; cases q)]
      exact⟨undo_ok h.b c0,h.l,fun a' d'=>by rw[undo_get h.b c0,h.e]⟩
    · rw [if_neg c2, if_neg (fun q => q (by rw [el, ← giE_code hr, giE_none]; exact nn c2))]
      exact hr.give t d n
end
abbrev pa (a d:List UInt8) (n:UInt64):List UInt8:=if(ofE a d n).isNone=true then a else[]
abbrev pd (a d:List UInt8) (n:UInt64):List UInt8:=if(ofE a d n).isNone=true then d else[]
section
variable {a d:List UInt8} {n:UInt64} {e:Er}
theorem ofa (h:(a.length:Int)=0∨16<(a.length:Int)∨a.contains 47=true):ofE a d n=some (.step ((#[97,99,99,111,117,110,116]:Array UInt8).toList) a.length (.num 42)):=if_pos h
theorem ofno (h1:¬ (a.length:Int)=0) (h2:¬ 16<(a.length:Int)) (h3:a.contains 47=false):¬ ((a.length:Int)=0∨16<(a.length:Int)∨a.contains 47=true):=by
  rintro (h | h | h)
  · exact h1 h
  · exact h2 h
  · rw[h3] at h;cases h
theorem ofd (h1:¬ (a.length:Int)=0) (h2:¬ 16<(a.length:Int)) (h3:a.contains 47=false) (h:(d.length:Int)=0∨40<(d.length:Int)):ofE a d n=some (.step ((#[100,101,110,111,109]:Array UInt8).toList) d.length (.num 43)):=by unfold ofE;rw[if_neg (ofno h1 h2 h3),if_pos h]
theorem ofdn (h1:¬ (d.length:Int)=0) (h2:¬ 40<(d.length:Int)):¬ ((d.length:Int)=0∨40<(d.length:Int)):=by rintro (h | h);exact h1 h;exact h2 h
theorem ofn (h1:¬ (a.length:Int)=0) (h2:¬ 16<(a.length:Int)) (h3:a.contains 47=false) (h4:¬ (d.length:Int)=0) (h5:¬ 40<(d.length:Int)) (h:n=0):ofE a d n=some (.step ((#[97,109,111,117,110,116]:Array UInt8).toList) 0 (.num 44)):=by unfold ofE;rw[if_neg (ofno h1 h2 h3),if_neg (ofdn h4 h5),if_pos h]
theorem ofz (h1:¬ (a.length:Int)=0) (h2:¬ 16<(a.length:Int)) (h3:a.contains 47=false) (h4:¬ (d.length:Int)=0) (h5:¬ 40<(d.length:Int)) (h:¬ n=0):ofE a d n=none:=by unfold ofE;rw[if_neg (ofno h1 h2 h3),if_neg (ofdn h4 h5),if_neg h]
theorem pa0 (h:ofE a d n=some e):[]=pa a d n:=by unfold pa;rw[h];rfl
theorem pd0 (h:ofE a d n=some e):[]=pd a d n:=by unfold pd;rw[h];rfl
theorem pa1 (h:ofE a d n=none):a=pa a d n:=by unfold pa;rw[h];rfl
theorem pd1 (h:ofE a d n=none):d=pd a d n:=by unfold pd;rw[h];rfl
theorem pe0 (h:ofE a d n=some e):PE (some e)=PE (ofE a d n):=by rw[h]
theorem pn0 (h:ofE a d n=some e):false=(ofE a d n).isNone:=by rw[h];rfl
end
noncomputable def ccU1_5:Code:=(Tryz.f5.body).getD .skip
theorem New_ok:FOk EN 5 ⟨[],[],Unit,fun _=>([.mp 52 [],.bx 54 [.n 0]],.p 1 0),fun _=>True⟩:=by
 refine v_fun Tryz.f5 ccU1_5 MX (fun ν F σ w=>?_) Tryz.func5
 refine v_nl ?_
 exact v_ret () [1,2] ((Eq (α:=List ((List UInt8 × List UInt8) × UInt64)) [] [])) rfl trivial
noncomputable def ccU1_22:Code:=(Tryz.f22.body).getD .skip
theorem of_ok (a d:List UInt8) (n:UInt64):FOk EN 22 ⟨[],[.s a,.s d,.u n],Unit,fun _=>([.pn (PE (ofE a d n)) true (ofE a d n).isNone],.t [.a [.s (pa a d n),.s (pd a d n)],.n 0]),fun _=>True⟩:=by
 refine v_fun Tryz.f22 ccU1_22 MX (fun ν F σ w=>?_) Tryz.func22
 refine v_nl ?_
 refine v_guard 12 (decide ((↑a.length:Int)=0)) True trivial (fun h1=>?_) (fun h1=>?_)
 ·have h1:=of_decide_eq_true h1
  refine v_al [] (al_e1 (42)) True trivial ?_
  refine v_call _ [2] (faultAtO_ok (#[97,99,99,111,117,110,116].toList) (↑a.length) (some (Er.num 42))) ((#[(97:UInt8),(99:UInt8),(99:UInt8),(111:UInt8),(117:UInt8),(110:UInt8),(116:UInt8)].toList=#[(97:UInt8),(99:UInt8),(99:UInt8),(111:UInt8),(117:UInt8),(110:UInt8),(116:UInt8)].toList)∧((↑a.length:Int)=(↑a.length:Int))∧((42:Int)=(42:Int))∧(PE (some (Er.num 42))=PE (some (Er.num 42)))∧(false=false)) ⟨rfl,rfl,rfl,rfl,rfl⟩ (fun g2 p3=>?_)
  have p3:True:=p3
  exact v_ret () [3] (([]=pa a d n)∧([]=pd a d n)∧(PE (Option.map (Er.step #[97,99,99,111,117,110,116].toList ↑a.length) (some (Er.num 42)))=PE (ofE a d n))∧(false=(ofE a d n).isNone)) ⟨(by exact pa0 (ofa (.inl ‹_›))),(by exact pd0 (ofa (.inl ‹_›))),(by exact pe0 (ofa (.inl ‹_›))),(by exact pn0 (ofa (.inl ‹_›)))⟩ trivial
 ·have h1:=of_decide_eq_false h1
  refine v_guard 17 (decide (16<(↑a.length:Int))) True trivial (fun h4=>?_) (fun h4=>?_)
  ·have h4:=of_decide_eq_true h4
   refine v_al [] (al_e1 (42)) True trivial ?_
   refine v_call _ [2] (faultAtO_ok (#[97,99,99,111,117,110,116].toList) (↑a.length) (some (Er.num 42))) ((#[(97:UInt8),(99:UInt8),(99:UInt8),(111:UInt8),(117:UInt8),(110:UInt8),(116:UInt8)].toList=#[(97:UInt8),(99:UInt8),(99:UInt8),(111:UInt8),(117:UInt8),(110:UInt8),(116:UInt8)].toList)∧((↑a.length:Int)=(↑a.length:Int))∧((42:Int)=(42:Int))∧(PE (some (Er.num 42))=PE (some (Er.num 42)))∧(false=false)) ⟨rfl,rfl,rfl,rfl,rfl⟩ (fun g5 p6=>?_)
   have p6:True:=p6
   exact v_ret () [3] (([]=pa a d n)∧([]=pd a d n)∧(PE (Option.map (Er.step #[97,99,99,111,117,110,116].toList ↑a.length) (some (Er.num 42)))=PE (ofE a d n))∧(false=(ofE a d n).isNone)) ⟨(by exact pa0 (ofa (.inr (.inl ‹_›)))),(by exact pd0 (ofa (.inr (.inl ‹_›)))),(by exact pe0 (ofa (.inr (.inl ‹_›)))),(by exact pn0 (ofa (.inr (.inl ‹_›))))⟩ trivial
  ·have h4:=of_decide_eq_false h4
   refine v_call _ [] (Contains_ok (a)) ((a=a)∧(#[(47:UInt8)].toList=#[(47:UInt8)].toList)) ⟨rfl,rfl⟩ (fun g7 p8=>?_)
   have p8:True:=p8
   refine v_if (a.contains 47) True trivial (fun h9=>?_) (fun h9=>?_)
   ·skip
    refine v_al [] (al_e1 (42)) True trivial ?_
    refine v_call _ [2] (faultAtO_ok (#[97,99,99,111,117,110,116].toList) (↑a.length) (some (Er.num 42))) ((#[(97:UInt8),(99:UInt8),(99:UInt8),(111:UInt8),(117:UInt8),(110:UInt8),(116:UInt8)].toList=#[(97:UInt8),(99:UInt8),(99:UInt8),(111:UInt8),(117:UInt8),(110:UInt8),(116:UInt8)].toList)∧((↑a.length:Int)=(↑a.length:Int))∧((42:Int)=(42:Int))∧(PE (some (Er.num 42))=PE (some (Er.num 42)))∧(false=false)) ⟨rfl,rfl,rfl,rfl,rfl⟩ (fun g10 p11=>?_)
    have p11:True:=p11
    exact v_ret () [3] (([]=pa a d n)∧([]=pd a d n)∧(PE (Option.map (Er.step #[97,99,99,111,117,110,116].toList ↑a.length) (some (Er.num 42)))=PE (ofE a d n))∧(false=(ofE a d n).isNone)) ⟨(by exact pa0 (ofa (.inr (.inr ‹_›)))),(by exact pd0 (ofa (.inr (.inr ‹_›)))),(by exact pe0 (ofa (.inr (.inr ‹_›)))),(by exact pn0 (ofa (.inr (.inr ‹_›))))⟩ trivial
   ·skip
    refine v_guard 30 (decide ((↑d.length:Int)=0)) True trivial (fun h12=>?_) (fun h12=>?_)
    ·have h12:=of_decide_eq_true h12
     refine v_al [] (al_e1 (43)) True trivial ?_
     refine v_call _ [2] (faultAtO_ok (#[100,101,110,111,109].toList) (↑d.length) (some (Er.num 43))) ((#[(100:UInt8),(101:UInt8),(110:UInt8),(111:UInt8),(109:UInt8)].toList=#[(100:UInt8),(101:UInt8),(110:UInt8),(111:UInt8),(109:UInt8)].toList)∧((↑d.length:Int)=(↑d.length:Int))∧((43:Int)=(43:Int))∧(PE (some (Er.num 43))=PE (some (Er.num 43)))∧(false=false)) ⟨rfl,rfl,rfl,rfl,rfl⟩ (fun g13 p14=>?_)
     have p14:True:=p14
     exact v_ret () [3] (([]=pa a d n)∧([]=pd a d n)∧(PE (Option.map (Er.step #[100,101,110,111,109].toList ↑d.length) (some (Er.num 43)))=PE (ofE a d n))∧(false=(ofE a d n).isNone)) ⟨(by exact pa0 (ofd ‹_› ‹_› ‹_› (.inl ‹_›))),(by exact pd0 (ofd ‹_› ‹_› ‹_› (.inl ‹_›))),(by exact pe0 (ofd ‹_› ‹_› ‹_› (.inl ‹_›))),(by exact pn0 (ofd ‹_› ‹_› ‹_› (.inl ‹_›)))⟩ trivial
    ·have h12:=of_decide_eq_false h12
     refine v_if (decide (40<(↑d.length:Int))) True trivial (fun h15=>?_) (fun h15=>?_)
     ·have h15:=of_decide_eq_true h15
      refine v_al [] (al_e1 (43)) True trivial ?_
      refine v_call _ [2] (faultAtO_ok (#[100,101,110,111,109].toList) (↑d.length) (some (Er.num 43))) ((#[(100:UInt8),(101:UInt8),(110:UInt8),(111:UInt8),(109:UInt8)].toList=#[(100:UInt8),(101:UInt8),(110:UInt8),(111:UInt8),(109:UInt8)].toList)∧((↑d.length:Int)=(↑d.length:Int))∧((43:Int)=(43:Int))∧(PE (some (Er.num 43))=PE (some (Er.num 43)))∧(false=false)) ⟨rfl,rfl,rfl,rfl,rfl⟩ (fun g16 p17=>?_)
      have p17:True:=p17
      exact v_ret () [3] (([]=pa a d n)∧([]=pd a d n)∧(PE (Option.map (Er.step #[100,101,110,111,109].toList ↑d.length) (some (Er.num 43)))=PE (ofE a d n))∧(false=(ofE a d n).isNone)) ⟨(by exact pa0 (ofd ‹_› ‹_› ‹_› (.inr ‹_›))),(by exact pd0 (ofd ‹_› ‹_› ‹_› (.inr ‹_›))),(by exact pe0 (ofd ‹_› ‹_› ‹_› (.inr ‹_›))),(by exact pn0 (ofd ‹_› ‹_› ‹_› (.inr ‹_›)))⟩ trivial
     ·have h15:=of_decide_eq_false h15
      refine v_if (decide (n=0)) True trivial (fun h18=>?_) (fun h18=>?_)
      ·have h18:=of_decide_eq_true h18
       refine v_al [] (al_e1 (44)) True trivial ?_
       refine v_call _ [2] (faultAtO_ok (#[97,109,111,117,110,116].toList) (0) (some (Er.num 44))) ((#[(97:UInt8),(109:UInt8),(111:UInt8),(117:UInt8),(110:UInt8),(116:UInt8)].toList=#[(97:UInt8),(109:UInt8),(111:UInt8),(117:UInt8),(110:UInt8),(116:UInt8)].toList)∧((0:Int)=(0:Int))∧((44:Int)=(44:Int))∧(PE (some (Er.num 44))=PE (some (Er.num 44)))∧(false=false)) ⟨rfl,rfl,rfl,rfl,rfl⟩ (fun g19 p20=>?_)
       have p20:True:=p20
       exact v_ret () [3] (([]=pa a d n)∧([]=pd a d n)∧(PE (Option.map (Er.step #[97,109,111,117,110,116].toList 0) (some (Er.num 44)))=PE (ofE a d n))∧(false=(ofE a d n).isNone)) ⟨(by exact pa0 (ofn ‹_› ‹_› ‹_› ‹_› ‹_› ‹_›)),(by exact pd0 (ofn ‹_› ‹_› ‹_› ‹_› ‹_› ‹_›)),(by exact pe0 (ofn ‹_› ‹_› ‹_› ‹_› ‹_› ‹_›)),(by exact pn0 (ofn ‹_› ‹_› ‹_› ‹_› ‹_› ‹_›))⟩ trivial
      ·have h18:=of_decide_eq_false h18
       refine v_al [] (al_e0 (ofE a d n) (by exact ofz ‹_› ‹_› ‹_› ‹_› ‹_› ‹_›)) True trivial ?_
       exact v_ret () [2] ((a=pa a d n)∧(d=pd a d n)∧(PE (ofE a d n)=PE (ofE a d n))∧((ofE a d n).isNone=(ofE a d n).isNone)) ⟨(by exact pa1 (ofz ‹_› ‹_› ‹_› ‹_› ‹_› ‹_›)),(by exact pd1 (ofz ‹_› ‹_› ‹_› ‹_› ‹_› ‹_›)),rfl,rfl⟩ trivial
noncomputable def ccU1_20:Code:=(Tryz.f20.body).getD .skip
theorem Has_ok (B:BK) (a d:List UInt8):FOk EN 20 ⟨[.mp 52 B,.bx 54 [.n 0]],[.p 1 0,.s a,.s d],Unit,fun _=>([.mp 52 B,.bx 54 [.n 0]],.u (bget B a d)),fun _=>True⟩:=by
 refine v_fun Tryz.f20 ccU1_20 MX (fun ν F σ w=>?_) Tryz.func20
 refine v_nl ?_
 exact v_ret () [] (((mget B (a,d)).getD 0=bget B a d)∧(@Eq (List (Prod (Prod (List UInt8) (List UInt8)) UInt64)) B B)) ⟨rfl,rfl⟩ trivial
section
variable {B:BK} {a d t:List UInt8} {n:UInt64}
theorem nz {o:Option Er} (h:o.isNone=true):o=none:=by cases o with | none=>rfl | some _=>cases h
theorem paz (h:(ofE a d n).isNone=true):pa a d n=a:=(pa1 (nz h)).symm
theorem pdz (h:(ofE a d n).isNone=true):pd a d n=d:=(pd1 (nz h)).symm
theorem bgz (h:(ofE a d n).isNone=true):(mget B (pa a d n,pd a d n)).getD 0=bget B a d:=by rw[paz h,pdz h];rfl
theorem giE1 (h:(ofE a d n).isNone=false):giE B a d n=ofE a d n:=by unfold giE;rw[if_pos h]
theorem giE2 (h:(ofE a d n).isNone=true) (h2:18446744073709551615 - n<(mget B (pa a d n,pd a d n)).getD 0):giE B a d n=some (.step ((#[98,97,110,107]:Array UInt8).toList) 1 (.num 41)):=by
  rw[bgz h] at h2;unfold giE;rw[if_neg (by rw[h];decide),if_pos h2]
theorem giE3 (h:(ofE a d n).isNone=true) (h2:¬ 18446744073709551615 - n<(mget B (pa a d n,pd a d n)).getD 0):giE B a d n=none:=by
  rw[bgz h] at h2;unfold giE;rw[if_neg (by rw[h];decide),if_neg h2]
theorem giB1 (h:(ofE a d n).isNone=false):B=giB B a d n:=by unfold giB;rw[giE1 h,h];rfl
theorem giB2 (h:(ofE a d n).isNone=true) (h2:18446744073709551615 - n<(mget B (pa a d n,pd a d n)).getD 0):B=giB B a d n:=by unfold giB;rw[giE2 h h2];rfl
theorem giB3 (h:(ofE a d n).isNone=true) (h2:¬ 18446744073709551615 - n<(mget B (pa a d n,pd a d n)).getD 0):mput B (pa a d n,pd a d n) ((mget B (pa a d n,pd a d n)).getD 0+n)=giB B a d n:=by
  unfold giB;rw[giE3 h h2,bgz h,paz h,pdz h];rfl
end
noncomputable def ccU2_6:Code:=(Tryz.f6.body).getD .skip
theorem Give_ok (B:BK) (a d:List UInt8) (n:UInt64):FOk EN 6 ⟨[.mp 52 B,.bx 54 [.n 0]],[.p 1 0,.s a,.s d,.u n],Unit,fun _=>([.mp 52 (giB B a d n),.bx 54 [.n 0],.pn (PE (giE B a d n)) true (giE B a d n).isNone],.n 2),fun _=>True⟩:=by
 refine v_fun Tryz.f6 ccU2_6 MX (fun ν F σ w=>?_) Tryz.func6
 refine v_nl ?_
 refine v_call _ [] (of_ok (a) (d) (n)) ((a=a)∧(d=d)∧(n=n)) ⟨rfl,rfl,rfl⟩ (fun g1 p2=>?_)
 have p2:True:=p2
 refine v_if (!(ofE a d n).isNone) True trivial (fun h3=>?_) (fun h3=>?_)
 ·have h3:=(nt h3)
  exact v_ret () [3] ((@Eq (List (Prod (Prod (List UInt8) (List UInt8)) UInt64)) B (giB B a d n))∧(PE (ofE a d n)=PE (giE B a d n))∧((ofE a d n).isNone=(giE B a d n).isNone)) ⟨(by exact giB1 ‹_›),(by(rw[giE1 ‹_›])),(by(rw[giE1 ‹_›]))⟩ trivial
 ·have h3:=(nf h3)
  refine v_plan (.fs [0,1,2,3,4,5,6,7,8,9] .e) [0,1,4] True trivial ?_
  refine v_if (decide (18446744073709551615 - n<(mget B (pa a d n,pd a d n)).getD 0)) True trivial (fun h4=>?_) (fun h4=>?_)
  ·have h4:=of_decide_eq_true h4
   refine v_al [] (al_e1 (41)) True trivial ?_
   refine v_call _ [5] (faultAtO_ok (#[98,97,110,107].toList) (1) (some (Er.num 41))) ((#[(98:UInt8),(97:UInt8),(110:UInt8),(107:UInt8)].toList=#[(98:UInt8),(97:UInt8),(110:UInt8),(107:UInt8)].toList)∧((1:Int)=(1:Int))∧((41:Int)=(41:Int))∧(PE (some (Er.num 41))=PE (some (Er.num 41)))∧(false=false)) ⟨rfl,rfl,rfl,rfl,rfl⟩ (fun g5 p6=>?_)
   have p6:True:=p6
   exact v_ret () [6] ((@Eq (List (Prod (Prod (List UInt8) (List UInt8)) UInt64)) B (giB B a d n))∧(PE (Option.map (Er.step #[98,97,110,107].toList 1) (some (Er.num 41)))=PE (giE B a d n))∧(false=(giE B a d n).isNone)) ⟨(by exact giB2 ‹_› ‹_›),(by(rw[giE2 ‹_› ‹_›];rfl)),(by(rw[giE2 ‹_› ‹_›];rfl))⟩ trivial
  ·have h4:=of_decide_eq_false h4
   refine v_plan (.fs [0,1,2,3,4,6] (.c 5 (.fs [7] (.o 8 (.fs [9] (.o 10 .e)))) (.o 8 (.fs [9] (.o 5 (.fs [7] (.o 10 .e))))))) [1,4] True trivial ?_
   refine v_pick True trivial ?_ ?_
   ·skip
    refine v_al [] (al_e0 (giE B a d n) (by(rw[giE3 ‹_› ‹_›];done))) True trivial ?_
    exact v_ret () [6] ((mput B (pa a d n,pd a d n) ((mget B (pa a d n,pd a d n)).getD 0+n)=giB B a d n)∧(PE (giE B a d n)=PE (giE B a d n))∧((giE B a d n).isNone=(giE B a d n).isNone)) ⟨(by exact giB3 ‹_› ‹_›),rfl,rfl⟩ trivial
   ·skip
    refine v_al [] (al_e0 (giE B a d n) (by(rw[giE3 ‹_› ‹_›];done))) True trivial ?_
    exact v_ret () [6] ((mput B (pa a d n,pd a d n) ((mget B (pa a d n,pd a d n)).getD 0+n)=giB B a d n)∧(PE (giE B a d n)=PE (giE B a d n))∧((giE B a d n).isNone=(giE B a d n).isNone)) ⟨(by exact giB3 ‹_› ‹_›),rfl,rfl⟩ trivial
section
variable {B:BK} {a d t:List UInt8} {n:UInt64}
theorem taE1 (h:(ofE a d n).isNone=false):taE B a d n=ofE a d n:=by unfold taE;rw[if_pos h]
theorem taE2 (h:(ofE a d n).isNone=true) (h2:(mget B (pa a d n,pd a d n)).getD 0<n):taE B a d n=some (.step ((#[98,97,110,107]:Array UInt8).toList) 2 (.num 40)):=by
  rw[bgz h] at h2;unfold taE;rw[if_neg (by rw[h];decide),if_pos h2]
theorem taE3 (h:(ofE a d n).isNone=true) (h2:¬ (mget B (pa a d n,pd a d n)).getD 0<n):taE B a d n=none:=by
  rw[bgz h] at h2;unfold taE;rw[if_neg (by rw[h];decide),if_neg h2]
theorem taB1 (h:(ofE a d n).isNone=false):B=taB B a d n:=by unfold taB;rw[taE1 h,if_pos h]
theorem taB2 (h:(ofE a d n).isNone=true) (h2:(mget B (pa a d n,pd a d n)).getD 0<n):B=taB B a d n:=by unfold taB;rw[taE2 h h2];rfl
theorem mgp (k:List UInt8 × List UInt8) (v:UInt64):(mget (mput B k v) k).getD 0=v:=by rw[mget_mput,if_pos rfl];rfl
theorem taB3 (h:(ofE a d n).isNone=true) (h2:¬ (mget B (pa a d n,pd a d n)).getD 0<n) (h3:(mget (mput B (pa a d n,pd a d n) ((mget B (pa a d n,pd a d n)).getD 0 - n)) (pa a d n,pd a d n)).getD 0=0) :
    mdel (mput B (pa a d n,pd a d n) ((mget B (pa a d n,pd a d n)).getD 0 - n)) (pa a d n,pd a d n)=taB B a d n:=by
  rw[mgp] at h3
  unfold taB;rw[taE3 h h2];rw[bgz h] at *;rw[paz h,pdz h]
  rw[if_neg (by decide),if_pos h3]
theorem taB4 (h:(ofE a d n).isNone=true) (h2:¬ (mget B (pa a d n,pd a d n)).getD 0<n) (h3:¬ (mget (mput B (pa a d n,pd a d n) ((mget B (pa a d n,pd a d n)).getD 0 - n)) (pa a d n,pd a d n)).getD 0=0) :
    mput B (pa a d n,pd a d n) ((mget B (pa a d n,pd a d n)).getD 0 - n)=taB B a d n:=by
  rw[mgp] at h3
  unfold taB;rw[taE3 h h2];rw[bgz h] at *;rw[paz h,pdz h]
  rw[if_neg (by decide),if_neg h3]
end
noncomputable def ccU2_36:Code:=(Tryz.f36.body).getD .skip
theorem Take_ok (B:BK) (a d:List UInt8) (n:UInt64):FOk EN 36 ⟨[.mp 52 B,.bx 54 [.n 0]],[.p 1 0,.s a,.s d,.u n],Unit,fun _=>([.mp 52 (taB B a d n),.bx 54 [.n 0],.pn (PE (taE B a d n)) true (taE B a d n).isNone],.n 2),fun _=>True⟩:=by
 refine v_fun Tryz.f36 ccU2_36 MX (fun ν F σ w=>?_) Tryz.func36
 refine v_nl ?_
 refine v_call _ [] (of_ok (a) (d) (n)) ((a=a)∧(d=d)∧(n=n)) ⟨rfl,rfl,rfl⟩ (fun g1 p2=>?_)
 have p2:True:=p2
 refine v_if (!(ofE a d n).isNone) True trivial (fun h3=>?_) (fun h3=>?_)
 ·have h3:=(nt h3)
  exact v_ret () [3] ((@Eq (List (Prod (Prod (List UInt8) (List UInt8)) UInt64)) B (taB B a d n))∧(PE (ofE a d n)=PE (taE B a d n))∧((ofE a d n).isNone=(taE B a d n).isNone)) ⟨(by exact taB1 ‹_›),(by(rw[taE1 ‹_›])),(by(rw[taE1 ‹_›]))⟩ trivial
 ·have h3:=(nf h3)
  refine v_plan (.fs [0,1,2,3,4,5,6,7,8] .e) [0,1,4] True trivial ?_
  refine v_if (decide ((mget B (pa a d n,pd a d n)).getD 0<n)) True trivial (fun h4=>?_) (fun h4=>?_)
  ·have h4:=of_decide_eq_true h4
   refine v_al [] (al_e1 (40)) True trivial ?_
   refine v_call _ [5] (faultAtO_ok (#[98,97,110,107].toList) (2) (some (Er.num 40))) ((#[(98:UInt8),(97:UInt8),(110:UInt8),(107:UInt8)].toList=#[(98:UInt8),(97:UInt8),(110:UInt8),(107:UInt8)].toList)∧((2:Int)=(2:Int))∧((40:Int)=(40:Int))∧(PE (some (Er.num 40))=PE (some (Er.num 40)))∧(false=false)) ⟨rfl,rfl,rfl,rfl,rfl⟩ (fun g5 p6=>?_)
   have p6:True:=p6
   exact v_ret () [6] ((@Eq (List (Prod (Prod (List UInt8) (List UInt8)) UInt64)) B (taB B a d n))∧(PE (Option.map (Er.step #[98,97,110,107].toList 2) (some (Er.num 40)))=PE (taE B a d n))∧(false=(taE B a d n).isNone)) ⟨(by exact taB2 ‹_› ‹_›),(by(rw[taE2 ‹_› ‹_›];rfl)),(by(rw[taE2 ‹_› ‹_›];rfl))⟩ trivial
  ·have h4:=of_decide_eq_false h4
   refine v_plan (.fs [0,1,2,3,4,6] (.c 5 (.fs [7] (.o 8 (.fs [9] (.o 10 .e)))) (.o 8 (.fs [9] (.o 5 (.fs [7] (.o 10 .e))))))) [1,4] True trivial ?_
   refine v_pick True trivial ?_ ?_
   ·skip
    refine v_plan (.fs [0,1,2,3,4,5,6] .e) [0,1,4] True trivial ?_
    refine v_if (decide ((mget (mput B (pa a d n,pd a d n) ((mget B (pa a d n,pd a d n)).getD 0 - n)) (pa a d n,pd a d n)).getD 0=0)) True trivial (fun h7=>?_) (fun h7=>?_)
    ·have h7:=of_decide_eq_true h7
     refine v_plan (.fs [0,1,2] (.c 3 (.o 4 (.o 5 .e)) (.o 4 (.o 3 (.o 5 .e))))) [] True trivial ?_
     refine v_pick True trivial ?_ ?_
     ·skip
      refine v_al [] (al_e0 (taE B a d n) (by(rw[taE3 ‹_› ‹_›];done))) True trivial ?_
      exact v_ret () [6] ((mdel (mput B (pa a d n,pd a d n) ((mget B (pa a d n,pd a d n)).getD 0 - n)) (pa a d n,pd a d n)=taB B a d n)∧(PE (taE B a d n)=PE (taE B a d n))∧((taE B a d n).isNone=(taE B a d n).isNone)) ⟨(by exact taB3 ‹_› ‹_› ‹_›),rfl,rfl⟩ trivial
     ·skip
      refine v_al [] (al_e0 (taE B a d n) (by(rw[taE3 ‹_› ‹_›];done))) True trivial ?_
      exact v_ret () [6] ((mdel (mput B (pa a d n,pd a d n) ((mget B (pa a d n,pd a d n)).getD 0 - n)) (pa a d n,pd a d n)=taB B a d n)∧(PE (taE B a d n)=PE (taE B a d n))∧((taE B a d n).isNone=(taE B a d n).isNone)) ⟨(by exact taB3 ‹_› ‹_› ‹_›),rfl,rfl⟩ trivial
    ·have h7:=of_decide_eq_false h7
     refine v_al [] (al_e0 (taE B a d n) (by(rw[taE3 ‹_› ‹_›];done))) True trivial ?_
     exact v_ret () [6] ((mput B (pa a d n,pd a d n) ((mget B (pa a d n,pd a d n)).getD 0 - n)=taB B a d n)∧(PE (taE B a d n)=PE (taE B a d n))∧((taE B a d n).isNone=(taE B a d n).isNone)) ⟨(by exact taB4 ‹_› ‹_› ‹_›),rfl,rfl⟩ trivial
   ·skip
    refine v_plan (.fs [0,1,2,3,4,5,6] .e) [0,1,4] True trivial ?_
    refine v_if (decide ((mget (mput B (pa a d n,pd a d n) ((mget B (pa a d n,pd a d n)).getD 0 - n)) (pa a d n,pd a d n)).getD 0=0)) True trivial (fun h8=>?_) (fun h8=>?_)
    ·have h8:=of_decide_eq_true h8
     refine v_plan (.fs [0,1,2] (.c 3 (.o 4 (.o 5 .e)) (.o 4 (.o 3 (.o 5 .e))))) [] True trivial ?_
     refine v_pick True trivial ?_ ?_
     ·skip
      refine v_al [] (al_e0 (taE B a d n) (by(rw[taE3 ‹_› ‹_›];done))) True trivial ?_
      exact v_ret () [6] ((mdel (mput B (pa a d n,pd a d n) ((mget B (pa a d n,pd a d n)).getD 0 - n)) (pa a d n,pd a d n)=taB B a d n)∧(PE (taE B a d n)=PE (taE B a d n))∧((taE B a d n).isNone=(taE B a d n).isNone)) ⟨(by exact taB3 ‹_› ‹_› ‹_›),rfl,rfl⟩ trivial
     ·skip
      refine v_al [] (al_e0 (taE B a d n) (by(rw[taE3 ‹_› ‹_›];done))) True trivial ?_
      exact v_ret () [6] ((mdel (mput B (pa a d n,pd a d n) ((mget B (pa a d n,pd a d n)).getD 0 - n)) (pa a d n,pd a d n)=taB B a d n)∧(PE (taE B a d n)=PE (taE B a d n))∧((taE B a d n).isNone=(taE B a d n).isNone)) ⟨(by exact taB3 ‹_› ‹_› ‹_›),rfl,rfl⟩ trivial
    ·have h8:=of_decide_eq_false h8
     refine v_al [] (al_e0 (taE B a d n) (by(rw[taE3 ‹_› ‹_›];done))) True trivial ?_
     exact v_ret () [6] ((mput B (pa a d n,pd a d n) ((mget B (pa a d n,pd a d n)).getD 0 - n)=taB B a d n)∧(PE (taE B a d n)=PE (taE B a d n))∧((taE B a d n).isNone=(taE B a d n).isNone)) ⟨(by exact taB4 ‹_› ‹_› ‹_›),rfl,rfl⟩ trivial
section
variable {B:BK} {f t d:List UInt8} {n:UInt64}
theorem moE1 (h:(taE B f d n).isNone=false):moE B f t d n=taE B f d n:=by unfold moE;rw[if_pos h]
theorem moE2 (h:(taE B f d n).isNone=true) (h2:(giE (taB B f d n) t d n).isNone=false):moE B f t d n=some (.step ((#[116,111]:Array UInt8).toList) 0 ((giE (taB B f d n) t d n).getD (.num 0))):=by
  unfold moE;rw[if_neg (by rw[h];decide),if_pos h2]
theorem moE2m (h:(taE B f d n).isNone=true) (h2:(giE (taB B f d n) t d n).isNone=false):moE B f t d n=(giE (taB B f d n) t d n).map (Er.step ((#[116,111]:Array UInt8).toList) 0):=by
  rw[moE2 h h2]
  cases e:giE (taB B f d n) t d n with
  | none=>rw[e] at h2;cases h2
  | some x=>rfl
theorem moE3 (h:(taE B f d n).isNone=true) (h2:(giE (taB B f d n) t d n).isNone=true):moE B f t d n=none:=by
  unfold moE;rw[if_neg (by rw[h];decide),if_neg (by rw[h2];decide)]
theorem moB1 (h:(taE B f d n).isNone=false):taB B f d n=moB B f t d n:=by unfold moB taB;rw[if_pos h,if_pos h]
theorem moB2 (h:(taE B f d n).isNone=true) (h2:(giE (taB B f d n) t d n).isNone=false):mput (giB (taB B f d n) t d n) (f,d) ((mget (giB (taB B f d n) t d n) (f,d)).getD 0+n)=moB B f t d n:=by
  have e:giB (taB B f d n) t d n=taB B f d n:=by unfold giB;rw[if_neg (by rw[h2];decide)]
  unfold moB;rw[if_neg (by rw[h];decide),if_pos h2,e];rfl
theorem moB3 (h:(taE B f d n).isNone=true) (h2:(giE (taB B f d n) t d n).isNone=true):giB (taB B f d n) t d n=moB B f t d n:=by
  unfold moB;rw[if_neg (by rw[h];decide),if_neg (by rw[h2];decide)]
end
noncomputable def ccU3_29:Code:=(Tryz.f29.body).getD .skip
theorem Move_ok (B:BK) (f t d:List UInt8) (n:UInt64):FOk EN 29 ⟨[.mp 52 B,.bx 54 [.n 0]],[.p 1 0,.s f,.s t,.s d,.u n],Unit,fun _=>([.mp 52 (moB B f t d n),.bx 54 [.n 0],.pn (PE (moE B f t d n)) true (moE B f t d n).isNone],.n 2),fun _=>True⟩:=by
 refine v_fun Tryz.f29 ccU3_29 MX (fun ν F σ w=>?_) Tryz.func29
 refine v_nl ?_
 refine v_call _ [0,1] (Take_ok (B) (f) (d) (n)) ((f=f)∧(d=d)∧(n=n)∧(@Eq (List (Prod (Prod (List UInt8) (List UInt8)) UInt64)) B B)) ⟨rfl,rfl,rfl,rfl⟩ (fun g1 p2=>?_)
 have p2:True:=p2
 refine v_if (!(taE B f d n).isNone) True trivial (fun h3=>?_) (fun h3=>?_)
 ·have h3:=(nt h3)
  exact v_ret () [3] ((@Eq (List (Prod (Prod (List UInt8) (List UInt8)) UInt64)) (taB B f d n) (moB B f t d n))∧(PE (taE B f d n)=PE (moE B f t d n))∧((taE B f d n).isNone=(moE B f t d n).isNone)) ⟨(by exact moB1 ‹_›),(by(rw[moE1 ‹_›])),(by(rw[moE1 ‹_›]))⟩ trivial
 ·have h3:=(nf h3)
  refine v_call _ [0,1] (Give_ok (taB B f d n) (t) (d) (n)) ((t=t)∧(d=d)∧(n=n)∧(@Eq (List (Prod (Prod (List UInt8) (List UInt8)) UInt64)) (taB B f d n) (taB B f d n))) ⟨rfl,rfl,rfl,rfl⟩ (fun g4 p5=>?_)
  have p5:True:=p5
  refine v_if (!(giE (taB B f d n) t d n).isNone) True trivial (fun h6=>?_) (fun h6=>?_)
  ·have h6:=(nt h6)
   refine v_plan (.fs [0,1,2,3,4,5,6,8] (.c 7 (.fs [9] (.o 10 (.fs [11] (.o 12 .e)))) (.o 10 (.fs [11] (.o 7 (.fs [9] (.o 12 .e))))))) [1] True trivial ?_
   refine v_pick True trivial ?_ ?_
   ·skip
    refine v_call _ [4] (faultAtO_ok (#[116,111].toList) (0) (giE (taB B f d n) t d n)) ((#[(116:UInt8),(111:UInt8)].toList=#[(116:UInt8),(111:UInt8)].toList)∧((0:Int)=(0:Int))∧(PE (giE (taB B f d n) t d n)=PE (giE (taB B f d n) t d n))∧((giE (taB B f d n) t d n).isNone=(giE (taB B f d n) t d n).isNone)) ⟨rfl,rfl,rfl,rfl⟩ (fun g7 p8=>?_)
    have p8:True:=p8
    exact v_ret () [6] ((mput (giB (taB B f d n) t d n) (f,d) ((mget (giB (taB B f d n) t d n) (f,d)).getD 0+n)=moB B f t d n)∧(PE (Option.map (Er.step #[116,111].toList 0) (giE (taB B f d n) t d n))=PE (moE B f t d n))∧((giE (taB B f d n) t d n).isNone=(moE B f t d n).isNone)) ⟨(by exact moB2 ‹_› ‹_›),(by(rw[moE2m ‹_› ‹_›])),(by(rw[moE2 ‹_› ‹_›,‹(giE _ _ _ _).isNone=false›];rfl))⟩ trivial
   ·skip
    refine v_call _ [4] (faultAtO_ok (#[116,111].toList) (0) (giE (taB B f d n) t d n)) ((#[(116:UInt8),(111:UInt8)].toList=#[(116:UInt8),(111:UInt8)].toList)∧((0:Int)=(0:Int))∧(PE (giE (taB B f d n) t d n)=PE (giE (taB B f d n) t d n))∧((giE (taB B f d n) t d n).isNone=(giE (taB B f d n) t d n).isNone)) ⟨rfl,rfl,rfl,rfl⟩ (fun g9 p10=>?_)
    have p10:True:=p10
    exact v_ret () [6] ((mput (giB (taB B f d n) t d n) (f,d) ((mget (giB (taB B f d n) t d n) (f,d)).getD 0+n)=moB B f t d n)∧(PE (Option.map (Er.step #[116,111].toList 0) (giE (taB B f d n) t d n))=PE (moE B f t d n))∧((giE (taB B f d n) t d n).isNone=(moE B f t d n).isNone)) ⟨(by exact moB2 ‹_› ‹_›),(by(rw[moE2m ‹_› ‹_›])),(by(rw[moE2 ‹_› ‹_›,‹(giE _ _ _ _).isNone=false›];rfl))⟩ trivial
  ·have h6:=(nf h6)
   refine v_al [] (al_e0 (moE B f t d n) (by(rw[moE3 ‹_› ‹_›];done))) True trivial ?_
   exact v_ret () [5] ((@Eq (List (Prod (Prod (List UInt8) (List UInt8)) UInt64)) (giB (taB B f d n) t d n) (moB B f t d n))∧(PE (moE B f t d n)=PE (moE B f t d n))∧((moE B f t d n).isNone=(moE B f t d n).isNone)) ⟨(by exact moB3 ‹_› ‹_›),rfl,rfl⟩ trivial
abbrev cD:Coin:=⟨[],[],0⟩
theorem drop_cons {α:Type} {l:List α} {i:Nat} {d:α} (h:(i:Int)<l.length):l.drop i=l.getD i d::l.drop (i+1):=by
  have h':i<l.length:=by omega
  rw[List.drop_eq_getElem_cons h',List.getD_eq_getElem?_getD,List.getElem?_eq_getElem h'];rfl
section
variable {L:List Coin} {a d:List UInt8} {n:UInt64} {i:Nat}
theorem cdrop (h:(i:Int)<L.length):L.drop i=L.getD i cD::L.drop (i+1):=drop_cons (d:=cD) h
theorem has_hit (hk:lhas (L.drop i) a d=lhas L a d∧i≤L.length) (h:(i:Int)<L.length) (e1:(L.getD i cD).account=a) (e2:(L.getD i cD).denom=d):(L.getD i cD).amount=lhas L a d:=by
  rw[← hk.1,cdrop h,lhas_cons,if_pos ⟨e1,e2⟩]
theorem has_n1 (hk:lhas (L.drop i) a d=lhas L a d∧i≤L.length) (h:(i:Int)<L.length) (e1:¬ (L.getD i cD).account=a):(lhas (L.drop (i+1)) a d=lhas L a d∧i+1≤L.length)∧L.length - (i+1)<L.length - i:=by
  refine⟨⟨?_,by omega⟩,by omega⟩
  rw[← hk.1,cdrop h,lhas_cons,if_neg (fun q=>e1 q.1)]
theorem has_n2 (hk:lhas (L.drop i) a d=lhas L a d∧i≤L.length) (h:(i:Int)<L.length) (e1:¬ (L.getD i cD).denom=d):(lhas (L.drop (i+1)) a d=lhas L a d∧i+1≤L.length)∧L.length - (i+1)<L.length - i:=by
  refine⟨⟨?_,by omega⟩,by omega⟩
  rw[← hk.1,cdrop h,lhas_cons,if_neg (fun q=>e1 q.2)]
theorem has_end (hk:lhas (L.drop i) a d=lhas L a d∧i≤L.length) (h:¬ (i:Int)<L.length):0=lhas L a d:=by
  rw[← hk.1,List.drop_of_length_le (by omega)];rfl
end
noncomputable def ccU4_24:Code:=(Tryz.f24.body).getD .skip
theorem RHas_ok (L:List Coin) (a d:List UInt8) (hl:L.length≤100000):FOk EN 24 ⟨[.rd 32 L,.bx 29 [.n 0]],[.p 1 0,.s a,.s d],Unit,fun _=>([.rd 32 L,.bx 29 [.n 0]],.u (lhas L a d)),fun _=>True⟩:=by
 refine v_fun Tryz.f24 ccU4_24 MX (fun ν F σ w=>?_) Tryz.func24
 refine v_nl ?_
 refine v_loop (fun k:Nat=>([(7,.i k)],[])) (fun k=>lhas (L.drop k) a d=lhas L a d∧k≤L.length) (fun k=>L.length - k) 0 [] (((0:Int)=(↑(0:Nat):Int))) rfl (by exact⟨rfl,Nat.zero_le _⟩) (fun k hk1=>?_)
 refine v_if (decide ((↑k:Int)<(↑L.length:Int))) True trivial (fun h2=>?_) (fun h2=>?_)
 ·have h2:=of_decide_eq_true h2
  refine v_guard 27 (decide ((L.getD (↑k:Int).toNat (Coin.mk [] [] 0)).account=a)) ((0≤(↑k:Int)∧(↑k:Int)<(↑L.length:Int))) (by omega) (fun h3=>?_) (fun h3=>?_)
  ·have h3:=of_decide_eq_true h3
   refine v_if (decide ((L.getD (↑k:Int).toNat (Coin.mk [] [] 0)).denom=d)) ((0≤(↑k:Int)∧(↑k:Int)<(↑L.length:Int))) (by omega) (fun h4=>?_) (fun h4=>?_)
   ·have h4:=of_decide_eq_true h4
    refine v_leave .rt ((0≤(↑k:Int)∧(↑k:Int)<(↑L.length:Int))) (by omega) ?_
    exact v_ret () [] (((L.getD (↑k:Int).toNat (Coin.mk [] [] 0)).amount=lhas L a d)∧(L=L)) ⟨(by exact has_hit ‹_› ‹_› ‹_› ‹_›),rfl⟩ trivial
   ·have h4:=of_decide_eq_false h4
    exact v_back (k+1) [] ((I64 (↑k+1))∧((↑k:Int)+1=(↑(k+1):Int))) ⟨(by(unfold I64;omega)),rfl⟩ (show(lhas (List.drop (k+1) L) a d=lhas L a d∧k+1≤L.length)∧L.length - (k+1)<L.length - k from(by exact has_n2 ‹_› ‹_› ‹_›))
  ·have h3:=of_decide_eq_false h3
   exact v_back (k+1) [] ((I64 (↑k+1))∧((↑k:Int)+1=(↑(k+1):Int))) ⟨(by(unfold I64;omega)),rfl⟩ (show(lhas (List.drop (k+1) L) a d=lhas L a d∧k+1≤L.length)∧L.length - (k+1)<L.length - k from(by exact has_n1 ‹_› ‹_› ‹_›))
 ·have h2:=of_decide_eq_false h2
  refine v_leave (.ex 0) True trivial ?_
  exact v_ret () [] ((0=lhas L a d)∧(L=L)) ⟨(by exact has_end ‹_› ‹_›),rfl⟩ trivial
section
variable {L:List Coin} {a d:List UInt8} {n:UInt64} {i:Nat}
abbrev ftk (L:List Coin) (a d:List UInt8) (k:Nat):List Coin:=(L.take k).filter (notC a d)
theorem ftk_t (h:(i:Int)<L.length):L.take (i+1)=L.take i++[L.getD i cD]:=by
  have h':i<L.length:=by omega
  rw[List.take_succ_eq_append_getElem h',List.getD_eq_getElem?_getD,List.getElem?_eq_getElem h'];rfl
theorem ftk_1 (h:(i:Int)<L.length) (e:¬ (L.getD i cD).account=a):ftk L a d i++[L.getD i cD]=ftk L a d (i+1):=by
  unfold ftk;rw[ftk_t h,List.filter_append,List.filter_cons_of_pos (by unfold notC;exact decide_eq_true (fun q=>e q.1))];rfl
theorem ftk_2 (h:(i:Int)<L.length) (e:¬ (L.getD i cD).denom=d):ftk L a d i++[L.getD i cD]=ftk L a d (i+1):=by
  unfold ftk;rw[ftk_t h,List.filter_append,List.filter_cons_of_pos (by unfold notC;exact decide_eq_true (fun q=>e q.2))];rfl
theorem ftk_3 (h:(i:Int)<L.length) (e1:(L.getD i cD).account=a) (e2:(L.getD i cD).denom=d):ftk L a d i=ftk L a d (i+1):=by
  unfold ftk;rw[ftk_t h,List.filter_append,List.filter_cons_of_neg (by unfold notC;rw[decide_eq_false (fun q=>q ⟨e1,e2⟩)];decide)];simp
theorem ftk_4 (h:(i:Int)<L.length) (e1:¬ (L.getD i cD).account≠a) (e2:¬ (L.getD i cD).denom≠d):ftk L a d i=ftk L a d (i+1):=ftk_3 h (Decidable.not_not.1 e1) (Decidable.not_not.1 e2)
theorem ftk_e (hk:i≤L.length) (h:¬ (i:Int)<L.length):ftk L a d i=L.filter (notC a d):=by unfold ftk;rw[List.take_of_length_le (by omega)]
theorem ftk_l:(ftk L a d i).length≤L.length:=Nat.le_trans (List.length_filter_le _ _) (by rw[List.length_take];omega)
theorem lset1 (hk:i≤L.length) (h:¬ (i:Int)<L.length) (hn:0<n):ftk L a d i++[⟨a,d,n⟩]=lset L a d n:=by rw[lset_eq,ftk_e hk h,if_pos hn]
theorem lset2 (hk:i≤L.length) (h:¬ (i:Int)<L.length) (hn:¬ 0<n):ftk L a d i=lset L a d n:=by rw[lset_eq,ftk_e hk h,if_neg hn,List.append_nil]
theorem ctk {s:List UInt8} (h:(i:Int)<s.length):s.drop i=s.getD i 0::s.drop (i+1):=drop_cons (d:=0) h
theorem ct_hit {s:List UInt8} (hk:(s.drop i).contains 47=s.contains 47∧i≤s.length) (h:(i:Int)<s.length) (e:s.getD i 0=47):s.contains 47=true:=by
  rw[← hk.1,ctk h,e];rfl
theorem ct_n {s:List UInt8} (hk:(s.drop i).contains 47=s.contains 47∧i≤s.length) (h:(i:Int)<s.length) (e:¬ s.getD i 0=47):((s.drop (i+1)).contains 47=s.contains 47∧i+1≤s.length)∧s.length - (i+1)<s.length - i:=by
  refine⟨⟨?_,by omega⟩,by omega⟩
  rw[← hk.1,ctk h,List.contains_cons]
  have:((47:UInt8) == s.getD i 0)=false:=by simpa using fun q=>e q.symm
  rw[this];rfl
theorem ct_e {s:List UInt8} (hk:(s.drop i).contains 47=s.contains 47∧i≤s.length) (h:¬ (i:Int)<s.length):¬ s.contains 47=true:=by
  rw[← hk.1,List.drop_of_length_le (by omega)];decide
theorem wr1 {a d:List UInt8} (h1:¬ (a.length:Int)<1) (h2:¬ 16<(a.length:Int)):¬ ((a.length:Int)<1∨16<(a.length:Int)):=by rintro (h | h);exact h1 h;exact h2 h
theorem wr_b (h1:¬ (a.length:Int)<1) (h2:¬ 16<(a.length:Int)) (hk:(a.drop i).contains 47=a.contains 47∧i≤a.length) (h:(i:Int)<a.length) (e:a.getD i 0=47):42=wrI a d n:=by
  unfold wrI;rw[if_neg (wr1 (d:=d) h1 h2),if_pos (ct_hit hk h e)]
theorem wr_c (h1:¬ (a.length:Int)<1) (h2:¬ 16<(a.length:Int)) (hk:(a.drop i).contains 47=a.contains 47∧i≤a.length) (h:¬ (i:Int)<a.length):wrI a d n=if(d.length:Int)<1∨40<(d.length:Int) then 43 else if n=0 then 44 else 0:=by
  unfold wrI;rw[if_neg (wr1 (d:=d) h1 h2),if_neg (ct_e hk h)]
theorem wr_d (h1:¬ (a.length:Int)<1) (h2:¬ 16<(a.length:Int)) (hk:(a.drop i).contains 47=a.contains 47∧i≤a.length) (h:¬ (i:Int)<a.length) (h3:(d.length:Int)<1):43=wrI a d n:=by
  rw[wr_c h1 h2 hk h,if_pos (.inl h3)]
theorem wr_e (h1:¬ (a.length:Int)<1) (h2:¬ 16<(a.length:Int)) (hk:(a.drop i).contains 47=a.contains 47∧i≤a.length) (h:¬ (i:Int)<a.length) (h3:40<(d.length:Int)):43=wrI a d n:=by
  rw[wr_c h1 h2 hk h,if_pos (.inr h3)]
theorem wr_f (h1:¬ (a.length:Int)<1) (h2:¬ 16<(a.length:Int)) (hk:(a.drop i).contains 47=a.contains 47∧i≤a.length) (h:¬ (i:Int)<a.length) (h3:¬ (d.length:Int)<1) (h4:¬ 40<(d.length:Int)) (h5:n=0):44=wrI a d n:=by
  have z:¬ ((d.length:Int)<1∨40<(d.length:Int)):=by rintro (q | q);exact h3 q;exact h4 q
  rw[wr_c h1 h2 hk h,if_neg z,if_pos h5]
theorem wr_g (h1:¬ (a.length:Int)<1) (h2:¬ 16<(a.length:Int)) (hk:(a.drop i).contains 47=a.contains 47∧i≤a.length) (h:¬ (i:Int)<a.length) (h3:¬ (d.length:Int)<1) (h4:¬ 40<(d.length:Int)) (h5:¬ n=0):0=wrI a d n:=by
  have z:¬ ((d.length:Int)<1∨40<(d.length:Int)):=by rintro (q | q);exact h3 q;exact h4 q
  rw[wr_c h1 h2 hk h,if_neg z,if_neg h5]
end
noncomputable def ccU5_25:Code:=(Tryz.f25.body).getD .skip
theorem Rset_ok (L:List Coin) (a d:List UInt8) (n:UInt64) (hl:L.length≤100000):FOk EN 25 ⟨[.rd 32 L,.bx 29 [.n 0]],[.p 1 0,.s a,.s d,.u n],Unit,fun _=>([.rd 32 L,.bx 29 [.n 2],.rd 32 (lset L a d n)],.t []),fun _=>True⟩:=by
 refine v_fun Tryz.f25 ccU5_25 MX (fun ν F σ w=>?_) Tryz.func25
 refine v_nl ?_
 refine v_loop (fun k:Nat=>([(9,.i k),(8,.n 3)],[.ow 32 (ftk L a d k)])) (fun k=>k≤L.length) (fun k=>L.length - k) 0 [2] (((0:Int)=(↑(0:Nat):Int))∧([]=ftk L a d 0)) ⟨rfl,rfl⟩ (by omega) (fun k hk1=>?_)
 refine v_if (decide ((↑k:Int)<(↑L.length:Int))) True trivial (fun h2=>?_) (fun h2=>?_)
 ·have h2:=of_decide_eq_true h2
  refine v_guard 29 (decide ((L.getD (↑k:Int).toNat (Coin.mk [] [] 0)).account≠a)) ((0≤(↑k:Int)∧(↑k:Int)<(↑L.length:Int))) (by omega) (fun h3=>?_) (fun h3=>?_)
  ·have h3:=of_decide_eq_true h3
   exact v_back (k+1) [7] ((0≤(↑k:Int)∧(↑k:Int)<(↑L.length:Int))∧((ftk L a d k).length+1≤1000000)∧(I64 (↑k+1))∧((↑k:Int)+1=(↑(k+1):Int))∧(ftk L a d k++[Coin.mk (L.getD (↑k:Int).toNat (Coin.mk [] [] 0)).account (L.getD (↑k:Int).toNat (Coin.mk [] [] 0)).denom (L.getD (↑k:Int).toNat (Coin.mk [] [] 0)).amount]=ftk L a d (k+1))) ⟨(by omega),(by(have:=ftk_l (L:=L) (a:=a) (d:=d) (i:=k);omega)),(by(unfold I64;omega)),rfl,(by exact ftk_1 ‹_› ‹_›)⟩ (show k+1≤L.length∧L.length - (k+1)<L.length - k from(by omega))
  ·have h3:=of_decide_eq_false h3
   refine v_if (decide ((L.getD (↑k:Int).toNat (Coin.mk [] [] 0)).denom≠d)) ((0≤(↑k:Int)∧(↑k:Int)<(↑L.length:Int))) (by omega) (fun h4=>?_) (fun h4=>?_)
   ·have h4:=of_decide_eq_true h4
    exact v_back (k+1) [8] ((0≤(↑k:Int)∧(↑k:Int)<(↑L.length:Int))∧((ftk L a d k).length+1≤1000000)∧(I64 (↑k+1))∧((↑k:Int)+1=(↑(k+1):Int))∧(ftk L a d k++[Coin.mk (L.getD (↑k:Int).toNat (Coin.mk [] [] 0)).account (L.getD (↑k:Int).toNat (Coin.mk [] [] 0)).denom (L.getD (↑k:Int).toNat (Coin.mk [] [] 0)).amount]=ftk L a d (k+1))) ⟨(by omega),(by(have:=ftk_l (L:=L) (a:=a) (d:=d) (i:=k);omega)),(by(unfold I64;omega)),rfl,(by exact ftk_2 ‹_› ‹_›)⟩ (show k+1≤L.length∧L.length - (k+1)<L.length - k from(by omega))
   ·have h4:=of_decide_eq_false h4
    exact v_back (k+1) [3] ((I64 (↑k+1))∧((↑k:Int)+1=(↑(k+1):Int))∧(ftk L a d k=ftk L a d (k+1))) ⟨(by(unfold I64;omega)),rfl,(by exact ftk_4 ‹_› ‹_› ‹_›)⟩ (show k+1≤L.length∧L.length - (k+1)<L.length - k from(by omega))
 ·have h2:=of_decide_eq_false h2
  refine v_leave (.ex 0) True trivial ?_
  refine v_if (decide (0<n)) True trivial (fun h5=>?_) (fun h5=>?_)
  ·have h5:=of_decide_eq_true h5
   exact v_ret () [5] (((ftk L a d k).length+1≤1000000)∧(L=L)∧(ftk L a d k++[Coin.mk a d n]=lset L a d n)) ⟨(by(have:=ftk_l (L:=L) (a:=a) (d:=d) (i:=k);omega)),rfl,(by exact lset1 ‹_› ‹_› ‹_›)⟩ trivial
  ·have h5:=of_decide_eq_false h5
   exact v_ret () [3] ((L=L)∧(ftk L a d k=lset L a d n)) ⟨rfl,(by exact lset2 ‹_› ‹_› ‹_›)⟩ trivial
noncomputable def ccU5_23:Code:=(Tryz.f23.body).getD .skip
theorem wrong_ok (a d:List UInt8) (n:UInt64):FOk EN 23 ⟨[],[.s a,.s d,.u n],Unit,fun _=>([],.i (wrI a d n)),fun _=>True⟩:=by
 refine v_fun Tryz.f23 ccU5_23 MX (fun ν F σ w=>?_) Tryz.func23
 refine v_nl ?_
 refine v_guard 11 (decide ((↑a.length:Int)<1)) True trivial (fun h1=>?_) (fun h1=>?_)
 ·have h1:=of_decide_eq_true h1
  exact v_ret () [] ((42=wrI a d n)) (by(simp only[wrI];(repeat first | rw[if_pos (by omega)] | rw[if_neg (by omega)]);done)) trivial
 ·have h1:=of_decide_eq_false h1
  refine v_if (decide (16<(↑a.length:Int))) True trivial (fun h2=>?_) (fun h2=>?_)
  ·have h2:=of_decide_eq_true h2
   exact v_ret () [] ((42=wrI a d n)) (by(simp only[wrI];(repeat first | rw[if_pos (by omega)] | rw[if_neg (by omega)]);done)) trivial
  ·have h2:=of_decide_eq_false h2
   refine v_loop (fun k:Nat=>([(7,.i k)],[])) (fun k=>(a.drop k).contains 47=a.contains 47∧k≤a.length) (fun k=>a.length - k) 0 [] (((0:Int)=(↑(0:Nat):Int))) rfl (by exact⟨rfl,Nat.zero_le _⟩) (fun k hk3=>?_)
   refine v_if (decide ((↑k:Int)<(↑a.length:Int))) True trivial (fun h4=>?_) (fun h4=>?_)
   ·have h4:=of_decide_eq_true h4
    refine v_if (decide (a.getD (↑k:Int).toNat 0=47)) ((0≤(↑k:Int)∧(↑k:Int)<(↑a.length:Int))) (by omega) (fun h5=>?_) (fun h5=>?_)
    ·have h5:=of_decide_eq_true h5
     refine v_leave .rt True trivial ?_
     exact v_ret () [] ((42=wrI a d n)) (by exact wr_b ‹_› ‹_› ‹_› ‹_› ‹_›) trivial
    ·have h5:=of_decide_eq_false h5
     exact v_back (k+1) [] ((I64 (↑k+1))∧((↑k:Int)+1=(↑(k+1):Int))) ⟨(by(unfold I64;omega)),rfl⟩ (show((List.drop (k+1) a).contains 47=a.contains 47∧k+1≤a.length)∧a.length - (k+1)<a.length - k from(by exact ct_n ‹_› ‹_› ‹_›))
   ·have h4:=of_decide_eq_false h4
    refine v_leave (.ex 0) True trivial ?_
    refine v_guard 29 (decide ((↑d.length:Int)<1)) True trivial (fun h6=>?_) (fun h6=>?_)
    ·have h6:=of_decide_eq_true h6
     exact v_ret () [] ((43=wrI a d n)) (by exact wr_d ‹_› ‹_› ‹_› ‹_› ‹_›) trivial
    ·have h6:=of_decide_eq_false h6
     refine v_if (decide (40<(↑d.length:Int))) True trivial (fun h7=>?_) (fun h7=>?_)
     ·have h7:=of_decide_eq_true h7
      exact v_ret () [] ((43=wrI a d n)) (by exact wr_e ‹_› ‹_› ‹_› ‹_› ‹_›) trivial
     ·have h7:=of_decide_eq_false h7
      refine v_if (decide (n=0)) True trivial (fun h8=>?_) (fun h8=>?_)
      ·have h8:=of_decide_eq_true h8
       exact v_ret () [] ((44=wrI a d n)) (by exact wr_f ‹_› ‹_› ‹_› ‹_› ‹_› ‹_› ‹_›) trivial
      ·have h8:=of_decide_eq_false h8
       exact v_ret () [] ((0=wrI a d n)) (by exact wr_g ‹_› ‹_› ‹_› ‹_› ‹_› ‹_› ‹_›) trivial
section
variable {L:List Coin} {a d t:List UInt8} {n:UInt64}
theorem lg1 (h:wrI a d n≠0):wrI a d n=lgiE L a d n:=by unfold lgiE;rw[if_pos h]
theorem lg2 (h:¬ wrI a d n≠0) (h2:lhas L a d+n<lhas L a d):lgiE L a d n=41:=by unfold lgiE;rw[if_neg h,if_pos h2]
theorem lg3 (h:¬ wrI a d n≠0) (h2:¬ lhas L a d+n<lhas L a d):lgiE L a d n=0:=by unfold lgiE;rw[if_neg h,if_neg h2]
theorem lgl {x:Int} (h:lgiE L a d n=x) (hx:x≠0):L=lgiL L a d n:=by unfold lgiL;rw[if_pos (by rw[h];exact hx)]
theorem lgl3 (h:lgiE L a d n=0):lset L a d (lhas L a d+n)=lgiL L a d n:=by unfold lgiL;rw[if_neg (fun q=>q h)]
theorem lt1 (h:wrI a d n≠0):wrI a d n=ltaE L a d n:=by unfold ltaE;rw[if_pos h]
theorem lt2 (h:¬ wrI a d n≠0) (h2:lhas L a d<n):ltaE L a d n=40:=by unfold ltaE;rw[if_neg h,if_pos h2]
theorem lt3 (h:¬ wrI a d n≠0) (h2:¬ lhas L a d<n):ltaE L a d n=0:=by unfold ltaE;rw[if_neg h,if_neg h2]
theorem ltl {x:Int} (h:ltaE L a d n=x) (hx:x≠0):L=ltaL L a d n:=by unfold ltaL;rw[if_pos (by rw[h];exact hx)]
theorem ltl3 (h:ltaE L a d n=0):lset L a d (lhas L a d - n)=ltaL L a d n:=by unfold ltaL;rw[if_neg (fun q=>q h)]
theorem ltl_len:(ltaL L a d n).length≤L.length+1:=by unfold ltaL;split;exact Nat.le_succ _;exact lset_len ..
theorem lgl_len:(lgiL L a d n).length≤L.length+1:=by unfold lgiL;split;exact Nat.le_succ _;exact lset_len ..
end
noncomputable def ccU6_7:Code:=(Tryz.f7.body).getD .skip
theorem RGive_ok (L:List Coin) (a d:List UInt8) (n:UInt64) (hl:L.length≤100000):FOk EN 7 ⟨[.rd 32 L,.bx 29 [.n 0]],[.p 1 0,.s a,.s d,.u n],Unit,fun _=>([.rd 32 L,.bx 29 [.n 2],.rd 32 (lgiL L a d n)],.i (lgiE L a d n)),fun _=>True⟩:=by
 refine v_fun Tryz.f7 ccU6_7 MX (fun ν F σ w=>?_) Tryz.func7
 refine v_nl ?_
 refine v_call _ [] (wrong_ok (a) (d) (n)) ((a=a)∧(d=d)∧(n=n)) ⟨rfl,rfl,rfl⟩ (fun g1 p2=>?_)
 have p2:True:=p2
 refine v_if (decide (wrI a d n≠0)) True trivial (fun h3=>?_) (fun h3=>?_)
 ·have h3:=of_decide_eq_true h3
  exact v_ret () [0] ((wrI a d n=lgiE L a d n)∧(L=L)∧(L=lgiL L a d n)) ⟨(by exact lg1 ‹_›),rfl,(by exact lgl (lg1 ‹_›).symm ‹_›)⟩ trivial
 ·have h3:=of_decide_eq_false h3
  refine v_call _ [0,1] (RHas_ok (L) (a) (d) ‹_›) ((a=a)∧(d=d)∧(L=L)) ⟨rfl,rfl,rfl⟩ (fun g4 p5=>?_)
  have p5:True:=p5
  refine v_if (decide (lhas L a d+n<lhas L a d)) True trivial (fun h6=>?_) (fun h6=>?_)
  ·have h6:=of_decide_eq_true h6
   exact v_ret () [0] ((41=lgiE L a d n)∧(L=L)∧(L=lgiL L a d n)) ⟨(by exact(lg2 ‹_› ‹_›).symm),rfl,(by exact lgl (lg2 ‹_› ‹_›) (by decide))⟩ trivial
  ·have h6:=of_decide_eq_false h6
   refine v_call _ [0,1] (Rset_ok (L) (a) (d) (lhas L a d+n) ‹_›) ((a=a)∧(d=d)∧(lhas L a d+n=lhas L a d+n)∧(L=L)) ⟨rfl,rfl,rfl,rfl⟩ (fun g7 p8=>?_)
   have p8:True:=p8
   exact v_ret () [3] ((0=lgiE L a d n)∧(L=L)∧(lset L a d (lhas L a d+n)=lgiL L a d n)) ⟨(by exact(lg3 ‹_› ‹_›).symm),rfl,(by exact lgl3 (lg3 ‹_› ‹_›))⟩ trivial
noncomputable def ccU6_37:Code:=(Tryz.f37.body).getD .skip
theorem RTake_ok (L:List Coin) (a d:List UInt8) (n:UInt64) (hl:L.length≤100000):FOk EN 37 ⟨[.rd 32 L,.bx 29 [.n 0]],[.p 1 0,.s a,.s d,.u n],Unit,fun _=>([.rd 32 L,.bx 29 [.n 2],.rd 32 (ltaL L a d n)],.i (ltaE L a d n)),fun _=>True⟩:=by
 refine v_fun Tryz.f37 ccU6_37 MX (fun ν F σ w=>?_) Tryz.func37
 refine v_nl ?_
 refine v_call _ [] (wrong_ok (a) (d) (n)) ((a=a)∧(d=d)∧(n=n)) ⟨rfl,rfl,rfl⟩ (fun g1 p2=>?_)
 have p2:True:=p2
 refine v_if (decide (wrI a d n≠0)) True trivial (fun h3=>?_) (fun h3=>?_)
 ·have h3:=of_decide_eq_true h3
  exact v_ret () [0] ((wrI a d n=ltaE L a d n)∧(L=L)∧(L=ltaL L a d n)) ⟨(by exact lt1 ‹_›),rfl,(by exact ltl (lt1 ‹_›).symm ‹_›)⟩ trivial
 ·have h3:=of_decide_eq_false h3
  refine v_call _ [0,1] (RHas_ok (L) (a) (d) ‹_›) ((a=a)∧(d=d)∧(L=L)) ⟨rfl,rfl,rfl⟩ (fun g4 p5=>?_)
  have p5:True:=p5
  refine v_if (decide (lhas L a d<n)) True trivial (fun h6=>?_) (fun h6=>?_)
  ·have h6:=of_decide_eq_true h6
   exact v_ret () [0] ((40=ltaE L a d n)∧(L=L)∧(L=ltaL L a d n)) ⟨(by exact(lt2 ‹_› ‹_›).symm),rfl,(by exact ltl (lt2 ‹_› ‹_›) (by decide))⟩ trivial
  ·have h6:=of_decide_eq_false h6
   refine v_call _ [0,1] (Rset_ok (L) (a) (d) (lhas L a d - n) ‹_›) ((a=a)∧(d=d)∧(lhas L a d - n=lhas L a d - n)∧(L=L)) ⟨rfl,rfl,rfl,rfl⟩ (fun g7 p8=>?_)
   have p8:True:=p8
   exact v_ret () [3] ((0=ltaE L a d n)∧(L=L)∧(lset L a d (lhas L a d - n)=ltaL L a d n)) ⟨(by exact(lt3 ‹_› ‹_›).symm),rfl,(by exact ltl3 (lt3 ‹_› ‹_›))⟩ trivial
section
variable {L:List Coin} {f t d:List UInt8} {n:UInt64}
theorem lm1 (h:¬ ltaE L f d n=0):ltaE L f d n=lmoE L f t d n:=by unfold lmoE;rw[if_pos h]
theorem lm2 (h:ltaE L f d n=0):lgiE (ltaL L f d n) t d n=lmoE L f t d n:=by unfold lmoE;rw[if_neg (fun q=>q h)]
theorem lml (h:¬ lmoE L f t d n=0):[]++L=lmoL L f t d n:=by unfold lmoL;rw[if_pos h];rfl
theorem lml1 (h:¬ ltaE L f d n=0):[]++L=lmoL L f t d n:=lml (by rw[← lm1 h];exact h)
theorem lml2 (h:ltaE L f d n=0) (h2:lgiE (ltaL L f d n) t d n≠0):[]++L=lmoL L f t d n:=lml (by rw[← lm2 h];exact h2)
theorem lml3 (h:ltaE L f d n=0) (h2:¬ lgiE (ltaL L f d n) t d n≠0):lgiL (ltaL L f d n) t d n=lmoL L f t d n:=by
  unfold lmoL;rw[if_neg (by rw[← lm2 h];exact h2)]
theorem lmo_len:(lmoL L f t d n).length≤L.length+2:=by
  unfold lmoL;split
  · omega
  · have:=lgl_len (L:=ltaL L f d n) (a:=t) (d:=d) (n:=n);have:=ltl_len (L:=L) (a:=f) (d:=d) (n:=n);omega
end
noncomputable def ccU7_34:Code:=(Tryz.f34.body).getD .skip
theorem RMove_ok (L:List Coin) (f t d:List UInt8) (n:UInt64) (hl:L.length≤90000):FOk EN 34 ⟨[.rd 32 L,.bx 29 [.n 0]],[.p 1 0,.s f,.s t,.s d,.u n],Unit,fun _=>([.rd 32 L,.bx 29 [.n 2],.rd 32 (lmoL L f t d n)],.i (lmoE L f t d n)),fun _=>True⟩:=by
 refine v_fun Tryz.f34 ccU7_34 MX (fun ν F σ w=>?_) Tryz.func34
 refine v_nl ?_
 refine v_call _ [0,1] (RTake_ok (L) (f) (d) (n) (by omega)) ((0+L.length≤1000000)∧(f=f)∧(d=d)∧(n=n)∧(L=L)) ⟨(by omega),rfl,rfl,rfl,rfl⟩ (fun g1 p2=>?_)
 have p2:True:=p2
 refine v_if (decide (ltaE L f d n=0)) True trivial (fun h3=>?_) (fun h3=>?_)
 ·have h3:=of_decide_eq_true h3
  refine v_call _ [5,1] (RGive_ok (ltaL L f d n) (t) (d) (n) (by(have:=ltl_len (L:=L) (a:=f) (d:=d) (n:=n);omega))) ((t=t)∧(d=d)∧(n=n)∧(ltaL L f d n=ltaL L f d n)) ⟨rfl,rfl,rfl,rfl⟩ (fun g4 p5=>?_)
  have p5:True:=p5
  refine v_if (decide (lgiE (ltaL L f d n) t d n≠0)) True trivial (fun h6=>?_) (fun h6=>?_)
  ·have h6:=of_decide_eq_true h6
   exact v_ret () [4] ((lgiE (ltaL L f d n) t d n=lmoE L f t d n)∧(L=L)∧([]++L=lmoL L f t d n)) ⟨(by exact lm2 ‹_›),rfl,(by exact lml2 ‹_› ‹_›)⟩ trivial
  ·have h6:=of_decide_eq_false h6
   exact v_ret () [6] ((lgiE (ltaL L f d n) t d n=lmoE L f t d n)∧(L=L)∧(lgiL (ltaL L f d n) t d n=lmoL L f t d n)) ⟨(by exact lm2 ‹_›),rfl,(by exact lml3 ‹_› ‹_›)⟩ trivial
 ·have h3:=of_decide_eq_false h3
  refine v_if (decide (ltaE L f d n≠0)) True trivial (fun h7=>?_) (fun h7=>?_)
  ·have h7:=of_decide_eq_true h7
   exact v_ret () [4] ((ltaE L f d n=lmoE L f t d n)∧(L=L)∧([]++L=lmoL L f t d n)) ⟨(by exact lm1 ‹_›),rfl,(by exact lml1 ‹_›)⟩ trivial
  ·have h7:=of_decide_eq_false h7
   omega
section
variable {o L:List Coin} {c:Coin} {k i:Nat}
abbrev inQ (o:List Coin) (c:Coin) (k:Nat):Prop:=insC c o=o.take k++insC c (o.drop k)∧k≤o.length
theorem inQn (h:inQ o c k) (hi:(k:Int)<o.length) (e:ltC (o.getD k cD) c):inQ o c (k+1)∧o.length - (k+1)<o.length - k:=by
  refine⟨⟨?_,by have:=h.2;omega⟩,by omega⟩
  rw[h.1,cdrop hi,insC,if_pos e,ftk_t hi,List.append_assoc];rfl
theorem inQ1 (h:inQ o c k) (hi:(k:Int)<o.length) (e:Op.bytesLess (o.getD k cD).account c.account=true):inQ o c (k+1)∧o.length - (k+1)<o.length - k:=inQn h hi (.inl (less_t e))
theorem inQ2 (h:inQ o c k) (hi:(k:Int)<o.length) (e1:(o.getD k cD).account=c.account) (e:Op.bytesLess (o.getD k cD).denom c.denom=true):inQ o c (k+1)∧o.length - (k+1)<o.length - k:=inQn h hi (.inr ⟨e1,less_t e⟩)
theorem inQe (h:inQ o c k) (hi:¬ (k:Int)<o.length):[]++o.take k++[c]++o.drop k=insC c o:=by
  rw[h.1,List.drop_of_length_le (by omega),List.append_nil,List.nil_append];rfl
theorem inQf (h:inQ o c k) (hi:(k:Int)<o.length) (e:¬ ltC (o.getD k cD) c):[]++o.take k++[c]++o.drop k=insC c o:=by
  rw[h.1,cdrop hi,insC,if_neg e,List.nil_append,List.append_assoc];rfl
theorem inQg (h:inQ o c k) (hi:(k:Int)<o.length) (e1:Op.bytesLess (o.getD k cD).account c.account=false) (e2:¬ (o.getD k cD).account=c.account):[]++o.take k++[c]++o.drop k=insC c o :=
  inQf h hi (fun q=>q.elim (less_f e1) (fun q=>e2 q.1))
theorem inQh (h:inQ o c k) (hi:(k:Int)<o.length) (e1:Op.bytesLess (o.getD k cD).account c.account=false) (e2:Op.bytesLess (o.getD k cD).denom c.denom=false):[]++o.take k++[c]++o.drop k=insC c o :=
  inQf h hi (fun q=>q.elim (less_f e1) (fun q=>less_f e2 q.2))
theorem all_n (hi:(i:Int)<L.length):insC (L.getD i cD) (allL (L.take i))=allL (L.take (i+1)):=by
  rw[ftk_t hi];unfold allL;rw[List.foldl_append];rfl
theorem all_e (hk:i≤L.length) (hi:¬ (i:Int)<L.length):allL (L.take i)=allL L:=by rw[List.take_of_length_le (by omega)]
theorem all_l:(allL (L.take i)).length≤L.length:=by rw[allL_len,List.length_take];omega
theorem inL1 (hl:L.length≤100000) (h:inQ (allL (L.take i)) c k):I64 ((k:Int)+1):=by have:=h.2;have:=all_l (L:=L) (i:=i);unfold I64;omega
theorem inL2 (hl:L.length≤100000):0+((allL (L.take i)).take k).length≤1000000:=by have:=all_l (L:=L) (i:=i);rw[List.length_take];omega
theorem inL3 (hl:L.length≤100000):([]++(allL (L.take i)).take k).length+1≤1000000:=by have:=all_l (L:=L) (i:=i);rw[List.nil_append,List.length_take];omega
theorem inL4 {x:Coin} (hl:L.length≤100000):([]++(allL (L.take i)).take k++[x]).length+((allL (L.take i)).drop k).length≤1000000:=by
  have:=all_l (L:=L) (i:=i);rw[List.nil_append,List.length_append,List.length_take,List.length_drop,List.length_singleton];omega
end
noncomputable def ccU8_19:Code:=(Tryz.f19.body).getD .skip
theorem RAll_ok (L:List Coin) (hl:L.length≤100000):FOk EN 19 ⟨[.rd 32 L,.bx 29 [.n 0]],[.p 1 0],Unit,fun _=>([.rd 32 L,.bx 29 [.n 0],.rd 32 (allL L)],.n 2),fun _=>True⟩:=by
 refine v_fun Tryz.f19 ccU8_19 MX (fun ν F σ w=>?_) Tryz.func19
 refine v_nl ?_
 refine v_loop (fun i:Nat=>([(4,.i i),(3,.n 3)],[.rd 32 (allL (L.take i))])) (fun i=>i≤L.length) (fun i=>L.length - i) 0 [2] (((0:Int)=(↑(0:Nat):Int))∧([]=allL (List.take 0 L))) ⟨rfl,rfl⟩ (by omega) (fun i hk1=>?_)
 refine v_if (decide ((↑i:Int)<(↑L.length:Int))) True trivial (fun h2=>?_) (fun h2=>?_)
 ·have h2:=of_decide_eq_true h2
  refine v_loop (fun k:Nat=>([(5,.i k)],[])) (fun k=>inQ (allL (L.take i)) (L.getD i cD) k) (fun k=>(allL (L.take i)).length - k) 0 [] (((0:Int)=(↑(0:Nat):Int))) rfl (by exact⟨rfl,Nat.zero_le _⟩) (fun k hk3=>?_)
  refine v_plan (.fs [0,1,2,3,4,5,6,7,8,9,10,11,12,13,14,15,16,17,18,19,20,21,22,23,24,25,26,27,28,29,30,31,32,33,34,35,36,37,38,39,40,41,42,43,44,45,46,47,48,49,50,51] .e) [1] True trivial ?_
  refine v_guard 19 (decide ((↑k:Int)<(↑(allL (List.take i L)).length:Int))) True trivial (fun h4=>?_) (fun h4=>?_)
  ·have h4:=of_decide_eq_true h4
   refine v_guard 34 (Op.bytesLess ((allL (List.take i L)).getD (↑k:Int).toNat (Coin.mk [] [] 0)).account (L.getD (↑i:Int).toNat (Coin.mk [] [] 0)).account) ((0≤(↑k:Int)∧(↑k:Int)<(↑(allL (List.take i L)).length:Int))∧(0≤(↑i:Int)∧(↑i:Int)<(↑L.length:Int))) ⟨(by omega),(by omega)⟩ (fun h5=>?_) (fun h5=>?_)
   ·skip
    exact v_back (k+1) [] ((I64 (↑k+1))∧((↑k:Int)+1=(↑(k+1):Int))) ⟨(by exact inL1 hl ‹_›),rfl⟩ (show inQ (allL (List.take i L)) (L.getD i cD) (k+1)∧(allL (List.take i L)).length - (k+1)<(allL (List.take i L)).length - k from(by exact inQ1 ‹_› ‹_› ‹_›))
   ·skip
    refine v_guard 49 (decide (((allL (List.take i L)).getD (↑k:Int).toNat (Coin.mk [] [] 0)).account=(L.getD (↑i:Int).toNat (Coin.mk [] [] 0)).account)) ((0≤(↑k:Int)∧(↑k:Int)<(↑(allL (List.take i L)).length:Int))∧(0≤(↑i:Int)∧(↑i:Int)<(↑L.length:Int))) ⟨(by omega),(by omega)⟩ (fun h6=>?_) (fun h6=>?_)
    ·have h6:=of_decide_eq_true h6
     refine v_if (Op.bytesLess ((allL (List.take i L)).getD (↑k:Int).toNat (Coin.mk [] [] 0)).denom (L.getD (↑i:Int).toNat (Coin.mk [] [] 0)).denom) ((0≤(↑k:Int)∧(↑k:Int)<(↑(allL (List.take i L)).length:Int))∧(0≤(↑i:Int)∧(↑i:Int)<(↑L.length:Int))) ⟨(by omega),(by omega)⟩ (fun h7=>?_) (fun h7=>?_)
     ·skip
      exact v_back (k+1) [] ((I64 (↑k+1))∧((↑k:Int)+1=(↑(k+1):Int))) ⟨(by exact inL1 hl ‹_›),rfl⟩ (show inQ (allL (List.take i L)) (L.getD i cD) (k+1)∧(allL (List.take i L)).length - (k+1)<(allL (List.take i L)).length - k from(by exact inQ2 ‹_› ‹_› ‹_› ‹_›))
     ·skip
      refine v_leave (.ex 2) True trivial ?_
      refine v_join [69,70,71,72,73,74,75,76,77,78,79,80,81,82,83,84,85,86,3] [] (fun _:Unit=>([(3,SV.n 10)],[Ent.ow (32:Nat) ([]++List.take (↑k:Int).toNat (allL (List.take i L))++[Coin.mk (L.getD (↑i:Int).toNat (Coin.mk [] [] (0:UInt64))).account (L.getD (↑i:Int).toNat (Coin.mk [] [] (0:UInt64))).denom (L.getD (↑i:Int).toNat (Coin.mk [] [] (0:UInt64))).amount]++List.drop (↑k:Int).toNat (allL (List.take i L)))])) (fun _=>True) ?_ (fun _ _=>?_) True trivial
      ·skip
       refine v_plan (.fs [1,2,3,5,6,7,8,9,10,11,14,15,16] (.c 0 (.c 4 (.o 12 (.o 13 (.o 17 (.fs [18] .e)))) (.o 12 (.o 4 (.o 13 (.o 17 (.fs [18] .e)))))) (.o 12 (.o 0 (.o 4 (.o 13 (.o 17 (.fs [18] .e)))))))) [1] True trivial ?_
       refine v_pick ((0≤(↑k:Int)∧(↑k:Int)≤(↑(allL (List.take i L)).length:Int))∧(0≤(↑i:Int)∧(↑i:Int)<(↑L.length:Int))∧(0≤(↑k:Int)∧(↑k:Int)≤(↑(allL (List.take i L)).length:Int))) ⟨(by omega),(by omega),(by omega)⟩ ?_ ?_
       ·skip
        refine v_pick True trivial ?_ ?_
        ·skip
         exact v_back (()) [17] ((0+(List.take (↑k:Int).toNat (allL (List.take i L))).length≤1000000)∧(([]++List.take (↑k:Int).toNat (allL (List.take i L))).length+1≤1000000)∧(([]++List.take (↑k:Int).toNat (allL (List.take i L))++[Coin.mk (L.getD (↑i:Int).toNat (Coin.mk [] [] 0)).account (L.getD (↑i:Int).toNat (Coin.mk [] [] 0)).denom (L.getD (↑i:Int).toNat (Coin.mk [] [] 0)).amount]).length+(List.drop (↑k:Int).toNat (allL (List.take i L))).length≤1000000)∧([]++List.take (↑k:Int).toNat (allL (List.take i L))++[Coin.mk (L.getD (↑i:Int).toNat (Coin.mk [] [] 0)).account (L.getD (↑i:Int).toNat (Coin.mk [] [] 0)).denom (L.getD (↑i:Int).toNat (Coin.mk [] [] 0)).amount]++List.drop (↑k:Int).toNat (allL (List.take i L))=[]++List.take (↑k:Int).toNat (allL (List.take i L))++[Coin.mk (L.getD (↑i:Int).toNat (Coin.mk [] [] 0)).account (L.getD (↑i:Int).toNat (Coin.mk [] [] 0)).denom (L.getD (↑i:Int).toNat (Coin.mk [] [] 0)).amount]++List.drop (↑k:Int).toNat (allL (List.take i L)))) ⟨(by exact inL2 hl),(by exact inL3 hl),(by exact inL4 hl),rfl⟩ (show True from trivial)
        ·skip
         exact v_back (()) [17] ((0+(List.take (↑k:Int).toNat (allL (List.take i L))).length≤1000000)∧(([]++List.take (↑k:Int).toNat (allL (List.take i L))).length+1≤1000000)∧(([]++List.take (↑k:Int).toNat (allL (List.take i L))++[Coin.mk (L.getD (↑i:Int).toNat (Coin.mk [] [] 0)).account (L.getD (↑i:Int).toNat (Coin.mk [] [] 0)).denom (L.getD (↑i:Int).toNat (Coin.mk [] [] 0)).amount]).length+(List.drop (↑k:Int).toNat (allL (List.take i L))).length≤1000000)∧([]++List.take (↑k:Int).toNat (allL (List.take i L))++[Coin.mk (L.getD (↑i:Int).toNat (Coin.mk [] [] 0)).account (L.getD (↑i:Int).toNat (Coin.mk [] [] 0)).denom (L.getD (↑i:Int).toNat (Coin.mk [] [] 0)).amount]++List.drop (↑k:Int).toNat (allL (List.take i L))=[]++List.take (↑k:Int).toNat (allL (List.take i L))++[Coin.mk (L.getD (↑i:Int).toNat (Coin.mk [] [] 0)).account (L.getD (↑i:Int).toNat (Coin.mk [] [] 0)).denom (L.getD (↑i:Int).toNat (Coin.mk [] [] 0)).amount]++List.drop (↑k:Int).toNat (allL (List.take i L)))) ⟨(by exact inL2 hl),(by exact inL3 hl),(by exact inL4 hl),rfl⟩ (show True from trivial)
       ·skip
        exact v_back (()) [17] ((0+(List.take (↑k:Int).toNat (allL (List.take i L))).length≤1000000)∧(([]++List.take (↑k:Int).toNat (allL (List.take i L))).length+1≤1000000)∧(([]++List.take (↑k:Int).toNat (allL (List.take i L))++[Coin.mk (L.getD (↑i:Int).toNat (Coin.mk [] [] 0)).account (L.getD (↑i:Int).toNat (Coin.mk [] [] 0)).denom (L.getD (↑i:Int).toNat (Coin.mk [] [] 0)).amount]).length+(List.drop (↑k:Int).toNat (allL (List.take i L))).length≤1000000)∧([]++List.take (↑k:Int).toNat (allL (List.take i L))++[Coin.mk (L.getD (↑i:Int).toNat (Coin.mk [] [] 0)).account (L.getD (↑i:Int).toNat (Coin.mk [] [] 0)).denom (L.getD (↑i:Int).toNat (Coin.mk [] [] 0)).amount]++List.drop (↑k:Int).toNat (allL (List.take i L))=[]++List.take (↑k:Int).toNat (allL (List.take i L))++[Coin.mk (L.getD (↑i:Int).toNat (Coin.mk [] [] 0)).account (L.getD (↑i:Int).toNat (Coin.mk [] [] 0)).denom (L.getD (↑i:Int).toNat (Coin.mk [] [] 0)).amount]++List.drop (↑k:Int).toNat (allL (List.take i L)))) ⟨(by exact inL2 hl),(by exact inL3 hl),(by exact inL4 hl),rfl⟩ (show True from trivial)
      ·skip
       exact v_back (i+1) [10] ((I64 (↑i+1))∧((↑i:Int)+1=(↑(i+1):Int))∧([]++List.take (↑k:Int).toNat (allL (List.take i L))++[Coin.mk (L.getD (↑i:Int).toNat (Coin.mk [] [] 0)).account (L.getD (↑i:Int).toNat (Coin.mk [] [] 0)).denom (L.getD (↑i:Int).toNat (Coin.mk [] [] 0)).amount]++List.drop (↑k:Int).toNat (allL (List.take i L))=allL (List.take (i+1) L))) ⟨(by(unfold I64;omega)),rfl,(by exact(inQh ‹_› ‹_› ‹_› ‹_›).trans (all_n ‹_›))⟩ (show i+1≤L.length∧L.length - (i+1)<L.length - i from(by omega))
    ·have h6:=of_decide_eq_false h6
     refine v_leave (.ex 2) True trivial ?_
     refine v_join [69,70,71,72,73,74,75,76,77,78,79,80,81,82,83,84,85,86,3] [] (fun _:Unit=>([(3,SV.n 8)],[Ent.ow (32:Nat) ([]++List.take (↑k:Int).toNat (allL (List.take i L))++[Coin.mk (L.getD (↑i:Int).toNat (Coin.mk [] [] (0:UInt64))).account (L.getD (↑i:Int).toNat (Coin.mk [] [] (0:UInt64))).denom (L.getD (↑i:Int).toNat (Coin.mk [] [] (0:UInt64))).amount]++List.drop (↑k:Int).toNat (allL (List.take i L)))])) (fun _=>True) ?_ (fun _ _=>?_) True trivial
     ·skip
      refine v_plan (.fs [1,2,3,5,6,7,8,9,10,11,14,15,16] (.c 0 (.c 4 (.o 12 (.o 13 (.o 17 (.fs [18] .e)))) (.o 12 (.o 4 (.o 13 (.o 17 (.fs [18] .e)))))) (.o 12 (.o 0 (.o 4 (.o 13 (.o 17 (.fs [18] .e)))))))) [1] True trivial ?_
      refine v_pick ((0≤(↑k:Int)∧(↑k:Int)≤(↑(allL (List.take i L)).length:Int))∧(0≤(↑i:Int)∧(↑i:Int)<(↑L.length:Int))∧(0≤(↑k:Int)∧(↑k:Int)≤(↑(allL (List.take i L)).length:Int))) ⟨(by omega),(by omega),(by omega)⟩ ?_ ?_
      ·skip
       refine v_pick True trivial ?_ ?_
       ·skip
        exact v_back (()) [15] ((0+(List.take (↑k:Int).toNat (allL (List.take i L))).length≤1000000)∧(([]++List.take (↑k:Int).toNat (allL (List.take i L))).length+1≤1000000)∧(([]++List.take (↑k:Int).toNat (allL (List.take i L))++[Coin.mk (L.getD (↑i:Int).toNat (Coin.mk [] [] 0)).account (L.getD (↑i:Int).toNat (Coin.mk [] [] 0)).denom (L.getD (↑i:Int).toNat (Coin.mk [] [] 0)).amount]).length+(List.drop (↑k:Int).toNat (allL (List.take i L))).length≤1000000)∧([]++List.take (↑k:Int).toNat (allL (List.take i L))++[Coin.mk (L.getD (↑i:Int).toNat (Coin.mk [] [] 0)).account (L.getD (↑i:Int).toNat (Coin.mk [] [] 0)).denom (L.getD (↑i:Int).toNat (Coin.mk [] [] 0)).amount]++List.drop (↑k:Int).toNat (allL (List.take i L))=[]++List.take (↑k:Int).toNat (allL (List.take i L))++[Coin.mk (L.getD (↑i:Int).toNat (Coin.mk [] [] 0)).account (L.getD (↑i:Int).toNat (Coin.mk [] [] 0)).denom (L.getD (↑i:Int).toNat (Coin.mk [] [] 0)).amount]++List.drop (↑k:Int).toNat (allL (List.take i L)))) ⟨(by exact inL2 hl),(by exact inL3 hl),(by exact inL4 hl),rfl⟩ (show True from trivial)
       ·skip
        exact v_back (()) [15] ((0+(List.take (↑k:Int).toNat (allL (List.take i L))).length≤1000000)∧(([]++List.take (↑k:Int).toNat (allL (List.take i L))).length+1≤1000000)∧(([]++List.take (↑k:Int).toNat (allL (List.take i L))++[Coin.mk (L.getD (↑i:Int).toNat (Coin.mk [] [] 0)).account (L.getD (↑i:Int).toNat (Coin.mk [] [] 0)).denom (L.getD (↑i:Int).toNat (Coin.mk [] [] 0)).amount]).length+(List.drop (↑k:Int).toNat (allL (List.take i L))).length≤1000000)∧([]++List.take (↑k:Int).toNat (allL (List.take i L))++[Coin.mk (L.getD (↑i:Int).toNat (Coin.mk [] [] 0)).account (L.getD (↑i:Int).toNat (Coin.mk [] [] 0)).denom (L.getD (↑i:Int).toNat (Coin.mk [] [] 0)).amount]++List.drop (↑k:Int).toNat (allL (List.take i L))=[]++List.take (↑k:Int).toNat (allL (List.take i L))++[Coin.mk (L.getD (↑i:Int).toNat (Coin.mk [] [] 0)).account (L.getD (↑i:Int).toNat (Coin.mk [] [] 0)).denom (L.getD (↑i:Int).toNat (Coin.mk [] [] 0)).amount]++List.drop (↑k:Int).toNat (allL (List.take i L)))) ⟨(by exact inL2 hl),(by exact inL3 hl),(by exact inL4 hl),rfl⟩ (show True from trivial)
      ·skip
       exact v_back (()) [15] ((0+(List.take (↑k:Int).toNat (allL (List.take i L))).length≤1000000)∧(([]++List.take (↑k:Int).toNat (allL (List.take i L))).length+1≤1000000)∧(([]++List.take (↑k:Int).toNat (allL (List.take i L))++[Coin.mk (L.getD (↑i:Int).toNat (Coin.mk [] [] 0)).account (L.getD (↑i:Int).toNat (Coin.mk [] [] 0)).denom (L.getD (↑i:Int).toNat (Coin.mk [] [] 0)).amount]).length+(List.drop (↑k:Int).toNat (allL (List.take i L))).length≤1000000)∧([]++List.take (↑k:Int).toNat (allL (List.take i L))++[Coin.mk (L.getD (↑i:Int).toNat (Coin.mk [] [] 0)).account (L.getD (↑i:Int).toNat (Coin.mk [] [] 0)).denom (L.getD (↑i:Int).toNat (Coin.mk [] [] 0)).amount]++List.drop (↑k:Int).toNat (allL (List.take i L))=[]++List.take (↑k:Int).toNat (allL (List.take i L))++[Coin.mk (L.getD (↑i:Int).toNat (Coin.mk [] [] 0)).account (L.getD (↑i:Int).toNat (Coin.mk [] [] 0)).denom (L.getD (↑i:Int).toNat (Coin.mk [] [] 0)).amount]++List.drop (↑k:Int).toNat (allL (List.take i L)))) ⟨(by exact inL2 hl),(by exact inL3 hl),(by exact inL4 hl),rfl⟩ (show True from trivial)
     ·skip
      exact v_back (i+1) [8] ((I64 (↑i+1))∧((↑i:Int)+1=(↑(i+1):Int))∧([]++List.take (↑k:Int).toNat (allL (List.take i L))++[Coin.mk (L.getD (↑i:Int).toNat (Coin.mk [] [] 0)).account (L.getD (↑i:Int).toNat (Coin.mk [] [] 0)).denom (L.getD (↑i:Int).toNat (Coin.mk [] [] 0)).amount]++List.drop (↑k:Int).toNat (allL (List.take i L))=allL (List.take (i+1) L))) ⟨(by(unfold I64;omega)),rfl,(by exact(inQg ‹_› ‹_› ‹_› ‹_›).trans (all_n ‹_›))⟩ (show i+1≤L.length∧L.length - (i+1)<L.length - i from(by omega))
  ·have h4:=of_decide_eq_false h4
   refine v_leave (.ex 2) True trivial ?_
   refine v_join [69,70,71,72,73,74,75,76,77,78,79,80,81,82,83,84,85,86,3] [] (fun _:Unit=>([(3,SV.n 4)],[Ent.ow (32:Nat) ([]++List.take (↑k:Int).toNat (allL (List.take i L))++[Coin.mk (L.getD (↑i:Int).toNat (Coin.mk [] [] (0:UInt64))).account (L.getD (↑i:Int).toNat (Coin.mk [] [] (0:UInt64))).denom (L.getD (↑i:Int).toNat (Coin.mk [] [] (0:UInt64))).amount]++List.drop (↑k:Int).toNat (allL (List.take i L)))])) (fun _=>True) ?_ (fun _ _=>?_) True trivial
   ·skip
    refine v_plan (.fs [1,2,3,5,6,7,8,9,10,11,14,15,16] (.c 0 (.c 4 (.o 12 (.o 13 (.o 17 (.fs [18] .e)))) (.o 12 (.o 4 (.o 13 (.o 17 (.fs [18] .e)))))) (.o 12 (.o 0 (.o 4 (.o 13 (.o 17 (.fs [18] .e)))))))) [1] True trivial ?_
    refine v_pick ((0≤(↑k:Int)∧(↑k:Int)≤(↑(allL (List.take i L)).length:Int))∧(0≤(↑i:Int)∧(↑i:Int)<(↑L.length:Int))∧(0≤(↑k:Int)∧(↑k:Int)≤(↑(allL (List.take i L)).length:Int))) ⟨(by omega),(by omega),(by omega)⟩ ?_ ?_
    ·skip
     refine v_pick True trivial ?_ ?_
     ·skip
      exact v_back (()) [11] ((0+(List.take (↑k:Int).toNat (allL (List.take i L))).length≤1000000)∧(([]++List.take (↑k:Int).toNat (allL (List.take i L))).length+1≤1000000)∧(([]++List.take (↑k:Int).toNat (allL (List.take i L))++[Coin.mk (L.getD (↑i:Int).toNat (Coin.mk [] [] 0)).account (L.getD (↑i:Int).toNat (Coin.mk [] [] 0)).denom (L.getD (↑i:Int).toNat (Coin.mk [] [] 0)).amount]).length+(List.drop (↑k:Int).toNat (allL (List.take i L))).length≤1000000)∧([]++List.take (↑k:Int).toNat (allL (List.take i L))++[Coin.mk (L.getD (↑i:Int).toNat (Coin.mk [] [] 0)).account (L.getD (↑i:Int).toNat (Coin.mk [] [] 0)).denom (L.getD (↑i:Int).toNat (Coin.mk [] [] 0)).amount]++List.drop (↑k:Int).toNat (allL (List.take i L))=[]++List.take (↑k:Int).toNat (allL (List.take i L))++[Coin.mk (L.getD (↑i:Int).toNat (Coin.mk [] [] 0)).account (L.getD (↑i:Int).toNat (Coin.mk [] [] 0)).denom (L.getD (↑i:Int).toNat (Coin.mk [] [] 0)).amount]++List.drop (↑k:Int).toNat (allL (List.take i L)))) ⟨(by exact inL2 hl),(by exact inL3 hl),(by exact inL4 hl),rfl⟩ (show True from trivial)
     ·skip
      exact v_back (()) [11] ((0+(List.take (↑k:Int).toNat (allL (List.take i L))).length≤1000000)∧(([]++List.take (↑k:Int).toNat (allL (List.take i L))).length+1≤1000000)∧(([]++List.take (↑k:Int).toNat (allL (List.take i L))++[Coin.mk (L.getD (↑i:Int).toNat (Coin.mk [] [] 0)).account (L.getD (↑i:Int).toNat (Coin.mk [] [] 0)).denom (L.getD (↑i:Int).toNat (Coin.mk [] [] 0)).amount]).length+(List.drop (↑k:Int).toNat (allL (List.take i L))).length≤1000000)∧([]++List.take (↑k:Int).toNat (allL (List.take i L))++[Coin.mk (L.getD (↑i:Int).toNat (Coin.mk [] [] 0)).account (L.getD (↑i:Int).toNat (Coin.mk [] [] 0)).denom (L.getD (↑i:Int).toNat (Coin.mk [] [] 0)).amount]++List.drop (↑k:Int).toNat (allL (List.take i L))=[]++List.take (↑k:Int).toNat (allL (List.take i L))++[Coin.mk (L.getD (↑i:Int).toNat (Coin.mk [] [] 0)).account (L.getD (↑i:Int).toNat (Coin.mk [] [] 0)).denom (L.getD (↑i:Int).toNat (Coin.mk [] [] 0)).amount]++List.drop (↑k:Int).toNat (allL (List.take i L)))) ⟨(by exact inL2 hl),(by exact inL3 hl),(by exact inL4 hl),rfl⟩ (show True from trivial)
    ·skip
     exact v_back (()) [11] ((0+(List.take (↑k:Int).toNat (allL (List.take i L))).length≤1000000)∧(([]++List.take (↑k:Int).toNat (allL (List.take i L))).length+1≤1000000)∧(([]++List.take (↑k:Int).toNat (allL (List.take i L))++[Coin.mk (L.getD (↑i:Int).toNat (Coin.mk [] [] 0)).account (L.getD (↑i:Int).toNat (Coin.mk [] [] 0)).denom (L.getD (↑i:Int).toNat (Coin.mk [] [] 0)).amount]).length+(List.drop (↑k:Int).toNat (allL (List.take i L))).length≤1000000)∧([]++List.take (↑k:Int).toNat (allL (List.take i L))++[Coin.mk (L.getD (↑i:Int).toNat (Coin.mk [] [] 0)).account (L.getD (↑i:Int).toNat (Coin.mk [] [] 0)).denom (L.getD (↑i:Int).toNat (Coin.mk [] [] 0)).amount]++List.drop (↑k:Int).toNat (allL (List.take i L))=[]++List.take (↑k:Int).toNat (allL (List.take i L))++[Coin.mk (L.getD (↑i:Int).toNat (Coin.mk [] [] 0)).account (L.getD (↑i:Int).toNat (Coin.mk [] [] 0)).denom (L.getD (↑i:Int).toNat (Coin.mk [] [] 0)).amount]++List.drop (↑k:Int).toNat (allL (List.take i L)))) ⟨(by exact inL2 hl),(by exact inL3 hl),(by exact inL4 hl),rfl⟩ (show True from trivial)
   ·skip
    exact v_back (i+1) [4] ((I64 (↑i+1))∧((↑i:Int)+1=(↑(i+1):Int))∧([]++List.take (↑k:Int).toNat (allL (List.take i L))++[Coin.mk (L.getD (↑i:Int).toNat (Coin.mk [] [] 0)).account (L.getD (↑i:Int).toNat (Coin.mk [] [] 0)).denom (L.getD (↑i:Int).toNat (Coin.mk [] [] 0)).amount]++List.drop (↑k:Int).toNat (allL (List.take i L))=allL (List.take (i+1) L))) ⟨(by(unfold I64;omega)),rfl,(by exact(inQe ‹_› ‹_›).trans (all_n ‹_›))⟩ (show i+1≤L.length∧L.length - (i+1)<L.length - i from(by omega))
 ·have h2:=of_decide_eq_false h2
  refine v_leave (.ex 0) True trivial ?_
  exact v_ret () [3] ((L=L)∧(allL (List.take i L)=allL L)) ⟨rfl,(by exact all_e ‹_› ‹_›)⟩ trivial
noncomputable def ccA1_59:Code:=(Tryz.f59.body).getD .skip
theorem isNaN_ok (a:List UInt8):FOk EN 59 ⟨[],[.s a],Unit,fun _=>([],.b false),fun _=>True⟩:=by
 refine v_fun Tryz.f59 ccA1_59 MX (fun ν F σ w=>?_) Tryz.func59
 refine v_nl ?_
 exact v_ret () [] ((decide (a≠a)=false)) (by exact decide_eq_false (fun q=>q rfl)) trivial
theorem cb_range:∀ a b:List UInt8,Lib.compareBytes a b = -1∨Lib.compareBytes a b=0∨Lib.compareBytes a b=1
  | [],[]=>.inr (.inl rfl)
  | [],_::_=>.inl rfl
  | _::_,[]=>.inr (.inr rfl)
  | a :: xs, b :: ys => by
    unfold Lib.compareBytes
    split
    · exact .inl rfl
    · split
      · exact .inr (.inr rfl)
      · exact cb_range xs ys
theorem cmpB_lt {a b:List UInt8} (h:Op.bytesLess a b=true) : -1=Lib.compareBytes a b:=by
  have:=less_t h
  rcases cb_range a b with h | h | h <;> omega
theorem cmpB_gt {a b:List UInt8} (h1:Op.bytesLess a b=false) (h:(Op.bytesLess a b || decide (a=b))=false):1=Lib.compareBytes a b:=by
  have:=less_f h1
  have hn:¬ Lib.compareBytes a b=0:=fun e=>by rw[cmp_zero] at e;rw[e] at h;simp at h
  rcases cb_range a b with h | h | h <;> omega
theorem cmpB_eq {a b:List UInt8} (h1:Op.bytesLess a b=false) (h:(Op.bytesLess a b || decide (a=b))=true):0=Lib.compareBytes a b:=by
  rw[h1,Bool.false_or,decide_eq_true_eq] at h
  exact(cmp_zero.2 h).symm
noncomputable def ccA1_43:Code:=(Tryz.f43.body).getD .skip
theorem Compare_ok (a b:List UInt8):FOk EN 43 ⟨[],[.s a,.s b],Unit,fun _=>([],.i (Lib.compareBytes a b)),fun _=>True⟩:=by
 refine v_fun Tryz.f43 ccA1_43 MX (fun ν F σ w=>?_) Tryz.func43
 refine v_nl ?_
 refine v_call _ [] (isNaN_ok (a)) ((a=a)) rfl (fun g1 p2=>?_)
 have p2:True:=p2
 refine v_call _ [] (isNaN_ok (b)) ((b=b)) rfl (fun g3 p4=>?_)
 have p4:True:=p4
 refine v_if (false) True trivial (fun h5=>?_) (fun h5=>?_)
 ·skip
  contradiction
 ·skip
  refine v_if (false) True trivial (fun h6=>?_) (fun h6=>?_)
  ·skip
   contradiction
  ·skip
   refine v_if (Op.bytesLess a b) True trivial (fun h7=>?_) (fun h7=>?_)
   ·skip
    exact v_ret () [] ((-1=Lib.compareBytes a b)) (by exact cmpB_lt ‹_›) trivial
   ·skip
    refine v_if (!(Op.bytesLess a b || decide (a=b))) True trivial (fun h8=>?_) (fun h8=>?_)
    ·have h8:=(nt h8)
     exact v_ret () [] ((1=Lib.compareBytes a b)) (by exact cmpB_gt ‹_› ‹_›) trivial
    ·have h8:=(nf h8)
     exact v_ret () [] ((0=Lib.compareBytes a b)) (by exact cmpB_eq ‹_› ‹_›) trivial
def orI:List Int→Int
  | []=>0
  | x::l=>if x≠0 then x else orI l
section
variable {l:List Int} {i:Nat}
abbrev orQ (l:List Int) (i:Nat):Prop:=orI (l.drop i)=orI l∧i≤l.length
theorem or_drop (h:(i:Int)<l.length):l.drop i=l.getD i 0::l.drop (i+1):=by
  have h':i<l.length:=by omega
  rw[List.drop_eq_getElem_cons h',List.getD_eq_getElem?_getD,List.getElem?_eq_getElem h'];rfl
theorem or1 (h:orQ l i) (hi:(i:Int)<l.length) (e:l.getD i 0≠0):l.getD i 0=orI l:=by rw[← h.1,or_drop hi,orI,if_pos e]
theorem or2 (h:orQ l i) (hi:(i:Int)<l.length) (e:¬ l.getD i 0≠0):orQ l (i+1)∧l.length - (i+1)<l.length - i:=by
  refine⟨⟨?_,by omega⟩,by omega⟩
  rw[← h.1,or_drop hi,orI,if_neg e]
theorem or3 (h:orQ l i) (hi:¬ (i:Int)<l.length):0=orI l:=by rw[← h.1,List.drop_of_length_le (by omega)];rfl
end
noncomputable def ccA1_42:Code:=(Tryz.f42.body).getD .skip
theorem Or_ok (l:List Int) (hl:l.length≤1000):FOk EN 42 ⟨[.rd 3 l],[.n 0],Unit,fun _=>([.rd 3 l],.i (orI l)),fun _=>True⟩:=by
 refine v_fun Tryz.f42 ccA1_42 MX (fun ν F σ w=>?_) Tryz.func42
 refine v_nl ?_
 refine v_loop (fun i:Nat=>([(8,.i i)],[])) (fun i=>orQ l i) (fun i=>l.length - i) 0 [] (((0:Int)=(↑(0:Nat):Int))) rfl (by exact⟨rfl,Nat.zero_le _⟩) (fun i hk1=>?_)
 refine v_if (decide ((↑i:Int)<(↑l.length:Int))) True trivial (fun h2=>?_) (fun h2=>?_)
 ·have h2:=of_decide_eq_true h2
  refine v_if (decide (l.getD (↑i:Int).toNat 0≠0)) ((0≤(↑i:Int)∧(↑i:Int)<(↑l.length:Int))) (by omega) (fun h3=>?_) (fun h3=>?_)
  ·have h3:=of_decide_eq_true h3
   refine v_leave .rt True trivial ?_
   exact v_ret () [] ((l.getD (↑i:Int).toNat 0=orI l)∧(l=l)) ⟨(by exact or1 ‹_› ‹_› ‹_›),rfl⟩ trivial
  ·have h3:=of_decide_eq_false h3
   exact v_back (i+1) [] ((I64 (↑i+1))∧((↑i:Int)+1=(↑(i+1):Int))) ⟨(by(unfold I64;omega)),rfl⟩ (show orQ l (i+1)∧l.length - (i+1)<l.length - i from(by exact or2 ‹_› ‹_› ‹_›))
 ·have h2:=of_decide_eq_false h2
  refine v_leave (.ex 0) True trivial ?_
  exact v_ret () [] ((0=orI l)∧(l=l)) ⟨(by exact or3 ‹_› ‹_›),rfl⟩ trivial
abbrev cmpC (x y:Coin):Int:=orI [Lib.compareBytes x.account y.account,Lib.compareBytes x.denom y.denom]
noncomputable def ccA2_41:Code:=(Tryz.f41.body).getD .skip
theorem Less_ok (x y:Coin):FOk EN 41 ⟨[],[.a [.s x.account,.s x.denom,.u x.amount],.a [.s y.account,.s y.denom,.u y.amount]],Unit,fun _=>([],.i (cmpC x y)),fun _=>True⟩:=by
 refine v_fun Tryz.f41 ccA2_41 MX (fun ν F σ w=>?_) Tryz.func41
 refine v_nl ?_
 refine v_plan (.fs [0,1,2,3,5,6,7,8] (.o 4 (.o 9 (.o 10 (.o 11 (.fs [12] .e)))))) [1,2] True trivial ?_
 refine v_call _ [] (Compare_ok (x.account) (y.account)) ((x.account=x.account)∧(y.account=y.account)) ⟨rfl,rfl⟩ (fun g1 p2=>?_)
 have p2:True:=p2
 refine v_call _ [] (Compare_ok (x.denom) (y.denom)) ((x.denom=x.denom)∧(y.denom=y.denom)) ⟨rfl,rfl⟩ (fun g3 p4=>?_)
 have p4:True:=p4
 refine v_call _ [3] (Or_ok ([Lib.compareBytes x.account y.account,Lib.compareBytes x.denom y.denom]) (by exact(show 2≤1000 by decide))) (([Lib.compareBytes x.account y.account,Lib.compareBytes x.denom y.denom]=[Lib.compareBytes x.account y.account,Lib.compareBytes x.denom y.denom])) rfl (fun g5 p6=>?_)
 have p6:True:=p6
 exact v_ret () [] ((orI [Lib.compareBytes x.account y.account,Lib.compareBytes x.denom y.denom]=cmpC x y)) rfl trivial
noncomputable def ccA2_39:Code:=(Tryz.f39.body).getD .skip
theorem Keys_ok (B:BK):FOk EN 39 ⟨[.mp 52 B],[.n 0],Unit,fun _=>([.mp 52 B,.bx 52 [.n 0]],.f 56 [] [.p 1 0]),fun _=>True⟩:=by
 refine v_fun Tryz.f39 ccA2_39 MX (fun ν F σ w=>?_) Tryz.func39
 refine v_nl ?_
 exact v_ret () [2] ((56=56)∧(@Eq (List (Prod (Prod (List UInt8) (List UInt8)) UInt64)) B B)) ⟨rfl,rfl⟩ trivial
end Go.Proofs.YtblnnkkelkjbiaaGreatDoor.X
set_option linter.unusedVariables false
set_option linter.unusedSimpArgs false
set_option maxRecDepth 100000
namespace Go.Proofs.YtblnnkkelkjbiaaGreatDoor.X
open Go Go.RowKit Go.Proofs Go.Proofs.YtblnnkkelkjbiaaGreatDoor.E
open Go.Sort Go.Shelf
def slf_ren:Go.Shelf.Ren:=⟨fun | 6=>40 | 14=>57 | 15=>58 | 20=>66 | 21=>67 | 22=>68 | 23=>69 | 24=>70 | 25=>71 | 26=>72 | 27=>73 | 28=>74 | 29=>75 | 46=>78 | 47=>79 | 48=>80 | 49=>81 | 50=>82 | 57=>87 | n=>n,fun | 0=>0 | 3=>3 | 4=>4 | 5=>5 | 9=>9 | 22=>22 | 24=>32 | 25=>81 | 39=>89 | 45=>122 | 46=>123 | 50=>127 | 53=>130 | 55=>30 | 66=>132 | 70=>136 | 76=>140 | 77=>141 | n=>n,fun n=>n⟩
theorem slf:SlLaysF0.n6 Tryz.prog slf_ren where
  mixed:=by kernel_rfl
  f6:=⟨"slices.SortFunc[[]ferryman/api.Coin,ferryman/api.Coin]",by decide,Tryz.func40.trans (congrArg some (by kernel_rfl))⟩
  f14:=⟨"slices.pdqsortCmpFunc[ferryman/api.Coin]",by decide,Tryz.func57.trans (congrArg some (by kernel_rfl))⟩
  f15:=Tryz.func58.trans (congrArg some (by kernel_rfl))
  f20:=⟨"slices.insertionSortCmpFunc[ferryman/api.Coin]",by decide,Tryz.func66.trans (congrArg some (by kernel_rfl))⟩
  f21:=⟨"slices.heapSortCmpFunc[ferryman/api.Coin]",by decide,Tryz.func67.trans (congrArg some (by kernel_rfl))⟩
  f22:=⟨"slices.breakPatternsCmpFunc[ferryman/api.Coin]",by decide,Tryz.func68.trans (congrArg some (by kernel_rfl))⟩
  f23:=⟨"slices.choosePivotCmpFunc[ferryman/api.Coin]",by decide,Tryz.func69.trans (congrArg some (by kernel_rfl))⟩
  f24:=⟨"slices.reverseRangeCmpFunc[ferryman/api.Coin]",by decide,Tryz.func70.trans (congrArg some (by kernel_rfl))⟩
  f25:=⟨"slices.partialInsertionSortCmpFunc[ferryman/api.Coin]",by decide,Tryz.func71.trans (congrArg some (by kernel_rfl))⟩
  f26:=⟨"slices.partitionEqualCmpFunc[ferryman/api.Coin]",by decide,Tryz.func72.trans (congrArg some (by kernel_rfl))⟩
  f27:=⟨"slices.partitionCmpFunc[ferryman/api.Coin]",by decide,Tryz.func73.trans (congrArg some (by kernel_rfl))⟩
  f28:=Tryz.func74.trans (congrArg some (by kernel_rfl))
  f29:=Tryz.func75.trans (congrArg some (by kernel_rfl))
  f46:=⟨"slices.siftDownCmpFunc[ferryman/api.Coin]",by decide,Tryz.func78.trans (congrArg some (by kernel_rfl))⟩
  f47:=Tryz.func79.trans (congrArg some (by kernel_rfl))
  f48:=Tryz.func80.trans (congrArg some (by kernel_rfl))
  f49:=⟨"slices.medianAdjacentCmpFunc[ferryman/api.Coin]",by decide,Tryz.func81.trans (congrArg some (by kernel_rfl))⟩
  f50:=⟨"slices.medianCmpFunc[ferryman/api.Coin]",by decide,Tryz.func82.trans (congrArg some (by kernel_rfl))⟩
  f57:=⟨"slices.order2CmpFunc[ferryman/api.Coin]",by decide,Tryz.func87.trans (congrArg some (by kernel_rfl))⟩
  t0:=Tryz.underlying0
  a0:=Tryz.isAgg0
  z0:=Tryz.sizeOf0
  v0:=Tryz.zeroValue0
  t3:=Tryz.underlying3
  a3:=Tryz.isAgg3
  z3:=Tryz.sizeOf3
  v3:=Tryz.zeroValue3
  t4:=Tryz.underlying4
  a4:=Tryz.isAgg4
  z4:=Tryz.sizeOf4
  v4:=Tryz.zeroValue4
  t5:=Tryz.underlying5
  a5:=Tryz.isAgg5
  z5:=Tryz.sizeOf5
  v5:=Tryz.zeroValue5
  t9:=Tryz.underlying9
  a9:=Tryz.isAgg9
  z9:=Tryz.sizeOf9
  v9:=Tryz.zeroValue9
  t22:=Tryz.underlying22
  a22:=Tryz.isAgg22
  z22:=Tryz.sizeOf22
  v22:=Tryz.zeroValue22
  t25:=Tryz.underlying81
  a25:=Tryz.isAgg81
  z25:=Tryz.sizeOf81
  v25:=Tryz.zeroValue81
  t39:=Tryz.underlying89
  a39:=Tryz.isAgg89
  z39:=Tryz.sizeOf89
  v39:=Tryz.zeroValue89
  t45:=Tryz.underlying122
  a45:=Tryz.isAgg122
  z45:=Tryz.sizeOf122
  v45:=Tryz.zeroValue122
  t46:=Tryz.underlying123
  a46:=Tryz.isAgg123
  z46:=Tryz.sizeOf123
  v46:=Tryz.zeroValue123
  t50:=Tryz.underlying127
  a50:=Tryz.isAgg127
  z50:=Tryz.sizeOf127
  v50:=Tryz.zeroValue127
  t53:=Tryz.underlying130
  a53:=Tryz.isAgg130
  z53:=Tryz.sizeOf130
  v53:=Tryz.zeroValue130
  t55:=Tryz.underlying30
  a55:=Tryz.isAgg30
  z55:=Tryz.sizeOf30
  v55:=Tryz.zeroValue30
  t66:=Tryz.underlying132
  a66:=Tryz.isAgg132
  z66:=Tryz.sizeOf132
  v66:=Tryz.zeroValue132
  t70:=Tryz.underlying136
  a70:=Tryz.isAgg136
  z70:=Tryz.sizeOf136
  v70:=Tryz.zeroValue136
  t76:=Tryz.underlying140
  a76:=Tryz.isAgg140
  z76:=Tryz.sizeOf140
  v76:=Tryz.zeroValue140
  t77:=Tryz.underlying141
  a77:=Tryz.isAgg141
  z77:=Tryz.sizeOf141
  v77:=Tryz.zeroValue141
def encC (c:Coin):List Value:=[sv c.account,sv c.denom,.int .u64 (c.amount.toNat:Int)]
instance instC:Inhabited Coin:=⟨⟨[],[],0⟩⟩
theorem encC_len (c:Coin):(encC c).length=3:=rfl
theorem coin_rep {σ:Nat→Nat} {w:World} {x:Coin} {c:List Value}:tCoin.rep σ w x c↔c=encC x:=by
  constructor
  · rintro ⟨c1, c2, e, h1, c3, c4, e2, h2, h3⟩
    have h1':c1=[sv x.account]:=h1
    have h2':c3=[sv x.denom]:=h2
    have h3':c4=[.int .u64 (x.amount.toNat:Int)]:=h3
    subst h1';subst h2';subst h3';subst e2;exact e
  · intro e;exact⟨[sv x.account],[sv x.denom,.int .u64 (x.amount.toNat:Int)],e,rfl,[sv x.denom],[.int .u64 (x.amount.toNat:Int)],rfl,rfl,rfl⟩
theorem reps_coin {σ:Nat→Nat} {w:World}:∀ {xs:List Coin} {cs:List Value},Reps (tCoin.rep σ w) xs cs↔cs=(xs.map encC).flatten
  | [],cs=>Iff.rfl
  | x :: xs, cs => by
    constructor
    · rintro ⟨c, r, e, hx, hr⟩
      rw[coin_rep.1 hx,reps_coin.1 hr] at e;exact e
    · intro e;exact⟨encC x,(xs.map encC).flatten,e,coin_rep.2 rfl,reps_coin.2 rfl⟩
theorem flat_get:∀(l:List Coin) (t:Nat),t<l.length*3→((l.map encC).flatten)[t]? = (encC (l.getD (t / 3) default))[t % 3]?
  | [],t,h=>by simp at h
  | x :: r, t, h => by
    rw[List.map_cons,List.flatten_cons]
    by_cases c:t<3
    · have h1 : t / 3 = 0 := by omega
      have h2:t % 3=t:=by omega
      rw[List.getElem?_append_left (by rw[encC_len];exact c),h1,h2];rfl
    · have h1 : t / 3 = (t - 3) / 3 + 1 := by omega
      have h2:t % 3=(t - 3) % 3:=by omega
      rw[List.getElem?_append_right (by rw[encC_len];omega),encC_len,flat_get r (t - 3) (by rw[List.length_cons] at h;omega),h1,h2];rfl
theorem flat_len (l:List Coin):((l.map encC).flatten).length=l.length*3:=by
  induction l with
  | nil=>rfl
  | cons x r ih=>rw[List.map_cons,List.flatten_cons,List.length_append,ih,encC_len,List.length_cons];omega
theorem flatK_eq (d:Array Coin):flatK encC 3 d=((d.toList.map encC).flatten).toArray:=by
  refine ext_get! (by simp only[size_flatK,List.size_toArray,flat_len,Array.length_toList]) fun t ht=>?_
  rw[size_flatK] at ht
  rw[get_flatK _ _ _ _ ht]
  have h:=flat_get d.toList t (by rw[Array.length_toList];exact ht)
  have h3:t / 3<d.size:=by omega
  have e:d.toList.getD (t / 3) default=d[t / 3]!:=by
    rw[getElem!_pos d _ h3,List.getD_eq_getElem?_getD,List.getElem?_eq_getElem (by simpa using h3)];simp
  rw[e] at h
  have e2:(((d.toList.map encC).flatten).toArray)[t]! = ((d.toList.map encC).flatten)[t]!:=by simp
  rw[e2,List.getElem!_eq_getElem?_getD,List.getElem!_eq_getElem?_getD,h]
theorem cmpC_lt (x y:Coin):cmpC x y<0↔ltC x y:=by
  unfold cmpC orI ltC klt
  by_cases h:Lib.compareBytes x.account y.account=0
  · rw [if_neg (by simpa using h)]
    have e:=cmp_zero.1 h
    unfold orI
    by_cases h2:Lib.compareBytes x.denom y.denom=0
    · rw[if_neg (by simpa using h2)];unfold orI;rw[h,h2];simp
    · rw[if_pos h2,h];simp[e]
  · rw [if_pos h]
    have:¬ x.account=y.account:=fun e=>h (cmp_zero.2 e)
    simp[this]
theorem lt_c (x y:Coin):ltOf cmpC x y=true↔ltC x y:=by unfold ltOf;rw[decide_eq_true_eq];exact cmpC_lt x y
theorem nlt_c (x y:Coin):ltOf cmpC x y=false↔¬ ltC x y:=by rw[← lt_c];cases ltOf cmpC x y <;> simp
theorem ltC_key {x y z:Coin} (h:ckey x=ckey y) (k:ltC x z):ltC y z:=by
  unfold ckey at h;injection h with h1 h2;unfold ltC at *;rw[h1,h2] at k;exact k
theorem swoC:SWO (ltOf cmpC) where
  irrefl x:=(nlt_c x x).2 (ltC_irr _)
  trans x y z h1 h2:=(lt_c x z).2 (ltC_trans ((lt_c x y).1 h1) ((lt_c y z).1 h2))
  ntrans x y z h1 h2:=(nlt_c x z).2 fun h=>by
    rw[nlt_c] at h1 h2
    by_cases e:ckey x=ckey y
    · exact h2 (ltC_key e h)
    · exact(ltC_tot e).elim h1 fun q=>h2 (ltC_trans q h)
theorem stp_grow {M:Nat→Prop} {σ σ':Nat→Nat} {w w':World} (hM:∀ b,¬ M b) (h:Stp M σ w σ' w'):∃ q os,w'=grow (w.drewN q) os:=by
  refine⟨w'.drawn - w.drawn,w'.heap.extract w.heap.size w'.heap.size,?_⟩
  have h1:=h.os;have h2:=h.tape;have h3:=h.output;have h4:=h.drawn;have h5:=h.size;have h6:=h.block
  obtain⟨H,T,D,O,U⟩:=w
  obtain⟨H',T',D',O',U'⟩:=w'
  simp only at h1 h2 h3 h4 h5 h6
  subst h1;subst h2;subst h3
  unfold grow World.drewN
  have e1:D+(D' - D)=D':=by omega
  have e2:H'=H++H'.extract H.size H'.size:=by
    refine Array.ext (by simp;omega) fun i hi hi2=>?_
    by_cases c:i<H.size
    · have := h6 i c (hM i)
      rw[Array.getElem?_eq_getElem hi,Array.getElem?_eq_getElem c] at this
      rw[Array.getElem_append_left c];injection this
    · rw [Array.getElem_append_right (by omega), Array.getElem_extract]
      congr 1;omega
  simp only[e1]
  rw[← e2]
theorem less_lays (x y:Coin) (W:World):Calls Tryz.prog 41 #[.agg (encC x).toArray,.agg (encC y).toArray] W fun e w'=>e=.returned (.int .i64 (cmpC x y))∧∃ q os',w'=grow (W.drewN q) os':=by
  have h:=(Less_ok x y).2 (fun _=>.bool false) (fun _ _=>False) (fun _=>0) W ⟨fun _=>rfl,fun k e he=>by simp at he,fun k e he=>by simp at he,fun k m b h=>h.elim,fun k b h=>h.elim⟩
  refine Calls.mono h ?_
  rintro e w' ⟨g,ν',F',σ',e1,pk⟩
  exact⟨e1,stp_grow (fun b ⟨i,h⟩=>h) pk.st⟩
section
variable {σ:Nat→Nat} {w:World}
theorem sortV_stp {g:Nat} (hg:g<w.heap.size) (hσ:σ g=0) (m:Nat) (d:Array Value) (os:Array Obj):Stp (· = g) σ w σ (sortWorld id w g 0 m d os):=by
  have hb:∀ b,b<w.heap.size→b≠g→(sortWorld id w g 0 m d os).heap[b]? = w.heap[b]?:=fun b hb hn=>by
    unfold sortWorld
    rw[heap_grow_old _ _ (by rw[size_putRow];exact hb)]
    show(w.heap.modify g _)[b]? = _
    rw[Array.getElem?_modify,if_neg (Ne.symm hn)]
  refine⟨rfl,rfl,rfl,?_,fun b h hn=>hb b h hn,fun _ _ _=>rfl,fun b o h ho=>?_,fun _ _=>Nat.le_refl _,Nat.le_add_right _ _⟩
  · unfold sortWorld;rw[size_grow,size_putRow];exact Nat.le_add_right _ _
  · have hn : b ≠ g := by rintro rfl; rw [hσ] at ho; omega
    exact World.cell?_of_block (hb b h hn)
theorem sortV_row {g:Nat} {cur:Array Value} {e:TypeId} (hg:w.heap[g]? = some (.cells cur e (0,0))) {vs:List Value} (hn:vs.length≤cur.size) (m:Nat) (os:Array Obj) :
    ∃ cur',(sortWorld id w g 0 m vs.toArray os).heap[g]? = some (.cells cur' e (0,0))∧cur'.size=cur.size∧cur'.toList.take vs.length=vs:=by
  have hlt:=(Array.getElem?_eq_some_iff.1 hg).1
  refine⟨putCells id 0 vs.toArray cur,?_,by simp[putCells],?_⟩
  · unfold sortWorld
    rw[heap_grow_old _ _ (by rw[size_putRow];exact hlt)]
    show(w.heap.modify g _)[g]? = _
    rw[Array.getElem?_modify,if_pos rfl,hg];rfl
  · refine List.ext_getElem? fun j => ?_
    rw[List.getElem?_take]
    by_cases hj:j<vs.length
    · rw [if_pos hj, Array.getElem?_toList]
      simp only[putCells,Array.getElem?_mapIdx,Array.getElem?_eq_getElem (show j<cur.size by omega),Option.map_some]
      rw[if_pos ⟨Nat.zero_le _,by simpa using hj⟩,Nat.sub_zero,List.getElem?_eq_getElem hj]
      simp[hj]
    · rw[if_neg hj,List.getElem?_eq_none (by simpa using hj)]
theorem perm_whole {α:Type} [Inhabited α] {d d':Array α} (h:PermIn 0 d.size d d'):d'.toList.Perm d.toList:=by
  have:=h.2.2
  rw[Array.extract_size] at this
  rw[← h.1] at this
  rwa [Array.extract_size] at this
theorem sorted_whole {d':Array Coin} (h:SortedIn (ltOf cmpC) 0 d'.size d'):d'.toList.Pairwise fun x y=>¬ ltC y x:=by
  refine List.pairwise_iff_getElem.2 fun i j hi hj hij=>?_
  have:=h i j (Nat.zero_le _) hij (by simpa using hj)
  rw[getElem!_pos _ j (by simpa using hj),getElem!_pos _ i (by simpa using hi)] at this
  simpa using(nlt_c _ _).1 this
theorem sorted_all {l xs:List Coin} (hp:l.Perm xs) (hn:(xs.map ckey).Nodup) (hs:l.Pairwise fun x y=>¬ ltC y x):l=allL xs:=by
  refine srt_unique (hp.trans (allL_perm xs).symm) ?_ (allL_srt hn)
  have hn2:(l.map ckey).Nodup:=((hp.map ckey).nodup_iff).2 hn
  rw[List.nodup_iff_pairwise_ne,List.pairwise_map] at hn2
  exact(hs.and hn2).imp fun⟨h1,h2⟩=>(ltC_tot h2).resolve_right h1
end
theorem sortC_ok (xs:List Coin) (hl:xs.length≤1000000) (hnd:(xs.map ckey).Nodup):FOk EN 40 ⟨[.mu 32 xs],[.n 0,.f 41 [] []],Unit,fun _=>([.mu 32 (allL xs)],.t []),fun _=>True⟩:=by
  refine⟨by kernel_rfl,fun ν F σ w S=>?_⟩
  obtain⟨⟨cs,ho,hr,hb,hs⟩,hF⟩:=S.ent 0 _ rfl
  rcases ho.2 with⟨hv,h0⟩ | ⟨g,cap,cur,hv,hg,hnc,hcm,hcs,htake⟩
  · have h0' : xs = [] := List.eq_nil_of_length_eq_zero h0
    subst h0'
    have h:=AnyF.slices_SortFunc_none (P:=Tryz.prog) (ρ:=slf_ren) { slf with } none 0 (.func (.func 41) #[] #[]) w
    have ea:(denL ν [SV.n 0,.f 41 [] []]).toArray=#[.slice none 0 0,.func (.func 41) #[] #[]]:=by simp only[denL,den,hv]
    show Calls Tryz.prog 40 (denL ν [SV.n 0,.f 41 [] []]).toArray w _
    rw[ea]
    refine Calls.mono h ?_
    rintro e w' ⟨rfl,rfl⟩
    exact⟨(),ν,F,σ,rfl,trivial,fun _ _=>rfl,Stp.refl _ _ _,S,Nat.le_refl _,fun i b hb=>.inl ⟨i,hb⟩,rfl⟩
  · have hσ := hs g (by rw [hv]; rfl)
    have hlt:=(Array.getElem?_eq_some_iff.1 hg).1
    have hcs0:cs=(xs.map encC).flatten:=reps_coin.1 hr
    have hsz3:(GT.Γ 32).T.sz=3:=rfl
    have hlen:cs.length=xs.length*3:=ho.1
    have hcs':cs.length≤cur.size:=by rw[hlen];exact Nat.le_trans (Nat.mul_le_mul_right 3 hnc) hcs
    have hHolds:HoldsK encC 3 w g 0 xs.toArray:=fun j hj=>by
      rw[flatK_eq] at hj ⊢
      rw[List.toList_toArray,← hcs0] at hj ⊢
      have hj':j<cs.length:=by simpa using hj
      refine⟨?_,by simp[World.frozen?,hg]⟩
      rw[Nat.zero_add,cell_of_row w g j cur _ _ hg,← Array.getElem?_toList]
      have:(cur.toList.take (xs.length*3))[j]? = cs[j]?:=by rw[← htake];rfl
      rw[List.getElem?_take,if_pos (show j<xs.length*3 by omega)] at this
      rw[this,List.getElem?_eq_getElem hj'];simp[hj']
    have eg:∀ args w,(callFunc 41 args).run Tryz.prog w=.ok (.enter 41 args) w:=enters_of Tryz.func41 (by kernel_rfl) rfl
    have hcmp:CmpLays Tryz.prog 41 #[] encC 3 cmpC g 0 xs.toArray.size w:=fun m os dk _ x y=>less_lays x y _
    have h:=AnyQ.slices_SortFunc (P:=Tryz.prog) (ρ:=slf_ren) slf 3 Tryz.isAgg32 Tryz.sizeOf32 encC encC_len (fun x v hv=>by simp only[encC,List.mem_cons,List.not_mem_nil,or_false] at hv;rcases hv with rfl | rfl | rfl <;> rfl) cmpC swoC 41 #[] g 0 cap xs.toArray w eg hcmp hHolds hlt (by simp;omega)
    have ea:(denL ν [SV.n 0,.f 41 [] []]).toArray=#[.slice (some ⟨g,0,none⟩) xs.toArray.size cap,.func (.func 41) #[] #[]]:=by
      simp only[denL,den,hv,List.size_toArray];rfl
    show Calls Tryz.prog 40 (denL ν [SV.n 0,.f 41 [] []]).toArray w _
    rw[ea]
    refine Calls.mono h ?_
    rintro e w' ⟨rfl,d',n,os,hp,hso,rfl⟩
    have hp':=perm_whole hp
    have hsz:d'.size=xs.length:=by rw[hp.1];simp
    rw[show xs.toArray.size=d'.size by rw[hsz];simp] at hso
    have hall:d'.toList=allL xs:=sorted_all hp' hnd (sorted_whole hso)
    have ew:sortWorldK encC 3 w g 0 n d' os=sortWorld id w g 0 n (((allL xs).map encC).flatten).toArray os:=by
      show sortWorld id w g 0 n (flatK encC 3 d') os=_
      rw[flatK_eq,hall]
    rw[ew]
    have hal:(((allL xs).map encC).flatten).length=xs.length*3:=by rw[flat_len,allL_len]
    obtain⟨cur',r1,r2,r3⟩:=sortV_row hg (vs:=((allL xs).map encC).flatten) (by rw[hal,← hlen];exact hcs') n os
    have st:=sortV_stp hlt hσ n (((allL xs).map encC).flatten).toArray os
    have hgF:F 0 g:=hF g (by rw[hv];rfl)
    have hsl:(allL xs).length=xs.length:=allL_len xs
    have hent:(Ent.mu (G:=GT) 32 (allL xs)).holds ν (F 0) σ (sortWorld id w g 0 n (((allL xs).map encC).flatten).toArray os) (ν 0):=by
      refine⟨⟨((allL xs).map encC).flatten,⟨hal.trans (congrArg (· * 3) hsl.symm),.inr ⟨g,cap,cur',hv.trans (congrArg (fun n=>Value.slice (some ⟨g,0,none⟩) n cap) hsl.symm),r1,Nat.le_trans (Nat.le_of_eq hsl) hnc,hcm,Nat.le_trans hcs (Nat.le_of_eq r2.symm),?_⟩⟩,reps_coin.2 rfl,Nat.le_trans (Nat.le_of_eq (congrArg (· * (GT.Γ 32).T.by_) hsl)) hb,hs⟩,hF⟩
      have hk:(allL xs).length*(GT.Γ 32).T.sz=(((allL xs).map encC).flatten).length:=(flat_len _).symm
      exact(congrArg (fun n=>List.take n cur'.toList) hk).trans r3
    obtain⟨ν',F',σ2,w2,q1,q2,q3,q4,q5,q6⟩:=do_set S (n:=0) (by simp) (st.mono fun b _ e=>by subst e;exact hgF) (.mu 32 (allL xs)) hent rfl (run:=fun ν' σ2 w2=>ν'=ν∧σ2=σ∧w2=sortWorld id w g 0 n (((allL xs).map encC).flatten).toArray os) ⟨rfl,rfl,rfl⟩
    obtain⟨rfl,rfl,rfl⟩:=q6
    refine⟨(),_,F',_,rfl,trivial,fun _ _=>rfl,st.mono fun b _ e=>⟨0,by subst e;exact hgF⟩,q4,by simp,fun i b hb=>?_,rfl⟩
    rcases q5 i b hb with⟨_,q⟩ | ⟨_,⟨m,hm,q⟩ | q⟩
    · exact .inl ⟨i,q⟩
    · exact .inl ⟨m,q⟩
    · exact .inr q
end Go.Proofs.YtblnnkkelkjbiaaGreatDoor.X
set_option linter.unusedVariables false
set_option linter.unusedSimpArgs false
namespace Go.Proofs.YtblnnkkelkjbiaaGreatDoor.E
open Go Go.RowKit
theorem rowsIn_of {n:Nat} {P:Program} {row:String} {args:Array Value} {w:World} {R:Value→World→Prop} (h:Rows P row args w R):RowsIn Fence.wide n P row args w R :=
  fun c cs _=>let ⟨v,w',r,s⟩:=h c cs;⟨v,w',r,stepsIn_wide.2 s⟩
def noDef (ops:Array Oper):Bool:=ops.toList.all fun o=>match o.op with | .defer _=>false | _=>true
theorem noDef_at {ops:Array Oper} (h:noDef ops=true) {i:Nat} {o:Oper} (ho:ops[i]? = some o):∀ c,o.op≠.defer c:=by
  intro c e
  have:=List.all_eq_true.1 h o (List.mem_of_getElem? (by rw[Array.getElem?_toList];exact ho))
  rw[e] at this;cases this
theorem uponIn_of {l n:Nat} {P:Program} {o:Oper} {a:Act} {next next':Act→World→Prop} {Q:Exit→Act→World→Prop} (hn:∀ a w,next a w→next' a w) :
    ∀ {r:Result Next},o.upon P a next Q r→o.uponIn (Fence.wide.inRound l) n P a next' Q r:=by
  intro r h
  unfold Oper.upon at h
  split at h
  · exact hn _ _ h
  · exact hn _ _ h
  · exact hn _ _ h
  · refine ⟨fun e => (by cases e), ?_⟩
    have:=callsIn_wide (n:=n - 1) |>.2 h
    refine CallsIn.mono this fun e w' h=>?_
    cases e with
    | returned v=>exact hn _ _ h
    | panicked ch=>exact h
    | outgrown=>exact h
  · exact⟨fun e=>(by cases e),(rowsIn_of h).mono fun v w' h=>hn _ _ h⟩
  · exact h
  · exact h.elim
theorem opsIn {l n:Nat} {P:Program} {ops:Array Oper} {Q:Exit→Act→World→Prop} (hd:noDef ops=true) (hl:¬ LetsOut Q):∀(is:List Nat) (a:Act) (w:World),wpOps P ops Q is a w→wpOpsIn (Fence.wide.inRound l) n P ops Q is a w
  | [],a,w,h=>h
  | i :: rest, a, w, h => by
    simp only[wpOps] at h
    simp only[wpOpsIn]
    cases ho:ops[i]? with
    | none=>simp only[ho] at h ⊢;exact opsIn hd hl rest a w h
    | some o =>
      simp only[ho] at h ⊢
      by_cases hw:Region.wanted o (yielded ops a.tmps)=true
      · simp only [hw, if_true] at h ⊢
        rcases h with h | ⟨_,h⟩
        · refine ⟨fun _ _ => trivial, ?_⟩
          rw[Oper.semAt_eq _ _ _ (noDef_at hd ho)]
          exact uponIn_of (fun a w=>opsIn hd hl rest a w) h
        · exact absurd h hl
      · simp only [hw, Bool.false_eq_true, if_false] at h ⊢
        exact⟨fun _ _=>trivial,opsIn hd hl rest _ _ h⟩
theorem region_in {l n id:Nat} {P:Program} {ops:Array Oper} {Q:Exit→Act→World→Prop} {S:World→Prop} {a:Act} {w:World} (hm:P.follows .mixedOrders=true) (hd:noDef ops=true) (hl:¬ LetsOut Q)
    (h:wpAnyH P .any ops Q S ops.size (Array.replicate ops.size false) a { w with drawn:=w.drawn+1 }):(Code.region id ops true).wpIn (Fence.wide.inRound l) n P Q a w :=
  wpIn_region_draw fun t=>by
    simp only[Region.schedule,hm,Bool.true_or,if_true]
    exact opsIn hd hl _ _ _ (wpAny_sound ops.size t _ a _ (wpAny_of_held _ _ _ _ h))
theorem region_in_list {l n id:Nat} {P:Program} {ops:Array Oper} {Q:Exit→Act→World→Prop} {a:Act} {w:World} (hd:noDef ops=true) (hl:¬ LetsOut Q)
    (h:wpAt P ops Q 0 a w):(Code.region id ops false).wpIn (Fence.wide.inRound l) n P Q a w :=
  wpIn_region (opsIn hd hl _ _ _ (by unfold wpAt at h;rw[List.drop_zero] at h;rw[List.range_eq_range',← Array.length_toList,wpOps_eq_wpList ops.toList 0 (by simp)];exact h))
theorem wpOp_q {P:Program} {ops:Array Oper} {Q Q':Exit→Act→World→Prop} {K K':Act→World→Prop} {i:Nat} {a:Act} {w:World} (hK:∀ a w,K a w→K' a w) (hp:∀ c a w,Q (.panic c) a w→Q' (.panic c) a w) (ho:LetsOut Q→LetsOut Q')
    (h:wpOp P ops Q i K a w):wpOp P ops Q' i K' a w:=by
  unfold wpOp at h ⊢
  split
  · rename_i e;simp only[e] at h;exact hK _ _ h
  · rename_i o e
    simp only[e] at h
    by_cases hw:Region.wanted o (yielded ops a.tmps)=true
    · rw [if_pos hw] at h ⊢
      rcases h with h | ⟨h1,h2⟩
      · refine .inl ?_
        unfold Oper.wp at h ⊢
        unfold Oper.upon at h ⊢
        split at h
        · exact hK _ _ h
        · exact hK _ _ h
        · exact hK _ _ h
        · refine Calls.mono h fun e w' h => ?_
          cases e with
          | returned v=>exact hK _ _ h
          | panicked ch=>exact hp _ _ _ h
          | outgrown=>exact ho h
        · exact Rows.mono h fun v w' h=>hK _ _ h
        · exact hp _ _ _ h
        · exact h.elim
      · exact .inr ⟨h1,ho h2⟩
    · rw[if_neg hw] at h ⊢;exact hK _ _ h
theorem wpPl_stp {P:Program} {ops:Array Oper} {Q:Exit→Act→World→Prop} {M:Nat→Prop}:∀(π:Pl) {σ:Nat→Nat} {a:Act} {w:World},wpPl P ops Q M π σ a w →
    wpPl P ops (fun e a' w'=>Q e a' w'∧(e=.normal→∃ σ',Stp M σ w σ' w')) M π σ a w:=by
  intro π
  have gen:∀(π:Pl) {σ0 σ:Nat→Nat} {a:Act} {w0 w:World},Stp M σ0 w0 σ w→wpPl P ops Q M π σ a w→wpPl P ops (fun e a' w'=>Q e a' w'∧(e=.normal→∃ σ',Stp M σ0 w0 σ' w')) M π σ a w:=by
    intro π
    have lo:∀ {σ0:Nat→Nat} {w0:World},LetsOut Q→LetsOut (fun e a' w'=>Q e a' w'∧(e=.normal→∃ σ',Stp M σ0 w0 σ' w')):=fun⟨a,w,h⟩=>⟨a,w,h,fun e=>by cases e⟩
    have pn:∀ {σ0:Nat→Nat} {w0:World} (c:List PanicEntry) (a:Act) (w:World),Q (.panic c) a w→Q (.panic c) a w∧((.panic c:Exit)=.normal→∃ σ',Stp M σ0 w0 σ' w):=fun c a w h=>⟨h,fun e=>by cases e⟩
    induction π with
    | e=>intro σ0 σ a w0 w st h;exact⟨h,fun _=>⟨σ,st⟩⟩
    | f i r ih =>
      intro σ0 σ a w0 w st h
      obtain⟨o,v,h1,h2,h3,h4⟩:=h
      exact⟨o,v,h1,h2,fun c a w q=>⟨h3 c a w q.1,fun e=>by cases e⟩,ih st h4⟩
    | o i r ih =>
      intro σ0 σ a w0 w st h
      exact wpOp_q (fun a' w' ⟨σ',s,k⟩=>⟨σ',s,ih (st.trans s fun b _ e=>e.elim id id) k⟩) pn lo h
    | c i r alt ih ih2 =>
      intro σ0 σ a w0 w st h
      exact⟨wpOp_q (fun a' w' ⟨σ',s,k⟩=>⟨σ',s,ih (st.trans s fun b _ e=>e.elim id id) k⟩) pn lo h.1,ih2 st h.2⟩
  exact fun {σ a w} h=>gen π (Stp.refl M σ w) h
/-- Only blocks of NW, and new ones, have turned. -/
structure Frn (NW:List Nat) (w w':World):Prop where
  os:w'.os=w.os
  tape:w'.tape=w.tape
  output:w'.output=w.output
  size:w.heap.size≤w'.heap.size
  block:∀ b,b<w.heap.size→b∉NW→w'.heap[b]? = w.heap[b]?
  drawn:w.drawn≤w'.drawn
theorem Frn.refl (NW:List Nat) (w:World):Frn NW w w:=⟨rfl,rfl,rfl,Nat.le_refl _,fun _ _ _=>rfl,Nat.le_refl _⟩
theorem Frn.put {NW:List Nat} {w:World} {b:Nat} (o:Obj) (h:b∈NW):Frn NW w (w.putObj b o) :=
  ⟨rfl,rfl,rfl,by simp,fun k _ hk=>World.putObj_heap_other (fun e=>hk (e ▸ h)),Nat.le_refl _⟩
theorem Frn.alloc (NW:List Nat) (w:World) (o:Obj):Frn NW w (w.alloc o) :=
  ⟨rfl,rfl,rfl,by simp,fun b hb _=>Below.heap_alloc w o b hb,Nat.le_refl _⟩
def Fix (bs:List Nat) (w w':World):Prop:=∀ b∈bs,w'.heap[b]? = w.heap[b]?
theorem Fix.refl (bs:List Nat) (w:World):Fix bs w w:=fun _ _=>rfl
theorem Fix.trans {bs:List Nat} {a b c:World} (h:Fix bs a b) (k:Fix bs b c):Fix bs a c:=fun x hx=>(k x hx).trans (h x hx)
theorem Fix.sub {bs cs:List Nat} {a b:World} (h:Fix bs a b) (s:∀ x∈cs,x∈bs):Fix cs a b:=fun x hx=>h x (s x hx)
/-- An invariant that knows its own blocks: those of NW may turn, and new ones may come. -/
def Clo (I:List Nat→List Value→World→Prop):Prop :=
  ∀ NW NW' s w w',I NW s w→Frn NW w w'→(∀ b∈NW',b∈NW∨(w.heap.size≤b∧b<w'.heap.size))→I NW' s w'
def IterOk (P:Program) (kf:Nat) (lb:List Value) (bs:List Nat) (ks:List Value) (w0:World):Prop :=
  ∀ (l : Nat) (I : List Nat → List Value → World → Prop) (NW : List Nat) (w : World), Clo I → I NW [] w → l ∈ NW → Fix bs w0 w → (∀ b ∈ bs, b ∉ NW) → (∀ b ∈ bs ++ NW, b < w.heap.size) →
    (∀ NW' pre x rest w1,I NW' pre w1→(pre++x::rest).Perm ks→Fix (bs++NW) w w1→(∀ b∈NW,b∈NW')→(∀ b∈NW',b<w1.heap.size∧b∉bs) →
      YieldAt Fence.wide 0 P l #[x] w1 fun e w2=>e=.returned (.bool true)∧I NW' (pre++[x]) w2∧Fix (bs++NW') w1 w2) →
    CallsIn Fence.wide 0 P kf ((.func (.yield l) #[] #[]::lb).toArray) w fun e w'=>(∃ v,e=.returned v)∧∃ NW' xs,xs.Perm ks∧I NW' xs w'∧Fix (bs++NW) w w'∧(∀ b∈NW,b∈NW')
theorem range_law {P:Program} {g:Operand} {p:Tmp} {assign body:Code} {Q:Exit→Act→World→Prop} {a:Act} {w:World} {kf:Nat} {lb:List Value} {bs:List Nat} {ks:List Value}
    {I:List Nat→List Value→World→Prop} {A:List Nat→List Value→Value→Act→World→Prop}
    (hg:a.eval g=.func (.func kf) #[] lb.toArray) (hc:callable P kf=true) (hI:Clo I) (hA:∀ NW pre x a1 w2 w3,A NW pre x a1 w2→Frn NW w2 w3→A NW pre x a1 w3)
    (h0:I [] [] w) (hbs:∀ b∈bs,b<w.heap.size) (it:IterOk P kf lb bs ks w)
    (hassign:∀ l NW pre x rest w1,I NW pre w1→(pre++x::rest).Perm ks→Fix bs w w1→(∀ b∈NW,b∉bs) →
      assign.wpIn (Fence.wide.inRound l) 0 P (Exit.then (fun a1 w2=>A NW pre x a1 w2∧Fix (bs++NW) w1 w2) (fun _ _ _=>False)) { tmps:=a.tmps.setIfInBounds p x,defers:=[] } w1)
    (hbody:∀ l NW pre x rest a1 w3,A NW pre x a1 w3→(pre++x::rest).Perm ks→(∀ b∈NW,b∉bs) →
      body.wpIn (Fence.wide.inRound l) 0 P (fun e a4 w4=>e=.normal∧I NW (pre++[x]) w4∧Fix (bs++NW) w3 w4) a1 w3)
    (hdone:∀ D NW xs w',xs.Perm ks→I NW xs w'→D∈NW→w.heap.size≤D→w'.heap[D]? = some (.deferred (some []))→Fix bs w w'→Q .normal { a with defers:={ target:=.collected D,args:=#[] }::a.defers } w') :
    (Code.rangeFunc g #[p] assign body).wp P Q a w:=by
  refine(wpIn_wide (n:=0)).1 (wpIn_rangeFunc ?_)
  intro fn hfn
  obtain⟨rec,hrec⟩:∃ rec:LoopState→Option Code→Loop,rec=fun st pe=>{ state:=st,pending:=pe,fn,tmps:=a.tmps,params:=#[p],assign,body,defers:=w.heap.size }:=⟨_,rfl⟩
  obtain⟨W1,hW1⟩:∃ W1,(w.alloc (.deferred (some []))).alloc (.loop (rec .ready none))=W1:=⟨_,rfl⟩
  have hL1:W1.heap[w.heap.size+1]? = some (.loop (rec .ready none)):=by
    rw[← hW1];have:=World.alloc_heap_new (w.alloc (.deferred (some []))) (.loop (rec .ready none));rwa [World.size_alloc] at this
  have hK1:W1.heap[w.heap.size]? = some (.deferred (some [])):=by
    rw[← hW1];exact(Below.heap_alloc _ _ _ (by simp)).trans (World.alloc_heap_new w _)
  have hs1:W1.heap.size=w.heap.size+2:=by rw[← hW1];simp
  have hold:∀ b,b<w.heap.size→W1.heap[b]? = w.heap[b]?:=fun b hb=>by
    rw[← hW1];exact(Below.heap_alloc _ _ _ (by simp;omega)).trans (Below.heap_alloc _ _ _ hb)
  have hfr:Frn [] w W1:=⟨by rw[← hW1];rfl,by rw[← hW1];rfl,by rw[← hW1];rfl,by omega,fun b hb _=>hold b hb,by rw[← hW1];exact Nat.le_refl _⟩
  have hI1:I [w.heap.size+1,w.heap.size] [] W1:=hI [] _ [] w W1 h0 hfr fun b hb=>by
    simp only[List.mem_cons,List.not_mem_nil,or_false] at hb
    right;rcases hb with rfl | rfl <;> omega
  have hbn:∀ b∈bs,b∉[w.heap.size+1,w.heap.size]:=fun b hb hm=>by
    have:=hbs b hb
    simp only[List.mem_cons,List.not_mem_nil,or_false] at hm
    omega
  refine⟨w.heap.size+1,[{ target:=.collected w.heap.size,args:=#[] }],W1,{ target:=.fn (.func kf) lb.toArray,args:=#[.func (.yield (w.heap.size+1)) #[] #[]] },W1,kf,
    (.func (.yield (w.heap.size+1)) #[] #[]::lb).toArray,W1,?_,?_,fun _ _=>trivial,?_,fun e=>(by cases e),?_⟩
  · rw[← hW1,hrec];exact run_enterLoop_outer _ _ _ _ _
  · simp only [resolve, hg]
    simp[go_sem]
  · have e : #[.func (.yield (w.heap.size + 1)) #[] #[]] ++ lb.toArray = (Value.func (.yield (w.heap.size + 1)) #[] #[] :: lb).toArray := by simp
    simp only[invoke,e]
    exact run_callFunc hc _ _
  · have hcall:=it (w.heap.size+1) I [w.heap.size+1,w.heap.size] W1 hI hI1 (by simp) (fun b hb=>hold b (hbs b hb)) hbn (fun b hb=>by
      rcases List.mem_append.1 hb with hb | hb
      · have:=hbs b hb;omega
      · simp only[List.mem_cons,List.not_mem_nil,or_false] at hb;omega) ?_
    · refine CallsIn.mono hcall ?_
      rintro e w2 ⟨⟨v,rfl⟩,NW',xs,hp,hi,hf,hsub⟩
      have hl2:w2.heap[w.heap.size+1]? = some (.loop (rec .ready none)):=(hf _ (by simp)).trans hL1
      have hk2:w2.heap[w.heap.size]? = some (.deferred (some [])):=(hf _ (by simp)).trans hK1
      have hend:=run_endLoop (P:=P) hl2 (by rw[hrec];simp)
      have hmem:w.heap.size+1∈NW':=hsub _ (by simp)
      refine⟨none,_,by rw[hrec] at hend;exact hend,?_⟩
      refine hdone w.heap.size NW' xs _ hp (hI _ _ _ _ _ hi (Frn.put _ hmem) fun b hb=>.inl hb) (hsub _ (by simp)) (Nat.le_refl _) ((World.putObj_heap_other (by omega)).trans hk2) fun b hb=>?_
      rw[World.putObj_heap_other (by have:=hbs b hb;omega)]
      exact(hf b (List.mem_append_left _ hb)).trans (hold b (hbs b hb))
    · intro NW' pre x rest w1 hi hp hf hsub hn
      have hl:w1.heap[w.heap.size+1]? = some (.loop (rec .ready none)):=(hf _ (by simp)).trans hL1
      have hmem:w.heap.size+1∈NW':=hsub _ (by simp)
      have hbl:w.heap.size+1∉bs:=fun e=>by have:=hbs _ e;omega
      have hy:=run_yield (P:=P) (args:=#[x]) hl (by rw[hrec];rfl)
      rw[hrec] at hy
      refine⟨fn,_,assign,body,hy,roundIn_of_wpIn hfn ?_⟩
      have hzip:((#[p]:Array Tmp).zip #[x]).foldl (fun(t:Array Value) (q:Tmp × Value)=>t.setIfInBounds q.1 q.2) a.tmps=a.tmps.setIfInBounds p x:=by simp
      have hz:((#[p]:Array Tmp).zip #[x]).foldl (fun(tmps:Array Value) (x:Tmp × Value)=>match x with | (t,a)=>tmps.setIfInBounds t a) a.tmps=a.tmps.setIfInBounds p x:=hzip
      rw[hz]
      refine wpIn_mono (hassign _ NW' pre x rest w1 hi hp (fun b hb=>((hf b (List.mem_append_left _ hb)).trans (hold b (hbs b hb)))) fun b hb=>(hn b hb).2) ?_
      rintro e a1 w2 he
      cases e with
      | normal =>
        obtain⟨ha,hf2⟩:=he
        have hl2:w2.heap[w.heap.size+1]? = some (.loop (rec .ready none)):=(hf2 _ (List.mem_append_right _ hmem)).trans hl
        have hlt:w.heap.size+1<w2.heap.size:=(Array.getElem?_eq_some_iff.1 hl2).1
        refine⟨_,run_beginRound hl2 (by rw[hrec]),?_⟩
        refine wpIn_mono (hbody _ NW' pre x rest a1 _ (hA _ _ _ _ _ _ ha (Frn.put _ hmem)) hp fun b hb=>(hn b hb).2) ?_
        rintro e a4 w4 ⟨rfl,hi4,hf4⟩
        have hl4:w4.heap[w.heap.size+1]? = some (.loop { rec .ready none with state:=.busy }):=(hf4 _ (List.mem_append_right _ hmem)).trans (World.putObj_heap_same hlt)
        have hlt4:w.heap.size+1<w4.heap.size:=(Array.getElem?_eq_some_iff.1 hl4).1
        have hend:=run_endRound (P:=P) none hl4
        have hobj:Obj.loop { ({ rec .ready none with state:=.busy }:Loop) with state:=if(none:Option Code).isNone then .ready else .done,pending:=none }=.loop (rec .ready none):=by rw[hrec];rfl
        rw[hobj] at hend
        refine⟨_,_,hend,rfl,hI _ _ _ _ _ hi4 (Frn.put _ hmem) (fun b hb=>.inl hb),fun b hb=>?_⟩
        by_cases e:b=w.heap.size+1
        · subst e;rw[World.putObj_heap_same hlt4,hl]
        · rw [World.putObj_heap_other e, hf4 b hb, World.putObj_heap_other e]
          exact hf2 b hb
      | exit id=>exact he.elim
      | goto t=>exact he.elim
      | ret=>exact he.elim
      | panic ch=>exact he.elim
      | outgrown=>exact he.elim
end Go.Proofs.YtblnnkkelkjbiaaGreatDoor.E
set_option linter.unusedVariables false
set_option linter.unusedSimpArgs false
set_option maxRecDepth 100000
namespace Go.Proofs.YtblnnkkelkjbiaaGreatDoor.X
open Go Go.RowKit Go.Proofs Go.Proofs.YtblnnkkelkjbiaaGreatDoor.E
open Go.ChangeMaps
theorem wpListIn_range_x {F:Fence} {n:Nat} {P:Program} (w:World) {ops:Array Oper} {rest:List Oper} {o:Oper} {a:Go.Act} {Q:Exit→Go.Act→World→Prop} (hg:o.guard=none) (m:Operand) (t:TypeId) (hop:o.op=Op.range t m) (k e:TypeId) (ht:P.underlying t=some (.map k e)) (b:Nat) (es:Array MapEntry) (clock:Nat)
    (hm:a.eval m=.map (some b)) (hb:w.heap[b]? = some (.map es clock))
    (hK:wpListIn F n P ops Q rest (a.put o.dst (.pointer (some ⟨w.heap.size,0,none⟩))) (w.alloc (.mapIter (some b) clock #[] clock))) :
    wpListIn F n P ops Q (o::rest) a w:=by
  refine wpListIn_plain hg fun K' hK'=>?_
  unfold Oper.wpIn
  refine⟨by simp[Oper.about,hop],?_⟩
  rw[Oper.semAt_plain F _ _ (by rw[hop];intro c hc';cases hc')]
  simp[execOp,hop,hm,run_range_map w t k e b es clock ht hb,Result.andThen]
  exact hK' _ _ hK
theorem wpListIn_next_x {F:Fence} {n:Nat} {P:Program} (w:World) {ops:Array Oper} {rest:List Oper} {o:Oper} {a:Go.Act} {Q:Exit→Go.Act→World→Prop} (hg:o.guard=none) (it:Operand) (hop:o.op=Op.next it false) (r b since c0:Nat) (seen:Array Nat) (es:Array MapEntry) (clock:Nat)
    (hit:a.eval it=.pointer (some ⟨r,0,none⟩)) (hr:w.heap[r]? = some (.mapIter (some b) since seen c0)) (hb:w.heap[b]? = some (.map es clock)) (hold:∀ x∈es.toList,x.born<since) (hsc:since≤c0)
    (hDone:(leftOf es seen).size=0→wpListIn F n P ops Q rest (a.put o.dst (.tuple #[.bool false])) w)
    (hMore:∀(e:MapEntry) (w1:World),e∈(leftOf es seen).toList→(w1=w∨w1=w.drew)→wpListIn F n P ops Q rest (a.put o.dst (.tuple #[.bool true,e.key,e.val])) (setBlock w1 r (.mapIter (some b) since (seen.push e.born) clock))) :
    wpListIn F n P ops Q (o::rest) a w:=by
  refine wpListIn_plain hg fun K' hK'=>?_
  unfold Oper.wpIn
  refine⟨by simp[Oper.about,hop],?_⟩
  rw[Oper.semAt_plain F _ _ (by rw[hop];intro c hc';cases hc')]
  rcases run_next_at (P:=P) w o.type r b since c0 seen es clock hr hb hold hsc with⟨h0,hrun⟩ | ⟨e,he,w1,h1,hrun⟩
  · simp [execOp, hop, hit, hrun, Result.andThen]
    exact hK' _ _ (hDone h0)
  · simp [execOp, hop, hit, hrun, Result.andThen]
    exact hK' _ _ (hMore e w1 he h1)
theorem filt_perm {e:MapEntry}:∀ {L:List MapEntry},(L.map (·.born)).Nodup→e∈L→L.Perm (e::L.filter fun x=>decide (x.born≠e.born))
  | [],_,h=>by cases h
  | x :: r, hn, h => by
    rw[List.map_cons,List.nodup_cons] at hn
    rcases List.mem_cons.1 h with rfl | h
    · rw [List.filter_cons_of_neg (by simp)]
      refine List.Perm.cons _ ?_
      rw[List.filter_eq_self.2]
      intro y hy
      exact decide_eq_true fun q=>hn.1 (List.mem_map.2 ⟨y,hy,q⟩)
    · have hx : x.born ≠ e.born := fun q => hn.1 (List.mem_map.2 ⟨e, h, q.symm⟩)
      have e2:(x::r).filter (fun(y:MapEntry)=>decide (y.born≠e.born))=x::r.filter (fun(y:MapEntry)=>decide (y.born≠e.born)):=by simp[hx]
      rw[e2]
      exact((filt_perm hn.2 h).cons x).trans (.swap ..)
theorem left_step {es:Array MapEntry} {seen:Array Nat} {e:MapEntry} (hnd:(es.toList.map (·.born)).Nodup) (he:e∈(leftOf es seen).toList):(leftOf es seen).toList.Perm (e::(leftOf es (seen.push e.born)).toList):=by
  have e1:(leftOf es (seen.push e.born)).toList=(leftOf es seen).toList.filter fun x=>decide (x.born≠e.born):=by
    unfold leftOf
    rw[Array.toList_filter,Array.toList_filter,List.filter_filter]
    refine List.filter_congr fun x _=>?_
    by_cases q:x.born=e.born <;> simp[q]
  rw[e1]
  refine filt_perm ?_ he
  unfold leftOf;rw[Array.toList_filter]
  exact hnd.sublist (List.filter_sublist.map _)
set_option maxHeartbeats 1000000 in
theorem keys1_iter {mb bm clock:Nat} {es:Array MapEntry} {w0:World} (hm:w0.cell? ⟨mb,0,none⟩=some (.map (some bm))) (hb:w0.heap[bm]? = some (.map es clock)) (hbl:∀ x∈es.toList,x.born<clock) (hnd:(es.toList.map (·.born)).Nodup)
    (hkey:∀ x∈es.toList,∃ s t:ByteArray,x.key=.agg #[.string s,.string t]):IterOk Tryz.prog 56 [.pointer (some ⟨mb,0,none⟩)] [mb,bm] (es.toList.map (·.key)) w0:=by
  intro l I NW w hI h0 hl hfix hdis hlt hY
  have hm':w.cell? ⟨mb,0,none⟩=some (.map (some bm)):=(World.cell?_of_block (hfix mb (by simp))).trans hm
  have hb':w.heap[bm]? = some (.map es clock):=(hfix bm (by simp)).trans hb
  have u54:=run_underlying Tryz.underlying52
  refine callsIn_of_wp (n:=0) Tryz.func56 rfl trivial ?_
  simp only[Tryz.ntmps56,List.size_toArray,List.length_cons,List.length_nil,Nat.reduceAdd,Nat.reduceSub,Array.replicate_succ,Array.replicate_zero,List.push_toArray,List.append_toArray,List.nil_append,List.cons_append]
  gi_wp2_with (first
    | (gi_at_range;refine wpListIn_range_x _ rfl _ 52 rfl 57 30 Tryz.underlying52 bm es clock rfl hb' ?_)
    | gi_in)
  go_frame
  have hW1:(w.alloc (.mapIter (some bm) clock #[] clock)).heap[w.heap.size]? = some (.mapIter (some bm) clock #[] clock):=(MapKept.heap_alloc w _).1
  gi_loopw [3] (fun _ wr=>∃(NW':List Nat) (cons:List MapEntry) (seen:Array Nat) (c0:Nat),wr.heap[w.heap.size]? = some (.mapIter (some bm) clock seen c0)∧clock≤c0∧(cons++(leftOf es seen).toList).Perm es.toList∧I NW' (cons.map (·.key)) wr∧Fix ([mb,bm]++NW) w wr∧(∀ b∈NW,b∈NW')∧w.heap.size∈NW'∧(∀ b∈NW',b<wr.heap.size∧b∉[mb,bm]))
    (fun _ wr=>match wr.heap[w.heap.size]? with | some (.mapIter _ _ seen _)=>(leftOf es seen).size | _=>0)
  case atStart =>
    refine⟨w.heap.size::NW,[],#[],clock,hW1,Nat.le_refl _,?_,?_,fun b hb=>?_,fun b hb=>List.mem_cons_of_mem _ hb,List.mem_cons_self ..,fun b hb=>?_⟩
    · have e1 : (leftOf es #[]).toList = es.toList := by unfold leftOf; rw [Array.toList_filter]; exact List.filter_eq_self.2 fun x _ => by simp
      rw[e1];exact List.Perm.refl _
    · refine hI NW _ [] w _ h0 (Frn.alloc _ _ _) fun b hb => ?_
      rcases List.mem_cons.1 hb with rfl | hb
      · exact .inr ⟨Nat.le_refl _,by simp⟩
      · exact .inl hb
    · exact Below.heap_alloc _ _ _ (hlt b hb)
    · rcases List.mem_cons.1 hb with rfl | hb
      · exact⟨by simp,fun e=>Nat.lt_irrefl _ (hlt _ (List.mem_append_left _ e))⟩
      · exact⟨by have:=hlt b (List.mem_append_right _ hb);simp;omega,fun e=>hdis b e hb⟩
  case round =>
    obtain⟨NW',cons,seen,c0,hr,hc,hp,hi,hf,hsub,hmem,hn⟩:=hrel
    have hbr:wr.heap[bm]? = some (.map es clock):=(hf bm (by simp)).trans hb'
    have hmu:(match wr.heap[w.heap.size]? with | some (.mapIter _ _ seen _)=>(leftOf es seen).size | _=>0)=(leftOf es seen).size:=by rw[hr]
    rw[hmu]
    gi_wp2_with (first
      | (gi_at_next;refine wpListIn_next_x _ rfl _ rfl w.heap.size bm clock c0 seen es clock rfl hr hbr hbl hc ?_ ?_)
      | gi_in)
    · intro hz
      gi_wp2
      go_end0
      have h1:(leftOf es seen).toList=[]:=by first | (rw[hz]) | (rw[Array.eq_empty_of_size_eq_zero hz])
      rw[h1,List.append_nil] at hp
      exact⟨⟨_,rfl⟩,NW',_,hp.map _,hi,hf,hsub⟩
    · intro e w1 he hw1
      have he:e∈(leftOf es seen).toList:=by simpa using he
      have hes:e∈es.toList:=by unfold leftOf at he;rw[Array.toList_filter] at he;exact(List.mem_filter.1 he).1
      obtain⟨s,t,hk⟩:=hkey e hes
      have hrlt:w.heap.size<w1.heap.size:=by
        have:=(Array.getElem?_eq_some_iff.1 hr).1
        rcases hw1 with rfl | rfl <;> exact this
      generalize hW2:setBlock w1 w.heap.size (.mapIter (some bm) clock (seen.push e.born) clock)=W2
      have h2r:W2.heap[w.heap.size]? = some (.mapIter (some bm) clock (seen.push e.born) clock):=by rw[← hW2];simp[setBlock,hrlt]
      have h2o:∀ b,b≠w.heap.size→W2.heap[b]? = wr.heap[b]?:=fun b hb=>by
        rw[← hW2];show(w1.heap.setIfInBounds _ _)[b]? = _
        rw[Array.getElem?_setIfInBounds_ne (Ne.symm hb)]
        rcases hw1 with rfl | rfl <;> rfl
      have h2b:W2.heap[bm]? = some (.map es clock):=(h2o bm (fun e=>by have:=hlt bm (by simp);omega)).trans hbr
      have hen:=run_entry_at (P:=Tryz.prog) W2 w.heap.size bm clock seen es clock e h2r h2b hes hnd
      rw[hk] at hen ⊢
      gi_wp2
      have hsz:W2.heap.size=wr.heap.size:=by rw[← hW2];rcases hw1 with rfl | rfl <;> exact Array.size_setIfInBounds ..
      have hdr:wr.drawn≤W2.drawn:=by
        rw[← hW2];rcases hw1 with rfl | rfl
        · exact Nat.le_refl _
        · exact Nat.le_succ _
      have hrl:w.heap.size<wr.heap.size:=(Array.getElem?_eq_some_iff.1 hr).1
      have hls:=left_step hnd he
      have hp2:(cons++e::(leftOf es (seen.push e.born)).toList).Perm es.toList:=((hls.append_left cons).symm).trans hp
      have hold3:∀ b,b<wr.heap.size→b≠w.heap.size→(W2.alloc (.cells #[.string s,.string t] 57)).heap[b]? = wr.heap[b]?:=fun b hb hne=>(Below.heap_alloc _ _ _ (by omega)).trans (h2o b hne)
      have hI3:I (W2.heap.size::NW') (cons.map (·.key)) (W2.alloc (.cells #[.string s,.string t] 57)):=by
        refine hI NW' _ _ wr _ hi ⟨by rw[← hW2];rcases hw1 with rfl | rfl <;> rfl,by rw[← hW2];rcases hw1 with rfl | rfl <;> rfl,by rw[← hW2];rcases hw1 with rfl | rfl <;> rfl,by simp;omega,fun b hb hm=>hold3 b hb fun q=>hm (q ▸ hmem),hdr⟩ fun b hb=>?_
        rcases List.mem_cons.1 hb with rfl | hb
        · exact .inr ⟨by omega,by simp⟩
        · exact .inl hb
      have hx:(cons.map (·.key)++(Value.agg #[.string s,.string t])::(leftOf es (seen.push e.born)).toList.map (·.key)).Perm (es.toList.map (·.key)):=by
        have:=hp2.map (·.key)
        rw[List.map_append,List.map_cons,hk] at this;exact this
      have hbs:∀ b∈[mb,bm]++NW,b<wr.heap.size∧b≠w.heap.size:=fun b hb=>⟨by
        rcases List.mem_append.1 hb with h | h
        · have:=hlt b hb;omega
        · exact(hn b (hsub b h)).1,fun q=>by have:=hlt b hb;omega⟩
      have hf3:Fix ([mb,bm]++NW) w (W2.alloc (.cells #[.string s,.string t] 57)):=fun b hb=>(hold3 b (hbs b hb).1 (hbs b hb).2).trans (hf b hb)
      obtain⟨fn,tmps,assign,body,hy,hR⟩:=hY (W2.heap.size::NW') (cons.map (·.key)) (.agg #[.string s,.string t]) _ _ hI3 hx hf3 (fun b hb=>List.mem_cons_of_mem _ (hsub b hb)) (fun b hb=>by
        rcases List.mem_cons.1 hb with rfl | hb
        · exact⟨by simp,fun q=>by have:=(hbs _ (List.mem_append_left _ q)).1;omega⟩
        · exact⟨by have:=(hn b hb).1;simp;omega,(hn b hb).2⟩)
      rw[hy]
      refine⟨fun q=>(by cases q),hR.mono ?_⟩
      rintro e' W4 ⟨rfl,hi4,hf4⟩
      have h4r:W4.heap[w.heap.size]? = some (.mapIter (some bm) clock (seen.push e.born) clock):=by
        rw[hf4 _ (List.mem_append_right _ (List.mem_cons_of_mem _ hmem)),Below.heap_alloc _ _ _ (by omega)];exact h2r
      gi_wp2
      go_roundw
      case rel =>
        refine⟨W2.heap.size::NW',cons++[e],seen.push e.born,clock,h4r,Nat.le_refl _,by rw[List.append_assoc];exact hp2,by rw[List.map_append];rw[← hk] at hi4;exact hi4,fun b hb=>?_,fun b hb=>List.mem_cons_of_mem _ (hsub b hb),List.mem_cons_of_mem _ hmem,fun b hb=>?_⟩
        · have:b∈[mb,bm]++(W2.heap.size::NW'):=by
            rcases List.mem_append.1 hb with h | h
            · exact List.mem_append_left _ h
            · exact List.mem_append_right _ (List.mem_cons_of_mem _ (hsub b h))
          exact(hf4 b this).trans (hf3 b hb)
        · have hq:∃ o,(W2.alloc (.cells #[.string s,.string t] 57)).heap[b]? = some o:=by
            have:b<(W2.alloc (.cells #[.string s,.string t] 57)).heap.size:=by
              rcases List.mem_cons.1 hb with rfl | hb
              · simp
              · have:=(hn b hb).1;simp;omega
            exact⟨_,Array.getElem?_eq_getElem this⟩
          obtain⟨o,ho⟩:=hq
          refine⟨(Array.getElem?_eq_some_iff.1 ((hf4 b (List.mem_append_right _ hb)).trans ho)).1,?_⟩
          rcases List.mem_cons.1 hb with rfl | hb
          · exact fun q=>by have:=(hbs _ (List.mem_append_left _ q)).1;omega
          · exact(hn b hb).2
      case measure =>
        rw[h4r]
        have h1:(leftOf es seen).size=(leftOf es (seen.push e.born)).size+1:=by
          have:=hls.length_eq
          rw[List.length_cons,Array.length_toList,Array.length_toList] at this;exact this
        show(leftOf es (seen.push e.born)).size<(leftOf es seen).size
        omega
end Go.Proofs.YtblnnkkelkjbiaaGreatDoor.X
set_option linter.unusedVariables false
set_option linter.unusedSimpArgs false
namespace Go.Proofs.YtblnnkkelkjbiaaGreatDoor.X
open Go Go.RowKit Go.Proofs.YtblnnkkelkjbiaaGreatDoor.E
variable {G:Tys}
/-- What is said from a world on: the names that were there stand. -/
def rX (X:Cx G) (w:World) (σ:Nat→Nat) (F:Nat→Nat→Prop) (n:Nat) (ν:NV):Cx G :=
  { X with w0:=w,σ0:=σ,M0:=fun b=>∃ k,F k b,np:=n,ν0:=ν,Q:=fun _ _ _=>False,pn:=fun _ _ _ _ _ h=>h }
def NWok (X:Cx G) (NW:List Nat) (F:Nat→Nat→Prop) (σ:Nat→Nat) (w:World):Prop:=∀ b∈NW,X.w0.heap.size≤b∧b<w.heap.size∧σ b=0∧∀ k,¬ F k b
/-- A part that ends in one state. -/
def doneCx (X:Cx G) (st:St G):Cx G:={ X with Q:=fun e a w=>e=.normal∧∃ ν F σ,SatSt X ν F σ a w st,pn:=fun _ _ _ _ _ h=>by cases h.1 }
section
variable {X:Cx G} {ν ν':NV} {F F':Nat→Nat→Prop} {σ σ':Nat→Nat} {a a':Go.Act} {w w':World} {s s':St G} {c:Cfg G}
theorem v_doneL {st:St G} (V:Prop) (hV:V) (h:evRun (doneCx X st) c=V:=by kernel_rfl) (ht:(match(nxt (doneCx X st) c).top,(nxt (doneCx X st) c).k with | .exit .nm,[]=>true | _,_=>false)=true:=by kernel_rfl)
    (hl:(st.l.map fun p=>(nxt (doneCx X st) c).st.l.lookup p.1)=st.l.map fun p=>some p.2:=by kernel_rfl) (hH:(nxt (doneCx X st) c).st.H=st.H:=by kernel_rfl):VC (doneCx X st) c:=by
  refine run_ok (by rw[h];exact hV) ⟨fun ν F σ a w hs=>?_⟩
  split at ht
  · rename_i e1 e2
    rw[e1,e2]
    have S':Sat ν F σ w st.H:=hH ▸ hs.S
    refine⟨rfl,ν,F,σ,S',hs.d,hs.sz,fun t x hx=>?_,hs.st,hs.pm,by rw[← hH];exact hs.np,hs.ag⟩
    have hm:=lookup_mem hx
    obtain⟨i,hi,hi2⟩:=List.mem_iff_getElem.1 hm
    have:=congrArg (fun q=>q[i]?) hl
    simp only[List.getElem?_map,List.getElem?_eq_getElem hi,Option.map_some,hi2,Option.some.injEq] at this
    rw[← hH];exact hs.sl t x this
  · cases ht
/-- On from where one state is. -/
theorem v_at (c':Cfg G) (V:Prop) (hV:V) (K:VC X c') (h:evRun X c=V:=by kernel_rfl) (hc:nxt X c=c':=by kernel_rfl):VC X c:=by
  refine run_ok (by rw[h];exact hV) ?_
  rw[hc];exact K
theorem SatSt.base (h:SatSt X ν F σ a w s):SatSt (rX X w σ F s.H.length ν) ν F σ a w s:=⟨h.S,h.d,h.sz,h.sl,Stp.refl _ _ _,fun k b hk=>.inl ⟨k,hk⟩,Nat.le_refl _,fun _ _=>rfl⟩
theorem SatSt.over (h:SatSt X ν F σ a w s) (k:SatSt (rX X w σ F s.H.length ν) ν' F' σ' a' w' s'):SatSt X ν' F' σ' a' w' s' :=
  ⟨k.S,k.d,k.sz,k.sl,h.st.trans k.st fun b hb e=>e.elim id fun⟨m,hm⟩=>(h.pm m b hm).elim id fun c=>absurd hb (by omega),fun n b hn=>by
    rcases k.pm n b hn with⟨m,hm⟩ | c
    · exact h.pm m b hm
    · exact .inr (Nat.le_trans h.st.size c),Nat.le_trans h.np k.np,fun i hi=>(k.ag i (Nat.lt_of_lt_of_le hi h.np)).trans (h.ag i hi)⟩
theorem NWok.over {NW:List Nat} {n:Nat} {μ:NV} (hw:NWok X NW F σ w) (k:SatSt (rX X w σ F n μ) ν' F' σ' a' w' s'):NWok X NW F' σ' w'∧Fix NW w w':=by
  have hn:∀ b∈NW,¬ (rX X w σ F n μ).M0 b:=fun b hb ⟨m,hm⟩=>(hw b hb).2.2.2 m hm
  refine⟨fun b hb=>?_,fun b hb=>k.st.block b (hw b hb).2.1 (hn b hb)⟩
  obtain⟨h1,h2,h3,h4⟩:=hw b hb
  refine⟨h1,Nat.lt_of_lt_of_le h2 k.st.size,(k.st.wm b h2 (hn b hb)).trans h3,fun m hm=>?_⟩
  rcases k.pm m b hm with c | c
  · exact hn b hb c
  · have:w.heap.size≤b:=c;omega
/-- Blocks of NW turn, and new ones come. -/
theorem SatSt.frn {NW NW':List Nat} (h:SatSt X ν F σ a w s) (hw:NWok X NW F σ w) (f:Frn NW w w') (hn:∀ b∈NW',b∈NW∨(w.heap.size≤b∧b<w'.heap.size)) :
    ∃ σ',SatSt X ν F σ' a w' s∧NWok X NW' F σ' w':=by
  have st:Stp (fun b=>b∈NW) σ w (fun b=>if b<w.heap.size then σ b else 0) w':=by
    refine⟨f.os,f.tape,f.output,f.size,fun b hb hm=>f.block b hb hm,fun b hb _=>if_pos hb,fun b o hb ho=>?_,fun b hb=>by simp only[if_pos hb];exact Nat.le_refl _,f.drawn⟩
    by_cases hm:b∈NW
    · have:=(hw b hm).2.2.1;omega
    · exact World.cell?_of_block (f.block b hb hm)
  have hlt:=fun k b (hk:F k b)=>(h.S.lt k b hk).2
  refine⟨_,⟨h.S.step st fun k b hk hm=>(hw b hm).2.2.2 k hk,h.d,h.sz,h.sl,h.st.trans st fun b hb e=>e.elim id fun hm=>absurd (hw b hm).1 (by omega),h.pm,h.np,h.ag⟩,fun b hb=>?_⟩
  rcases hn b hb with hb | ⟨c1,c2⟩
  · obtain ⟨h1, h2, h3, h4⟩ := hw b hb
    exact⟨h1,Nat.lt_of_lt_of_le h2 f.size,by simp only[if_pos h2];exact h3,h4⟩
  · exact⟨Nat.le_trans h.st.size c1,c2,by rw[if_neg (by omega)],fun k hk=>by have:=hlt k b hk;omega⟩
/-- Another frame, in which the slots stand. -/
theorem SatSt.act (h:SatSt X ν F σ a' w s) (hd:a.defers=X.df) (hsz:a.tmps.size=X.nt) (hl:∀ t x,s.l.lookup t=some x→a.tmps.getD t undef=den ν x):SatSt X ν F σ a w s :=
  ⟨h.S,hd,hsz,fun t x hx=>⟨hl t x hx,(h.sl t x hx).2⟩,h.st,h.pm,h.np,h.ag⟩
theorem wpPl_mono {P:Program} {ops:Array Oper} {Q Q':Exit→Go.Act→World→Prop} {M:Nat→Prop} (hQ:∀ a w,Q .normal a w→Q' .normal a w) (hp:∀ c a w,Q (.panic c) a w→Q' (.panic c) a w) (ho:LetsOut Q→LetsOut Q')
    (hn:∀ c a d v w,Q' (.panic c) (Go.Act.put a d v) w→Q' (.panic c) a w):∀(π:Pl) {σ:Nat→Nat} {a:Go.Act} {w:World},wpPl P ops Q M π σ a w→wpPl P ops Q' M π σ a w:=by
  intro π
  induction π with
  | e=>intro σ a w h;exact hQ _ _ h
  | f i r ih=>intro σ a w ⟨o,v,h1,h2,h3,h4⟩;exact⟨o,v,h1,h2,fun c a w=>hn c a o.dst v w,ih h4⟩
  | o i r ih=>intro σ a w h;exact wpOp_q (fun a' w' ⟨σ',s,k⟩=>⟨σ',s,ih k⟩) hp ho h
  | c i r alt ih ih2=>intro σ a w h;exact⟨wpOp_q (fun a' w' ⟨σ',s,k⟩=>⟨σ',s,ih k⟩) hp ho h.1,ih2 h.2⟩
/-- What a region of a round leaves. -/
def segQ (X:Cx G) (st':St G) (n:Nat) (NW prot:List Nat) (ν:NV) (F:Nat→Nat→Prop) (w:World):Exit→Go.Act→World→Prop:=fun e a' w' =>
  e=.normal∧∃ ν' F' σ',SatSt X ν' F' σ' a' w' st'∧(∀ i,i<n→ν' i=ν i)∧NWok X NW F' σ' w'∧Fix NW w w'∧∀ k b,k∈prot→F k b→w'.heap[b]? = w.heap[b]?
theorem segQ_out (st':St G) (n:Nat) (NW prot:List Nat):¬ LetsOut (segQ X st' n NW prot ν F w):=fun⟨_,_,h,_⟩=>by cases h
theorem seg_core {st':St G} {NW prot:List Nat} {ops:Array Oper} {π:Pl} (K:VC (doneCx (rX X w σ F s.H.length ν) st') ⟨.plan ops π prot,[],s⟩) (hs:SatSt X ν F σ a w s) (hw:NWok X NW F σ w) :
    wpPl X.En.P ops (segQ X st' s.H.length NW prot ν F w) (fun b=>(∃ k,k∉prot∧F k b)∨w.heap.size≤b) π σ a w:=by
  have hM:MOk prot F w (fun b=>(∃ k,k∉prot∧F k b)∨w.heap.size≤b):=by
    refine⟨fun k b hk hp hm=>?_,fun k b hk hp=>.inl ⟨k,hp,hk⟩,fun b hb=>.inr hb⟩
    rcases hm with⟨k',hp',hk'⟩ | c
    · have:=hs.S.dis k k' b hk hk';subst this;exact hp' hp
    · have:=(hs.S.lt k b hk).2;omega
  have hb:=hs.base
  have h:=K.h ν F σ a w ⟨hb.S,hb.d,hb.sz,hb.sl,hb.st,hb.pm,hb.np,hb.ag⟩ _ hM
  have h2:=wpPl_stp (M:=fun b=>(∃ k,k∉prot∧F k b)∨w.heap.size≤b) π h
  refine wpPl_mono ?_ ?_ ?_ (fun c a d v w q=>by cases q.1) π h2
  · rintro a' w' ⟨⟨_, ν', F', σ', hk⟩, hst⟩
    obtain⟨n1,n2⟩:=hw.over hk
    obtain⟨σ2,st⟩:=hst rfl
    refine⟨rfl,ν',F',σ',hs.over hk,hk.ag,n1,n2,fun k b hp hkb=>st.block b (hs.S.lt k b hkb).2 ?_⟩
    exact hM.p k b hkb hp
  · rintro c a' w' q;cases q.1.1
  · rintro ⟨a',w',q⟩;cases q.1.1
/-- The plan of a region that runs in its own order. -/
def inOrd:Nat→Nat→Pl
  | _,0=>.e
  | i,n+1=>.o i (inOrd (i+1) n)
theorem inOrd_at {P:Program} {ops:Array Oper} {Q:Exit→Go.Act→World→Prop} {M:Nat→Prop}:∀(n i:Nat) {σ:Nat→Nat} {a:Go.Act} {w:World},ops.size=i+n→wpPl P ops Q M (inOrd i n) σ a w→wpAt P ops Q i a w
  | 0,i,σ,a,w,h,k=>wpAt_end (by rw[Array.getElem?_eq_none (by omega)]) k
  | n + 1, i, σ, a, w, h, k => by
    have hlt:i<ops.size:=by omega
    refine r_at ?_
    exact wpOp_mono (fun a' w' ⟨σ',_,q⟩=>inOrd_at n (i+1) (by omega) q) k
theorem seg_list {st':St G} {NW prot:List Nat} {ops:Array Oper} {l id:Nat} (hd:noDef ops=true) (K:∀ w σ F ν,VC (doneCx (rX X w σ F s.H.length ν) st') ⟨.plan ops (inOrd 0 ops.size) prot,[],s⟩) (hs:SatSt X ν F σ a w s) (hw:NWok X NW F σ w) :
    (Code.region id ops false).wpIn (Fence.wide.inRound l) 0 X.En.P (segQ X st' s.H.length NW prot ν F w) a w :=
  region_in_list hd (segQ_out st' _ NW prot) (inOrd_at ops.size 0 (by omega) (seg_core (K w σ F ν) hs hw))
theorem seg_draw {st':St G} {NW prot:List Nat} {ops:Array Oper} {π:Pl} {l id:Nat} (hd:(noDef ops && Region.noSelect ops && plOk (infoOf ops) π ops.size 0 0)=true) (K:∀ w σ F ν,VC (doneCx (rX X w σ F s.H.length ν) st') ⟨.plan ops π prot,[],s⟩) (hs:SatSt X ν F σ a w s) (hw:NWok X NW F σ w) :
    (Code.region id ops true).wpIn (Fence.wide.inRound l) 0 X.En.P (segQ X st' s.H.length NW prot ν F w) a w:=by
  simp only[Bool.and_eq_true] at hd
  obtain⟨⟨h1,h2⟩,h3⟩:=hd
  refine region_in X.mx h1 (segQ_out st' _ NW prot) (S:=Since (fun b=>(∃ k,k∉prot∧F k b)∨w.heap.size≤b) σ { w with drawn:=w.drawn+1 }) ?_
  have hs':SatSt X ν F σ a { w with drawn:=w.drawn+1 } s :=
    hs.grow (H':=s.H) (hs.S.step (Stp.drew σ w) (fun _ _ _ e=>e)) (fun _ _=>rfl) (Nat.le_refl _) (Stp.drew σ w) (fun _ e=>e.elim) (fun k b hk=>.inl ⟨k,hk⟩)
  have hw':NWok X NW F σ { w with drawn:=w.drawn+1 }:=hw
  exact(pl_sound (P:=X.En.P) h2 π _ 0 0 _ σ a { w with drawn:=w.drawn+1 } h3 (rel0 _) (seg_core (K _ σ F ν) hs' hw')).1 rfl
/-- One state said as another: which names stand for which is known. -/
theorem canon {l0:SSl} {H0:List (Ent G)} {inv:SSl × List (Ent G)} {ρ:List Nat} (hs:SatSt X ν F σ a w s) (V:Prop) (hV:V) (h:(mtS X.np l0 H0 inv ρ s).map (conj ·)=some V)
    (hl:(l0.map fun p=>s.l.lookup p.1)=l0.map fun p=>some p.2) (hH:maskH H0 s.H=H0) :
    ∃ F',SatSt X (fun n=>ν (rnm H0.length ρ n)) F' σ a w ⟨inv.1++l0,H0++inv.2⟩∧∀ k b,F' k b→∃ m,F m b:=by
  obtain⟨vs,h1,h2⟩:=Option.map_eq_some_iff.1 h
  subst h2
  have hlen:H0.length≤s.H.length:=by have:=maskH_len H0 s.H;rw[hH] at this;omega
  exact mtS_okN hs h1 (conj_all hV) (fun t x hx=>by
    have hm:=lookup_mem hx
    obtain⟨i,hi,hi2⟩:=List.mem_iff_getElem.1 hm
    have:=congrArg (fun q=>q[i]?) hl
    simp only[List.getElem?_map,List.getElem?_eq_getElem hi,Option.map_some,hi2,Option.some.injEq] at this
    exact this) (fun m e hm=>maskH_get H0 _ m e (by rw[hH];exact hm)) hlen
end
def mCx (En:Env G) (fn:Func) (S:Spec G) (ν:NV) (F:Nat→Nat→Prop) (σ:Nat→Nat) (w:World) (mx:En.P.follows .mixedOrders=true):Cx G :=
  { fnCx En fn S ν F σ w mx with
    Q:=fun e a w'=>(∀ c,e≠.panic c)∧bodyPostM Fence.wide 0 En.P fn (RetOk S ν F σ w) e a w'
    pn:=fun c _ _ _ _ h=>absurd rfl (h.1 c) }
theorem v_funM {En:Env G} {f:FuncId} {S:Spec G} (fn:Func) (cd:Code) (mx:En.P.follows .mixedOrders=true)
    (K:∀ ν F σ w,VC (mCx En fn S ν F σ w mx) ⟨.code cd,[],⟨zipL 0 S.args,S.H⟩⟩)
    (hf:En.P.funcs[f]? = some fn:=by kernel_rfl) (hb:fn.body=some cd:=by kernel_rfl) (hc:callable En.P f=true:=by kernel_rfl)
    (hl:(decide (S.args.length≤fn.ntmps) && bdAll S.H.length S.args)=true:=by kernel_rfl):FOk En f S:=by
  refine⟨hc,fun ν F σ w hS=>?_⟩
  simp only[Bool.and_eq_true,decide_eq_true_eq,bdAll,List.all_eq_true] at hl
  refine(callsIn_wide (n:=0)).1 (callsIn_of_wp_marks (F:=Fence.wide) hf hb trivial (wpIn_wide.2 (wp_mono ((K ν F σ w).h ν F σ _ w ⟨hS,rfl,?_,fun t x hx=>?_,Stp.refl _ _ _,fun k b hk=>.inl ⟨k,hk⟩,Nat.le_refl _,fun _ _=>rfl⟩) fun e a w h=>h.2)))
  · show (_ ++ _ : Array Value).size = fn.ntmps
    simp[denL_map];omega
  · obtain ⟨_, h2⟩ := zipL_lookup S.args 0 t x hx
    simp only[Nat.sub_zero] at h2
    refine⟨?_,hl.2 x (List.mem_of_getElem? h2)⟩
    have hlt:t<S.args.length:=(List.getElem?_eq_some_iff.1 h2).1
    simp only[Array.getD_eq_getD_getElem?]
    rw[Array.getElem?_append_left (by simpa [denL_map] using hlt)]
    simp[denL_map,h2]
/-- Behind the range. -/
def aX (X:Cx G) (D:Nat) (w:World) (σ:Nat→Nat) (F:Nat→Nat→Prop):Cx G :=
  { X with w0:=w,σ0:=σ,M0:=fun b=>∃ k,F k b,df:={ target:=.collected D,args:=#[] }::X.df }
section
variable {X:Cx G} {ν:NV} {F:Nat→Nat→Prop} {σ:Nat→Nat} {a:Go.Act} {w:World} {s:St G} {c:Cfg G}
theorem SatSt.behind (h:SatSt X ν F σ a w s) (D:Nat):SatSt (aX X D w σ F) ν F σ { a with defers:={ target:=.collected D,args:=#[] }::a.defers } w s :=
  ⟨h.S,by show _::a.defers=_::X.df;rw[h.d],h.sz,h.sl,Stp.refl _ _ _,fun k b hk=>.inl ⟨k,hk⟩,h.np,h.ag⟩
theorem v_retM {En:Env G} {fn:Func} {S:Spec G} {ν0:NV} {F0 F1:Nat→Nat→Prop} {σ0 σ1:Nat→Nat} {w0 w1:World} {D:Nat} {mx:En.P.follows .mixedOrders=true} (hD:w1.heap[D]? = some (.deferred (some []))) (hD0:w0.heap.size≤D) (hσ:σ1 D=0) (hF:∀ k,¬ F1 k D)
    (hst:Stp (fun b=>∃ k,F0 k b) σ0 w0 σ1 w1) (hpm:∀ k b,F1 k b→(∃ k,F0 k b)∨w0.heap.size≤b)
    (g:S.γ) (ρ:List Nat) (V:Prop) (hV:V) (hg:S.prop g)
    (h:evRet En fn S (aX (mCx En fn S ν0 F0 σ0 w0 mx) D w1 σ1 F1) c ρ (S.post g)=some V:=by kernel_rfl):VC (aX (mCx En fn S ν0 F0 σ0 w0 mx) D w1 σ1 F1) c:=by
  unfold evRet at h
  split at h
  · rename_i e ht hk
    split at h
    · rename_i hc
      simp only[Bool.and_eq_true,decide_eq_true_eq,List.all_eq_true] at hc
      obtain⟨⟨⟨⟨⟨c0,c1⟩,c2⟩,c3⟩,c4⟩,c5⟩:=hc
      obtain⟨rs,h1,h⟩:=Option.bind_eq_some_iff.1 h
      obtain⟨v1,h2,h⟩:=Option.bind_eq_some_iff.1 h
      obtain⟨v2,h3,h4⟩:=Option.map_eq_some_iff.1 h
      subst h4
      obtain⟨p1,p2⟩:=conj_append hV
      obtain⟨p3,p4⟩:=conj_append p2
      refine run_ok p1 ⟨fun ν F σ a w hs=>?_⟩
      rw[ht,hk]
      have hDl:D<w1.heap.size:=(Array.getElem?_eq_some_iff.1 hD).1
      have hDn:¬ ∃ k,F1 k D:=fun⟨k,q⟩=>hF k q
      have hDw:w.heap[D]? = some (.deferred (some [])):=(hs.st.block D hDl hDn).trans hD
      have hDσ:σ D=0:=(hs.st.wm D hDl hDn).trans hσ
      have hDF:∀ k,¬ F k D:=fun k q=>(hs.pm k D q).elim hDn fun c=>by have:w1.heap.size≤D:=c;omega
      have stD:Stp (fun b=>b=D) σ w σ (w.putObj D (.deferred none)):=by
        refine⟨rfl,rfl,rfl,by simp,fun b _ hb=>World.putObj_heap_other hb,fun _ _ _=>rfl,fun b o hb ho=>?_,fun _ _=>Nat.le_refl _,Nat.le_refl _⟩
        by_cases e:b=D
        · subst e;omega
        · exact World.cell?_of_block (World.putObj_heap_other e)
      have S':Sat ν F σ (w.putObj D (.deferred none)) (nxt (aX (mCx En fn S ν0 F0 σ0 w0 mx) D w1 σ1 F1) c).st.H:=hs.S.step stD fun k b hkb e=>by have e2:b=D:=e;rw[e2] at hkb;exact hDF k hkb
      have hs':SatSt (rX (aX (mCx En fn S ν0 F0 σ0 w0 mx) D w1 σ1 F1) (w.putObj D (.deferred none)) σ F S.H.length ν0) ν F σ a (w.putObj D (.deferred none)) (nxt (aX (mCx En fn S ν0 F0 σ0 w0 mx) D w1 σ1 F1) c).st :=
        ⟨S',hs.d,hs.sz,hs.sl,Stp.refl _ _ _,fun k b hk=>.inl ⟨k,hk⟩,hs.np,hs.ag⟩
      have st3:Stp (fun b=>∃ k,F0 k b) σ0 w0 σ (w.putObj D (.deferred none)):=by
        have s1:Stp (fun b=>∃ k,F0 k b) σ0 w0 σ w:=hst.trans hs.st fun b hb e=>e.elim id fun⟨k,hk⟩=>(hpm k b hk).elim id fun c=>absurd hb (by omega)
        exact s1.trans stD fun b hb e=>e.elim id fun e=>by subst e;omega
      have pm3:∀ k b,F k b→(∃ k,F0 k b)∨w0.heap.size≤b:=fun k b hk=>by
        rcases hs.pm k b hk with⟨k',hk'⟩ | c
        · exact hpm k' b hk'
        · have c' : w1.heap.size ≤ b := c
          exact .inr (Nat.le_trans hst.size c')
      obtain⟨hl,hE⟩:=mtE_ok h3 (conj_all p4)
      have hr:∀ i n,(List.range S.H.length++ρ)[i]? = some n→(List.range S.H.length++ρ).getD i 0=n:=fun i n hn=>by rw[List.getD_eq_getElem?_getD,hn];rfl
      have hSat:=hs'.S.remap (H':=(S.post g).1) (fun n=>(List.range S.H.length++ρ).getD n 0) (fun m e hm=>by
        obtain⟨n,cur,q,e1,e2,e3,e4⟩:=hE m e hm
        have hmem:=c4 e (List.mem_of_getElem? hm)
        refine⟨hmem.1,?_⟩
        rw[hr m n e1]
        exact(Ent.holds_ren e).1 (eqE_ok (nlOf_ok hs'.S) e3 e4 (hs'.S.ent n cur e2) (by rw[Ent.cok_ren];exact hmem.2))) (fun m m' e e' hm hm' hse hse' hrr=>by
        obtain⟨n,cur,q,e1,e2,e3,e4⟩:=hE m e hm
        obtain⟨n',cur',q',e1',e2',e3',e4'⟩:=hE m' e' hm'
        rw[hr m n e1,hr m' n' e1'] at hrr
        subst hrr
        exact ownNames_inj (nodup_ok c3) hm hm' e1 e1' hse hse')
      have hres:=resS_ok (En:=En) rfl hs' h1
      have hval:(results fn a.tmps).run En.P (w.putObj D (.deferred none))=.ok (den ν (oneOrT rs)) (w.putObj D (.deferred none)):=by
        refine results_of (rs:=fn.results.toList) (by simp) hres _ ?_
        exact oneOrT_ok ν rs
      have hfin:RetOk S ν0 F0 σ0 w0 (.returned (den ν (oneOrT rs))) (w.putObj D (.deferred none)):=by
        refine⟨g,_,_,σ,?_,⟨hg,fun i hi=>?_,st3,hSat,by omega,fun k b ⟨e,_,_,hF⟩=>pm3 _ b hF,c5⟩⟩
        · rw[(eqS_ok ν (nlOf_ok hs'.S) _ _ h2 (conj_all p3)).1,den_ren]
        · have : (List.range S.H.length ++ ρ).getD i 0 = i := hr i i (by rw [List.getElem?_append_left (by simpa using hi), List.getElem?_range hi])
          show ν ((List.range S.H.length++ρ).getD i 0)=ν0 i
          rw[this]
          exact hs.ag i hi
      have hd:a.defers=[{ target:=.collected D,args:=#[] }]:=hs.d
      have hfinM:LeavesInM Fence.wide 0 En.P fn a.tmps (RetOk S ν0 F0 σ0 w0) a.defers .returning w:=by
        rw[hd]
        refine⟨fun q=>(by cases q),.inl ⟨D,_,rfl,run_takeDeferred hDw,?_⟩⟩
        exact⟨_,hval,hfin⟩
      cases e with
      | nm=>exact⟨fun c q=>(by cases q),hfinM⟩
      | rt=>exact⟨fun c q=>(by cases q),hfinM⟩
      | ex i=>simp[isEnd] at c0
    · simp at h
  · simp at h
end
end Go.Proofs.YtblnnkkelkjbiaaGreatDoor.X
set_option linter.unusedVariables false
set_option linter.unusedSimpArgs false
set_option maxRecDepth 100000
namespace Go.Proofs.YtblnnkkelkjbiaaGreatDoor.X
open Go Go.RowKit Go.Proofs Go.Proofs.YtblnnkkelkjbiaaGreatDoor.E
noncomputable def cAll:Code:=(Tryz.f18.body).getD .skip
def cFst:Code→Code | .seq a _=>a | c=>c
def cSnd:Code→Code | .seq _ b=>b | c=>c
def cBlk:Code→Code | .block _ b=>b | c=>c
def cRfA:Code→Code | .rangeFunc _ _ a _=>a | c=>c
def cRfB:Code→Code | .rangeFunc _ _ _ b=>b | c=>c
def cOps:Code→Array Oper | .region _ ops _=>ops | _=>#[]
noncomputable def rfN:Code:=cBlk (cSnd (cFst (cSnd (cSnd (cSnd cAll)))))
noncomputable def rstN:Code:=cSnd (cSnd (cSnd (cSnd cAll)))
noncomputable def ops5:Array Oper:=cOps (cRfA rfN)
noncomputable def ops6:Array Oper:=cOps (cBlk (cRfB rfN))
/-- The state between two rounds. -/
def stN (B:BK) (cs:List Coin):St GT:=⟨[(1,.p 2 0),(3,.p 3 0),(11,.f 56 [] [.p 4 0])],[.mp 52 B,.bx 54 [.n 0],.bx 25 [.p 1 0],.bx 22 [.n 6],.bx 52 [.n 0],.mu 32 [],.mu 32 cs]⟩
/-- .. with the round's key. -/
def stP (B:BK) (cs:List Coin) (k:List UInt8 × List UInt8):St GT:=⟨(12,.a [.s k.1,.s k.2])::(stN B cs).l,(stN B cs).H⟩
def stA (B:BK) (cs:List Coin) (k:List UInt8 × List UInt8):St GT:=⟨[(4,.p 7 0),(12,.a [.s k.1,.s k.2]),(1,.p 2 0),(3,.p 3 0),(11,.f 56 [] [.p 4 0])],[.mp 52 B,.bx 54 [.n 0],.bx 25 [.p 1 0],.bx 22 [.n 6],.bx 52 [.n 0],.mu 32 [],.mu 32 cs,.bx 57 [.s k.1,.s k.2]]⟩
def p6b:Pl:=.o 12 (.o 0 (.o 13 (.o 14 .e)))
def p6 (r:Pl):Pl:=.f 1 (.f 2 (.f 3 (.f 4 (.f 5 (.f 6 (.f 7 (.f 8 (.f 9 (.f 10 (.f 11 r))))))))))
def stE (B:BK) (cs:List Coin) (k:List UInt8 × List UInt8):St GT:=⟨[(1,.p 2 0),(3,.p 3 0),(11,.f 56 [] [.p 4 0])],[.mp 52 B,.bx 54 [.n 0],.bx 25 [.p 1 0],.bx 22 [.n 9],.bx 52 [.n 0],.mu 32 [],.no,.bx 57 [.s k.1,.s k.2],.mu 32 [⟨k.1,k.2,(mget B (k.1,k.2)).getD 0⟩],.mu 32 (cs++[⟨k.1,k.2,(mget B (k.1,k.2)).getD 0⟩])]⟩
def gC (B:BK):Value→Coin
  | .agg #[.string s,.string t]=>⟨s.data.toList,t.data.toList,(mget B (s.data.toList,t.data.toList)).getD 0⟩
  | _=>⟨[],[],0⟩
theorem gC_enc (B:BK) (k:List UInt8 × List UInt8):gC B (encSS k)=⟨k.1,k.2,(mget B (k.1,k.2)).getD 0⟩:=by rfl
abbrev SAll (B:BK):Spec GT:=⟨[.mp 52 B,.bx 54 [.n 0]],[.p 1 0],Unit,fun _=>([.mp 52 B,.bx 54 [.n 0],.rd 32 (allL (coinsB B))],.n 2),fun _=>True⟩
noncomputable abbrev XA (B:BK) (ν:NV) (F:Nat→Nat→Prop) (σ:Nat→Nat) (w:World):Cx GT:=mCx EN Tryz.f18 (SAll B) ν F σ w MX
def IA (X:Cx GT) (B:BK) (a:Go.Act) (NW:List Nat) (pre:List Value) (W:World):Prop:=∃ ν F σ,SatSt X ν F σ a W (stN B (pre.map (gC B)))∧NWok X NW F σ W
def AA (X:Cx GT) (B:BK) (a:Go.Act) (NW:List Nat) (pre:List Value) (x:Value) (a1:Go.Act) (W:World):Prop :=
  ∃ k,x=encSS k∧∃ ν F σ,SatSt X ν F σ a1 W (stA B (pre.map (gC B)) k)∧NWok X NW F σ W∧∀ t∈[1,3,11],a.tmps.getD t undef=a1.tmps.getD t undef
theorem IA_clo (X:Cx GT) (B:BK) (a:Go.Act):Clo (IA X B a):=fun NW NW' s w w' ⟨ν,F,σ,hs,hw⟩ f hn=>by
  obtain⟨σ',h1,h2⟩:=hs.frn hw f hn;exact⟨ν,F,σ',h1,h2⟩
theorem AA_clo (X:Cx GT) (B:BK) (a:Go.Act) (NW:List Nat) (pre:List Value) (x:Value) (a1:Go.Act) (w2 w3:World) (h:AA X B a NW pre x a1 w2) (f:Frn NW w2 w3):AA X B a NW pre x a1 w3:=by
  obtain⟨k,hx,ν,F,σ,hs,hw,ht⟩:=h
  obtain⟨σ',h1,h2⟩:=hs.frn hw f fun b hb=>.inl hb
  exact⟨k,hx,ν,F,σ',h1,h2,ht⟩
section
variable {B:BK} {ν0:NV} {F0:Nat→Nat→Prop} {σ0:Nat→Nat} {w0:World}
theorem seg5 (cs:List Coin) (k:List UInt8 × List UInt8) (w:World) (σ:Nat→Nat) (F:Nat→Nat→Prop) (ν:NV):VC (doneCx (rX (XA B ν0 F0 σ0 w0) w σ F (stP B cs k).H.length ν) (stA B cs k)) ⟨.plan ops5 (inOrd 0 ops5.size) [0,4],[],stP B cs k⟩ :=
  v_doneL True trivial
def p6c:Pl:=p6 (.c 0 (.o 12 (.o 13 (.o 14 .e))) p6b)
theorem ops6_ok:(noDef ops6 && Region.noSelect ops6 && plOk (infoOf ops6) p6c ops6.size 0 0)=true:=by kernel_rfl
theorem seg6 (cs:List Coin) (k:List UInt8 × List UInt8) (hl:cs.length+1≤1000000) (w:World) (σ:Nat→Nat) (F:Nat→Nat→Prop) (ν:NV):VC (doneCx (rX (XA B ν0 F0 σ0 w0) w σ F (stA B cs k).H.length ν) (stE B cs k)) ⟨.plan ops6 p6c [0,1,2,4,7],[],stA B cs k⟩:=by
  refine v_pick True trivial ?_ ?_
  · exact v_doneL (cs.length+1≤1000000) hl
  · exact v_doneL (cs.length+1≤1000000) hl
theorem fst_map {α β:Type} (l:List (α × β)) (f:α→Value) (g:β→Value):(l.map fun p=>(f p.1,g p.2)).map Prod.fst=l.map fun p=>f p.1:=by rw[List.map_map];rfl
theorem getD_of {X:Cx GT} {ν:NV} {F:Nat→Nat→Prop} {σ:Nat→Nat} {a:Go.Act} {w:World} {s:St GT} (h:SatSt X ν F σ a w s) {t:Nat} {x:SV} (hx:s.l.lookup t=some x):a.tmps.getD t undef=den ν x:=(h.sl t x hx).1
theorem bm_of {X:Cx GT} {ν:NV} {F:Nat→Nat→Prop} {σ:Nat→Nat} {a:Go.Act} {w:World} {s:St GT} {bm:Nat} (h:SatSt X ν F σ a w s) (h0:s.H[0]? = some (.mp 52 B)) (hn:0<X.np) (hb:X.ν0 0=.map (some bm)):F 0 bm:=by
  obtain⟨b,e,hF,_⟩:=h.S.ent 0 _ h0
  rw[h.ag 0 hn,hb] at e
  injection e with e;injection e with e;subst e;exact hF
theorem mb_of {X:Cx GT} {ν:NV} {F:Nat→Nat→Prop} {σ:Nat→Nat} {a:Go.Act} {w:World} {s:St GT} {mb:Nat} (h:SatSt X ν F σ a w s) (h4:s.H[4]? = some (.bx 52 [.n 0])) (hl:s.l.lookup 11=some (.f 56 [] [.p 4 0])) (hb:a.tmps.getD 11 undef=.func (.func 56) #[] #[.pointer (some ⟨mb,0,none⟩)]):F 4 mb:=by
  obtain⟨b,e,_,hF,_⟩:=h.S.ent 4 _ h4
  have h1:=getD_of h hl
  rw[hb] at h1
  simp only[den,denL,e,padd] at h1
  injection h1 with _ _ h1
  have h2:Value.pointer (some ⟨mb,0,none⟩)=.pointer (some ⟨b,0+0,none⟩):=by
    have:=congrArg (fun(q:Array Value)=>q[0]?) h1
    simpa using this
  injection h2 with h2;injection h2 with h2;injection h2 with h2 _ _;subst h2;exact hF
theorem fix_of {F:Nat→Nat→Prop} {w w':World} {mb bm:Nat} {NW prot:List Nat} (h0:F 0 bm) (h4:F 4 mb) (p0:0∈prot) (p4:4∈prot) (hf:Fix NW w w') (hp:∀ k b,k∈prot→F k b→w'.heap[b]? = w.heap[b]?):Fix ([mb,bm]++NW) w w':=fun b hb=>by
  rcases List.mem_append.1 hb with hb | hb
  · simp only [List.mem_cons, List.not_mem_nil, or_false] at hb
    rcases hb with rfl | rfl
    · exact hp 4 _ p4 h4
    · exact hp 0 _ p0 h0
  · exact hf b hb
end
theorem All_aux (B:BK) (hl:B.length≤100000) (hn:(B.map (·.1)).Nodup):FOk EN 18 (SAll B):=by
 refine v_funM Tryz.f18 cAll MX (fun ν0 F0 σ0 w0=>?_) Tryz.func18
 refine v_nl ?_
 refine v_mark 32 ?_
 refine v_call _ [0] (Keys_ok B) (B=B) rfl (fun g1 p2=>?_)
 refine v_at ⟨.code (.rangeFunc (.tmp 11) #[12] (.region 5 ops5 false) (.block 1 (.region 6 ops6 true))),[.bk 0,.c rstN],⟨[(11,.f 56 [] [.p 6 0]),(10,.n 0),(9,.p 1 0),(8,.p 1 0),(7,.p 1 0),(6,.v (.bool false)),(5,.p 1 0),(3,.p 5 0),(2,.v (.slice none 0 0)),(1,.p 4 0),(0,.p 1 0)],[.mp 52 B,.bx 54 [.n 0],.nl,.mu 32 [],.bx 25 [.p 1 0],.bx 22 [.v (.slice none 0 0)],.bx 52 [.n 0]]⟩⟩ True trivial ?_
 refine⟨fun ν F σ a w hs=>?_⟩
 obtain⟨F1,hs1,-⟩:=canon (l0:=[]) (H0:=[.mp 52 B,.bx 54 [.n 0]]) (inv:=([(1,.p 2 0),(3,.p 3 0),(11,.f 56 [] [.p 4 0])],[.bx 25 [.p 1 0],.bx 22 [.n 6],.bx 52 [.n 0],.mu 32 [],.mu 32 []])) (ρ:=[4,5,6,3,2]) hs (56=56∧([]:List Coin)=[]∧([]:List Coin)=[]) ⟨rfl,rfl,rfl⟩ (by kernel_rfl) rfl rfl
 have hs1:SatSt (XA B ν0 F0 σ0 w0) (fun n=>ν (rnm 2 [4,5,6,3,2] n)) F1 σ a w (stN B []):=hs1
 generalize (fun n=>ν (rnm 2 [4,5,6,3,2] n))=ν1 at hs1
 clear hs
 have hnt:a.tmps.size=30:=hs1.sz
 have hdf:a.defers=[]:=hs1.d
 obtain⟨bm,e0,f0,es,clock,hbm,hmap,hborn,hnd⟩:=hs1.S.ent 0 _ rfl
 obtain⟨mb,e4,hbx,f4,_⟩:=hs1.S.ent 4 _ rfl
 have hν0:ν0 0=.map (some bm):=(hs1.ag 0 (Nat.le_of_ble_eq_true rfl)).symm.trans e0
 have h11:a.tmps.getD 11 undef=.func (.func 56) #[] #[.pointer (some ⟨mb,0,none⟩)]:=by
  rw[getD_of hs1 (t:=11) (x:=.f 56 [] [.p 4 0]) rfl]
  simp only[den,denL,e4,padd]
 have hks:es.toList.map (·.key)=B.map fun p=>encSS p.1:=by
  have h1:es.toList.map (·.key)=(es.toList.map fun e=>(e.key,e.val)).map Prod.fst:=by rw[List.map_map];rfl
  rw[h1,hmap];exact fst_map B encSS _
 have hmbc:w.cell? ⟨mb,0,none⟩=some (.map (some bm)):=by
  have:denC ν1 [SV.n 0]=[ν1 0]:=rfl
  rw[this,e0] at hbx
  have h:=hbx.cell 0
  simpa using h
 have hkeyf:∀ x∈es.toList,∃ s t:ByteArray,x.key=.agg #[.string s,.string t]:=fun x hx=>by
  have:x.key∈B.map fun p=>encSS p.1:=by rw[← hks];exact List.mem_map.2 ⟨x,hx,rfl⟩
  obtain⟨p,_,hp⟩:=List.mem_map.1 this
  exact⟨_,_,hp.symm⟩
 have it:IterOk Tryz.prog 56 [.pointer (some ⟨mb,0,none⟩)] [mb,bm] (B.map fun p=>encSS p.1) w:=by
  rw[← hks]
  exact keys1_iter hmbc hbm (fun x hx=>hborn _ (List.mem_map.2 ⟨x,hx,rfl⟩)) hnd hkeyf
 have hnw:NWok (XA B ν0 F0 σ0 w0) [] F1 σ w:=fun b hb=>by cases hb
 have hlen:∀ {pre:List Value} {x:Value} {rest:List Value},(pre++x::rest).Perm (B.map fun p=>encSS p.1)→(pre.map (gC B)).length+1≤1000000:=fun {pre x rest} hp=>by
  have:=hp.length_eq
  rw[List.length_append,List.length_cons,List.length_map] at this
  rw[List.length_map];omega
 refine range_law (kf:=56) (lb:=[.pointer (some ⟨mb,0,none⟩)]) (bs:=[mb,bm]) (P:=Tryz.prog) (ks:=B.map fun(p:(List UInt8 × List UInt8) × UInt64)=>encSS p.1) (I:=IA (XA B ν0 F0 σ0 w0) B a) (A:=AA (XA B ν0 F0 σ0 w0) B a) h11 (by kernel_rfl) (IA_clo _ B a) (AA_clo _ B a) ⟨ν1,F1,σ,hs1,hnw⟩ (fun b hb=>?_) it ?_ ?_ ?_
 ·simp only[List.mem_cons,List.not_mem_nil,or_false] at hb
  rcases hb with rfl | rfl
  ·exact hbx.lt
  ·exact(Array.getElem?_eq_some_iff.1 hbm).1
 ·rintro l NW pre x rest w1 ⟨ν,F,σ,hs,hw⟩ hp hfix hdis
  obtain⟨k,hx⟩:∃ k,x=encSS k:=by
   have:x∈B.map fun p=>encSS p.1:=hp.subset (by simp)
   obtain⟨p,_,hp⟩:=List.mem_map.1 this
   exact⟨p.1,hp.symm⟩
  subst hx
  have hact:({ tmps:=a.tmps.setIfInBounds 12 (encSS k),defers:=[] }:Go.Act)=a.put (some 12) (den ν (.a [.s k.1,.s k.2])):=by
   rw[← hdf];rfl
  rw[hact]
  have hs2:SatSt (XA B ν0 F0 σ0 w0) ν F σ (a.put (some 12) (den ν (.a [.s k.1,.s k.2]))) w1 (stP B (pre.map (gC B)) k):=hs.put (d:=some 12) (x:=.a [.s k.1,.s k.2]) rfl rfl
  refine wpIn_mono (seg_list (NW:=NW) (prot:=[0,4]) (st':=stA B (pre.map (gC B)) k) (by kernel_rfl) (seg5 _ _) hs2 hw) ?_
  rintro e a5 w5 ⟨rfl,ν5,F5,σ5,h5,hag,hw5,hf5,hpr⟩
  have tie:∀ t∈[1,3,11],a.tmps.getD t undef=a5.tmps.getD t undef:=fun t ht=>by
   simp only[List.mem_cons,List.not_mem_nil,or_false] at ht
   rcases ht with rfl | rfl | rfl
   ·rw[getD_of hs (t:=1) (x:=.p 2 0) rfl,getD_of h5 (t:=1) (x:=.p 2 0) rfl];simp only[den,hag 2 (Nat.le_of_ble_eq_true rfl)]
   ·rw[getD_of hs (t:=3) (x:=.p 3 0) rfl,getD_of h5 (t:=3) (x:=.p 3 0) rfl];simp only[den,hag 3 (Nat.le_of_ble_eq_true rfl)]
   ·rw[getD_of hs (t:=11) (x:=.f 56 [] [.p 4 0]) rfl,getD_of h5 (t:=11) (x:=.f 56 [] [.p 4 0]) rfl];simp only[den,denL,hag 4 (Nat.le_of_ble_eq_true rfl)]
  exact⟨⟨k,rfl,ν5,F5,σ5,h5,hw5,tie⟩,fix_of (bm_of hs rfl (Nat.le_of_ble_eq_true rfl) hν0) (mb_of hs rfl rfl h11) (by decide) (by decide) hf5 hpr⟩
 ·rintro l NW pre x rest a1 w3 ⟨k,hx,ν,F,σ,hs,hw,tie⟩ hp hdis
  subst hx
  refine wpIn_block (wpIn_mono (seg_draw (NW:=NW) (π:=p6c) (prot:=[0,1,2,4,7]) (st':=stE B (pre.map (gC B)) k) ops6_ok (seg6 _ _ (hlen hp)) hs hw) ?_)
  rintro e a6 w6 ⟨rfl,ν6,F6,σ6,h6,hag,hw6,hf6,hpr⟩
  obtain⟨F7,h7,hF7⟩:=canon (l0:=[]) (H0:=[.mp 52 B,.bx 54 [.n 0]]) (inv:=([(1,.p 2 0),(3,.p 3 0),(11,.f 56 [] [.p 4 0])],[.bx 25 [.p 1 0],.bx 22 [.n 6],.bx 52 [.n 0],.mu 32 [],.mu 32 ((pre++[encSS k]).map (gC B))])) (ρ:=[2,3,4,5,9]) h6 (56=56∧([]:List Coin)=[]∧(pre.map (gC B)++[⟨k.1,k.2,(mget B (k.1,k.2)).getD 0⟩])=(pre++[encSS k]).map (gC B)) ⟨rfl,rfl,by rw[List.map_append,List.map_cons,List.map_nil,gC_enc]⟩ (by kernel_rfl) rfl rfl
  have h7:SatSt (XA B ν0 F0 σ0 w0) (fun n=>ν6 (rnm 2 [2,3,4,5,9] n)) F7 σ6 a6 w6 (stN B ((pre++[encSS k]).map (gC B))):=h7
  have tie6:∀ t∈[1,3,11],a.tmps.getD t undef=a6.tmps.getD t undef:=fun t ht=>by
   rw[tie t ht]
   simp only[List.mem_cons,List.not_mem_nil,or_false] at ht
   rcases ht with rfl | rfl | rfl
   ·rw[getD_of hs (t:=1) (x:=.p 2 0) rfl,getD_of h6 (t:=1) (x:=.p 2 0) rfl];simp only[den,hag 2 (Nat.le_of_ble_eq_true rfl)]
   ·rw[getD_of hs (t:=3) (x:=.p 3 0) rfl,getD_of h6 (t:=3) (x:=.p 3 0) rfl];simp only[den,hag 3 (Nat.le_of_ble_eq_true rfl)]
   ·rw[getD_of hs (t:=11) (x:=.f 56 [] [.p 4 0]) rfl,getD_of h6 (t:=11) (x:=.f 56 [] [.p 4 0]) rfl];simp only[den,denL,hag 4 (Nat.le_of_ble_eq_true rfl)]
  refine⟨rfl,⟨_,F7,σ6,h7.act hdf hnt fun t x hx=>?_,fun b hb=>⟨(hw6 b hb).1,(hw6 b hb).2.1,(hw6 b hb).2.2.1,fun m hm=>let ⟨m',q⟩:=hF7 m b hm;(hw6 b hb).2.2.2 m' q⟩⟩,fix_of (bm_of hs rfl (Nat.le_of_ble_eq_true rfl) hν0) (mb_of hs rfl rfl ((tie 11 (by simp)).symm.trans h11)) (by decide) (by decide) hf6 hpr⟩
  rw[← getD_of h7 hx]
  have ht:t∈[1,3,11]:=by
   have h:=List.mem_map_of_mem (f:=Prod.fst) (lookup_mem hx)
   exact h
  exact tie6 t ht
 ·rintro D NW xs w' hp ⟨ν,F,σ,hs,hw⟩ hD hDw hDd hfix
  have hcs:(xs.map (gC B)).Perm (coinsB B):=by
   have h1:=hp.map (gC B)
   rw[List.map_map] at h1
   have h2:B.map (gC B ∘ fun p=>encSS p.1)=coinsB B:=by
    unfold coinsB
    refine List.map_congr_left fun p hp=>?_
    show gC B (encSS p.1)=_
    rw[gC_enc,show(p.1.1,p.1.2)=p.1 from rfl,mget_mem hn hp];rfl
   rwa [h2] at h1
  have hl2:(xs.map (gC B)).length≤1000000:=by have:=hcs.length_eq;have h3:(coinsB B).length=B.length:=List.length_map ..;omega
  have hck:(coinsB B).map ckey=B.map (·.1):=by unfold coinsB;rw[List.map_map];rfl
  have hnd2:((xs.map (gC B)).map ckey).Nodup:=((hcs.map ckey).nodup_iff).2 (by rw[hck];exact hn)
  have hall:allL (xs.map (gC B))=allL (coinsB B):=allL_eq hcs hnd2
  have hb:=hs.behind D
  have K:VC (aX (XA B ν0 F0 σ0 w0) D w' σ F) ⟨.exit .nm,[.bk 0,.c rstN],stN B (xs.map (gC B))⟩:=by
   refine v_call _ [6] (sortC_ok (xs.map (gC B)) hl2 hnd2) (41=41∧xs.map (gC B)=xs.map (gC B)) ⟨rfl,rfl⟩ (fun g p=>?_)
   refine v_stop 6 True trivial ?_
   exact v_retM hDd (hw D hD).1 (hw D hD).2.2.1 (hw D hD).2.2.2 hs.st hs.pm () [6] (B=B∧allL (xs.map (gC B))=allL (coinsB B)) ⟨rfl,hall⟩ trivial
  exact K.h ν F σ _ w' hb
section
variable {a b:List Coin} {i:Nat}
abbrev ceq (x y:Coin):Bool:=decide (x.account=y.account) && (decide (x.denom=y.denom) && (decide (x.amount=y.amount) && true))
theorem ceq_iff {x y:Coin}:ceq x y=true↔x=y:=by
  constructor
  · intro h
    simp only[ceq,Bool.and_eq_true,decide_eq_true_eq,and_true] at h
    cases x;cases y;simp only at h;obtain⟨h1,h2,h3⟩:=h;subst h1;subst h2;subst h3;rfl
  · rintro rfl;simp[ceq]
abbrev smQ (a b:List Coin) (i:Nat):Prop:=decide (a.drop i=b.drop i)=decide (a=b)∧i≤a.length
theorem sml (h:(a.length:Int)≠b.length):false=decide (a=b):=(decide_eq_false (fun e=>h (by rw[e]))).symm
theorem smd (hl:¬ (a.length:Int)≠b.length) (h:smQ a b i) (hi:(i:Int)<a.length):decide (a=b)=decide (a.getD i cD::a.drop (i+1)=b.getD i cD::b.drop (i+1)):=by
  rw[← h.1,cdrop hi,cdrop (L:=b) (by omega)]
theorem sm1 (hl:¬ (a.length:Int)≠b.length) (h:smQ a b i) (hi:(i:Int)<a.length) (e:ceq (a.getD i cD) (b.getD i cD)=false):false=decide (a=b):=by
  rw[smd hl h hi];symm;apply decide_eq_false;intro q;injection q with q1 q2;rw[ceq_iff.2 q1] at e;cases e
theorem sm2 (hl:¬ (a.length:Int)≠b.length) (h:smQ a b i) (hi:(i:Int)<a.length) (e:ceq (a.getD i cD) (b.getD i cD)=true):smQ a b (i+1)∧a.length - (i+1)<a.length - i:=by
  refine⟨⟨?_,by omega⟩,by omega⟩
  rw[smd hl h hi,ceq_iff.1 e]
  by_cases q:a.drop (i+1)=b.drop (i+1)
  · rw[q];simp
  · rw[decide_eq_false q,decide_eq_false (fun z=>q (by injection z))]
theorem sm3 (hl:¬ (a.length:Int)≠b.length) (h:smQ a b i) (hi:¬ (i:Int)<a.length):true=decide (a=b):=by
  rw[← h.1,List.drop_of_length_le (l:=a) (by omega),List.drop_of_length_le (l:=b) (by omega)];rfl
end
noncomputable def ccU9_17:Code:=(Tryz.f17.body).getD .skip
theorem Same_ok (a b:List Coin) (hl:a.length≤100000):FOk EN 17 ⟨[.rd 32 a,.rd 32 b],[.n 0,.n 1],Unit,fun _=>([.rd 32 a,.rd 32 b],.b (decide (a=b))),fun _=>True⟩:=by
 refine v_fun Tryz.f17 ccU9_17 MX (fun ν F σ w=>?_) Tryz.func17
 refine v_nl ?_
 refine v_if (decide ((↑a.length:Int)≠(↑b.length:Int))) True trivial (fun h1=>?_) (fun h1=>?_)
 ·have h1:=of_decide_eq_true h1
  exact v_ret () [] ((false=decide (a=b))∧(a=a)∧(b=b)) ⟨(by exact sml ‹_›),rfl,rfl⟩ trivial
 ·have h1:=of_decide_eq_false h1
  refine v_loop (fun i:Nat=>([(5,.i i)],[])) (fun i=>smQ a b i) (fun i=>a.length - i) 0 [] (((0:Int)=(↑(0:Nat):Int))) rfl (by exact⟨rfl,Nat.zero_le _⟩) (fun i hk2=>?_)
  refine v_if (decide ((↑i:Int)<(↑a.length:Int))) True trivial (fun h3=>?_) (fun h3=>?_)
  ·have h3:=of_decide_eq_true h3
   refine v_plan (.fs [0,1,2,3,4,5,6,7,8] .e) [] True trivial ?_
   refine v_if (!(decide ((a.getD (↑i:Int).toNat (Coin.mk [] [] 0)).account=(b.getD (↑i:Int).toNat (Coin.mk [] [] 0)).account) && (decide ((a.getD (↑i:Int).toNat (Coin.mk [] [] 0)).denom=(b.getD (↑i:Int).toNat (Coin.mk [] [] 0)).denom) && (decide ((a.getD (↑i:Int).toNat (Coin.mk [] [] 0)).amount=(b.getD (↑i:Int).toNat (Coin.mk [] [] 0)).amount) && true)))) ((0≤(↑i:Int)∧(↑i:Int)<(↑a.length:Int))∧(0≤(↑i:Int)∧(↑i:Int)<(↑b.length:Int))∧(EN.P.eqGuardType EN.P.depth (32:Nat)=false)∧(noBl EN.P 32)) ⟨(by omega),(by omega),(by kernel_rfl),(by(unfold noBl;kernel_rfl))⟩ (fun h4=>?_) (fun h4=>?_)
   ·have h4:=(nt h4)
    refine v_leave .rt True trivial ?_
    exact v_ret () [] ((false=decide (a=b))∧(a=a)∧(b=b)) ⟨(by exact sm1 ‹_› ‹_› ‹_› ‹_›),rfl,rfl⟩ trivial
   ·have h4:=(nf h4)
    exact v_back (i+1) [] ((I64 (↑i+1))∧((↑i:Int)+1=(↑(i+1):Int))) ⟨(by(unfold I64;omega)),rfl⟩ (show smQ a b (i+1)∧a.length - (i+1)<a.length - i from(by exact sm2 ‹_› ‹_› ‹_› ‹_›))
  ·have h3:=of_decide_eq_false h3
   refine v_leave (.ex 0) True trivial ?_
   exact v_ret () [] ((true=decide (a=b))∧(a=a)∧(b=b)) ⟨(by exact sm3 ‹_› ‹_› ‹_›),rfl,rfl⟩ trivial
theorem All_ok (B:BK) (hl:B.length≤100000) (hn:(B.map (·.1)).Nodup):FOk EN 18 ⟨[.mp 52 B,.bx 54 [.n 0]],[.p 1 0],Unit,fun _=>([.mp 52 B,.bx 54 [.n 0],.rd 32 (allL (coinsB B))],.n 2),fun _=>True⟩:=All_aux B hl hn
section
variable {B:BK} {a d t:List UInt8} {n:UInt64}
theorem mdel_len (l:BK) (k:List UInt8 × List UInt8):(mdel l k).length≤l.length:=(mdel_sub l k).length_le
theorem giB_len:(giB B a d n).length≤B.length+1:=by unfold giB;split;exact mput_len ..;exact Nat.le_succ _
theorem taB_len:(taB B a d n).length≤B.length+1:=by
  unfold taB;split
  · exact Nat.le_succ _
  · split
    · exact Nat.le_trans (mdel_len _ _) (mput_len ..)
    · exact mput_len ..
theorem moB_len:(moB B a t d n).length≤B.length+2:=by
  have h1:=taB_len (B:=B) (a:=a) (d:=d) (n:=n)
  unfold moB;split
  · omega
  · split
    · have:=mput_len (taB B a d n) (a,d) (bget (taB B a d n) a d+n);omega
    · have:=giB_len (B:=taB B a d n) (a:=t) (d:=d) (n:=n);omega
theorem all_len (B:BK):(allL (coinsB B)).length=B.length:=by rw[allL_len];exact List.length_map ..
end
theorem rd_ln {α:Type} {T:Ty α} {σ:Nat→Nat} {w:World} {v:Value} {xs:List α} (h:Rd T σ w v xs) (hb:0<T.by_):xs.length≤140737488355328:=Nat.le_trans (Nat.le_mul_of_pos_right _ hb) h.bd
def hp (s p:List UInt8):Bool:=decide (p.length≤s.length) && decide (s.take p.length=p)
theorem hp_le {s p:List UInt8} (h:hp s p=true):0≤(p.length:Int)∧(p.length:Int)≤(s.length:Int):=by
  unfold hp at h;rw[Bool.and_eq_true,decide_eq_true_eq] at h;omega
abbrev cutp (s p:List UInt8):List UInt8:=if hp s p=true then s.drop p.length else s
theorem cutp1 {s p:List UInt8} (h:hp s p=true):s.drop p.length=cutp s p:=by unfold cutp;rw[if_pos h]
theorem cutp0 {s p:List UInt8} (h:hp s p=false):s=cutp s p:=by unfold cutp;rw[h];rfl
noncomputable def ccDN1_77:Code:=(Tryz.f77.body).getD .skip
theorem HasPrefix_ok (s p:List UInt8):FOk EN 77 ⟨[],[.s s,.s p],Unit,fun _=>([],.b (hp s p)),fun _=>True⟩:=by
 refine v_fun Tryz.f77 ccDN1_77 MX (fun ν F σ w=>?_) Tryz.func77
 refine v_nl ?_
 refine v_guard 10 (decide ((↑p.length:Int)≤(↑s.length:Int))) True trivial (fun h1=>?_) (fun h1=>?_)
 ·have h1:=of_decide_eq_true h1
  exact v_ret () [] ((0≤(↑p.length:Int)∧(↑p.length:Int)≤(↑s.length:Int))∧(decide (List.take (↑p.length:Int).toNat s=p)=hp s p)) ⟨(by omega),(by(simp only[hp];(repeat first | rw[if_pos (by omega)] | rw[if_neg (by omega)]);first | rfl | omega | (simp;done) | (simp;omega)))⟩ trivial
 ·have h1:=of_decide_eq_false h1
  exact v_ret () [] ((false=hp s p)) (by(simp only[hp];(repeat first | rw[if_pos (by omega)] | rw[if_neg (by omega)]);first | rfl | omega | (simp;done) | (simp;omega))) trivial
noncomputable def ccDN1_61:Code:=(Tryz.f61.body).getD .skip
theorem CutPrefix_ok (s p:List UInt8):FOk EN 61 ⟨[],[.s s,.s p],Unit,fun _=>([],.t [.s (cutp s p),.b (hp s p)]),fun _=>True⟩:=by
 refine v_fun Tryz.f61 ccDN1_61 MX (fun ν F σ w=>?_) Tryz.func61
 refine v_nl ?_
 refine v_call _ [] (HasPrefix_ok (s) (p)) ((s=s)∧(p=p)) ⟨rfl,rfl⟩ (fun g1 p2=>?_)
 have p2:True:=p2
 refine v_if (!hp s p) True trivial (fun h3=>?_) (fun h3=>?_)
 ·have h3:=(nt h3)
  exact v_ret () [] ((s=cutp s p)∧(false=hp s p)) ⟨(by exact cutp0 ‹_›),(by(simp;omega))⟩ trivial
 ·have h3:=(nf h3)
  exact v_ret () [] ((0≤(↑p.length:Int)∧(↑p.length:Int)≤(↑s.length:Int))∧(List.drop (↑p.length:Int).toNat s=cutp s p)∧(true=hp s p)) ⟨(by exact hp_le ‹_›),(by exact cutp1 ‹_›),(by(simp;omega))⟩ trivial
noncomputable def ccDN1_48:Code:=(Tryz.f48.body).getD .skip
theorem SCutPrefix_ok (s p:List UInt8):FOk EN 48 ⟨[],[.s s,.s p],Unit,fun _=>([],.t [.s (cutp s p),.b (hp s p)]),fun _=>True⟩:=by
 refine v_fun Tryz.f48 ccDN1_48 MX (fun ν F σ w=>?_) Tryz.func48
 refine v_nl ?_
 refine v_call _ [] (CutPrefix_ok (s) (p)) ((s=s)∧(p=p)) ⟨rfl,rfl⟩ (fun g1 p2=>?_)
 have p2:True:=p2
 exact v_ret () [] ((cutp s p=cutp s p)∧(hp s p=hp s p)) ⟨rfl,rfl⟩ trivial
abbrev ckP (s:List UInt8) (i:Nat):Prop :=
  (97≤s.getD i 0∧s.getD i 0≤122)∨(48≤s.getD i 0∧s.getD i 0≤57)∨(s.getD i 0=47∧0<(i:Int)∧(i:Int)<(s.length:Int) - 1∧s.getD ((i:Int) - 1).toNat 0≠47)
def ckN (s:List UInt8):Nat→Bool
  | 0=>true
  | i+1=>ckN s i && decide (ckP s i)
def ckS (s:List UInt8):Bool:=if(s.length:Int)=0∨40<(s.length:Int) then false else ckN s s.length
theorem ckN_at {s:List UInt8}:∀ {n i:Nat},ckN s n=true→i<n→ckP s i
  | n + 1, i, h, hi => by
    unfold ckN at h
    rw[Bool.and_eq_true,decide_eq_true_eq] at h
    by_cases e:i=n
    · subst e;exact h.2
    · exact ckN_at h.1 (by omega)
theorem ck1 {s:List UInt8} (h:(s.length:Int)=0):false=ckS s:=by unfold ckS;rw[if_pos (.inl h)]
theorem ck2 {s:List UInt8} (h:40<(s.length:Int)):false=ckS s:=by unfold ckS;rw[if_pos (.inr h)]
theorem ckn {s:List UInt8} (h1:¬ (s.length:Int)=0) (h2:¬ 40<(s.length:Int)):ckS s=ckN s s.length:=by
  have z:¬ ((s.length:Int)=0∨40<(s.length:Int)):=by rintro (h | h);exact h1 h;exact h2 h
  unfold ckS;rw[if_neg z]
theorem ck3 {s:List UInt8} {i:Nat} (h1:¬ (s.length:Int)=0) (h2:¬ 40<(s.length:Int)) (hi:(i:Int)<s.length) (h:¬ ckP s i):false=ckS s:=by
  rw[ckn h1 h2]
  cases e:ckN s s.length with
  | false=>rfl
  | true=>exact absurd (ckN_at e (by omega)) h
theorem ck4 {s:List UInt8} {i:Nat} (h1:¬ (s.length:Int)=0) (h2:¬ 40<(s.length:Int)) (hk:ckN s i=true∧i≤s.length) (hi:¬ (i:Int)<s.length):true=ckS s:=by
  rw[ckn h1 h2,show s.length=i by omega,hk.1]
theorem ck5 {s:List UInt8} {i:Nat} (hk:ckN s i=true∧i≤s.length) (hi:(i:Int)<s.length) (h:ckP s i):(ckN s (i+1)=true∧i+1≤s.length)∧s.length - (i+1)<s.length - i:=by
  refine⟨⟨?_,by omega⟩,by omega⟩
  unfold ckN;rw[hk.1,Bool.true_and];exact decide_eq_true h
noncomputable def ccDN1_46:Code:=(Tryz.f46.body).getD .skip
theorem Check_ok (s:List UInt8) (hs:s.length≤140737488351232):FOk EN 46 ⟨[],[.s s],Unit,fun _=>([],.b (ckS s)),fun _=>True⟩:=by
 refine v_fun Tryz.f46 ccDN1_46 MX (fun ν F σ w=>?_) Tryz.func46
 refine v_nl ?_
 refine v_guard 8 (decide ((↑s.length:Int)=0)) True trivial (fun h1=>?_) (fun h1=>?_)
 ·have h1:=of_decide_eq_true h1
  exact v_ret () [] ((false=ckS s)) (by exact ck1 ‹_›) trivial
 ·have h1:=of_decide_eq_false h1
  refine v_if (decide (40<(↑s.length:Int))) True trivial (fun h2=>?_) (fun h2=>?_)
  ·have h2:=of_decide_eq_true h2
   exact v_ret () [] ((false=ckS s)) (by exact ck2 ‹_›) trivial
  ·have h2:=of_decide_eq_false h2
   refine v_loop (fun i:Nat=>([(15,.i i)],[])) (fun i=>ckN s i=true∧i≤s.length) (fun i=>s.length - i) 0 [] (((0:Int)=(↑(0:Nat):Int))) rfl (by exact⟨rfl,Nat.zero_le _⟩) (fun i hk3=>?_)
   refine v_if (decide ((↑i:Int)<(↑s.length:Int))) True trivial (fun h4=>?_) (fun h4=>?_)
   ·have h4:=of_decide_eq_true h4
    refine v_guard 24 (decide (97≤s.getD (↑i:Int).toNat 0)) ((0≤(↑i:Int)∧(↑i:Int)<(↑s.length:Int))) (by omega) (fun h5=>?_) (fun h5=>?_)
    ·have h5:=of_decide_eq_true h5
     refine v_if (decide (s.getD (↑i:Int).toNat 0≤122)) True trivial (fun h6=>?_) (fun h6=>?_)
     ·have h6:=of_decide_eq_true h6
      refine v_if (decide (s.getD (↑i:Int).toNat 0≤122)) True trivial (fun h7=>?_) (fun h7=>?_)
      ·have h7:=of_decide_eq_true h7
       exact v_back (i+1) [] ((I64 (↑i+1))∧((↑i:Int)+1=(↑(i+1):Int))) ⟨(by(unfold I64;omega)),rfl⟩ (show(ckN s (i+1)=true∧i+1≤s.length)∧s.length - (i+1)<s.length - i from(by exact ck5 ‹_› ‹_› (.inl ⟨‹_›,‹_›⟩)))
      ·have h7:=of_decide_eq_false h7
       contradiction
     ·have h6:=of_decide_eq_false h6
      refine v_guard 30 (decide (48≤s.getD (↑i:Int).toNat 0)) True trivial (fun h8=>?_) (fun h8=>?_)
      ·have h8:=of_decide_eq_true h8
       refine v_if (decide (s.getD (↑i:Int).toNat 0≤57)) True trivial (fun h9=>?_) (fun h9=>?_)
       ·have h9:=of_decide_eq_true h9
        exact v_back (i+1) [] ((I64 (↑i+1))∧((↑i:Int)+1=(↑(i+1):Int))) ⟨(by(unfold I64;omega)),rfl⟩ (show(ckN s (i+1)=true∧i+1≤s.length)∧s.length - (i+1)<s.length - i from(by exact ck5 ‹_› ‹_› (.inr (.inl ⟨‹_›,‹_›⟩))))
       ·have h9:=of_decide_eq_false h9
        refine v_if (decide (s.getD (↑i:Int).toNat 0=47)) True trivial (fun h10=>?_) (fun h10=>?_)
        ·have h10:=of_decide_eq_true h10
         refine v_guard 39 (decide (0<(↑i:Int))) True trivial (fun h11=>?_) (fun h11=>?_)
         ·have h11:=of_decide_eq_true h11
          refine v_guard 46 (decide ((↑i:Int)<(↑s.length:Int) - 1)) ((I64 (↑s.length - 1))) (by(unfold I64;omega)) (fun h12=>?_) (fun h12=>?_)
          ·have h12:=of_decide_eq_true h12
           refine v_if (decide (s.getD ((↑i:Int) - 1).toNat 0≠47)) ((I64 (↑i - 1))∧(0≤(↑i:Int) - 1∧(↑i:Int) - 1<(↑s.length:Int))) ⟨(by(unfold I64;omega)),(by omega)⟩ (fun h13=>?_) (fun h13=>?_)
           ·have h13:=of_decide_eq_true h13
            exact v_back (i+1) [] ((I64 (↑i+1))∧((↑i:Int)+1=(↑(i+1):Int))) ⟨(by(unfold I64;omega)),rfl⟩ (show(ckN s (i+1)=true∧i+1≤s.length)∧s.length - (i+1)<s.length - i from(by exact ck5 ‹_› ‹_› (.inr (.inr ⟨‹_›,‹_›,‹_›,‹_›⟩))))
           ·have h13:=of_decide_eq_false h13
            refine v_leave .rt True trivial ?_
            exact v_ret () [] ((false=ckS s)) (by(refine ck3 (i:=i) ‹_› ‹_› ‹_› ?_;rintro (h | h | h) <;> first | exact absurd h.1 ‹_› | exact absurd h.2 ‹_› | exact absurd h.2.1 ‹_› | exact absurd h.2.2.1 ‹_› | exact absurd h.2.2.2 ‹_›)) trivial
          ·have h12:=of_decide_eq_false h12
           refine v_leave .rt True trivial ?_
           exact v_ret () [] ((false=ckS s)) (by(refine ck3 (i:=i) ‹_› ‹_› ‹_› ?_;rintro (h | h | h) <;> first | exact absurd h.1 ‹_› | exact absurd h.2 ‹_› | exact absurd h.2.1 ‹_› | exact absurd h.2.2.1 ‹_› | exact absurd h.2.2.2 ‹_›)) trivial
         ·have h11:=of_decide_eq_false h11
          refine v_leave .rt True trivial ?_
          exact v_ret () [] ((false=ckS s)) (by(refine ck3 (i:=i) ‹_› ‹_› ‹_› ?_;rintro (h | h | h) <;> first | exact absurd h.1 ‹_› | exact absurd h.2 ‹_› | exact absurd h.2.1 ‹_› | exact absurd h.2.2.1 ‹_› | exact absurd h.2.2.2 ‹_›)) trivial
        ·have h10:=of_decide_eq_false h10
         refine v_leave .rt True trivial ?_
         exact v_ret () [] ((false=ckS s)) (by(refine ck3 (i:=i) ‹_› ‹_› ‹_› ?_;rintro (h | h | h) <;> first | exact absurd h.1 ‹_› | exact absurd h.2 ‹_› | exact absurd h.2.1 ‹_› | exact absurd h.2.2.1 ‹_› | exact absurd h.2.2.2 ‹_›)) trivial
      ·have h8:=of_decide_eq_false h8
       refine v_if (decide (s.getD (↑i:Int).toNat 0=47)) True trivial (fun h14=>?_) (fun h14=>?_)
       ·have h14:=of_decide_eq_true h14
        refine v_guard 39 (decide (0<(↑i:Int))) True trivial (fun h15=>?_) (fun h15=>?_)
        ·have h15:=of_decide_eq_true h15
         refine v_guard 46 (decide ((↑i:Int)<(↑s.length:Int) - 1)) ((I64 (↑s.length - 1))) (by(unfold I64;omega)) (fun h16=>?_) (fun h16=>?_)
         ·have h16:=of_decide_eq_true h16
          refine v_if (decide (s.getD ((↑i:Int) - 1).toNat 0≠47)) ((I64 (↑i - 1))∧(0≤(↑i:Int) - 1∧(↑i:Int) - 1<(↑s.length:Int))) ⟨(by(unfold I64;omega)),(by omega)⟩ (fun h17=>?_) (fun h17=>?_)
          ·have h17:=of_decide_eq_true h17
           exact v_back (i+1) [] ((I64 (↑i+1))∧((↑i:Int)+1=(↑(i+1):Int))) ⟨(by(unfold I64;omega)),rfl⟩ (show(ckN s (i+1)=true∧i+1≤s.length)∧s.length - (i+1)<s.length - i from(by exact ck5 ‹_› ‹_› (.inr (.inr ⟨‹_›,‹_›,‹_›,‹_›⟩))))
          ·have h17:=of_decide_eq_false h17
           refine v_leave .rt True trivial ?_
           exact v_ret () [] ((false=ckS s)) (by(refine ck3 (i:=i) ‹_› ‹_› ‹_› ?_;rintro (h | h | h) <;> first | exact absurd h.1 ‹_› | exact absurd h.2 ‹_› | exact absurd h.2.1 ‹_› | exact absurd h.2.2.1 ‹_› | exact absurd h.2.2.2 ‹_›)) trivial
         ·have h16:=of_decide_eq_false h16
          refine v_leave .rt True trivial ?_
          exact v_ret () [] ((false=ckS s)) (by(refine ck3 (i:=i) ‹_› ‹_› ‹_› ?_;rintro (h | h | h) <;> first | exact absurd h.1 ‹_› | exact absurd h.2 ‹_› | exact absurd h.2.1 ‹_› | exact absurd h.2.2.1 ‹_› | exact absurd h.2.2.2 ‹_›)) trivial
        ·have h15:=of_decide_eq_false h15
         refine v_leave .rt True trivial ?_
         exact v_ret () [] ((false=ckS s)) (by(refine ck3 (i:=i) ‹_› ‹_› ‹_› ?_;rintro (h | h | h) <;> first | exact absurd h.1 ‹_› | exact absurd h.2 ‹_› | exact absurd h.2.1 ‹_› | exact absurd h.2.2.1 ‹_› | exact absurd h.2.2.2 ‹_›)) trivial
       ·have h14:=of_decide_eq_false h14
        refine v_leave .rt True trivial ?_
        exact v_ret () [] ((false=ckS s)) (by(refine ck3 (i:=i) ‹_› ‹_› ‹_› ?_;rintro (h | h | h) <;> first | exact absurd h.1 ‹_› | exact absurd h.2 ‹_› | exact absurd h.2.1 ‹_› | exact absurd h.2.2.1 ‹_› | exact absurd h.2.2.2 ‹_›)) trivial
    ·have h5:=of_decide_eq_false h5
     refine v_guard 30 (decide (48≤s.getD (↑i:Int).toNat 0)) True trivial (fun h18=>?_) (fun h18=>?_)
     ·have h18:=of_decide_eq_true h18
      refine v_if (decide (s.getD (↑i:Int).toNat 0≤57)) True trivial (fun h19=>?_) (fun h19=>?_)
      ·have h19:=of_decide_eq_true h19
       exact v_back (i+1) [] ((I64 (↑i+1))∧((↑i:Int)+1=(↑(i+1):Int))) ⟨(by(unfold I64;omega)),rfl⟩ (show(ckN s (i+1)=true∧i+1≤s.length)∧s.length - (i+1)<s.length - i from(by exact ck5 ‹_› ‹_› (.inr (.inl ⟨‹_›,‹_›⟩))))
      ·have h19:=of_decide_eq_false h19
       refine v_if (decide (s.getD (↑i:Int).toNat 0=47)) True trivial (fun h20=>?_) (fun h20=>?_)
       ·have h20:=of_decide_eq_true h20
        refine v_guard 39 (decide (0<(↑i:Int))) True trivial (fun h21=>?_) (fun h21=>?_)
        ·have h21:=of_decide_eq_true h21
         refine v_guard 46 (decide ((↑i:Int)<(↑s.length:Int) - 1)) ((I64 (↑s.length - 1))) (by(unfold I64;omega)) (fun h22=>?_) (fun h22=>?_)
         ·have h22:=of_decide_eq_true h22
          refine v_if (decide (s.getD ((↑i:Int) - 1).toNat 0≠47)) ((I64 (↑i - 1))∧(0≤(↑i:Int) - 1∧(↑i:Int) - 1<(↑s.length:Int))) ⟨(by(unfold I64;omega)),(by omega)⟩ (fun h23=>?_) (fun h23=>?_)
          ·have h23:=of_decide_eq_true h23
           exact v_back (i+1) [] ((I64 (↑i+1))∧((↑i:Int)+1=(↑(i+1):Int))) ⟨(by(unfold I64;omega)),rfl⟩ (show(ckN s (i+1)=true∧i+1≤s.length)∧s.length - (i+1)<s.length - i from(by exact ck5 ‹_› ‹_› (.inr (.inr ⟨‹_›,‹_›,‹_›,‹_›⟩))))
          ·have h23:=of_decide_eq_false h23
           refine v_leave .rt True trivial ?_
           exact v_ret () [] ((false=ckS s)) (by(refine ck3 (i:=i) ‹_› ‹_› ‹_› ?_;rintro (h | h | h) <;> first | exact absurd h.1 ‹_› | exact absurd h.2 ‹_› | exact absurd h.2.1 ‹_› | exact absurd h.2.2.1 ‹_› | exact absurd h.2.2.2 ‹_›)) trivial
         ·have h22:=of_decide_eq_false h22
          refine v_leave .rt True trivial ?_
          exact v_ret () [] ((false=ckS s)) (by(refine ck3 (i:=i) ‹_› ‹_› ‹_› ?_;rintro (h | h | h) <;> first | exact absurd h.1 ‹_› | exact absurd h.2 ‹_› | exact absurd h.2.1 ‹_› | exact absurd h.2.2.1 ‹_› | exact absurd h.2.2.2 ‹_›)) trivial
        ·have h21:=of_decide_eq_false h21
         refine v_leave .rt True trivial ?_
         exact v_ret () [] ((false=ckS s)) (by(refine ck3 (i:=i) ‹_› ‹_› ‹_› ?_;rintro (h | h | h) <;> first | exact absurd h.1 ‹_› | exact absurd h.2 ‹_› | exact absurd h.2.1 ‹_› | exact absurd h.2.2.1 ‹_› | exact absurd h.2.2.2 ‹_›)) trivial
       ·have h20:=of_decide_eq_false h20
        refine v_leave .rt True trivial ?_
        exact v_ret () [] ((false=ckS s)) (by(refine ck3 (i:=i) ‹_› ‹_› ‹_› ?_;rintro (h | h | h) <;> first | exact absurd h.1 ‹_› | exact absurd h.2 ‹_› | exact absurd h.2.1 ‹_› | exact absurd h.2.2.1 ‹_› | exact absurd h.2.2.2 ‹_›)) trivial
     ·have h18:=of_decide_eq_false h18
      refine v_if (decide (s.getD (↑i:Int).toNat 0=47)) True trivial (fun h24=>?_) (fun h24=>?_)
      ·have h24:=of_decide_eq_true h24
       refine v_guard 39 (decide (0<(↑i:Int))) True trivial (fun h25=>?_) (fun h25=>?_)
       ·have h25:=of_decide_eq_true h25
        refine v_guard 46 (decide ((↑i:Int)<(↑s.length:Int) - 1)) ((I64 (↑s.length - 1))) (by(unfold I64;omega)) (fun h26=>?_) (fun h26=>?_)
        ·have h26:=of_decide_eq_true h26
         refine v_if (decide (s.getD ((↑i:Int) - 1).toNat 0≠47)) ((I64 (↑i - 1))∧(0≤(↑i:Int) - 1∧(↑i:Int) - 1<(↑s.length:Int))) ⟨(by(unfold I64;omega)),(by omega)⟩ (fun h27=>?_) (fun h27=>?_)
         ·have h27:=of_decide_eq_true h27
          exact v_back (i+1) [] ((I64 (↑i+1))∧((↑i:Int)+1=(↑(i+1):Int))) ⟨(by(unfold I64;omega)),rfl⟩ (show(ckN s (i+1)=true∧i+1≤s.length)∧s.length - (i+1)<s.length - i from(by exact ck5 ‹_› ‹_› (.inr (.inr ⟨‹_›,‹_›,‹_›,‹_›⟩))))
         ·have h27:=of_decide_eq_false h27
          refine v_leave .rt True trivial ?_
          exact v_ret () [] ((false=ckS s)) (by(refine ck3 (i:=i) ‹_› ‹_› ‹_› ?_;rintro (h | h | h) <;> first | exact absurd h.1 ‹_› | exact absurd h.2 ‹_› | exact absurd h.2.1 ‹_› | exact absurd h.2.2.1 ‹_› | exact absurd h.2.2.2 ‹_›)) trivial
        ·have h26:=of_decide_eq_false h26
         refine v_leave .rt True trivial ?_
         exact v_ret () [] ((false=ckS s)) (by(refine ck3 (i:=i) ‹_› ‹_› ‹_› ?_;rintro (h | h | h) <;> first | exact absurd h.1 ‹_› | exact absurd h.2 ‹_› | exact absurd h.2.1 ‹_› | exact absurd h.2.2.1 ‹_› | exact absurd h.2.2.2 ‹_›)) trivial
       ·have h25:=of_decide_eq_false h25
        refine v_leave .rt True trivial ?_
        exact v_ret () [] ((false=ckS s)) (by(refine ck3 (i:=i) ‹_› ‹_› ‹_› ?_;rintro (h | h | h) <;> first | exact absurd h.1 ‹_› | exact absurd h.2 ‹_› | exact absurd h.2.1 ‹_› | exact absurd h.2.2.1 ‹_› | exact absurd h.2.2.2 ‹_›)) trivial
      ·have h24:=of_decide_eq_false h24
       refine v_leave .rt True trivial ?_
       exact v_ret () [] ((false=ckS s)) (by(refine ck3 (i:=i) ‹_› ‹_› ‹_› ?_;rintro (h | h | h) <;> first | exact absurd h.1 ‹_› | exact absurd h.2 ‹_› | exact absurd h.2.1 ‹_› | exact absurd h.2.2.1 ‹_› | exact absurd h.2.2.2 ‹_›)) trivial
   ·have h4:=of_decide_eq_false h4
    refine v_leave (.ex 0) True trivial ?_
    exact v_ret () [] ((true=ckS s)) (by exact ck4 ‹_› ‹_› ‹_› ‹_›) trivial
abbrev pre (c:Int):List UInt8:=[99,104,ofI8 (48+c % 10),47]
noncomputable def ccDN2_47:Code:=(Tryz.f47.body).getD .skip
theorem prefix_ok (c:Int) (h:0≤c∧c<4):FOk EN 47 ⟨[],[.i c],Unit,fun _=>([],.s (pre c)),fun _=>True⟩:=by
 refine v_fun Tryz.f47 ccDN2_47 MX (fun ν F σ w=>?_) Tryz.func47
 refine v_nl ?_
 exact v_ret () [] (((0:Int)≤c∧(0:Int)<(10:Int))∧(I64 (48+c % 10))∧(#[(99:UInt8),(104:UInt8)].toList.length+(1:Nat)≤(9000000000000000000:Nat))∧((#[(99:UInt8),(104:UInt8)].toList++[ofI8 ((48:Int)+c % (10:Int))]).length + #[(47:UInt8)].toList.length≤(9000000000000000000:Nat))∧(#[99,104].toList++[ofI8 (48+c % 10)] ++ #[47].toList=pre c)) ⟨(by omega),(by(unfold I64;omega)),(by decide),(by exact Nat.le_of_ble_eq_true rfl),rfl⟩ trivial
def bkB (c:Int) (s:List UInt8):Bool:=decide (0≤c∧c<4) && hp s (pre c)
def bkS (c:Int) (s:List UInt8):List UInt8:=if bkB c s=true then s.drop 4 else[]
section
variable {c:Int} {s:List UInt8}
theorem bk_1 (h:c<0):false=bkB c s:=by unfold bkB;rw[decide_eq_false (by omega)];rfl
theorem bk_2 (h:4≤c):false=bkB c s:=by unfold bkB;rw[decide_eq_false (by omega)];rfl
theorem bk_3 (h1:¬ c<0) (h2:¬ 4≤c):hp s (pre c)=bkB c s:=by unfold bkB;rw[decide_eq_true (by omega)];rfl
theorem bk_s {b:Bool} (h:b=bkB c s) (hb:b=false):[]=bkS c s:=by unfold bkS;rw[← h,hb];rfl
theorem bk_t (h1:¬ c<0) (h2:¬ 4≤c) (h:hp s (pre c)=true):cutp s (pre c)=bkS c s:=by unfold bkS cutp;rw[← bk_3 h1 h2,h];rfl
theorem bk_b {b:Bool} (h1:¬ c<0) (h2:¬ 4≤c) (h:hp s (pre c)=b):b=bkB c s:=by rw[← bk_3 h1 h2,h]
end
noncomputable def ccDN2_28:Code:=(Tryz.f28.body).getD .skip
theorem Back_ok (c:Int) (s:List UInt8):FOk EN 28 ⟨[],[.i c,.s s],Unit,fun _=>([],.t [.s (bkS c s),.b (bkB c s)]),fun _=>True⟩:=by
 refine v_fun Tryz.f28 ccDN2_28 MX (fun ν F σ w=>?_) Tryz.func28
 refine v_nl ?_
 refine v_guard 10 (decide (c<0)) True trivial (fun h1=>?_) (fun h1=>?_)
 ·have h1:=of_decide_eq_true h1
  exact v_ret () [] ((#[].toList=bkS c s)∧(false=bkB c s)) ⟨(by exact bk_s (bk_1 ‹_›) rfl),(by exact bk_1 ‹_›)⟩ trivial
 ·have h1:=of_decide_eq_false h1
  refine v_if (decide (4≤c)) True trivial (fun h2=>?_) (fun h2=>?_)
  ·have h2:=of_decide_eq_true h2
   exact v_ret () [] ((#[].toList=bkS c s)∧(false=bkB c s)) ⟨(by exact bk_s (bk_2 ‹_›) rfl),(by exact bk_2 ‹_›)⟩ trivial
  ·have h2:=of_decide_eq_false h2
   refine v_call _ [] (prefix_ok (c) (by omega)) ((c=c)) rfl (fun g3 p4=>?_)
   have p4:True:=p4
   refine v_call _ [] (SCutPrefix_ok (s) (pre c)) ((s=s)∧(pre c=pre c)) ⟨rfl,rfl⟩ (fun g5 p6=>?_)
   have p6:True:=p6
   refine v_if (!hp s (pre c)) True trivial (fun h7=>?_) (fun h7=>?_)
   ·have h7:=(nt h7)
    exact v_ret () [] ((#[].toList=bkS c s)∧(false=bkB c s)) ⟨(by exact bk_s (bk_b ‹_› ‹_› ‹_›) rfl),(by exact bk_b ‹_› ‹_› ‹_›)⟩ trivial
   ·have h7:=(nf h7)
    exact v_ret () [] ((cutp s (pre c)=bkS c s)∧(true=bkB c s)) ⟨(by exact bk_t ‹_› ‹_› ‹_›),(by exact bk_b ‹_› ‹_› ‹_›)⟩ trivial
def thE (c:Int) (s:List UInt8):Int:=if c<0∨4≤c then 2 else if ckS s=false then 43 else if bkB c s=true then 0 else if 36<(s.length:Int) then 43 else 0
def thS (c:Int) (s:List UInt8):List UInt8:=if ¬ thE c s=0 then[] else if bkB c s=true then bkS c s else pre c++s
section
variable {c:Int} {s:List UInt8}
theorem th1 (h:c<0):thE c s=2:=by unfold thE;rw[if_pos (.inl h)]
theorem th2 (h:4≤c):thE c s=2:=by unfold thE;rw[if_pos (.inr h)]
theorem thz (h1:¬ c<0) (h2:¬ 4≤c):thE c s=if ckS s=false then 43 else if bkB c s=true then 0 else if 36<(s.length:Int) then 43 else 0:=by
  have z:¬ (c<0∨4≤c):=by rintro (h | h);exact h1 h;exact h2 h
  unfold thE;rw[if_neg z]
theorem th3 (h1:¬ c<0) (h2:¬ 4≤c) (h3:ckS s=false):thE c s=43:=by rw[thz h1 h2,if_pos h3]
theorem th4 (h1:¬ c<0) (h2:¬ 4≤c) (h3:ckS s=true) (h4:bkB c s=true):thE c s=0:=by rw[thz h1 h2,h3,h4];rfl
theorem th5 (h1:¬ c<0) (h2:¬ 4≤c) (h3:ckS s=true) (h4:bkB c s=false) (h5:36<(s.length:Int)):thE c s=43:=by rw[thz h1 h2,h3,h4,if_pos h5];rfl
theorem th6 (h1:¬ c<0) (h2:¬ 4≤c) (h3:ckS s=true) (h4:bkB c s=false) (h5:¬ 36<(s.length:Int)):thE c s=0:=by rw[thz h1 h2,h3,h4,if_neg h5];rfl
theorem thx {x:Int} (h:thE c s=x) (hx:x≠0):[]=thS c s:=by unfold thS;rw[h,if_pos hx]
theorem thy (h:thE c s=0) (h4:bkB c s=true):bkS c s=thS c s:=by unfold thS;rw[h,h4];rfl
theorem thw (h:thE c s=0) (h4:bkB c s=false):pre c++s=thS c s:=by unfold thS;rw[h,h4];rfl
end
noncomputable def ccDN2_27:Code:=(Tryz.f27.body).getD .skip
theorem There_ok (c:Int) (s:List UInt8) (hs:s.length≤140737488351232):FOk EN 27 ⟨[],[.i c,.s s],Unit,fun _=>([],.t [.s (thS c s),.i (thE c s)]),fun _=>True⟩:=by
 refine v_fun Tryz.f27 ccDN2_27 MX (fun ν F σ w=>?_) Tryz.func27
 refine v_nl ?_
 refine v_guard 11 (decide (c<0)) True trivial (fun h1=>?_) (fun h1=>?_)
 ·have h1:=of_decide_eq_true h1
  exact v_ret () [] ((#[].toList=thS c s)∧(2=thE c s)) ⟨(by exact thx (th1 ‹_›) (by decide)),(by exact(th1 ‹_›).symm)⟩ trivial
 ·have h1:=of_decide_eq_false h1
  refine v_if (decide (4≤c)) True trivial (fun h2=>?_) (fun h2=>?_)
  ·have h2:=of_decide_eq_true h2
   exact v_ret () [] ((#[].toList=thS c s)∧(2=thE c s)) ⟨(by exact thx (th2 ‹_›) (by decide)),(by exact(th2 ‹_›).symm)⟩ trivial
  ·have h2:=of_decide_eq_false h2
   refine v_call _ [] (Check_ok (s) ‹_›) ((s=s)) rfl (fun g3 p4=>?_)
   have p4:True:=p4
   refine v_if (!ckS s) True trivial (fun h5=>?_) (fun h5=>?_)
   ·have h5:=(nt h5)
    exact v_ret () [] ((#[].toList=thS c s)∧(43=thE c s)) ⟨(by exact thx (th3 ‹_› ‹_› ‹_›) (by decide)),(by exact(th3 ‹_› ‹_› ‹_›).symm)⟩ trivial
   ·have h5:=(nf h5)
    refine v_call _ [] (Back_ok (c) (s)) ((c=c)∧(s=s)) ⟨rfl,rfl⟩ (fun g6 p7=>?_)
    have p7:True:=p7
    refine v_if (bkB c s) True trivial (fun h8=>?_) (fun h8=>?_)
    ·skip
     exact v_ret () [] ((bkS c s=thS c s)∧(0=thE c s)) ⟨(by exact thy (th4 ‹_› ‹_› ‹_› ‹_›) ‹_›),(by exact(th4 ‹_› ‹_› ‹_› ‹_›).symm)⟩ trivial
    ·skip
     refine v_if (decide (36<(↑s.length:Int))) True trivial (fun h9=>?_) (fun h9=>?_)
     ·have h9:=of_decide_eq_true h9
      exact v_ret () [] ((#[].toList=thS c s)∧(43=thE c s)) ⟨(by exact thx (th5 ‹_› ‹_› ‹_› ‹_› ‹_›) (by decide)),(by exact(th5 ‹_› ‹_› ‹_› ‹_› ‹_›).symm)⟩ trivial
     ·have h9:=of_decide_eq_false h9
      refine v_call _ [] (prefix_ok (c) (by omega)) ((c=c)) rfl (fun g10 p11=>?_)
      have p11:True:=p11
      exact v_ret () [] (((pre c).length+s.length≤9000000000000000000)∧(pre c++s=thS c s)∧(0=thE c s)) ⟨(by(simp;omega)),(by exact thw (th6 ‹_› ‹_› ‹_› ‹_› ‹_›) ‹_›),(by exact(th6 ‹_› ‹_› ‹_› ‹_› ‹_›).symm)⟩ trivial
abbrev esc (c:Int):List UInt8:=(#[101,115,99,114,111,119,45]:Array UInt8).toList++[(48+ofI c % 10).toUInt8]
noncomputable def ccDN2_30:Code:=(Tryz.f30.body).getD .skip
theorem Escrow_ok (c:Int) (h:0≤c∧c<4):FOk EN 30 ⟨[],[.i c],Unit,fun _=>([],.s (esc c)),fun _=>True⟩:=by
 refine v_fun Tryz.f30 ccDN2_30 MX (fun ν F σ w=>?_) Tryz.func30
 refine v_nl ?_
 exact v_ret () [] (((10:UInt64)≠(0:UInt64))∧(#[(101:UInt8),(115:UInt8),(99:UInt8),(114:UInt8),(111:UInt8),(119:UInt8),(45:UInt8)].toList.length+(1:Nat)≤(9000000000000000000:Nat))∧(#[101,115,99,114,111,119,45].toList++[(48+ofI c % 10).toUInt8]=esc c)) ⟨(by decide),(by decide),rfl⟩ trivial
abbrev nmP (s:List UInt8) (i:Nat):Prop:=¬ ((s.getD i 0<97∨122<s.getD i 0)∧(s.getD i 0<48∨57<s.getD i 0))
def nmN (s:List UInt8):Nat→Bool
  | 0=>true
  | i+1=>nmN s i && decide (nmP s i)
def nmS (s:List UInt8):Bool:=if(s.length:Int)=0∨16<(s.length:Int) then false else nmN s s.length
theorem nmN_at {s:List UInt8}:∀ {n i:Nat},nmN s n=true→i<n→nmP s i
  | n + 1, i, h, hi => by
    unfold nmN at h
    rw[Bool.and_eq_true,decide_eq_true_eq] at h
    by_cases e:i=n
    · subst e;exact h.2
    · exact nmN_at h.1 (by omega)
section
variable {s:List UInt8} {i:Nat} {e:Er}
def nmQ (s:List UInt8) (v:Option Er):Prop:=v.isNone=nmS s∧codeO v=(if nmS s=true then 0 else 42)∧depO v≤1
theorem nmf {wh:List UInt8} {n:Int} (h:nmS s=false):nmQ s (some (.step wh n (.num 42))):=by unfold nmQ;rw[h];exact⟨rfl,rfl,Nat.le_refl _⟩
theorem nmt (h:nmS s=true):nmQ s none:=by unfold nmQ;rw[h];exact⟨rfl,rfl,Nat.zero_le _⟩
theorem nm_1 (h:(s.length:Int)=0):nmS s=false:=by unfold nmS;rw[if_pos (.inl h)]
theorem nm_2 (h:16<(s.length:Int)):nmS s=false:=by unfold nmS;rw[if_pos (.inr h)]
theorem nm_n (h1:¬ (s.length:Int)=0) (h2:¬ 16<(s.length:Int)):nmS s=nmN s s.length:=by
  have z:¬ ((s.length:Int)=0∨16<(s.length:Int)):=by rintro (h | h);exact h1 h;exact h2 h
  unfold nmS;rw[if_neg z]
theorem nm_3 (h1:¬ (s.length:Int)=0) (h2:¬ 16<(s.length:Int)) (hi:(i:Int)<s.length) (h:(s.getD i 0<97∨122<s.getD i 0)∧(s.getD i 0<48∨57<s.getD i 0)):nmS s=false:=by
  rw[nm_n h1 h2]
  cases e:nmN s s.length with
  | false=>rfl
  | true=>exact absurd h (nmN_at e (by omega))
theorem nm_4 (h1:¬ (s.length:Int)=0) (h2:¬ 16<(s.length:Int)) (hk:nmN s i=true∧i≤s.length) (hi:¬ (i:Int)<s.length):nmS s=true:=by
  rw[nm_n h1 h2,show s.length=i by omega,hk.1]
theorem nm_5 (hk:nmN s i=true∧i≤s.length) (hi:(i:Int)<s.length) (h:nmP s i):(nmN s (i+1)=true∧i+1≤s.length)∧s.length - (i+1)<s.length - i:=by
  refine⟨⟨?_,by omega⟩,by omega⟩
  unfold nmN;rw[hk.1,Bool.true_and];exact decide_eq_true h
end
noncomputable def ccTF1_45:Code:=(Tryz.f45.body).getD .skip
theorem Tname_ok (s:List UInt8) (hs:s.length≤140737488351232):FOk EN 45 ⟨[],[.s s],Option Er,fun v=>([.pn (PE v) true v.isNone],.n 0),fun v=>nmQ s v⟩:=by
 refine v_fun Tryz.f45 ccTF1_45 MX (fun ν F σ w=>?_) Tryz.func45
 refine v_nl ?_
 refine v_guard 8 (decide ((↑s.length:Int)=0)) True trivial (fun h1=>?_) (fun h1=>?_)
 ·have h1:=of_decide_eq_true h1
  refine v_al [] (al_e1 (42)) True trivial ?_
  refine v_call _ [1] (faultAtO_ok (#[110,97,109,101].toList) (↑s.length) (some (Er.num 42))) ((#[(110:UInt8),(97:UInt8),(109:UInt8),(101:UInt8)].toList=#[(110:UInt8),(97:UInt8),(109:UInt8),(101:UInt8)].toList)∧((↑s.length:Int)=(↑s.length:Int))∧((42:Int)=(42:Int))∧(PE (some (Er.num 42))=PE (some (Er.num 42)))∧(false=false)) ⟨rfl,rfl,rfl,rfl,rfl⟩ (fun g2 p3=>?_)
  have p3:True:=p3
  exact v_ret (Option.map (Er.step #[110,97,109,101].toList ↑s.length) (some (Er.num 42))) [2] ((PE (Option.map (Er.step #[110,97,109,101].toList ↑s.length) (some (Er.num 42)))=PE (Option.map (Er.step #[110,97,109,101].toList ↑s.length) (some (Er.num 42))))∧(false=(Option.map (Er.step #[110,97,109,101].toList ↑s.length) (some (Er.num 42))).isNone)) ⟨rfl,rfl⟩ (by exact nmf (nm_1 ‹_›))
 ·have h1:=of_decide_eq_false h1
  refine v_if (decide (16<(↑s.length:Int))) True trivial (fun h4=>?_) (fun h4=>?_)
  ·have h4:=of_decide_eq_true h4
   refine v_al [] (al_e1 (42)) True trivial ?_
   refine v_call _ [1] (faultAtO_ok (#[110,97,109,101].toList) (↑s.length) (some (Er.num 42))) ((#[(110:UInt8),(97:UInt8),(109:UInt8),(101:UInt8)].toList=#[(110:UInt8),(97:UInt8),(109:UInt8),(101:UInt8)].toList)∧((↑s.length:Int)=(↑s.length:Int))∧((42:Int)=(42:Int))∧(PE (some (Er.num 42))=PE (some (Er.num 42)))∧(false=false)) ⟨rfl,rfl,rfl,rfl,rfl⟩ (fun g5 p6=>?_)
   have p6:True:=p6
   exact v_ret (Option.map (Er.step #[110,97,109,101].toList ↑s.length) (some (Er.num 42))) [2] ((PE (Option.map (Er.step #[110,97,109,101].toList ↑s.length) (some (Er.num 42)))=PE (Option.map (Er.step #[110,97,109,101].toList ↑s.length) (some (Er.num 42))))∧(false=(Option.map (Er.step #[110,97,109,101].toList ↑s.length) (some (Er.num 42))).isNone)) ⟨rfl,rfl⟩ (by exact nmf (nm_2 ‹_›))
  ·have h4:=of_decide_eq_false h4
   refine v_loop (fun i:Nat=>([(19,.i i)],[])) (fun i=>nmN s i=true∧i≤s.length) (fun i=>s.length - i) 0 [] (((0:Int)=(↑(0:Nat):Int))) rfl (by exact⟨rfl,Nat.zero_le _⟩) (fun i hk7=>?_)
   refine v_if (decide ((↑i:Int)<(↑s.length:Int))) True trivial (fun h8=>?_) (fun h8=>?_)
   ·have h8:=of_decide_eq_true h8
    refine v_guard 27 (decide (s.getD (↑i:Int).toNat 0<97)) ((0≤(↑i:Int)∧(↑i:Int)<(↑s.length:Int))) (by omega) (fun h9=>?_) (fun h9=>?_)
    ·have h9:=of_decide_eq_true h9
     refine v_guard 34 (decide (s.getD (↑i:Int).toNat 0<48)) True trivial (fun h10=>?_) (fun h10=>?_)
     ·have h10:=of_decide_eq_true h10
      refine v_al [] (al_e1 (42)) True trivial ?_
      refine v_call _ [1] (faultAtO_ok (#[110,97,109,101].toList) (↑i) (some (Er.num 42))) ((#[(110:UInt8),(97:UInt8),(109:UInt8),(101:UInt8)].toList=#[(110:UInt8),(97:UInt8),(109:UInt8),(101:UInt8)].toList)∧((↑i:Int)=(↑i:Int))∧((42:Int)=(42:Int))∧(PE (some (Er.num 42))=PE (some (Er.num 42)))∧(false=false)) ⟨rfl,rfl,rfl,rfl,rfl⟩ (fun g11 p12=>?_)
      have p12:True:=p12
      refine v_leave .rt True trivial ?_
      exact v_ret (Option.map (Er.step #[110,97,109,101].toList ↑i) (some (Er.num 42))) [2] ((PE (Option.map (Er.step #[110,97,109,101].toList ↑i) (some (Er.num 42)))=PE (Option.map (Er.step #[110,97,109,101].toList ↑i) (some (Er.num 42))))∧(false=(Option.map (Er.step #[110,97,109,101].toList ↑i) (some (Er.num 42))).isNone)) ⟨rfl,rfl⟩ (by exact nmf (nm_3 (i:=i) ‹_› ‹_› ‹_› ⟨.inl ‹_›,.inl ‹_›⟩))
     ·have h10:=of_decide_eq_false h10
      refine v_if (decide (57<s.getD (↑i:Int).toNat 0)) True trivial (fun h13=>?_) (fun h13=>?_)
      ·have h13:=of_decide_eq_true h13
       refine v_al [] (al_e1 (42)) True trivial ?_
       refine v_call _ [1] (faultAtO_ok (#[110,97,109,101].toList) (↑i) (some (Er.num 42))) ((#[(110:UInt8),(97:UInt8),(109:UInt8),(101:UInt8)].toList=#[(110:UInt8),(97:UInt8),(109:UInt8),(101:UInt8)].toList)∧((↑i:Int)=(↑i:Int))∧((42:Int)=(42:Int))∧(PE (some (Er.num 42))=PE (some (Er.num 42)))∧(false=false)) ⟨rfl,rfl,rfl,rfl,rfl⟩ (fun g14 p15=>?_)
       have p15:True:=p15
       refine v_leave .rt True trivial ?_
       exact v_ret (Option.map (Er.step #[110,97,109,101].toList ↑i) (some (Er.num 42))) [2] ((PE (Option.map (Er.step #[110,97,109,101].toList ↑i) (some (Er.num 42)))=PE (Option.map (Er.step #[110,97,109,101].toList ↑i) (some (Er.num 42))))∧(false=(Option.map (Er.step #[110,97,109,101].toList ↑i) (some (Er.num 42))).isNone)) ⟨rfl,rfl⟩ (by exact nmf (nm_3 (i:=i) ‹_› ‹_› ‹_› ⟨.inl ‹_›,.inr ‹_›⟩))
      ·have h13:=of_decide_eq_false h13
       exact v_back (i+1) [] ((I64 (↑i+1))∧((↑i:Int)+1=(↑(i+1):Int))) ⟨(by(unfold I64;omega)),rfl⟩ (show(nmN s (i+1)=true∧i+1≤s.length)∧s.length - (i+1)<s.length - i from(by exact nm_5 ‹_› ‹_› (fun h=>h.2.elim ‹_› ‹_›)))
    ·have h9:=of_decide_eq_false h9
     refine v_guard 31 (decide (122<s.getD (↑i:Int).toNat 0)) True trivial (fun h16=>?_) (fun h16=>?_)
     ·have h16:=of_decide_eq_true h16
      refine v_guard 34 (decide (s.getD (↑i:Int).toNat 0<48)) True trivial (fun h17=>?_) (fun h17=>?_)
      ·have h17:=of_decide_eq_true h17
       refine v_al [] (al_e1 (42)) True trivial ?_
       refine v_call _ [1] (faultAtO_ok (#[110,97,109,101].toList) (↑i) (some (Er.num 42))) ((#[(110:UInt8),(97:UInt8),(109:UInt8),(101:UInt8)].toList=#[(110:UInt8),(97:UInt8),(109:UInt8),(101:UInt8)].toList)∧((↑i:Int)=(↑i:Int))∧((42:Int)=(42:Int))∧(PE (some (Er.num 42))=PE (some (Er.num 42)))∧(false=false)) ⟨rfl,rfl,rfl,rfl,rfl⟩ (fun g18 p19=>?_)
       have p19:True:=p19
       refine v_leave .rt True trivial ?_
       exact v_ret (Option.map (Er.step #[110,97,109,101].toList ↑i) (some (Er.num 42))) [2] ((PE (Option.map (Er.step #[110,97,109,101].toList ↑i) (some (Er.num 42)))=PE (Option.map (Er.step #[110,97,109,101].toList ↑i) (some (Er.num 42))))∧(false=(Option.map (Er.step #[110,97,109,101].toList ↑i) (some (Er.num 42))).isNone)) ⟨rfl,rfl⟩ (by exact nmf (nm_3 (i:=i) ‹_› ‹_› ‹_› ⟨.inr ‹_›,.inl ‹_›⟩))
      ·have h17:=of_decide_eq_false h17
       refine v_if (decide (57<s.getD (↑i:Int).toNat 0)) True trivial (fun h20=>?_) (fun h20=>?_)
       ·have h20:=of_decide_eq_true h20
        refine v_al [] (al_e1 (42)) True trivial ?_
        refine v_call _ [1] (faultAtO_ok (#[110,97,109,101].toList) (↑i) (some (Er.num 42))) ((#[(110:UInt8),(97:UInt8),(109:UInt8),(101:UInt8)].toList=#[(110:UInt8),(97:UInt8),(109:UInt8),(101:UInt8)].toList)∧((↑i:Int)=(↑i:Int))∧((42:Int)=(42:Int))∧(PE (some (Er.num 42))=PE (some (Er.num 42)))∧(false=false)) ⟨rfl,rfl,rfl,rfl,rfl⟩ (fun g21 p22=>?_)
        have p22:True:=p22
        refine v_leave .rt True trivial ?_
        exact v_ret (Option.map (Er.step #[110,97,109,101].toList ↑i) (some (Er.num 42))) [2] ((PE (Option.map (Er.step #[110,97,109,101].toList ↑i) (some (Er.num 42)))=PE (Option.map (Er.step #[110,97,109,101].toList ↑i) (some (Er.num 42))))∧(false=(Option.map (Er.step #[110,97,109,101].toList ↑i) (some (Er.num 42))).isNone)) ⟨rfl,rfl⟩ (by exact nmf (nm_3 (i:=i) ‹_› ‹_› ‹_› ⟨.inr ‹_›,.inr ‹_›⟩))
       ·have h20:=of_decide_eq_false h20
        exact v_back (i+1) [] ((I64 (↑i+1))∧((↑i:Int)+1=(↑(i+1):Int))) ⟨(by(unfold I64;omega)),rfl⟩ (show(nmN s (i+1)=true∧i+1≤s.length)∧s.length - (i+1)<s.length - i from(by exact nm_5 ‹_› ‹_› (fun h=>h.2.elim ‹_› ‹_›)))
     ·have h16:=of_decide_eq_false h16
      exact v_back (i+1) [] ((I64 (↑i+1))∧((↑i:Int)+1=(↑(i+1):Int))) ⟨(by(unfold I64;omega)),rfl⟩ (show(nmN s (i+1)=true∧i+1≤s.length)∧s.length - (i+1)<s.length - i from(by exact nm_5 ‹_› ‹_› (fun h=>h.1.elim ‹_› ‹_›)))
   ·have h8:=of_decide_eq_false h8
    refine v_leave (.ex 0) True trivial ?_
    refine v_al [] (al_e0 _ rfl) True trivial ?_
    exact v_ret ((none:Option Er)) [1] ((PE (none:Option Er)=PE (none:Option Er))∧(Option.isNone (none:Option Er)=Option.isNone (none:Option Er))) ⟨rfl,rfl⟩ (by exact nmt (nm_4 ‹_› ‹_› ‹_› ‹_›))
abbrev pkS (p:Packet):SV:=.a [.i p.channel,.u p.seq,.u p.timeout,.s p.denom,.u p.amount,.s p.from_,.s p.to]
def mayE (p:Packet):Int:=if ¬ thE p.channel p.denom=0 then thE p.channel p.denom else if nmS p.from_=false then 42 else if nmS p.to=false then 42 else if p.amount=0 then 44 else 0
def ckQ (p:Packet) (v:Option Er):Prop:=v.isNone=decide (mayE p=0)∧codeO v=mayE p∧depO v≤2
theorem mapN (o:Option Er) {f:Er→Er}:o.isNone=(o.map f).isNone:=by cases o <;> rfl
section
variable {p:Packet} {wh:List UInt8} {n:Int}
theorem may_1 (h:thE p.channel p.denom≠0):mayE p=thE p.channel p.denom:=by unfold mayE;rw[if_pos h]
theorem may_z (h:¬ thE p.channel p.denom≠0):mayE p=if nmS p.from_=false then 42 else if nmS p.to=false then 42 else if p.amount=0 then 44 else 0:=by unfold mayE;rw[if_neg h]
theorem may_2 (h:¬ thE p.channel p.denom≠0) (h2:nmS p.from_=false):mayE p=42:=by rw[may_z h,if_pos h2]
theorem may_3 (h:¬ thE p.channel p.denom≠0) (h3:nmS p.to=false):mayE p=42:=by rw[may_z h,if_pos h3,ite_self]
theorem may_4 (h:¬ thE p.channel p.denom≠0) (h2:nmS p.from_=true) (h3:nmS p.to=true) (h4:p.amount=0):mayE p=44:=by rw[may_z h,h2,h3,if_pos h4];rfl
theorem may_5 (h:¬ thE p.channel p.denom≠0) (h2:nmS p.from_=true) (h3:nmS p.to=true) (h4:¬ p.amount=0):mayE p=0:=by rw[may_z h,h2,h3,if_neg h4];rfl
theorem nmq_f {s:List UInt8} {v:Option Er} (h:nmQ s v) (hv:v.isNone=false):nmS s=false∧codeO v=42∧depO v≤1:=by
  have h1:nmS s=false:=by rw[← h.1,hv]
  exact⟨h1,by rw[h.2.1,h1];rfl,h.2.2⟩
theorem nmq_t {s:List UInt8} {v:Option Er} (h:nmQ s v) (hv:v.isNone=true):nmS s=true:=by rw[← h.1,hv]
theorem ckf {v:Option Er} (h:mayE p=42) (hv:v.isNone=false) (hc:codeO v=42) (hd:depO v≤1):ckQ p (v.map (Er.step wh n)):=by
  cases v with
  | none=>cases hv
  | some e=>unfold ckQ;rw[h];exact⟨rfl,hc,Nat.succ_le_succ hd⟩
theorem ckN_ {x:Int} (h:mayE p=x) (hx:x≠0):ckQ p (Option.map (Er.step wh n) (some (Er.num x))):=by
  unfold ckQ;rw[h,decide_eq_false hx];exact⟨rfl,rfl,by show(1:Nat)≤2;decide⟩
theorem ckq_1 (h:thE p.channel p.denom≠0):ckQ p (Option.map (Er.step wh n) (some (Er.num (thE p.channel p.denom)))):=ckN_ (may_1 h) h
theorem ckq_2 {v:Option Er} (h:¬ thE p.channel p.denom≠0) (q:nmQ p.from_ v) (hv:v.isNone=false):ckQ p (v.map (Er.step wh n)):=ckf (may_2 h (nmq_f q hv).1) hv (nmq_f q hv).2.1 (nmq_f q hv).2.2
theorem ckq_3 {v:Option Er} (h:¬ thE p.channel p.denom≠0) (q:nmQ p.to v) (hv:v.isNone=false):ckQ p (v.map (Er.step wh n)):=ckf (may_3 h (nmq_f q hv).1) hv (nmq_f q hv).2.1 (nmq_f q hv).2.2
theorem ckq_4 {v w:Option Er} (h:¬ thE p.channel p.denom≠0) (q:nmQ p.from_ v) (hv:v.isNone=true) (r:nmQ p.to w) (hw:w.isNone=true) (ha:p.amount=0):ckQ p (Option.map (Er.step wh n) (some (Er.num 44))):=ckN_ (may_4 h (nmq_t q hv) (nmq_t r hw) ha) (by decide)
theorem ckq_5 {v w:Option Er} (h:¬ thE p.channel p.denom≠0) (q:nmQ p.from_ v) (hv:v.isNone=true) (r:nmQ p.to w) (hw:w.isNone=true) (ha:¬ p.amount=0):ckQ p none:=by
  unfold ckQ;rw[may_5 h (nmq_t q hv) (nmq_t r hw) ha];exact⟨rfl,rfl,Nat.zero_le _⟩
end
noncomputable def ccTF2_26:Code:=(Tryz.f26.body).getD .skip
theorem Tcheck_ok (p:Packet) (h1:p.denom.length≤140737488351232) (h2:p.from_.length≤140737488351232) (h3:p.to.length≤140737488351232):FOk EN 26 ⟨[],[pkS p],Option Er,fun v=>([.pn (PE v) true v.isNone],.n 0),fun v=>ckQ p v⟩:=by
 refine v_fun Tryz.f26 ccTF2_26 MX (fun ν F σ w=>?_) Tryz.func26
 refine v_nl ?_
 refine v_call _ [] (There_ok (p.channel) (p.denom) ‹_›) ((p.channel=p.channel)∧(p.denom=p.denom)) ⟨rfl,rfl⟩ (fun g1 p2=>?_)
 have p2:True:=p2
 refine v_if (decide (thE p.channel p.denom≠0)) True trivial (fun h3=>?_) (fun h3=>?_)
 ·have h3:=of_decide_eq_true h3
  refine v_al [] (al_e1 (thE p.channel p.denom)) True trivial ?_
  refine v_call _ [2] (faultAtO_ok (#[100,101,110,111,109].toList) (0) (some (Er.num (thE p.channel p.denom)))) ((#[(100:UInt8),(101:UInt8),(110:UInt8),(111:UInt8),(109:UInt8)].toList=#[(100:UInt8),(101:UInt8),(110:UInt8),(111:UInt8),(109:UInt8)].toList)∧((0:Int)=(0:Int))∧(thE p.channel p.denom=thE p.channel p.denom)∧(PE (some (Er.num (thE p.channel p.denom)))=PE (some (Er.num (thE p.channel p.denom))))∧(false=false)) ⟨rfl,rfl,rfl,rfl,rfl⟩ (fun g4 p5=>?_)
  have p5:True:=p5
  exact v_ret (Option.map (Er.step #[100,101,110,111,109].toList 0) (some (Er.num (thE p.channel p.denom)))) [3] ((PE (Option.map (Er.step #[100,101,110,111,109].toList 0) (some (Er.num (thE p.channel p.denom))))=PE (Option.map (Er.step #[100,101,110,111,109].toList 0) (some (Er.num (thE p.channel p.denom)))))∧(false=(Option.map (Er.step #[100,101,110,111,109].toList 0) (some (Er.num (thE p.channel p.denom)))).isNone)) ⟨rfl,rfl⟩ (by exact ckq_1 ‹_›)
 ·have h3:=of_decide_eq_false h3
  refine v_call _ [] (Tname_ok (p.from_) ‹_›) ((p.from_=p.from_)) rfl (fun g6 p7=>?_)
  have p7:nmQ p.from_ g6:=p7
  refine v_if (!g6.isNone) True trivial (fun h8=>?_) (fun h8=>?_)
  ·have h8:=(nt h8)
   refine v_call _ [2] (faultAtO_ok (#[102,114,111,109].toList) (0) (g6)) ((#[(102:UInt8),(114:UInt8),(111:UInt8),(109:UInt8)].toList=#[(102:UInt8),(114:UInt8),(111:UInt8),(109:UInt8)].toList)∧((0:Int)=(0:Int))∧(PE g6=PE g6)∧(g6.isNone=g6.isNone)) ⟨rfl,rfl,rfl,rfl⟩ (fun g9 p10=>?_)
   have p10:True:=p10
   exact v_ret (Option.map (Er.step #[102,114,111,109].toList 0) g6) [3] ((PE (Option.map (Er.step #[102,114,111,109].toList 0) g6)=PE (Option.map (Er.step #[102,114,111,109].toList 0) g6))∧(g6.isNone=(Option.map (Er.step #[102,114,111,109].toList 0) g6).isNone)) ⟨rfl,(by exact mapN _)⟩ (by exact ckq_2 ‹_› ‹_› ‹_›)
  ·have h8:=(nf h8)
   refine v_call _ [] (Tname_ok (p.to) ‹_›) ((p.to=p.to)) rfl (fun g11 p12=>?_)
   have p12:nmQ p.to g11:=p12
   refine v_if (!g11.isNone) True trivial (fun h13=>?_) (fun h13=>?_)
   ·have h13:=(nt h13)
    refine v_call _ [3] (faultAtO_ok (#[116,111].toList) (0) (g11)) ((#[(116:UInt8),(111:UInt8)].toList=#[(116:UInt8),(111:UInt8)].toList)∧((0:Int)=(0:Int))∧(PE g11=PE g11)∧(g11.isNone=g11.isNone)) ⟨rfl,rfl,rfl,rfl⟩ (fun g14 p15=>?_)
    have p15:True:=p15
    exact v_ret (Option.map (Er.step #[116,111].toList 0) g11) [4] ((PE (Option.map (Er.step #[116,111].toList 0) g11)=PE (Option.map (Er.step #[116,111].toList 0) g11))∧(g11.isNone=(Option.map (Er.step #[116,111].toList 0) g11).isNone)) ⟨rfl,(by exact mapN _)⟩ (by exact ckq_3 ‹_› ‹_› ‹_›)
   ·have h13:=(nf h13)
    refine v_if (decide (p.amount=0)) True trivial (fun h16=>?_) (fun h16=>?_)
    ·have h16:=of_decide_eq_true h16
     refine v_al [] (al_e1 (44)) True trivial ?_
     refine v_call _ [4] (faultAtO_ok (#[97,109,111,117,110,116].toList) (0) (some (Er.num 44))) ((#[(97:UInt8),(109:UInt8),(111:UInt8),(117:UInt8),(110:UInt8),(116:UInt8)].toList=#[(97:UInt8),(109:UInt8),(111:UInt8),(117:UInt8),(110:UInt8),(116:UInt8)].toList)∧((0:Int)=(0:Int))∧((44:Int)=(44:Int))∧(PE (some (Er.num 44))=PE (some (Er.num 44)))∧(false=false)) ⟨rfl,rfl,rfl,rfl,rfl⟩ (fun g17 p18=>?_)
     have p18:True:=p18
     exact v_ret (Option.map (Er.step #[97,109,111,117,110,116].toList 0) (some (Er.num 44))) [5] ((PE (Option.map (Er.step #[97,109,111,117,110,116].toList 0) (some (Er.num 44)))=PE (Option.map (Er.step #[97,109,111,117,110,116].toList 0) (some (Er.num 44))))∧(false=(Option.map (Er.step #[97,109,111,117,110,116].toList 0) (some (Er.num 44))).isNone)) ⟨rfl,rfl⟩ (by exact ckq_4 ‹_› ‹nmQ p.from_ _› ‹_› ‹nmQ p.to _› ‹_› ‹_›)
    ·have h16:=of_decide_eq_false h16
     refine v_al [] (al_e0 _ rfl) True trivial ?_
     exact v_ret ((none:Option Er)) [4] ((PE (none:Option Er)=PE (none:Option Er))∧(Option.isNone (none:Option Er)=Option.isNone (none:Option Er))) ⟨rfl,rfl⟩ (by exact ckq_5 ‹_› ‹nmQ p.from_ _› ‹_› ‹nmQ p.to _› ‹_› ‹_›)
end Go.Proofs.YtblnnkkelkjbiaaGreatDoor.X
