/- What the law MultiCodes needs: the engine, the walks of what it reaches, plain laws; part 6. -/
import Derived.Test.YtgpaifnijnaebaaDoorMultiCodesM5
import Derived.OpenShut
set_option linter.unnecessarySimpa false
set_option linter.deprecated false
set_option linter.unusedVariables false
set_option linter.unusedSimpArgs false
namespace Go.Proofs.YtgpaifnijnaebaaDoor.X
open Go Go.RowKit Go.Proofs.YtgpaifnijnaebaaDoor.E
def OpF {α:Type} (P:Program) (t:TypeId) (fs:Array Go.Field) (off:Nat) (T:Ty α):Prop :=
  ∀(w:World) (cs:List Value),cs.length=P.cellsOf t→(∀(i:Nat) (f:Go.Field),fs[i]? = some f→∀ {β:Type} {U:Ty β},E.Opens P f.type U→∀ o sz,f.offset=o→P.cellsOf f.type=sz→∃ a,U.rep (sig0 w) w a ((cs.drop o).take sz))→∃ a,T.rep (sig0 w) w a (cs.drop off)
section
variable {α β:Type} {P:Program} {t:TypeId} {fs:Array Go.Field} {off n:Nat} {A:Ty α} {B:Ty β} {f:Go.Field}
theorem opF_cons (i:Nat) (hf:fs[i]? = some f) (ho:f.offset=off) (O:E.Opens P f.type A) (hs:P.cellsOf f.type=n) (hB:OpF P t fs (off+n) B):OpF P t fs off (tProd A B):=by
  intro w cs hl h
  obtain⟨a,ha⟩:=h i f hf O off n ho hs
  obtain⟨b,hb⟩:=hB w cs hl h
  exact⟨(a,b),_,_,by rw[← List.drop_drop];exact(List.take_append_drop n _).symm,ha,hb⟩
theorem opF_last (i:Nat) (hf:fs[i]? = some f) (ho:f.offset=off) (O:E.Opens P f.type A) (hs:P.cellsOf f.type=n) (tot:P.cellsOf t=off+n):OpF P t fs off A:=by
  intro w cs hl h
  obtain⟨a,ha⟩:=h i f hf O off n ho hs
  rw[List.take_of_length_le (by rw[List.length_drop];omega)] at ha
  exact⟨a,ha⟩
theorem opens_rec (ht:P.underlying t=some (.struct fs)) (h:OpF P t fs 0 A):E.Opens P t A:=by
  intro H enc w sp held fuel cs x hx hw
  obtain⟨hl,hf⟩:=opens_field ht hx hw
  obtain⟨a,ha⟩:=h w cs hl (fun i f hi β U O o sz ho hs=>hf i f hi O o sz ho hs)
  exact⟨a,by simpa using ha⟩
theorem opens_by (n:Nat) (h:E.Opens P t A):E.Opens P t (tBy A n):=h
theorem opens_iso {g:β→α} (k:α→β) (hg:∀ b,g (k b)=b) (h:E.Opens P t A):E.Opens P t (tIso g A):=by
  intro H enc w sp held fuel cs x hx hw
  obtain⟨b,hb⟩:=h hx hw
  exact⟨k b,by show A.rep _ _ (g (k b)) _;rw[hg];exact hb⟩
end
def u8Of:Option Value→UInt8
  | some (.int .u8 n)=>UInt8.ofNat n.toNat
  | _=>0
theorem u8Of_bv (b:UInt8):u8Of (some (bv b))=b:=by simp[u8Of,bv]
theorem opens_hash {P:Program} {t e:TypeId} (ht:P.underlying t=some (.array 32 e)) (he:P.underlying e=some (.int .u8)) (hc:P.cellsOf e=1) (hct:P.cellsOf t=32):E.Opens P t tHash:=by
  intro H enc w sp held fuel cs x hx hw
  obtain⟨xs,m,rfl,rfl,hl,hn,hel⟩:=DataW.trod_array ht hx
  rw[hct] at hl
  have hb:∀ i,i<32→∃ b:UInt8,cs[i]? = some (bv b):=fun i hi=>by
    have h:=hel i hi
    rw[hc,Nat.mul_one,List.getElem?_eq_getElem (by omega)] at h
    obtain⟨n,e1,_,hw⟩:=DataW.trod_int he h
    obtain⟨b,rfl⟩:=wf_u8 hw
    refine⟨b,?_⟩
    have:((cs.drop i).take 1)[0]? = some (.int .u8 (b.toNat:Int)):=by rw[e1];rfl
    simpa using this
  refine⟨mk32 ((List.range 32).map fun i=>u8Of cs[i]?),?_⟩
  show cs=hk 32 (mk32 _).l
  rw[mk32_hk]
  apply List.ext_getElem?
  intro i
  by_cases hi:i<32
  · obtain ⟨b, e1⟩ := hb i hi
    rw[e1]
    simp[hk,hi,e1,List.getD_eq_getElem?_getD,u8Of_bv]
  · rw[List.getElem?_eq_none (by omega),List.getElem?_eq_none (by rw[hk_len];omega)]
theorem rd_u8_len {σ:Nat→Nat} {w:World} {v:Value} {xs:List UInt8} (h:Rd tU8 σ w v xs):xs.length≤140737488355328:=by
  have:=h.bd;rwa [show tU8.by_=1 from rfl,Nat.mul_one] at this
end Go.Proofs.YtgpaifnijnaebaaDoor.X
set_option linter.unusedVariables false
set_option maxRecDepth 100000
namespace Go.Proofs.YtgpaifnijnaebaaDoor.X
open Go Go.RowKit Go.Proofs.YtgpaifnijnaebaaDoor.E
theorem opAct:E.Opens Tryd.prog 66 tAct:=opens_by 56 (opens_iso (fun p=>⟨p.1,p.2.1,p.2.2.1,p.2.2.2⟩) (fun _=>rfl) (opens_rec Tryd.underlying66 (opF_cons (n:=1) 0 rfl rfl (opens_u8 Tryd.underlying5) (by kernel_rfl) (opF_cons (n:=1) 1 rfl rfl (opens_u8 Tryd.underlying5) (by kernel_rfl) (opF_cons (n:=1) 2 rfl rfl (opens_slice (T:=tU8) Tryd.underlying23 (by kernel_rfl) (by kernel_rfl) (by decide) (opens_u8 Tryd.underlying5)) (by kernel_rfl) (opF_last (n:=1) 3 rfl rfl (opens_slice (T:=tU8) Tryd.underlying23 (by kernel_rfl) (by kernel_rfl) (by decide) (opens_u8 Tryd.underlying5)) (by kernel_rfl) (by kernel_rfl)))))))
theorem opToken:E.Opens Tryd.prog 32 tToken:=opens_by 104 (opens_iso (fun p=>⟨p.1,p.2.1,p.2.2.1,p.2.2.2.1,p.2.2.2.2.1,p.2.2.2.2.2⟩) (fun _=>rfl) (opens_rec Tryd.underlying32 (opF_cons (n:=1) 0 rfl rfl (opens_u8 Tryd.underlying27) (by kernel_rfl) (opF_cons (n:=32) 1 rfl rfl (opens_hash (e:=5) Tryd.underlying29 Tryd.underlying5 (by kernel_rfl) (by kernel_rfl)) (by kernel_rfl) (opF_cons (n:=1) 2 rfl rfl (opens_slice (T:=tU8) Tryd.underlying23 (by kernel_rfl) (by kernel_rfl) (by decide) (opens_u8 Tryd.underlying5)) (by kernel_rfl) (opF_cons (n:=1) 3 rfl rfl (opens_slice (T:=tU8) Tryd.underlying23 (by kernel_rfl) (by kernel_rfl) (by decide) (opens_u8 Tryd.underlying5)) (by kernel_rfl) (opF_cons (n:=1) 4 rfl rfl (opens_i64 Tryd.underlying3) (by kernel_rfl) (opF_last (n:=1) 5 rfl rfl (opens_u64 Tryd.underlying30) (by kernel_rfl) (by kernel_rfl)))))))))
theorem reps_mem {α:Type} {R:α→List Value→Prop}:∀ {xs:List α} {cs:List Value},Reps R xs cs→∀ x∈xs,∃ c,R x c
  | y :: ys, cs, ⟨c, r, _, hc, hr⟩, x, hx => by
    rcases List.mem_cons.1 hx with rfl | h
    · exact⟨c,hc⟩
    · exact reps_mem hr x h
theorem rd_tok_len {σ:Nat→Nat} {w:World} {v:Value} {xs:List Token} (h:Rd tToken σ w v xs):∀ x∈xs,x.key.length≤140737488355328∧x.value.length≤140737488355328:=by
  obtain⟨a,cap,e,hc,hb,h⟩:=h
  rcases h with h | ⟨b,o,cs,e2,hs,hr⟩
  · intro x hx;rw[h] at hx;cases hx
  · intro x hx
    obtain⟨c,hc⟩:=reps_mem hr x hx
    obtain⟨_,_,_,_,_,_,_,_,_,_,_,⟨k,_,hk⟩,_,_,_,⟨u,_,hu⟩,_⟩:=hc
    exact⟨rd_u8_len hk,rd_u8_len hu⟩
end Go.Proofs.YtgpaifnijnaebaaDoor.X
