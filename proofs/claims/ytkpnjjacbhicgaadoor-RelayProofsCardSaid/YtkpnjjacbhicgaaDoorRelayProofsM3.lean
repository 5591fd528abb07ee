/- What the law RelayProofs needs: the engine, the walks of what it reaches, plain laws; part 3. -/
import Derived.Test.YtkpnjjacbhicgaaDoorRelayProofsM2
import Derived.Test.YtkpnjjacbhicgaaDoorProg
set_option linter.unnecessarySimpa false
set_option linter.deprecated false
set_option linter.unusedVariables false
set_option linter.unusedSimpArgs false
set_option maxRecDepth 100000
namespace Go.Proofs.YtkpnjjacbhicgaaDoor.X
open Go Go.RowKit Go.Proofs Go.Proofs.YtkpnjjacbhicgaaDoor.E
def ixG {α:Type} (p:α→Bool):List α→Nat→Int
  | [],_=>-1
  | a::r,n=>if p a=true then n else ixG p r (n+1)
abbrev ixP {α:Type} (p:α→Bool) (l:List α) (k:Nat):Prop:=ixG p (l.drop k) k=ixG p l 0∧k≤l.length
section
variable {α:Type} {p:α→Bool} {l:List α} {k:Nat} {d:α}
theorem ix_at (hk:(k:Int)<l.length):ixG p (l.drop k) k=if p (l.getD (k:Int).toNat d)=true then(k:Int) else ixG p (l.drop (k+1)) (k+1):=by
  rw[List.drop_eq_getElem_cons (by omega),ixG,Int.toNat_natCast,List.getD_eq_getElem?_getD,List.getElem?_eq_getElem (by omega)];rfl
theorem ix_hit (h:ixP p l k) (hk:(k:Int)<l.length) (hp:p (l.getD (k:Int).toNat d)=true):(k:Int)=ixG p l 0:=by rw[← h.1,ix_at (d:=d) hk,if_pos hp]
theorem ix_next (h:ixP p l k) (hk:(k:Int)<l.length) (hp:p (l.getD (k:Int).toNat d)=false):ixP p l (k+1)∧l.length - (k+1)<l.length - k:=by
  refine⟨⟨?_,by omega⟩,by omega⟩
  rw[← h.1,ix_at (d:=d) hk,if_neg (by rw[hp];decide)]
theorem ix_stop (h:ixP p l k) (hk:¬ (k:Int)<l.length) : -1=ixG p l 0:=by rw[← h.1,List.drop_of_length_le (by omega)];rfl
theorem ix_lt:∀(l:List α) (n:Nat),ixG p l n<n+l.length∧(0≤ixG p l n→(n:Int)≤ixG p l n)
  | [],n=>⟨by simp only[ixG,List.length_nil];omega,fun h=>absurd h (by simp only[ixG];omega)⟩
  | a :: r, n => by
    unfold ixG;split
    · exact⟨by simp only[List.length_cons];omega,fun _=>Int.le_refl _⟩
    · have := ix_lt r (n + 1)
      refine⟨by simp only[List.length_cons];omega,fun h=>?_⟩
      have h2:=this.2 h;omega
theorem ix_b (h:¬ ixG p l 0<0):0≤ixG p l 0∧ixG p l 0<l.length:=by have:=(ix_lt (p:=p) l 0).1;omega
end
abbrev kqP (x:UInt8):UInt8→Bool:=fun y=>decide (x=y)
def cnK (ks:List UInt8) (x:UInt8):Bool:=decide (0≤ixG (kqP x) ks 0)
theorem kq1 {x y:UInt8} (h:x=y):kqP x y=true:=decide_eq_true h
theorem kq0 {x y:UInt8} (h:¬ x=y):kqP x y=false:=decide_eq_false h
noncomputable def ccRL1_67:Code:=(Tryd.f67.body).getD .skip
theorem KIndex_ok (ks:List UInt8) (x:UInt8) (hl:ks.length≤1000):FOk EN 67 ⟨[.rd 56 ks],[.n 0,.c x],Unit,fun _=>([.rd 56 ks],.i (ixG (kqP x) ks 0)),fun _=>True⟩:=by
 refine v_fun Tryd.f67 ccRL1_67 MX (fun ν F σ w=>?_) Tryd.func67
 refine v_nl ?_
 refine v_loop (fun k:Nat=>([(8,.i k)],[])) (fun k=>ixP (kqP x) ks k) (fun k=>ks.length - k) 0 [] (((0:Int)=(↑(0:Nat):Int))) rfl (by exact⟨rfl,Nat.zero_le _⟩) (fun k hk1=>?_)
 refine v_if (decide ((↑k:Int)<(↑ks.length:Int))) True trivial (fun h2=>?_) (fun h2=>?_)
 ·have h2:=of_decide_eq_true h2
  refine v_if (decide (x=ks.getD (↑k:Int).toNat 0)) ((0≤(↑k:Int)∧(↑k:Int)<(↑ks.length:Int))) (by omega) (fun h3=>?_) (fun h3=>?_)
  ·have h3:=of_decide_eq_true h3
   refine v_leave .rt True trivial ?_
   exact v_ret () [] ((↑k=ixG (kqP x) ks 0)∧(ks=ks)) ⟨(by exact ix_hit (d:=0) ‹_› ‹_› (kq1 ‹_›)),rfl⟩ trivial
  ·have h3:=of_decide_eq_false h3
   exact v_back (k+1) [] ((I64 (↑k+1))∧((↑k:Int)+1=(↑(k+1):Int))) ⟨(by(unfold I64;omega)),rfl⟩ (show ixP (kqP x) ks (k+1)∧ks.length - (k+1)<ks.length - k from(by exact ix_next (d:=0) ‹_› ‹_› (kq0 ‹_›)))
 ·have h2:=of_decide_eq_false h2
  refine v_leave (.ex 0) True trivial ?_
  exact v_ret () [] ((-1=ixG (kqP x) ks 0)∧(ks=ks)) ⟨(by exact ix_stop ‹_› ‹_›),rfl⟩ trivial
noncomputable def ccRL1_57:Code:=(Tryd.f57.body).getD .skip
theorem KContains_ok (ks:List UInt8) (x:UInt8) (hl:ks.length≤1000):FOk EN 57 ⟨[.rd 56 ks],[.n 0,.c x],Unit,fun _=>([.rd 56 ks],.b (cnK ks x)),fun _=>True⟩:=by
 refine v_fun Tryd.f57 ccRL1_57 MX (fun ν F σ w=>?_) Tryd.func57
 refine v_nl ?_
 refine v_call _ [0] (KIndex_ok (ks) (x) ‹_›) ((x=x)∧(ks=ks)) ⟨rfl,rfl⟩ (fun g1 p2=>?_)
 have p2:True:=p2
 exact v_ret () [] ((decide (0≤ixG (kqP x) ks 0)=cnK ks x)∧(ks=ks)) ⟨rfl,rfl⟩ trivial
abbrev pq (x y:Packet):Bool:=decide (x.channel=y.channel) && (decide (x.seq=y.seq) && (decide (x.timeout=y.timeout) && (decide (x.denom=y.denom) && (decide (x.amount=y.amount) && (decide (x.from_=y.from_) && (decide (x.to=y.to) && true))))))
def isOf (ks:List UInt8) (p:Packet) (e:Event):Bool:=cnK ks e.kind && pq e.packet p
abbrev evT (e:Event):SV:=.a [.c e.kind,.i e.packet.channel,.u e.packet.seq,.u e.packet.timeout,.s e.packet.denom,.u e.packet.amount,.s e.packet.from_,.s e.packet.to,.b e.ack.ok,.i e.ack.code]
abbrev pkL (p:Packet):List SV:=[.i p.channel,.u p.seq,.u p.timeout,.s p.denom,.u p.amount,.s p.from_,.s p.to]
theorem is0 {ks:List UInt8} {p:Packet} {e:Event} (h:cnK ks e.kind=false):false=isOf ks p e:=by unfold isOf;rw[h];rfl
theorem is1 {ks:List UInt8} {p:Packet} {e:Event} (h:cnK ks e.kind=true):pq e.packet p=isOf ks p e:=by unfold isOf;rw[h];rfl
noncomputable def ccRL1_56:Code:=(Tryd.f56.body).getD .skip
theorem same1_ok (ks:List UInt8) (p:Packet) (e:Event) (hl:ks.length≤1000):FOk EN 56 ⟨[.rd 56 ks,.bx 126 [.n 0],.bx 55 (pkL p)],[evT e,.p 1 0,.p 2 0],Unit,fun _=>([.rd 56 ks,.bx 126 [.n 0],.bx 55 (pkL p)],.b (isOf ks p e)),fun _=>True⟩:=by
 refine v_fun Tryd.f56 ccRL1_56 MX (fun ν F σ w=>?_) Tryd.func56
 refine v_nl ?_
 refine v_call _ [0] (KContains_ok (ks) (e.kind) ‹_›) ((e.kind=e.kind)∧(ks=ks)) ⟨rfl,rfl⟩ (fun g1 p2=>?_)
 have p2:True:=p2
 refine v_guard 9 (cnK ks e.kind) True trivial (fun h3=>?_) (fun h3=>?_)
 ·skip
  exact v_ret () [] ((EN.P.eqGuardType EN.P.depth (55:Nat)=false)∧(noBl EN.P 55)∧((decide (e.packet.channel=p.channel) && (decide (e.packet.seq=p.seq) && (decide (e.packet.timeout=p.timeout) && (decide (e.packet.denom=p.denom) && (decide (e.packet.amount=p.amount) && (decide (e.packet.from_=p.from_) && (decide (e.packet.to=p.to) && true)))))))=isOf ks p e)∧(ks=ks)∧(p.channel=p.channel)∧(p.seq=p.seq)∧(p.timeout=p.timeout)∧(p.denom=p.denom)∧(p.amount=p.amount)∧(p.from_=p.from_)∧(p.to=p.to)) ⟨(by kernel_rfl),rfl,(by exact is1 ‹_›),rfl,rfl,rfl,rfl,rfl,rfl,rfl,rfl⟩ trivial
 ·skip
  exact v_ret () [] ((false=isOf ks p e)∧(ks=ks)∧(p.channel=p.channel)∧(p.seq=p.seq)∧(p.timeout=p.timeout)∧(p.denom=p.denom)∧(p.amount=p.amount)∧(p.from_=p.from_)∧(p.to=p.to)) ⟨(by exact is0 ‹_›),rfl,rfl,rfl,rfl,rfl,rfl,rfl,rfl⟩ trivial
abbrev dE:Event:=⟨0,⟨0,0,0,[],0,[],[]⟩,⟨false,0⟩⟩
noncomputable def ccRL1_55:Code:=(Tryd.f55.body).getD .skip
theorem EIndex_ok (l:List Event) (ks:List UInt8) (p:Packet) (hl:l.length≤1000000) (hk:ks.length≤1000):FOk EN 55 ⟨[.rd 60 l,.rd 56 ks,.bx 126 [.n 1],.bx 55 (pkL p)],[.n 0,.f 56 [] [.p 2 0,.p 3 0]],Unit,fun _=>([.rd 60 l,.rd 56 ks,.bx 126 [.n 1],.bx 55 (pkL p)],.i (ixG (isOf ks p) l 0)),fun _=>True⟩:=by
 refine v_fun Tryd.f55 ccRL1_55 MX (fun ν F σ w=>?_) Tryd.func55
 refine v_nl ?_
 refine v_loop (fun k:Nat=>([(8,.i k)],[])) (fun k=>ixP (isOf ks p) l k) (fun k=>l.length - k) 0 [] (((0:Int)=(↑(0:Nat):Int))) rfl (by exact⟨rfl,Nat.zero_le _⟩) (fun k hk1=>?_)
 refine v_if (decide ((↑k:Int)<(↑l.length:Int))) True trivial (fun h2=>?_) (fun h2=>?_)
 ·have h2:=of_decide_eq_true h2
  refine v_call _ [1,2,3] (same1_ok (ks) (p) (l.getD (↑k:Int).toNat (Event.mk 0 (Packet.mk 0 0 0 [] 0 [] []) (Ack.mk false 0))) ‹_›) ((0≤(↑k:Int)∧(↑k:Int)<(↑l.length:Int))∧((l.getD (↑k:Int).toNat (Event.mk 0 (Packet.mk 0 0 0 [] 0 [] []) (Ack.mk false 0))).kind=(l.getD (↑k:Int).toNat (Event.mk 0 (Packet.mk 0 0 0 [] 0 [] []) (Ack.mk false 0))).kind)∧((l.getD (↑k:Int).toNat (Event.mk 0 (Packet.mk 0 0 0 [] 0 [] []) (Ack.mk false 0))).packet.channel=(l.getD (↑k:Int).toNat (Event.mk 0 (Packet.mk 0 0 0 [] 0 [] []) (Ack.mk false 0))).packet.channel)∧((l.getD (↑k:Int).toNat (Event.mk 0 (Packet.mk 0 0 0 [] 0 [] []) (Ack.mk false 0))).packet.seq=(l.getD (↑k:Int).toNat (Event.mk 0 (Packet.mk 0 0 0 [] 0 [] []) (Ack.mk false 0))).packet.seq)∧((l.getD (↑k:Int).toNat (Event.mk 0 (Packet.mk 0 0 0 [] 0 [] []) (Ack.mk false 0))).packet.timeout=(l.getD (↑k:Int).toNat (Event.mk 0 (Packet.mk 0 0 0 [] 0 [] []) (Ack.mk false 0))).packet.timeout)∧((l.getD (↑k:Int).toNat (Event.mk 0 (Packet.mk 0 0 0 [] 0 [] []) (Ack.mk false 0))).packet.denom=(l.getD (↑k:Int).toNat (Event.mk 0 (Packet.mk 0 0 0 [] 0 [] []) (Ack.mk false 0))).packet.denom)∧((l.getD (↑k:Int).toNat (Event.mk 0 (Packet.mk 0 0 0 [] 0 [] []) (Ack.mk false 0))).packet.amount=(l.getD (↑k:Int).toNat (Event.mk 0 (Packet.mk 0 0 0 [] 0 [] []) (Ack.mk false 0))).packet.amount)∧((l.getD (↑k:Int).toNat (Event.mk 0 (Packet.mk 0 0 0 [] 0 [] []) (Ack.mk false 0))).packet.from_=(l.getD (↑k:Int).toNat (Event.mk 0 (Packet.mk 0 0 0 [] 0 [] []) (Ack.mk false 0))).packet.from_)∧((l.getD (↑k:Int).toNat (Event.mk 0 (Packet.mk 0 0 0 [] 0 [] []) (Ack.mk false 0))).packet.to=(l.getD (↑k:Int).toNat (Event.mk 0 (Packet.mk 0 0 0 [] 0 [] []) (Ack.mk false 0))).packet.to)∧((l.getD (↑k:Int).toNat (Event.mk 0 (Packet.mk 0 0 0 [] 0 [] []) (Ack.mk false 0))).ack.ok=(l.getD (↑k:Int).toNat (Event.mk 0 (Packet.mk 0 0 0 [] 0 [] []) (Ack.mk false 0))).ack.ok)∧((l.getD (↑k:Int).toNat (Event.mk 0 (Packet.mk 0 0 0 [] 0 [] []) (Ack.mk false 0))).ack.code=(l.getD (↑k:Int).toNat (Event.mk 0 (Packet.mk 0 0 0 [] 0 [] []) (Ack.mk false 0))).ack.code)∧(ks=ks)∧(p.channel=p.channel)∧(p.seq=p.seq)∧(p.timeout=p.timeout)∧(p.denom=p.denom)∧(p.amount=p.amount)∧(p.from_=p.from_)∧(p.to=p.to)) ⟨(by omega),rfl,rfl,rfl,rfl,rfl,rfl,rfl,rfl,rfl,rfl,rfl,rfl,rfl,rfl,rfl,rfl,rfl,rfl⟩ (fun g3 p4=>?_)
  have p4:True:=p4
  refine v_if (isOf ks p (l.getD (↑k:Int).toNat (Event.mk 0 (Packet.mk 0 0 0 [] 0 [] []) (Ack.mk false 0)))) True trivial (fun h5=>?_) (fun h5=>?_)
  ·skip
   refine v_leave .rt True trivial ?_
   exact v_ret () [] ((↑k=ixG (isOf ks p) l 0)∧(l=l)∧(ks=ks)∧(p.channel=p.channel)∧(p.seq=p.seq)∧(p.timeout=p.timeout)∧(p.denom=p.denom)∧(p.amount=p.amount)∧(p.from_=p.from_)∧(p.to=p.to)) ⟨(by exact ix_hit (d:=dE) ‹_› ‹_› ‹_›),rfl,rfl,rfl,rfl,rfl,rfl,rfl,rfl,rfl⟩ trivial
  ·skip
   exact v_back (k+1) [] ((I64 (↑k+1))∧((↑k:Int)+1=(↑(k+1):Int))) ⟨(by(unfold I64;omega)),rfl⟩ (show ixP (isOf ks p) l (k+1)∧l.length - (k+1)<l.length - k from(by exact ix_next (d:=dE) ‹_› ‹_› ‹_›))
 ·have h2:=of_decide_eq_false h2
  refine v_leave (.ex 0) True trivial ?_
  exact v_ret () [] ((-1=ixG (isOf ks p) l 0)∧(l=l)∧(ks=ks)∧(p.channel=p.channel)∧(p.seq=p.seq)∧(p.timeout=p.timeout)∧(p.denom=p.denom)∧(p.amount=p.amount)∧(p.from_=p.from_)∧(p.to=p.to)) ⟨(by exact ix_stop ‹_› ‹_›),rfl,rfl,rfl,rfl,rfl,rfl,rfl,rfl,rfl⟩ trivial
def smI (l:List Event) (ks:List UInt8) (p:Packet):Int:=ixG (isOf ks p) l 0
def smE (l:List Event) (ks:List UInt8) (p:Packet):Event:=if smI l ks p<0 then dE else l.getD (smI l ks p).toNat dE
def smB (l:List Event) (ks:List UInt8) (p:Packet):Bool:=decide (0≤smI l ks p)
section
variable {l:List Event} {ks:List UInt8} {p:Packet}
theorem sme1 (h:ixG (isOf ks p) l 0<0):dE=smE l ks p∧false=smB l ks p:=by
  have h':smI l ks p<0:=h
  unfold smE smB;rw[if_pos h',decide_eq_false (by omega)];exact⟨rfl,rfl⟩
theorem sme2 (h:¬ ixG (isOf ks p) l 0<0):l.getD (ixG (isOf ks p) l 0).toNat dE=smE l ks p∧true=smB l ks p:=by
  have h':¬ smI l ks p<0:=h
  unfold smE smB;rw[if_neg h',decide_eq_true (by omega)];exact⟨rfl,rfl⟩
end
noncomputable def ccRL1_39:Code:=(Tryd.f39.body).getD .skip
theorem same_ok (l:List Event) (ks:List UInt8) (p:Packet) (hl:l.length≤1000000) (hk:ks.length≤1000):FOk EN 39 ⟨[.rd 60 l,.rd 56 ks],[.n 0,.a (pkL p),.n 1],Unit,fun _=>([.rd 60 l,.rd 56 ks],.t [evT (smE l ks p),.b (smB l ks p)]),fun _=>True⟩:=by
 refine v_fun Tryd.f39 ccRL1_39 MX (fun ν F σ w=>?_) Tryd.func39
 refine v_nl ?_
 refine v_call _ [0,1,4,3] (EIndex_ok (l) (ks) (p) ‹_› ‹_›) ((56=56)∧(l=l)∧(ks=ks)∧(p.channel=p.channel)∧(p.seq=p.seq)∧(p.timeout=p.timeout)∧(p.denom=p.denom)∧(p.amount=p.amount)∧(p.from_=p.from_)∧(p.to=p.to)) ⟨rfl,rfl,rfl,rfl,rfl,rfl,rfl,rfl,rfl,rfl⟩ (fun g1 p2=>?_)
 have p2:True:=p2
 refine v_if (decide (ixG (isOf ks p) l 0<0)) True trivial (fun h3=>?_) (fun h3=>?_)
 ·have h3:=of_decide_eq_true h3
  exact v_ret () [] ((0=(smE l ks p).kind)∧(0=(smE l ks p).packet.channel)∧(0=(smE l ks p).packet.seq)∧(0=(smE l ks p).packet.timeout)∧([]=(smE l ks p).packet.denom)∧(0=(smE l ks p).packet.amount)∧([]=(smE l ks p).packet.from_)∧([]=(smE l ks p).packet.to)∧(false=(smE l ks p).ack.ok)∧(0=(smE l ks p).ack.code)∧(false=smB l ks p)∧(l=l)∧(ks=ks)) ⟨(by(rw[← (sme1 ‹_›).1] <;> rfl)),(by(rw[← (sme1 ‹_›).1] <;> rfl)),(by(rw[← (sme1 ‹_›).1] <;> rfl)),(by(rw[← (sme1 ‹_›).1] <;> rfl)),(by(rw[← (sme1 ‹_›).1] <;> rfl)),(by(rw[← (sme1 ‹_›).1] <;> rfl)),(by(rw[← (sme1 ‹_›).1] <;> rfl)),(by(rw[← (sme1 ‹_›).1] <;> rfl)),(by(rw[← (sme1 ‹_›).1] <;> rfl)),(by(rw[← (sme1 ‹_›).1] <;> rfl)),(by exact(sme1 ‹_›).2),rfl,rfl⟩ trivial
 ·have h3:=of_decide_eq_false h3
  exact v_ret () [] ((0≤ixG (isOf ks p) l 0∧ixG (isOf ks p) l 0 < ↑l.length)∧((l.getD (ixG (isOf ks p) l 0).toNat (Event.mk 0 (Packet.mk 0 0 0 [] 0 [] []) (Ack.mk false 0))).kind=(smE l ks p).kind)∧((l.getD (ixG (isOf ks p) l 0).toNat (Event.mk 0 (Packet.mk 0 0 0 [] 0 [] []) (Ack.mk false 0))).packet.channel=(smE l ks p).packet.channel)∧((l.getD (ixG (isOf ks p) l 0).toNat (Event.mk 0 (Packet.mk 0 0 0 [] 0 [] []) (Ack.mk false 0))).packet.seq=(smE l ks p).packet.seq)∧((l.getD (ixG (isOf ks p) l 0).toNat (Event.mk 0 (Packet.mk 0 0 0 [] 0 [] []) (Ack.mk false 0))).packet.timeout=(smE l ks p).packet.timeout)∧((l.getD (ixG (isOf ks p) l 0).toNat (Event.mk 0 (Packet.mk 0 0 0 [] 0 [] []) (Ack.mk false 0))).packet.denom=(smE l ks p).packet.denom)∧((l.getD (ixG (isOf ks p) l 0).toNat (Event.mk 0 (Packet.mk 0 0 0 [] 0 [] []) (Ack.mk false 0))).packet.amount=(smE l ks p).packet.amount)∧((l.getD (ixG (isOf ks p) l 0).toNat (Event.mk 0 (Packet.mk 0 0 0 [] 0 [] []) (Ack.mk false 0))).packet.from_=(smE l ks p).packet.from_)∧((l.getD (ixG (isOf ks p) l 0).toNat (Event.mk 0 (Packet.mk 0 0 0 [] 0 [] []) (Ack.mk false 0))).packet.to=(smE l ks p).packet.to)∧((l.getD (ixG (isOf ks p) l 0).toNat (Event.mk 0 (Packet.mk 0 0 0 [] 0 [] []) (Ack.mk false 0))).ack.ok=(smE l ks p).ack.ok)∧((l.getD (ixG (isOf ks p) l 0).toNat (Event.mk 0 (Packet.mk 0 0 0 [] 0 [] []) (Ack.mk false 0))).ack.code=(smE l ks p).ack.code)∧(true=smB l ks p)∧(l=l)∧(ks=ks)) ⟨(by exact ix_b ‹_›),(by(rw[← (sme2 ‹_›).1] <;> rfl)),(by(rw[← (sme2 ‹_›).1] <;> rfl)),(by(rw[← (sme2 ‹_›).1] <;> rfl)),(by(rw[← (sme2 ‹_›).1] <;> rfl)),(by(rw[← (sme2 ‹_›).1] <;> rfl)),(by(rw[← (sme2 ‹_›).1] <;> rfl)),(by(rw[← (sme2 ‹_›).1] <;> rfl)),(by(rw[← (sme2 ‹_›).1] <;> rfl)),(by(rw[← (sme2 ‹_›).1] <;> rfl)),(by(rw[← (sme2 ‹_›).1] <;> rfl)),(by exact(sme2 ‹_›).2),rfl,rfl⟩ trivial
abbrev fP {α:Type} (p:α→Bool) (l:List α) (k:Nat):List α:=(l.take k).filter p
section
variable {α:Type} {p:α→Bool} {l:List α} {k:Nat} {d:α}
theorem tk_ (hk:(k:Int)<l.length):l.take (k+1)=l.take k++[l.getD (k:Int).toNat d]:=by
  rw[Int.toNat_natCast,List.take_add_one,List.getD_eq_getElem?_getD,List.getElem?_eq_getElem (by omega)];rfl
theorem fy (hk:(k:Int)<l.length) (h:p (l.getD (k:Int).toNat d)=true):fP p l k++[l.getD (k:Int).toNat d]=fP p l (k+1):=by
  unfold fP;rw[tk_ (d:=d) hk,List.filter_append,List.filter_cons,h];rfl
theorem fn (hk:(k:Int)<l.length) (h:p (l.getD (k:Int).toNat d)=false):fP p l k=fP p l (k+1):=by
  unfold fP;rw[tk_ (d:=d) hk,List.filter_append,List.filter_cons,h];simp
theorem fz (hk:¬ (k:Int)<l.length):fP p l k=l.filter p:=by unfold fP;rw[List.take_of_length_le (by omega)]
theorem fl (h:l.length≤1000):(fP p l k).length+1≤1000000:=by have:=List.length_filter_le p (l.take k);have h2:=(List.take_sublist k l).length_le;unfold fP;omega
theorem fi (h:l.length≤1000) (hk:(k:Int)<l.length):I64 ((k:Int)+1):=by unfold I64;omega
end
def stB (c:Int) (e:Event):Bool:=decide (e.kind=1) && decide (e.packet.channel=c)
theorem st0 {c:Int} {e:Event} (h:¬ e.kind=1):false=stB c e:=by unfold stB;rw[decide_eq_false h];rfl
theorem st1 {c:Int} {e:Event} (h:e.kind=1):decide (e.packet.channel=c)=stB c e:=by unfold stB;rw[decide_eq_true h];rfl
noncomputable def ccRL2_54:Code:=(Tryd.f54.body).getD .skip
theorem sent1_ok (c:Int) (e:Event):FOk EN 54 ⟨[.bx 3 [.i c]],[evT e,.p 0 0],Unit,fun _=>([.bx 3 [.i c]],.b (stB c e)),fun _=>True⟩:=by
 refine v_fun Tryd.f54 ccRL2_54 MX (fun ν F σ w=>?_) Tryd.func54
 refine v_nl ?_
 refine v_guard 7 (decide (e.kind=1)) True trivial (fun h1=>?_) (fun h1=>?_)
 ·have h1:=of_decide_eq_true h1
  exact v_ret () [] ((decide (e.packet.channel=c)=stB c e)∧(c=c)) ⟨(by exact st1 ‹_›),rfl⟩ trivial
 ·have h1:=of_decide_eq_false h1
  exact v_ret () [] ((false=stB c e)∧(c=c)) ⟨(by exact st0 ‹_›),rfl⟩ trivial
noncomputable def ccRL2_53:Code:=(Tryd.f53.body).getD .skip
theorem keepE_ok (l:List Event) (c:Int) (hl:l.length≤1000):FOk EN 53 ⟨[.rd 60 l,.bx 3 [.i c]],[.n 0,.f 54 [] [.p 1 0]],Unit,fun _=>([.rd 60 l,.bx 3 [.i c],.ow 60 (l.filter (stB c))],.n 2),fun _=>True⟩:=by
 refine v_fun Tryd.f53 ccRL2_53 MX (fun ν F σ w=>?_) Tryd.func53
 refine v_nl ?_
 refine v_loop (fun k:Nat=>([(10,.i k),(5,.n 3)],[.ow 60 (fP (stB c) l k)])) (fun k=>k≤l.length) (fun k=>l.length - k) 0 [2] (((0:Int)=(↑(0:Nat):Int))∧([]=fP (stB c) l 0)) ⟨rfl,rfl⟩ (by omega) (fun k hk1=>?_)
 refine v_if (decide ((↑k:Int)<(↑l.length:Int))) True trivial (fun h2=>?_) (fun h2=>?_)
 ·have h2:=of_decide_eq_true h2
  refine v_call _ [1] (sent1_ok (c) (l.getD (↑k:Int).toNat (Event.mk 0 (Packet.mk 0 0 0 [] 0 [] []) (Ack.mk false 0)))) ((0≤(↑k:Int)∧(↑k:Int)<(↑l.length:Int))∧((l.getD (↑k:Int).toNat (Event.mk 0 (Packet.mk 0 0 0 [] 0 [] []) (Ack.mk false 0))).kind=(l.getD (↑k:Int).toNat (Event.mk 0 (Packet.mk 0 0 0 [] 0 [] []) (Ack.mk false 0))).kind)∧((l.getD (↑k:Int).toNat (Event.mk 0 (Packet.mk 0 0 0 [] 0 [] []) (Ack.mk false 0))).packet.channel=(l.getD (↑k:Int).toNat (Event.mk 0 (Packet.mk 0 0 0 [] 0 [] []) (Ack.mk false 0))).packet.channel)∧((l.getD (↑k:Int).toNat (Event.mk 0 (Packet.mk 0 0 0 [] 0 [] []) (Ack.mk false 0))).packet.seq=(l.getD (↑k:Int).toNat (Event.mk 0 (Packet.mk 0 0 0 [] 0 [] []) (Ack.mk false 0))).packet.seq)∧((l.getD (↑k:Int).toNat (Event.mk 0 (Packet.mk 0 0 0 [] 0 [] []) (Ack.mk false 0))).packet.timeout=(l.getD (↑k:Int).toNat (Event.mk 0 (Packet.mk 0 0 0 [] 0 [] []) (Ack.mk false 0))).packet.timeout)∧((l.getD (↑k:Int).toNat (Event.mk 0 (Packet.mk 0 0 0 [] 0 [] []) (Ack.mk false 0))).packet.denom=(l.getD (↑k:Int).toNat (Event.mk 0 (Packet.mk 0 0 0 [] 0 [] []) (Ack.mk false 0))).packet.denom)∧((l.getD (↑k:Int).toNat (Event.mk 0 (Packet.mk 0 0 0 [] 0 [] []) (Ack.mk false 0))).packet.amount=(l.getD (↑k:Int).toNat (Event.mk 0 (Packet.mk 0 0 0 [] 0 [] []) (Ack.mk false 0))).packet.amount)∧((l.getD (↑k:Int).toNat (Event.mk 0 (Packet.mk 0 0 0 [] 0 [] []) (Ack.mk false 0))).packet.from_=(l.getD (↑k:Int).toNat (Event.mk 0 (Packet.mk 0 0 0 [] 0 [] []) (Ack.mk false 0))).packet.from_)∧((l.getD (↑k:Int).toNat (Event.mk 0 (Packet.mk 0 0 0 [] 0 [] []) (Ack.mk false 0))).packet.to=(l.getD (↑k:Int).toNat (Event.mk 0 (Packet.mk 0 0 0 [] 0 [] []) (Ack.mk false 0))).packet.to)∧((l.getD (↑k:Int).toNat (Event.mk 0 (Packet.mk 0 0 0 [] 0 [] []) (Ack.mk false 0))).ack.ok=(l.getD (↑k:Int).toNat (Event.mk 0 (Packet.mk 0 0 0 [] 0 [] []) (Ack.mk false 0))).ack.ok)∧((l.getD (↑k:Int).toNat (Event.mk 0 (Packet.mk 0 0 0 [] 0 [] []) (Ack.mk false 0))).ack.code=(l.getD (↑k:Int).toNat (Event.mk 0 (Packet.mk 0 0 0 [] 0 [] []) (Ack.mk false 0))).ack.code)∧(c=c)) ⟨(by omega),rfl,rfl,rfl,rfl,rfl,rfl,rfl,rfl,rfl,rfl,rfl⟩ (fun g3 p4=>?_)
  have p4:True:=p4
  refine v_if (stB c (l.getD (↑k:Int).toNat (Event.mk 0 (Packet.mk 0 0 0 [] 0 [] []) (Ack.mk false 0)))) True trivial (fun h5=>?_) (fun h5=>?_)
  ·skip
   exact v_back (k+1) [7] (((fP (stB c) l k).length+1≤1000000)∧(I64 (↑k+1))∧((↑k:Int)+1=(↑(k+1):Int))∧(fP (stB c) l k++[Event.mk (l.getD (↑k:Int).toNat (Event.mk 0 (Packet.mk 0 0 0 [] 0 [] []) (Ack.mk false 0))).kind (Packet.mk (l.getD (↑k:Int).toNat (Event.mk 0 (Packet.mk 0 0 0 [] 0 [] []) (Ack.mk false 0))).packet.channel (l.getD (↑k:Int).toNat (Event.mk 0 (Packet.mk 0 0 0 [] 0 [] []) (Ack.mk false 0))).packet.seq (l.getD (↑k:Int).toNat (Event.mk 0 (Packet.mk 0 0 0 [] 0 [] []) (Ack.mk false 0))).packet.timeout (l.getD (↑k:Int).toNat (Event.mk 0 (Packet.mk 0 0 0 [] 0 [] []) (Ack.mk false 0))).packet.denom (l.getD (↑k:Int).toNat (Event.mk 0 (Packet.mk 0 0 0 [] 0 [] []) (Ack.mk false 0))).packet.amount (l.getD (↑k:Int).toNat (Event.mk 0 (Packet.mk 0 0 0 [] 0 [] []) (Ack.mk false 0))).packet.from_ (l.getD (↑k:Int).toNat (Event.mk 0 (Packet.mk 0 0 0 [] 0 [] []) (Ack.mk false 0))).packet.to) (Ack.mk (l.getD (↑k:Int).toNat (Event.mk 0 (Packet.mk 0 0 0 [] 0 [] []) (Ack.mk false 0))).ack.ok (l.getD (↑k:Int).toNat (Event.mk 0 (Packet.mk 0 0 0 [] 0 [] []) (Ack.mk false 0))).ack.code)]=fP (stB c) l (k+1))) ⟨(by exact fl hl),(by(unfold I64;omega)),rfl,(by exact fy (d:=dE) ‹_› ‹_›)⟩ (show k+1≤l.length∧l.length - (k+1)<l.length - k from(by omega))
  ·skip
   exact v_back (k+1) [3] ((I64 (↑k+1))∧((↑k:Int)+1=(↑(k+1):Int))∧(fP (stB c) l k=fP (stB c) l (k+1))) ⟨(by(unfold I64;omega)),rfl,(by exact fn (d:=dE) ‹_› ‹_›)⟩ (show k+1≤l.length∧l.length - (k+1)<l.length - k from(by omega))
 ·have h2:=of_decide_eq_false h2
  refine v_leave (.ex 0) True trivial ?_
  exact v_ret () [3] ((l=l)∧(c=c)∧(fP (stB c) l k=List.filter (stB c) l)) ⟨rfl,rfl,(by exact fz ‹_›)⟩ trivial
def snP (c:Int) (l:List Event):List Packet:=(l.filter (stB c)).map Event.packet
section
variable {L:List Event} {k:Nat} {l:List Event} {c:Int}
theorem mp_ (hk:(k:Int)<L.length):(L.take k).map Event.packet++[(L.getD (k:Int).toNat dE).packet]=(L.take (k+1)).map Event.packet:=by rw[tk_ (d:=dE) hk,List.map_append];rfl
theorem mz_ (hk:¬ (k:Int)<L.length):(L.take k).map Event.packet=L.map Event.packet:=by rw[List.take_of_length_le (by omega)]
theorem sl1 (h:l.length≤1000):(l.filter (stB c)).length≤1000:=Nat.le_trans (List.length_filter_le _ _) h
theorem sl2 (h:l.length≤1000):(((l.filter (stB c)).take k).map Event.packet).length+1≤1000000:=by
  have:=sl1 (c:=c) h;have:=(List.take_sublist k (l.filter (stB c))).length_le;rw[List.length_map];omega
theorem snP_len (h:l.length≤1000):(snP c l).length≤1000:=by unfold snP;rw[List.length_map];exact sl1 h
end
noncomputable def ccRL2_37:Code:=(Tryd.f37.body).getD .skip
theorem sent_ok (l:List Event) (c:Int) (hl:l.length≤1000):FOk EN 37 ⟨[.rd 60 l],[.n 0,.i c],Unit,fun _=>([.rd 60 l,.ow 55 (snP c l)],.n 1),fun _=>True⟩:=by
 refine v_fun Tryd.f37 ccRL2_37 MX (fun ν F σ w=>?_) Tryd.func37
 refine v_nl ?_
 refine v_call _ [0,2] (keepE_ok (l) (c) ‹_›) ((54=54)∧(l=l)∧(c=c)) ⟨rfl,rfl,rfl⟩ (fun g1 p2=>?_)
 have p2:True:=p2
 refine v_loop (fun k:Nat=>([(12,.i k),(5,.n 4)],[.ow 55 (((l.filter (stB c)).take k).map Event.packet)])) (fun k=>k≤(l.filter (stB c)).length) (fun k=>(l.filter (stB c)).length - k) 0 [1] (((0:Int)=(↑(0:Nat):Int))∧([]=List.map Event.packet (List.take 0 (List.filter (stB c) l)))) ⟨rfl,rfl⟩ (by omega) (fun k hk3=>?_)
 refine v_if (decide ((↑k:Int)<(↑(List.filter (stB c) l).length:Int))) True trivial (fun h4=>?_) (fun h4=>?_)
 ·have h4:=of_decide_eq_true h4
  exact v_back (k+1) [8] ((0≤(↑k:Int)∧(↑k:Int)<(↑(List.filter (stB c) l).length:Int))∧((List.map Event.packet (List.take k (List.filter (stB c) l))).length+1≤1000000)∧(I64 (↑k+1))∧((↑k:Int)+1=(↑(k+1):Int))∧(List.map Event.packet (List.take k (List.filter (stB c) l))++[Packet.mk ((List.filter (stB c) l).getD (↑k:Int).toNat (Event.mk 0 (Packet.mk 0 0 0 [] 0 [] []) (Ack.mk false 0))).packet.channel ((List.filter (stB c) l).getD (↑k:Int).toNat (Event.mk 0 (Packet.mk 0 0 0 [] 0 [] []) (Ack.mk false 0))).packet.seq ((List.filter (stB c) l).getD (↑k:Int).toNat (Event.mk 0 (Packet.mk 0 0 0 [] 0 [] []) (Ack.mk false 0))).packet.timeout ((List.filter (stB c) l).getD (↑k:Int).toNat (Event.mk 0 (Packet.mk 0 0 0 [] 0 [] []) (Ack.mk false 0))).packet.denom ((List.filter (stB c) l).getD (↑k:Int).toNat (Event.mk 0 (Packet.mk 0 0 0 [] 0 [] []) (Ack.mk false 0))).packet.amount ((List.filter (stB c) l).getD (↑k:Int).toNat (Event.mk 0 (Packet.mk 0 0 0 [] 0 [] []) (Ack.mk false 0))).packet.from_ ((List.filter (stB c) l).getD (↑k:Int).toNat (Event.mk 0 (Packet.mk 0 0 0 [] 0 [] []) (Ack.mk false 0))).packet.to]=List.map Event.packet (List.take (k+1) (List.filter (stB c) l)))) ⟨(by omega),(by exact sl2 hl),(by exact fi (sl1 hl) ‹_›),rfl,(by exact mp_ ‹_›)⟩ (show k+1≤(List.filter (stB c) l).length∧(List.filter (stB c) l).length - (k+1)<(List.filter (stB c) l).length - k from(by omega))
 ·have h4:=of_decide_eq_false h4
  refine v_leave (.ex 0) True trivial ?_
  exact v_ret () [4] ((l=l)∧(List.map Event.packet (List.take k (List.filter (stB c) l))=snP c l)) ⟨rfl,(by exact mz_ ‹_›)⟩ trivial
def rvB (l:List Event) (p:Packet):Bool:=!smB l [2] p
noncomputable def ccRL2_38:Code:=(Tryd.f38.body).getD .skip
theorem rcv1_ok (l:List Event) (p:Packet) (hl:l.length≤1000):FOk EN 38 ⟨[.rd 60 l,.bx 61 [.n 0]],[.a (pkL p),.p 1 0],Unit,fun _=>([.rd 60 l,.bx 61 [.n 0]],.b (rvB l p)),fun _=>True⟩:=by
 refine v_fun Tryd.f38 ccRL2_38 MX (fun ν F σ w=>?_) Tryd.func38
 refine v_nl ?_
 refine v_call _ [0,4] (same_ok (l) ([2]) (p) (by omega) (by decide)) ((p.channel=p.channel)∧(p.seq=p.seq)∧(p.timeout=p.timeout)∧(p.denom=p.denom)∧(p.amount=p.amount)∧(p.from_=p.from_)∧(p.to=p.to)∧(l=l)∧([(2:UInt8)]=[(2:UInt8)])) ⟨rfl,rfl,rfl,rfl,rfl,rfl,rfl,rfl,rfl⟩ (fun g1 p2=>?_)
 have p2:True:=p2
 exact v_ret () [] (((!smB l [2] p)=rvB l p)∧(l=l)) ⟨rfl,rfl⟩ trivial
def toB (l:List Event) (p:Packet):Bool:=!smB l [3,4] p && !decide (p.timeout=0)
theorem to0 {l:List Event} {p:Packet} (h:smB l [3,4] p=true):false=toB l p:=by unfold toB;rw[h];rfl
theorem to1 {l:List Event} {p:Packet} (h:smB l [3,4] p=false):decide (p.timeout≠0)=toB l p:=by unfold toB;rw[h];simp
noncomputable def ccRL2_40:Code:=(Tryd.f40.body).getD .skip
theorem tout1_ok (l:List Event) (p:Packet) (hl:l.length≤1000):FOk EN 40 ⟨[.rd 60 l,.bx 61 [.n 0]],[.a (pkL p),.p 1 0],Unit,fun _=>([.rd 60 l,.bx 61 [.n 0]],.b (toB l p)),fun _=>True⟩:=by
 refine v_fun Tryd.f40 ccRL2_40 MX (fun ν F σ w=>?_) Tryd.func40
 refine v_nl ?_
 refine v_call _ [0,4] (same_ok (l) ([3,4]) (p) (by omega) (by decide)) ((p.channel=p.channel)∧(p.seq=p.seq)∧(p.timeout=p.timeout)∧(p.denom=p.denom)∧(p.amount=p.amount)∧(p.from_=p.from_)∧(p.to=p.to)∧(l=l)∧([(3:UInt8),(4:UInt8)]=[(3:UInt8),(4:UInt8)])) ⟨rfl,rfl,rfl,rfl,rfl,rfl,rfl,rfl,rfl⟩ (fun g1 p2=>?_)
 have p2:True:=p2
 refine v_guard 15 (!smB l [3,4] p) True trivial (fun h3=>?_) (fun h3=>?_)
 ·have h3:=(nt h3)
  exact v_ret () [] ((decide (p.timeout≠0)=toB l p)∧(l=l)) ⟨(by exact to1 ‹_›),rfl⟩ trivial
 ·have h3:=(nf h3)
  exact v_ret () [] ((false=toB l p)∧(l=l)) ⟨(by exact to0 ‹_›),rfl⟩ trivial
abbrev dK:Packet:=⟨0,0,0,[],0,[],[]⟩
noncomputable def ccRL2_36:Code:=(Tryd.f36.body).getD .skip
theorem keepR_ok (l:List Packet) (t:List Event) (hl:l.length≤1000) (ht:t.length≤1000):FOk EN 36 ⟨[.rd 55 l,.rd 60 t,.bx 61 [.n 1]],[.n 0,.f 38 [] [.p 2 0]],Unit,fun _=>([.rd 55 l,.rd 60 t,.bx 61 [.n 1],.ow 55 (l.filter (rvB t))],.n 3),fun _=>True⟩:=by
 refine v_fun Tryd.f36 ccRL2_36 MX (fun ν F σ w=>?_) Tryd.func36
 refine v_nl ?_
 refine v_loop (fun k:Nat=>([(10,.i k),(5,.n 4)],[.ow 55 (fP (rvB t) l k)])) (fun k=>k≤l.length) (fun k=>l.length - k) 0 [3] (((0:Int)=(↑(0:Nat):Int))∧([]=fP (rvB t) l 0)) ⟨rfl,rfl⟩ (by omega) (fun k hk1=>?_)
 refine v_if (decide ((↑k:Int)<(↑l.length:Int))) True trivial (fun h2=>?_) (fun h2=>?_)
 ·have h2:=of_decide_eq_true h2
  refine v_call _ [1,2] (rcv1_ok (t) (l.getD (↑k:Int).toNat (Packet.mk 0 0 0 [] 0 [] [])) ‹_›) ((0≤(↑k:Int)∧(↑k:Int)<(↑l.length:Int))∧((l.getD (↑k:Int).toNat (Packet.mk 0 0 0 [] 0 [] [])).channel=(l.getD (↑k:Int).toNat (Packet.mk 0 0 0 [] 0 [] [])).channel)∧((l.getD (↑k:Int).toNat (Packet.mk 0 0 0 [] 0 [] [])).seq=(l.getD (↑k:Int).toNat (Packet.mk 0 0 0 [] 0 [] [])).seq)∧((l.getD (↑k:Int).toNat (Packet.mk 0 0 0 [] 0 [] [])).timeout=(l.getD (↑k:Int).toNat (Packet.mk 0 0 0 [] 0 [] [])).timeout)∧((l.getD (↑k:Int).toNat (Packet.mk 0 0 0 [] 0 [] [])).denom=(l.getD (↑k:Int).toNat (Packet.mk 0 0 0 [] 0 [] [])).denom)∧((l.getD (↑k:Int).toNat (Packet.mk 0 0 0 [] 0 [] [])).amount=(l.getD (↑k:Int).toNat (Packet.mk 0 0 0 [] 0 [] [])).amount)∧((l.getD (↑k:Int).toNat (Packet.mk 0 0 0 [] 0 [] [])).from_=(l.getD (↑k:Int).toNat (Packet.mk 0 0 0 [] 0 [] [])).from_)∧((l.getD (↑k:Int).toNat (Packet.mk 0 0 0 [] 0 [] [])).to=(l.getD (↑k:Int).toNat (Packet.mk 0 0 0 [] 0 [] [])).to)∧(t=t)) ⟨(by omega),rfl,rfl,rfl,rfl,rfl,rfl,rfl,rfl⟩ (fun g3 p4=>?_)
  have p4:True:=p4
  refine v_if (rvB t (l.getD (↑k:Int).toNat (Packet.mk 0 0 0 [] 0 [] []))) True trivial (fun h5=>?_) (fun h5=>?_)
  ·skip
   exact v_back (k+1) [8] (((fP (rvB t) l k).length+1≤1000000)∧(I64 (↑k+1))∧((↑k:Int)+1=(↑(k+1):Int))∧(fP (rvB t) l k++[Packet.mk (l.getD (↑k:Int).toNat (Packet.mk 0 0 0 [] 0 [] [])).channel (l.getD (↑k:Int).toNat (Packet.mk 0 0 0 [] 0 [] [])).seq (l.getD (↑k:Int).toNat (Packet.mk 0 0 0 [] 0 [] [])).timeout (l.getD (↑k:Int).toNat (Packet.mk 0 0 0 [] 0 [] [])).denom (l.getD (↑k:Int).toNat (Packet.mk 0 0 0 [] 0 [] [])).amount (l.getD (↑k:Int).toNat (Packet.mk 0 0 0 [] 0 [] [])).from_ (l.getD (↑k:Int).toNat (Packet.mk 0 0 0 [] 0 [] [])).to]=fP (rvB t) l (k+1))) ⟨(by exact fl hl),(by(unfold I64;omega)),rfl,(by exact fy (d:=dK) ‹_› ‹_›)⟩ (show k+1≤l.length∧l.length - (k+1)<l.length - k from(by omega))
  ·skip
   exact v_back (k+1) [4] ((I64 (↑k+1))∧((↑k:Int)+1=(↑(k+1):Int))∧(fP (rvB t) l k=fP (rvB t) l (k+1))) ⟨(by(unfold I64;omega)),rfl,(by exact fn (d:=dK) ‹_› ‹_›)⟩ (show k+1≤l.length∧l.length - (k+1)<l.length - k from(by omega))
 ·have h2:=of_decide_eq_false h2
  refine v_leave (.ex 0) True trivial ?_
  exact v_ret () [4] ((l=l)∧(t=t)∧(fP (rvB t) l k=List.filter (rvB t) l)) ⟨rfl,rfl,(by exact fz ‹_›)⟩ trivial
theorem keepT_ok (l:List Packet) (t:List Event) (hl:l.length≤1000) (ht:t.length≤1000):FOk EN 36 ⟨[.rd 55 l,.rd 60 t,.bx 61 [.n 1]],[.n 0,.f 40 [] [.p 2 0]],Unit,fun _=>([.rd 55 l,.rd 60 t,.bx 61 [.n 1],.ow 55 (l.filter (toB t))],.n 3),fun _=>True⟩:=by
 refine v_fun Tryd.f36 ccRL2_36 MX (fun ν F σ w=>?_) Tryd.func36
 refine v_nl ?_
 refine v_loop (fun k:Nat=>([(10,.i k),(5,.n 4)],[.ow 55 (fP (toB t) l k)])) (fun k=>k≤l.length) (fun k=>l.length - k) 0 [3] (((0:Int)=(↑(0:Nat):Int))∧([]=fP (toB t) l 0)) ⟨rfl,rfl⟩ (by omega) (fun k hk1=>?_)
 refine v_if (decide ((↑k:Int)<(↑l.length:Int))) True trivial (fun h2=>?_) (fun h2=>?_)
 ·have h2:=of_decide_eq_true h2
  refine v_call _ [1,2] (tout1_ok (t) (l.getD (↑k:Int).toNat (Packet.mk 0 0 0 [] 0 [] [])) ‹_›) ((0≤(↑k:Int)∧(↑k:Int)<(↑l.length:Int))∧((l.getD (↑k:Int).toNat (Packet.mk 0 0 0 [] 0 [] [])).channel=(l.getD (↑k:Int).toNat (Packet.mk 0 0 0 [] 0 [] [])).channel)∧((l.getD (↑k:Int).toNat (Packet.mk 0 0 0 [] 0 [] [])).seq=(l.getD (↑k:Int).toNat (Packet.mk 0 0 0 [] 0 [] [])).seq)∧((l.getD (↑k:Int).toNat (Packet.mk 0 0 0 [] 0 [] [])).timeout=(l.getD (↑k:Int).toNat (Packet.mk 0 0 0 [] 0 [] [])).timeout)∧((l.getD (↑k:Int).toNat (Packet.mk 0 0 0 [] 0 [] [])).denom=(l.getD (↑k:Int).toNat (Packet.mk 0 0 0 [] 0 [] [])).denom)∧((l.getD (↑k:Int).toNat (Packet.mk 0 0 0 [] 0 [] [])).amount=(l.getD (↑k:Int).toNat (Packet.mk 0 0 0 [] 0 [] [])).amount)∧((l.getD (↑k:Int).toNat (Packet.mk 0 0 0 [] 0 [] [])).from_=(l.getD (↑k:Int).toNat (Packet.mk 0 0 0 [] 0 [] [])).from_)∧((l.getD (↑k:Int).toNat (Packet.mk 0 0 0 [] 0 [] [])).to=(l.getD (↑k:Int).toNat (Packet.mk 0 0 0 [] 0 [] [])).to)∧(t=t)) ⟨(by omega),rfl,rfl,rfl,rfl,rfl,rfl,rfl,rfl⟩ (fun g3 p4=>?_)
  have p4:True:=p4
  refine v_if (toB t (l.getD (↑k:Int).toNat (Packet.mk 0 0 0 [] 0 [] []))) True trivial (fun h5=>?_) (fun h5=>?_)
  ·skip
   exact v_back (k+1) [8] (((fP (toB t) l k).length+1≤1000000)∧(I64 (↑k+1))∧((↑k:Int)+1=(↑(k+1):Int))∧(fP (toB t) l k++[Packet.mk (l.getD (↑k:Int).toNat (Packet.mk 0 0 0 [] 0 [] [])).channel (l.getD (↑k:Int).toNat (Packet.mk 0 0 0 [] 0 [] [])).seq (l.getD (↑k:Int).toNat (Packet.mk 0 0 0 [] 0 [] [])).timeout (l.getD (↑k:Int).toNat (Packet.mk 0 0 0 [] 0 [] [])).denom (l.getD (↑k:Int).toNat (Packet.mk 0 0 0 [] 0 [] [])).amount (l.getD (↑k:Int).toNat (Packet.mk 0 0 0 [] 0 [] [])).from_ (l.getD (↑k:Int).toNat (Packet.mk 0 0 0 [] 0 [] [])).to]=fP (toB t) l (k+1))) ⟨(by exact fl hl),(by(unfold I64;omega)),rfl,(by exact fy (d:=dK) ‹_› ‹_›)⟩ (show k+1≤l.length∧l.length - (k+1)<l.length - k from(by omega))
  ·skip
   exact v_back (k+1) [4] ((I64 (↑k+1))∧((↑k:Int)+1=(↑(k+1):Int))∧(fP (toB t) l k=fP (toB t) l (k+1))) ⟨(by(unfold I64;omega)),rfl,(by exact fn (d:=dK) ‹_› ‹_›)⟩ (show k+1≤l.length∧l.length - (k+1)<l.length - k from(by omega))
 ·have h2:=of_decide_eq_false h2
  refine v_leave (.ex 0) True trivial ?_
  exact v_ret () [4] ((l=l)∧(t=t)∧(fP (toB t) l k=List.filter (toB t) l)) ⟨rfl,rfl,(by exact fz ‹_›)⟩ trivial
def toRecv (a b:List Event) (c:Int):List Packet:=(snP c a).filter (rvB b)
def toTime (a:List Event) (c:Int):List Packet:=(snP c a).filter (toB a)
noncomputable def ccRL2_16:Code:=(Tryd.f16.body).getD .skip
theorem ToReceive_ok (a b:List Event) (c:Int) (ha:a.length≤1000) (hb:b.length≤1000):FOk EN 16 ⟨[.rd 60 a,.rd 60 b],[.n 0,.n 1,.i c],Unit,fun _=>([.rd 60 a,.rd 60 b,.ow 55 (toRecv a b c)],.n 2),fun _=>True⟩:=by
 refine v_fun Tryd.f16 ccRL2_16 MX (fun ν F σ w=>?_) Tryd.func16
 refine v_nl ?_
 refine v_call _ [0] (sent_ok (a) (c) ‹_›) ((c=c)∧(a=a)) ⟨rfl,rfl⟩ (fun g1 p2=>?_)
 have p2:True:=p2
 refine v_call _ [4,1,3] (keepR_ok (snP c a) (b) (by exact snP_len ha) ‹_›) ((38=38)∧(snP c a=snP c a)∧(b=b)) ⟨rfl,rfl,rfl⟩ (fun g3 p4=>?_)
 have p4:True:=p4
 exact v_ret () [5] ((a=a)∧(b=b)∧(List.filter (rvB b) (snP c a)=toRecv a b c)) ⟨rfl,rfl,rfl⟩ trivial
noncomputable def ccRL2_18:Code:=(Tryd.f18.body).getD .skip
theorem ToTimeout_aux (a:List Event) (c:Int) (ha:a.length≤1000) (hkeep:FOk EN 36 ⟨[.rd 55 (snP c a),.rd 60 a,.bx 61 [.n 1]],[.n 0,.f 40 [] [.p 2 0]],Unit,fun _=>([.rd 55 (snP c a),.rd 60 a,.bx 61 [.n 1],.ow 55 ((snP c a).filter (toB a))],.n 3),fun _=>True⟩):FOk EN 18 ⟨[.rd 60 a],[.n 0,.i c],Unit,fun _=>([.rd 60 a,.ow 55 (toTime a c)],.n 1),fun _=>True⟩:=by
 refine v_fun Tryd.f18 ccRL2_18 MX (fun ν F σ w=>?_) Tryd.func18
 refine v_nl ?_
 refine v_call _ [0] (sent_ok (a) (c) ‹_›) ((c=c)∧(a=a)) ⟨rfl,rfl⟩ (fun g1 p2=>?_)
 have p2:True:=p2
 refine v_call _ [3,0,2] (hkeep) ((40=40)∧(snP c a=snP c a)∧(a=a)) ⟨rfl,rfl,rfl⟩ (fun g3 p4=>?_)
 have p4:True:=p4
 exact v_ret () [4] ((a=a)∧(List.filter (toB a) (snP c a)=toTime a c)) ⟨rfl,rfl⟩ trivial
theorem ToTimeout_ok (a:List Event) (c:Int) (ha:a.length≤1000):FOk EN 18 ⟨[.rd 60 a],[.n 0,.i c],Unit,fun _=>([.rd 60 a,.ow 55 (toTime a c)],.n 1),fun _=>True⟩:=ToTimeout_aux a c ha (keepT_ok _ a (snP_len ha) ha)
def anB (a b:List Event) (p:Packet):Bool:=smB b [2] p && !smB a [3,4] p
def toAns (a b:List Event) (c:Int):List Packet:=(snP c a).filter (anB a b)
def toAck (a b:List Event) (c:Int):List Ack:=(toAns a b c).map fun p=>(smE b [2] p).ack
section
variable {a b:List Event} {l:List Packet} {k:Nat} {p:Packet}
theorem an1 (h:smB b [2] p=true) (h2:smB a [3,4] p=false):anB a b p=true:=by unfold anB;rw[h,h2];rfl
theorem an2 (h:smB b [2] p=false):anB a b p=false:=by unfold anB;rw[h];rfl
theorem an3 (h2:smB a [3,4] p=true):anB a b p=false:=by unfold anB;rw[h2];simp
theorem ky (hk:(k:Int)<l.length) (h:anB a b (l.getD (k:Int).toNat dK)=true):(fP (anB a b) l k).map (fun p=>(smE b [2] p).ack)++[(smE b [2] (l.getD (k:Int).toNat dK)).ack]=(fP (anB a b) l (k+1)).map (fun p=>(smE b [2] p).ack):=by rw[← fy (d:=dK) hk h,List.map_append];rfl
theorem kn (hk:(k:Int)<l.length) (h:anB a b (l.getD (k:Int).toNat dK)=false):(fP (anB a b) l k).map (fun p=>(smE b [2] p).ack)=(fP (anB a b) l (k+1)).map (fun p=>(smE b [2] p).ack):=by rw[← fn (d:=dK) hk h]
theorem kz {c:Int} (hk:¬ (k:Int)<(snP c a).length):fP (anB a b) (snP c a) k=toAns a b c:=fz hk
theorem kw {c:Int} (hk:¬ (k:Int)<(snP c a).length):(fP (anB a b) (snP c a) k).map (fun p=>(smE b [2] p).ack)=toAck a b c:=by rw[kz hk];rfl
theorem kl {c:Int} (h:a.length≤1000):((fP (anB a b) (snP c a) k).map (fun p=>(smE b [2] p).ack)).length+1≤1000000:=by rw[List.length_map];exact fl (snP_len h)
end
noncomputable def ccRL2_17:Code:=(Tryd.f17.body).getD .skip
theorem ToAnswer_ok (a b:List Event) (c:Int) (ha:a.length≤1000) (hb:b.length≤1000):FOk EN 17 ⟨[.rd 60 a,.rd 60 b],[.n 0,.n 1,.i c],Unit,fun _=>([.rd 60 a,.rd 60 b,.ow 55 (toAns a b c),.ow 58 (toAck a b c)],.t [.n 2,.n 3]),fun _=>True⟩:=by
 refine v_fun Tryd.f17 ccRL2_17 MX (fun ν F σ w=>?_) Tryd.func17
 refine v_nl ?_
 refine v_call _ [0] (sent_ok (a) (c) ‹_›) ((c=c)∧(a=a)) ⟨rfl,rfl⟩ (fun g1 p2=>?_)
 have p2:True:=p2
 refine v_run True trivial ?_
 refine v_nl ?_
 refine v_loop (fun k:Nat=>([(20,.i k),(8,.n 5),(9,.n 6)],[.ow 55 (fP (anB a b) (snP c a) k),.ow 58 ((fP (anB a b) (snP c a) k).map (fun p=>(smE b [2] p).ack))])) (fun k=>k≤(snP c a).length) (fun k=>(snP c a).length - k) 0 [2,4] (((0:Int)=(↑(0:Nat):Int))∧([]=fP (anB a b) (snP c a) 0)∧([]=List.map (fun p=>(smE b [2] p).ack) (fP (anB a b) (snP c a) 0))) ⟨rfl,rfl,rfl⟩ (by omega) (fun k hk3=>?_)
 refine v_if (decide ((↑k:Int)<(↑(snP c a).length:Int))) True trivial (fun h4=>?_) (fun h4=>?_)
 ·have h4:=of_decide_eq_true h4
  refine v_call _ [1,9] (same_ok (b) ([2]) ((snP c a).getD (↑k:Int).toNat (Packet.mk 0 0 0 [] 0 [] [])) (by omega) (by decide)) ((0≤(↑k:Int)∧(↑k:Int)<(↑(snP c a).length:Int))∧(((snP c a).getD (↑k:Int).toNat (Packet.mk 0 0 0 [] 0 [] [])).channel=((snP c a).getD (↑k:Int).toNat (Packet.mk 0 0 0 [] 0 [] [])).channel)∧(((snP c a).getD (↑k:Int).toNat (Packet.mk 0 0 0 [] 0 [] [])).seq=((snP c a).getD (↑k:Int).toNat (Packet.mk 0 0 0 [] 0 [] [])).seq)∧(((snP c a).getD (↑k:Int).toNat (Packet.mk 0 0 0 [] 0 [] [])).timeout=((snP c a).getD (↑k:Int).toNat (Packet.mk 0 0 0 [] 0 [] [])).timeout)∧(((snP c a).getD (↑k:Int).toNat (Packet.mk 0 0 0 [] 0 [] [])).denom=((snP c a).getD (↑k:Int).toNat (Packet.mk 0 0 0 [] 0 [] [])).denom)∧(((snP c a).getD (↑k:Int).toNat (Packet.mk 0 0 0 [] 0 [] [])).amount=((snP c a).getD (↑k:Int).toNat (Packet.mk 0 0 0 [] 0 [] [])).amount)∧(((snP c a).getD (↑k:Int).toNat (Packet.mk 0 0 0 [] 0 [] [])).from_=((snP c a).getD (↑k:Int).toNat (Packet.mk 0 0 0 [] 0 [] [])).from_)∧(((snP c a).getD (↑k:Int).toNat (Packet.mk 0 0 0 [] 0 [] [])).to=((snP c a).getD (↑k:Int).toNat (Packet.mk 0 0 0 [] 0 [] [])).to)∧(b=b)∧([(2:UInt8)]=[(2:UInt8)])) ⟨(by omega),rfl,rfl,rfl,rfl,rfl,rfl,rfl,rfl,rfl⟩ (fun g5 p6=>?_)
  have p6:True:=p6
  refine v_call _ [0,11] (same_ok (a) ([3,4]) ((snP c a).getD (↑k:Int).toNat (Packet.mk 0 0 0 [] 0 [] [])) (by omega) (by decide)) ((((snP c a).getD (↑k:Int).toNat (Packet.mk 0 0 0 [] 0 [] [])).channel=((snP c a).getD (↑k:Int).toNat (Packet.mk 0 0 0 [] 0 [] [])).channel)∧(((snP c a).getD (↑k:Int).toNat (Packet.mk 0 0 0 [] 0 [] [])).seq=((snP c a).getD (↑k:Int).toNat (Packet.mk 0 0 0 [] 0 [] [])).seq)∧(((snP c a).getD (↑k:Int).toNat (Packet.mk 0 0 0 [] 0 [] [])).timeout=((snP c a).getD (↑k:Int).toNat (Packet.mk 0 0 0 [] 0 [] [])).timeout)∧(((snP c a).getD (↑k:Int).toNat (Packet.mk 0 0 0 [] 0 [] [])).denom=((snP c a).getD (↑k:Int).toNat (Packet.mk 0 0 0 [] 0 [] [])).denom)∧(((snP c a).getD (↑k:Int).toNat (Packet.mk 0 0 0 [] 0 [] [])).amount=((snP c a).getD (↑k:Int).toNat (Packet.mk 0 0 0 [] 0 [] [])).amount)∧(((snP c a).getD (↑k:Int).toNat (Packet.mk 0 0 0 [] 0 [] [])).from_=((snP c a).getD (↑k:Int).toNat (Packet.mk 0 0 0 [] 0 [] [])).from_)∧(((snP c a).getD (↑k:Int).toNat (Packet.mk 0 0 0 [] 0 [] [])).to=((snP c a).getD (↑k:Int).toNat (Packet.mk 0 0 0 [] 0 [] [])).to)∧(a=a)∧([(3:UInt8),(4:UInt8)]=[(3:UInt8),(4:UInt8)])) ⟨rfl,rfl,rfl,rfl,rfl,rfl,rfl,rfl,rfl⟩ (fun g7 p8=>?_)
  have p8:True:=p8
  refine v_guard 39 (smB b [2] ((snP c a).getD (↑k:Int).toNat (Packet.mk 0 0 0 [] 0 [] []))) True trivial (fun h9=>?_) (fun h9=>?_)
  ·skip
   refine v_if (!smB a [3,4] ((snP c a).getD (↑k:Int).toNat (Packet.mk 0 0 0 [] 0 [] []))) True trivial (fun h10=>?_) (fun h10=>?_)
   ·have h10:=(nt h10)
    refine v_join [43,44,45,46,47,48,49,50,51,8,9] [5,6] (fun _:Unit=>([(9,SV.n 13),(8,SV.n 14)],[Ent.ow 58 (List.map (fun p=>(smE b [2] p).ack) (fP (anB a b) (snP c a) k)++[Ack.mk (smE b [2] ((snP c a).getD (↑k:Int).toNat (Packet.mk 0 0 0 [] 0 [] []))).ack.ok (smE b [2] ((snP c a).getD (↑k:Int).toNat (Packet.mk 0 0 0 [] 0 [] []))).ack.code]),Ent.ow 55 (fP (anB a b) (snP c a) k++[Packet.mk ((snP c a).getD (↑k:Int).toNat (Packet.mk 0 0 0 [] 0 [] [])).channel ((snP c a).getD (↑k:Int).toNat (Packet.mk 0 0 0 [] 0 [] [])).seq ((snP c a).getD (↑k:Int).toNat (Packet.mk 0 0 0 [] 0 [] [])).timeout ((snP c a).getD (↑k:Int).toNat (Packet.mk 0 0 0 [] 0 [] [])).denom ((snP c a).getD (↑k:Int).toNat (Packet.mk 0 0 0 [] 0 [] [])).amount ((snP c a).getD (↑k:Int).toNat (Packet.mk 0 0 0 [] 0 [] [])).from_ ((snP c a).getD (↑k:Int).toNat (Packet.mk 0 0 0 [] 0 [] [])).to])])) (fun _=>True) ?_ (fun _ _=>?_) True trivial
    ·skip
     refine v_plan (.fs [0,4,5] (.c 1 (.c 2 (.c 3 (.o 6 (.o 7 (.o 8 (.fs [9,10] .e)))) (.o 6 (.c 3 (.o 7 (.o 8 (.fs [9,10] .e))) (.o 7 (.o 3 (.o 8 (.fs [9,10] .e))))))) (.o 6 (.c 2 (.c 3 (.o 7 (.o 8 (.fs [9,10] .e))) (.o 7 (.o 3 (.o 8 (.fs [9,10] .e))))) (.o 7 (.o 2 (.o 3 (.o 8 (.fs [9,10] .e)))))))) (.o 6 (.c 1 (.c 2 (.c 3 (.o 7 (.o 8 (.fs [9,10] .e))) (.o 7 (.o 3 (.o 8 (.fs [9,10] .e))))) (.o 7 (.o 2 (.o 3 (.o 8 (.fs [9,10] .e)))))) (.o 7 (.o 1 (.o 2 (.o 3 (.o 8 (.fs [9,10] .e)))))))))) [] True trivial ?_
     refine v_pick True trivial ?_ ?_
     ·skip
      refine v_pick True trivial ?_ ?_
      ·skip
       refine v_pick True trivial ?_ ?_
       ·skip
        exact v_back (()) [16,14] (((fP (anB a b) (snP c a) k).length+1≤1000000)∧((List.map (fun p=>(smE b [2] p).ack) (fP (anB a b) (snP c a) k)).length+1≤1000000)∧(List.map (fun p=>(smE b [2] p).ack) (fP (anB a b) (snP c a) k)++[Ack.mk (smE b [2] ((snP c a).getD (↑k:Int).toNat (Packet.mk 0 0 0 [] 0 [] []))).ack.ok (smE b [2] ((snP c a).getD (↑k:Int).toNat (Packet.mk 0 0 0 [] 0 [] []))).ack.code]=List.map (fun p=>(smE b [2] p).ack) (fP (anB a b) (snP c a) k)++[Ack.mk (smE b [2] ((snP c a).getD (↑k:Int).toNat (Packet.mk 0 0 0 [] 0 [] []))).ack.ok (smE b [2] ((snP c a).getD (↑k:Int).toNat (Packet.mk 0 0 0 [] 0 [] []))).ack.code])∧(fP (anB a b) (snP c a) k++[Packet.mk ((snP c a).getD (↑k:Int).toNat (Packet.mk 0 0 0 [] 0 [] [])).channel ((snP c a).getD (↑k:Int).toNat (Packet.mk 0 0 0 [] 0 [] [])).seq ((snP c a).getD (↑k:Int).toNat (Packet.mk 0 0 0 [] 0 [] [])).timeout ((snP c a).getD (↑k:Int).toNat (Packet.mk 0 0 0 [] 0 [] [])).denom ((snP c a).getD (↑k:Int).toNat (Packet.mk 0 0 0 [] 0 [] [])).amount ((snP c a).getD (↑k:Int).toNat (Packet.mk 0 0 0 [] 0 [] [])).from_ ((snP c a).getD (↑k:Int).toNat (Packet.mk 0 0 0 [] 0 [] [])).to]=fP (anB a b) (snP c a) k++[Packet.mk ((snP c a).getD (↑k:Int).toNat (Packet.mk 0 0 0 [] 0 [] [])).channel ((snP c a).getD (↑k:Int).toNat (Packet.mk 0 0 0 [] 0 [] [])).seq ((snP c a).getD (↑k:Int).toNat (Packet.mk 0 0 0 [] 0 [] [])).timeout ((snP c a).getD (↑k:Int).toNat (Packet.mk 0 0 0 [] 0 [] [])).denom ((snP c a).getD (↑k:Int).toNat (Packet.mk 0 0 0 [] 0 [] [])).amount ((snP c a).getD (↑k:Int).toNat (Packet.mk 0 0 0 [] 0 [] [])).from_ ((snP c a).getD (↑k:Int).toNat (Packet.mk 0 0 0 [] 0 [] [])).to])) ⟨(by exact fl (snP_len ha)),(by exact kl ha),rfl,rfl⟩ (show True from trivial)
       ·skip
        refine v_pick True trivial ?_ ?_
        ·skip
         exact v_back (()) [16,14] (((fP (anB a b) (snP c a) k).length+1≤1000000)∧((List.map (fun p=>(smE b [2] p).ack) (fP (anB a b) (snP c a) k)).length+1≤1000000)∧(List.map (fun p=>(smE b [2] p).ack) (fP (anB a b) (snP c a) k)++[Ack.mk (smE b [2] ((snP c a).getD (↑k:Int).toNat (Packet.mk 0 0 0 [] 0 [] []))).ack.ok (smE b [2] ((snP c a).getD (↑k:Int).toNat (Packet.mk 0 0 0 [] 0 [] []))).ack.code]=List.map (fun p=>(smE b [2] p).ack) (fP (anB a b) (snP c a) k)++[Ack.mk (smE b [2] ((snP c a).getD (↑k:Int).toNat (Packet.mk 0 0 0 [] 0 [] []))).ack.ok (smE b [2] ((snP c a).getD (↑k:Int).toNat (Packet.mk 0 0 0 [] 0 [] []))).ack.code])∧(fP (anB a b) (snP c a) k++[Packet.mk ((snP c a).getD (↑k:Int).toNat (Packet.mk 0 0 0 [] 0 [] [])).channel ((snP c a).getD (↑k:Int).toNat (Packet.mk 0 0 0 [] 0 [] [])).seq ((snP c a).getD (↑k:Int).toNat (Packet.mk 0 0 0 [] 0 [] [])).timeout ((snP c a).getD (↑k:Int).toNat (Packet.mk 0 0 0 [] 0 [] [])).denom ((snP c a).getD (↑k:Int).toNat (Packet.mk 0 0 0 [] 0 [] [])).amount ((snP c a).getD (↑k:Int).toNat (Packet.mk 0 0 0 [] 0 [] [])).from_ ((snP c a).getD (↑k:Int).toNat (Packet.mk 0 0 0 [] 0 [] [])).to]=fP (anB a b) (snP c a) k++[Packet.mk ((snP c a).getD (↑k:Int).toNat (Packet.mk 0 0 0 [] 0 [] [])).channel ((snP c a).getD (↑k:Int).toNat (Packet.mk 0 0 0 [] 0 [] [])).seq ((snP c a).getD (↑k:Int).toNat (Packet.mk 0 0 0 [] 0 [] [])).timeout ((snP c a).getD (↑k:Int).toNat (Packet.mk 0 0 0 [] 0 [] [])).denom ((snP c a).getD (↑k:Int).toNat (Packet.mk 0 0 0 [] 0 [] [])).amount ((snP c a).getD (↑k:Int).toNat (Packet.mk 0 0 0 [] 0 [] [])).from_ ((snP c a).getD (↑k:Int).toNat (Packet.mk 0 0 0 [] 0 [] [])).to])) ⟨(by exact fl (snP_len ha)),(by exact kl ha),rfl,rfl⟩ (show True from trivial)
        ·skip
         exact v_back (()) [16,15] (((fP (anB a b) (snP c a) k).length+1≤1000000)∧((List.map (fun p=>(smE b [2] p).ack) (fP (anB a b) (snP c a) k)).length+1≤1000000)∧(List.map (fun p=>(smE b [2] p).ack) (fP (anB a b) (snP c a) k)++[Ack.mk (smE b [2] ((snP c a).getD (↑k:Int).toNat (Packet.mk 0 0 0 [] 0 [] []))).ack.ok (smE b [2] ((snP c a).getD (↑k:Int).toNat (Packet.mk 0 0 0 [] 0 [] []))).ack.code]=List.map (fun p=>(smE b [2] p).ack) (fP (anB a b) (snP c a) k)++[Ack.mk (smE b [2] ((snP c a).getD (↑k:Int).toNat (Packet.mk 0 0 0 [] 0 [] []))).ack.ok (smE b [2] ((snP c a).getD (↑k:Int).toNat (Packet.mk 0 0 0 [] 0 [] []))).ack.code])∧(fP (anB a b) (snP c a) k++[Packet.mk ((snP c a).getD (↑k:Int).toNat (Packet.mk 0 0 0 [] 0 [] [])).channel ((snP c a).getD (↑k:Int).toNat (Packet.mk 0 0 0 [] 0 [] [])).seq ((snP c a).getD (↑k:Int).toNat (Packet.mk 0 0 0 [] 0 [] [])).timeout ((snP c a).getD (↑k:Int).toNat (Packet.mk 0 0 0 [] 0 [] [])).denom ((snP c a).getD (↑k:Int).toNat (Packet.mk 0 0 0 [] 0 [] [])).amount ((snP c a).getD (↑k:Int).toNat (Packet.mk 0 0 0 [] 0 [] [])).from_ ((snP c a).getD (↑k:Int).toNat (Packet.mk 0 0 0 [] 0 [] [])).to]=fP (anB a b) (snP c a) k++[Packet.mk ((snP c a).getD (↑k:Int).toNat (Packet.mk 0 0 0 [] 0 [] [])).channel ((snP c a).getD (↑k:Int).toNat (Packet.mk 0 0 0 [] 0 [] [])).seq ((snP c a).getD (↑k:Int).toNat (Packet.mk 0 0 0 [] 0 [] [])).timeout ((snP c a).getD (↑k:Int).toNat (Packet.mk 0 0 0 [] 0 [] [])).denom ((snP c a).getD (↑k:Int).toNat (Packet.mk 0 0 0 [] 0 [] [])).amount ((snP c a).getD (↑k:Int).toNat (Packet.mk 0 0 0 [] 0 [] [])).from_ ((snP c a).getD (↑k:Int).toNat (Packet.mk 0 0 0 [] 0 [] [])).to])) ⟨(by exact fl (snP_len ha)),(by exact kl ha),rfl,rfl⟩ (show True from trivial)
      ·skip
       refine v_pick True trivial ?_ ?_
       ·skip
        refine v_pick True trivial ?_ ?_
        ·skip
         exact v_back (()) [16,14] (((fP (anB a b) (snP c a) k).length+1≤1000000)∧((List.map (fun p=>(smE b [2] p).ack) (fP (anB a b) (snP c a) k)).length+1≤1000000)∧(List.map (fun p=>(smE b [2] p).ack) (fP (anB a b) (snP c a) k)++[Ack.mk (smE b [2] ((snP c a).getD (↑k:Int).toNat (Packet.mk 0 0 0 [] 0 [] []))).ack.ok (smE b [2] ((snP c a).getD (↑k:Int).toNat (Packet.mk 0 0 0 [] 0 [] []))).ack.code]=List.map (fun p=>(smE b [2] p).ack) (fP (anB a b) (snP c a) k)++[Ack.mk (smE b [2] ((snP c a).getD (↑k:Int).toNat (Packet.mk 0 0 0 [] 0 [] []))).ack.ok (smE b [2] ((snP c a).getD (↑k:Int).toNat (Packet.mk 0 0 0 [] 0 [] []))).ack.code])∧(fP (anB a b) (snP c a) k++[Packet.mk ((snP c a).getD (↑k:Int).toNat (Packet.mk 0 0 0 [] 0 [] [])).channel ((snP c a).getD (↑k:Int).toNat (Packet.mk 0 0 0 [] 0 [] [])).seq ((snP c a).getD (↑k:Int).toNat (Packet.mk 0 0 0 [] 0 [] [])).timeout ((snP c a).getD (↑k:Int).toNat (Packet.mk 0 0 0 [] 0 [] [])).denom ((snP c a).getD (↑k:Int).toNat (Packet.mk 0 0 0 [] 0 [] [])).amount ((snP c a).getD (↑k:Int).toNat (Packet.mk 0 0 0 [] 0 [] [])).from_ ((snP c a).getD (↑k:Int).toNat (Packet.mk 0 0 0 [] 0 [] [])).to]=fP (anB a b) (snP c a) k++[Packet.mk ((snP c a).getD (↑k:Int).toNat (Packet.mk 0 0 0 [] 0 [] [])).channel ((snP c a).getD (↑k:Int).toNat (Packet.mk 0 0 0 [] 0 [] [])).seq ((snP c a).getD (↑k:Int).toNat (Packet.mk 0 0 0 [] 0 [] [])).timeout ((snP c a).getD (↑k:Int).toNat (Packet.mk 0 0 0 [] 0 [] [])).denom ((snP c a).getD (↑k:Int).toNat (Packet.mk 0 0 0 [] 0 [] [])).amount ((snP c a).getD (↑k:Int).toNat (Packet.mk 0 0 0 [] 0 [] [])).from_ ((snP c a).getD (↑k:Int).toNat (Packet.mk 0 0 0 [] 0 [] [])).to])) ⟨(by exact fl (snP_len ha)),(by exact kl ha),rfl,rfl⟩ (show True from trivial)
        ·skip
         exact v_back (()) [16,15] (((fP (anB a b) (snP c a) k).length+1≤1000000)∧((List.map (fun p=>(smE b [2] p).ack) (fP (anB a b) (snP c a) k)).length+1≤1000000)∧(List.map (fun p=>(smE b [2] p).ack) (fP (anB a b) (snP c a) k)++[Ack.mk (smE b [2] ((snP c a).getD (↑k:Int).toNat (Packet.mk 0 0 0 [] 0 [] []))).ack.ok (smE b [2] ((snP c a).getD (↑k:Int).toNat (Packet.mk 0 0 0 [] 0 [] []))).ack.code]=List.map (fun p=>(smE b [2] p).ack) (fP (anB a b) (snP c a) k)++[Ack.mk (smE b [2] ((snP c a).getD (↑k:Int).toNat (Packet.mk 0 0 0 [] 0 [] []))).ack.ok (smE b [2] ((snP c a).getD (↑k:Int).toNat (Packet.mk 0 0 0 [] 0 [] []))).ack.code])∧(fP (anB a b) (snP c a) k++[Packet.mk ((snP c a).getD (↑k:Int).toNat (Packet.mk 0 0 0 [] 0 [] [])).channel ((snP c a).getD (↑k:Int).toNat (Packet.mk 0 0 0 [] 0 [] [])).seq ((snP c a).getD (↑k:Int).toNat (Packet.mk 0 0 0 [] 0 [] [])).timeout ((snP c a).getD (↑k:Int).toNat (Packet.mk 0 0 0 [] 0 [] [])).denom ((snP c a).getD (↑k:Int).toNat (Packet.mk 0 0 0 [] 0 [] [])).amount ((snP c a).getD (↑k:Int).toNat (Packet.mk 0 0 0 [] 0 [] [])).from_ ((snP c a).getD (↑k:Int).toNat (Packet.mk 0 0 0 [] 0 [] [])).to]=fP (anB a b) (snP c a) k++[Packet.mk ((snP c a).getD (↑k:Int).toNat (Packet.mk 0 0 0 [] 0 [] [])).channel ((snP c a).getD (↑k:Int).toNat (Packet.mk 0 0 0 [] 0 [] [])).seq ((snP c a).getD (↑k:Int).toNat (Packet.mk 0 0 0 [] 0 [] [])).timeout ((snP c a).getD (↑k:Int).toNat (Packet.mk 0 0 0 [] 0 [] [])).denom ((snP c a).getD (↑k:Int).toNat (Packet.mk 0 0 0 [] 0 [] [])).amount ((snP c a).getD (↑k:Int).toNat (Packet.mk 0 0 0 [] 0 [] [])).from_ ((snP c a).getD (↑k:Int).toNat (Packet.mk 0 0 0 [] 0 [] [])).to])) ⟨(by exact fl (snP_len ha)),(by exact kl ha),rfl,rfl⟩ (show True from trivial)
       ·skip
        exact v_back (()) [16,15] (((fP (anB a b) (snP c a) k).length+1≤1000000)∧((List.map (fun p=>(smE b [2] p).ack) (fP (anB a b) (snP c a) k)).length+1≤1000000)∧(List.map (fun p=>(smE b [2] p).ack) (fP (anB a b) (snP c a) k)++[Ack.mk (smE b [2] ((snP c a).getD (↑k:Int).toNat (Packet.mk 0 0 0 [] 0 [] []))).ack.ok (smE b [2] ((snP c a).getD (↑k:Int).toNat (Packet.mk 0 0 0 [] 0 [] []))).ack.code]=List.map (fun p=>(smE b [2] p).ack) (fP (anB a b) (snP c a) k)++[Ack.mk (smE b [2] ((snP c a).getD (↑k:Int).toNat (Packet.mk 0 0 0 [] 0 [] []))).ack.ok (smE b [2] ((snP c a).getD (↑k:Int).toNat (Packet.mk 0 0 0 [] 0 [] []))).ack.code])∧(fP (anB a b) (snP c a) k++[Packet.mk ((snP c a).getD (↑k:Int).toNat (Packet.mk 0 0 0 [] 0 [] [])).channel ((snP c a).getD (↑k:Int).toNat (Packet.mk 0 0 0 [] 0 [] [])).seq ((snP c a).getD (↑k:Int).toNat (Packet.mk 0 0 0 [] 0 [] [])).timeout ((snP c a).getD (↑k:Int).toNat (Packet.mk 0 0 0 [] 0 [] [])).denom ((snP c a).getD (↑k:Int).toNat (Packet.mk 0 0 0 [] 0 [] [])).amount ((snP c a).getD (↑k:Int).toNat (Packet.mk 0 0 0 [] 0 [] [])).from_ ((snP c a).getD (↑k:Int).toNat (Packet.mk 0 0 0 [] 0 [] [])).to]=fP (anB a b) (snP c a) k++[Packet.mk ((snP c a).getD (↑k:Int).toNat (Packet.mk 0 0 0 [] 0 [] [])).channel ((snP c a).getD (↑k:Int).toNat (Packet.mk 0 0 0 [] 0 [] [])).seq ((snP c a).getD (↑k:Int).toNat (Packet.mk 0 0 0 [] 0 [] [])).timeout ((snP c a).getD (↑k:Int).toNat (Packet.mk 0 0 0 [] 0 [] [])).denom ((snP c a).getD (↑k:Int).toNat (Packet.mk 0 0 0 [] 0 [] [])).amount ((snP c a).getD (↑k:Int).toNat (Packet.mk 0 0 0 [] 0 [] [])).from_ ((snP c a).getD (↑k:Int).toNat (Packet.mk 0 0 0 [] 0 [] [])).to])) ⟨(by exact fl (snP_len ha)),(by exact kl ha),rfl,rfl⟩ (show True from trivial)
     ·skip
      refine v_pick True trivial ?_ ?_
      ·skip
       refine v_pick True trivial ?_ ?_
       ·skip
        refine v_pick True trivial ?_ ?_
        ·skip
         exact v_back (()) [16,14] (((fP (anB a b) (snP c a) k).length+1≤1000000)∧((List.map (fun p=>(smE b [2] p).ack) (fP (anB a b) (snP c a) k)).length+1≤1000000)∧(List.map (fun p=>(smE b [2] p).ack) (fP (anB a b) (snP c a) k)++[Ack.mk (smE b [2] ((snP c a).getD (↑k:Int).toNat (Packet.mk 0 0 0 [] 0 [] []))).ack.ok (smE b [2] ((snP c a).getD (↑k:Int).toNat (Packet.mk 0 0 0 [] 0 [] []))).ack.code]=List.map (fun p=>(smE b [2] p).ack) (fP (anB a b) (snP c a) k)++[Ack.mk (smE b [2] ((snP c a).getD (↑k:Int).toNat (Packet.mk 0 0 0 [] 0 [] []))).ack.ok (smE b [2] ((snP c a).getD (↑k:Int).toNat (Packet.mk 0 0 0 [] 0 [] []))).ack.code])∧(fP (anB a b) (snP c a) k++[Packet.mk ((snP c a).getD (↑k:Int).toNat (Packet.mk 0 0 0 [] 0 [] [])).channel ((snP c a).getD (↑k:Int).toNat (Packet.mk 0 0 0 [] 0 [] [])).seq ((snP c a).getD (↑k:Int).toNat (Packet.mk 0 0 0 [] 0 [] [])).timeout ((snP c a).getD (↑k:Int).toNat (Packet.mk 0 0 0 [] 0 [] [])).denom ((snP c a).getD (↑k:Int).toNat (Packet.mk 0 0 0 [] 0 [] [])).amount ((snP c a).getD (↑k:Int).toNat (Packet.mk 0 0 0 [] 0 [] [])).from_ ((snP c a).getD (↑k:Int).toNat (Packet.mk 0 0 0 [] 0 [] [])).to]=fP (anB a b) (snP c a) k++[Packet.mk ((snP c a).getD (↑k:Int).toNat (Packet.mk 0 0 0 [] 0 [] [])).channel ((snP c a).getD (↑k:Int).toNat (Packet.mk 0 0 0 [] 0 [] [])).seq ((snP c a).getD (↑k:Int).toNat (Packet.mk 0 0 0 [] 0 [] [])).timeout ((snP c a).getD (↑k:Int).toNat (Packet.mk 0 0 0 [] 0 [] [])).denom ((snP c a).getD (↑k:Int).toNat (Packet.mk 0 0 0 [] 0 [] [])).amount ((snP c a).getD (↑k:Int).toNat (Packet.mk 0 0 0 [] 0 [] [])).from_ ((snP c a).getD (↑k:Int).toNat (Packet.mk 0 0 0 [] 0 [] [])).to])) ⟨(by exact fl (snP_len ha)),(by exact kl ha),rfl,rfl⟩ (show True from trivial)
        ·skip
         exact v_back (()) [16,15] (((fP (anB a b) (snP c a) k).length+1≤1000000)∧((List.map (fun p=>(smE b [2] p).ack) (fP (anB a b) (snP c a) k)).length+1≤1000000)∧(List.map (fun p=>(smE b [2] p).ack) (fP (anB a b) (snP c a) k)++[Ack.mk (smE b [2] ((snP c a).getD (↑k:Int).toNat (Packet.mk 0 0 0 [] 0 [] []))).ack.ok (smE b [2] ((snP c a).getD (↑k:Int).toNat (Packet.mk 0 0 0 [] 0 [] []))).ack.code]=List.map (fun p=>(smE b [2] p).ack) (fP (anB a b) (snP c a) k)++[Ack.mk (smE b [2] ((snP c a).getD (↑k:Int).toNat (Packet.mk 0 0 0 [] 0 [] []))).ack.ok (smE b [2] ((snP c a).getD (↑k:Int).toNat (Packet.mk 0 0 0 [] 0 [] []))).ack.code])∧(fP (anB a b) (snP c a) k++[Packet.mk ((snP c a).getD (↑k:Int).toNat (Packet.mk 0 0 0 [] 0 [] [])).channel ((snP c a).getD (↑k:Int).toNat (Packet.mk 0 0 0 [] 0 [] [])).seq ((snP c a).getD (↑k:Int).toNat (Packet.mk 0 0 0 [] 0 [] [])).timeout ((snP c a).getD (↑k:Int).toNat (Packet.mk 0 0 0 [] 0 [] [])).denom ((snP c a).getD (↑k:Int).toNat (Packet.mk 0 0 0 [] 0 [] [])).amount ((snP c a).getD (↑k:Int).toNat (Packet.mk 0 0 0 [] 0 [] [])).from_ ((snP c a).getD (↑k:Int).toNat (Packet.mk 0 0 0 [] 0 [] [])).to]=fP (anB a b) (snP c a) k++[Packet.mk ((snP c a).getD (↑k:Int).toNat (Packet.mk 0 0 0 [] 0 [] [])).channel ((snP c a).getD (↑k:Int).toNat (Packet.mk 0 0 0 [] 0 [] [])).seq ((snP c a).getD (↑k:Int).toNat (Packet.mk 0 0 0 [] 0 [] [])).timeout ((snP c a).getD (↑k:Int).toNat (Packet.mk 0 0 0 [] 0 [] [])).denom ((snP c a).getD (↑k:Int).toNat (Packet.mk 0 0 0 [] 0 [] [])).amount ((snP c a).getD (↑k:Int).toNat (Packet.mk 0 0 0 [] 0 [] [])).from_ ((snP c a).getD (↑k:Int).toNat (Packet.mk 0 0 0 [] 0 [] [])).to])) ⟨(by exact fl (snP_len ha)),(by exact kl ha),rfl,rfl⟩ (show True from trivial)
       ·skip
        exact v_back (()) [16,15] (((fP (anB a b) (snP c a) k).length+1≤1000000)∧((List.map (fun p=>(smE b [2] p).ack) (fP (anB a b) (snP c a) k)).length+1≤1000000)∧(List.map (fun p=>(smE b [2] p).ack) (fP (anB a b) (snP c a) k)++[Ack.mk (smE b [2] ((snP c a).getD (↑k:Int).toNat (Packet.mk 0 0 0 [] 0 [] []))).ack.ok (smE b [2] ((snP c a).getD (↑k:Int).toNat (Packet.mk 0 0 0 [] 0 [] []))).ack.code]=List.map (fun p=>(smE b [2] p).ack) (fP (anB a b) (snP c a) k)++[Ack.mk (smE b [2] ((snP c a).getD (↑k:Int).toNat (Packet.mk 0 0 0 [] 0 [] []))).ack.ok (smE b [2] ((snP c a).getD (↑k:Int).toNat (Packet.mk 0 0 0 [] 0 [] []))).ack.code])∧(fP (anB a b) (snP c a) k++[Packet.mk ((snP c a).getD (↑k:Int).toNat (Packet.mk 0 0 0 [] 0 [] [])).channel ((snP c a).getD (↑k:Int).toNat (Packet.mk 0 0 0 [] 0 [] [])).seq ((snP c a).getD (↑k:Int).toNat (Packet.mk 0 0 0 [] 0 [] [])).timeout ((snP c a).getD (↑k:Int).toNat (Packet.mk 0 0 0 [] 0 [] [])).denom ((snP c a).getD (↑k:Int).toNat (Packet.mk 0 0 0 [] 0 [] [])).amount ((snP c a).getD (↑k:Int).toNat (Packet.mk 0 0 0 [] 0 [] [])).from_ ((snP c a).getD (↑k:Int).toNat (Packet.mk 0 0 0 [] 0 [] [])).to]=fP (anB a b) (snP c a) k++[Packet.mk ((snP c a).getD (↑k:Int).toNat (Packet.mk 0 0 0 [] 0 [] [])).channel ((snP c a).getD (↑k:Int).toNat (Packet.mk 0 0 0 [] 0 [] [])).seq ((snP c a).getD (↑k:Int).toNat (Packet.mk 0 0 0 [] 0 [] [])).timeout ((snP c a).getD (↑k:Int).toNat (Packet.mk 0 0 0 [] 0 [] [])).denom ((snP c a).getD (↑k:Int).toNat (Packet.mk 0 0 0 [] 0 [] [])).amount ((snP c a).getD (↑k:Int).toNat (Packet.mk 0 0 0 [] 0 [] [])).from_ ((snP c a).getD (↑k:Int).toNat (Packet.mk 0 0 0 [] 0 [] [])).to])) ⟨(by exact fl (snP_len ha)),(by exact kl ha),rfl,rfl⟩ (show True from trivial)
      ·skip
       exact v_back (()) [16,15] (((fP (anB a b) (snP c a) k).length+1≤1000000)∧((List.map (fun p=>(smE b [2] p).ack) (fP (anB a b) (snP c a) k)).length+1≤1000000)∧(List.map (fun p=>(smE b [2] p).ack) (fP (anB a b) (snP c a) k)++[Ack.mk (smE b [2] ((snP c a).getD (↑k:Int).toNat (Packet.mk 0 0 0 [] 0 [] []))).ack.ok (smE b [2] ((snP c a).getD (↑k:Int).toNat (Packet.mk 0 0 0 [] 0 [] []))).ack.code]=List.map (fun p=>(smE b [2] p).ack) (fP (anB a b) (snP c a) k)++[Ack.mk (smE b [2] ((snP c a).getD (↑k:Int).toNat (Packet.mk 0 0 0 [] 0 [] []))).ack.ok (smE b [2] ((snP c a).getD (↑k:Int).toNat (Packet.mk 0 0 0 [] 0 [] []))).ack.code])∧(fP (anB a b) (snP c a) k++[Packet.mk ((snP c a).getD (↑k:Int).toNat (Packet.mk 0 0 0 [] 0 [] [])).channel ((snP c a).getD (↑k:Int).toNat (Packet.mk 0 0 0 [] 0 [] [])).seq ((snP c a).getD (↑k:Int).toNat (Packet.mk 0 0 0 [] 0 [] [])).timeout ((snP c a).getD (↑k:Int).toNat (Packet.mk 0 0 0 [] 0 [] [])).denom ((snP c a).getD (↑k:Int).toNat (Packet.mk 0 0 0 [] 0 [] [])).amount ((snP c a).getD (↑k:Int).toNat (Packet.mk 0 0 0 [] 0 [] [])).from_ ((snP c a).getD (↑k:Int).toNat (Packet.mk 0 0 0 [] 0 [] [])).to]=fP (anB a b) (snP c a) k++[Packet.mk ((snP c a).getD (↑k:Int).toNat (Packet.mk 0 0 0 [] 0 [] [])).channel ((snP c a).getD (↑k:Int).toNat (Packet.mk 0 0 0 [] 0 [] [])).seq ((snP c a).getD (↑k:Int).toNat (Packet.mk 0 0 0 [] 0 [] [])).timeout ((snP c a).getD (↑k:Int).toNat (Packet.mk 0 0 0 [] 0 [] [])).denom ((snP c a).getD (↑k:Int).toNat (Packet.mk 0 0 0 [] 0 [] [])).amount ((snP c a).getD (↑k:Int).toNat (Packet.mk 0 0 0 [] 0 [] [])).from_ ((snP c a).getD (↑k:Int).toNat (Packet.mk 0 0 0 [] 0 [] [])).to])) ⟨(by exact fl (snP_len ha)),(by exact kl ha),rfl,rfl⟩ (show True from trivial)
    ·skip
     exact v_back (k+1) [14,13] ((I64 (↑k+1))∧((↑k:Int)+1=(↑(k+1):Int))∧(fP (anB a b) (snP c a) k++[Packet.mk ((snP c a).getD (↑k:Int).toNat (Packet.mk 0 0 0 [] 0 [] [])).channel ((snP c a).getD (↑k:Int).toNat (Packet.mk 0 0 0 [] 0 [] [])).seq ((snP c a).getD (↑k:Int).toNat (Packet.mk 0 0 0 [] 0 [] [])).timeout ((snP c a).getD (↑k:Int).toNat (Packet.mk 0 0 0 [] 0 [] [])).denom ((snP c a).getD (↑k:Int).toNat (Packet.mk 0 0 0 [] 0 [] [])).amount ((snP c a).getD (↑k:Int).toNat (Packet.mk 0 0 0 [] 0 [] [])).from_ ((snP c a).getD (↑k:Int).toNat (Packet.mk 0 0 0 [] 0 [] [])).to]=fP (anB a b) (snP c a) (k+1))∧(List.map (fun p=>(smE b [2] p).ack) (fP (anB a b) (snP c a) k)++[Ack.mk (smE b [2] ((snP c a).getD (↑k:Int).toNat (Packet.mk 0 0 0 [] 0 [] []))).ack.ok (smE b [2] ((snP c a).getD (↑k:Int).toNat (Packet.mk 0 0 0 [] 0 [] []))).ack.code]=List.map (fun p=>(smE b [2] p).ack) (fP (anB a b) (snP c a) (k+1)))) ⟨(by exact fi (snP_len ha) ‹_›),rfl,(by exact fy (d:=dK) ‹_› (an1 ‹_› ‹_›)),(by exact ky ‹_› (an1 ‹_› ‹_›))⟩ (show k+1≤(snP c a).length∧(snP c a).length - (k+1)<(snP c a).length - k from(by omega))
   ·have h10:=(nf h10)
    exact v_back (k+1) [5,6] ((I64 (↑k+1))∧((↑k:Int)+1=(↑(k+1):Int))∧(fP (anB a b) (snP c a) k=fP (anB a b) (snP c a) (k+1))∧(List.map (fun p=>(smE b [2] p).ack) (fP (anB a b) (snP c a) k)=List.map (fun p=>(smE b [2] p).ack) (fP (anB a b) (snP c a) (k+1)))) ⟨(by exact fi (snP_len ha) ‹_›),rfl,(by exact fn (d:=dK) ‹_› (an3 ‹_›)),(by exact kn ‹_› (an3 ‹_›))⟩ (show k+1≤(snP c a).length∧(snP c a).length - (k+1)<(snP c a).length - k from(by omega))
  ·skip
   exact v_back (k+1) [5,6] ((I64 (↑k+1))∧((↑k:Int)+1=(↑(k+1):Int))∧(fP (anB a b) (snP c a) k=fP (anB a b) (snP c a) (k+1))∧(List.map (fun p=>(smE b [2] p).ack) (fP (anB a b) (snP c a) k)=List.map (fun p=>(smE b [2] p).ack) (fP (anB a b) (snP c a) (k+1)))) ⟨(by exact fi (snP_len ha) ‹_›),rfl,(by exact fn (d:=dK) ‹_› (an2 ‹_›)),(by exact kn ‹_› (an2 ‹_›))⟩ (show k+1≤(snP c a).length∧(snP c a).length - (k+1)<(snP c a).length - k from(by omega))
 ·have h4:=of_decide_eq_false h4
  refine v_leave (.ex 0) True trivial ?_
  exact v_ret () [5,6] ((a=a)∧(b=b)∧(fP (anB a b) (snP c a) k=toAns a b c)∧(List.map (fun p=>(smE b [2] p).ack) (fP (anB a b) (snP c a) k)=toAck a b c)) ⟨rfl,rfl,(by exact kz ‹_›),(by exact kw ‹_›)⟩ trivial
abbrev awK:Packet:=⟨0,1,3,(#[120]:Array UInt8).toList,0,[],[]⟩
abbrev awL:List Event:=[⟨1,awK,⟨false,0⟩⟩]
abbrev awM:List Event:=[⟨2,awK,⟨true,0⟩⟩]
noncomputable def ccRL3_4:Code:=(Tryd.f4.body).getD .skip
theorem Awake21_aux (r:toRecv awL [] 0=[awK]) (n:toAns awL [] 0=[]) (c:toAns awL awM 0=[awK]) (k:toAck awL awM 0=[⟨true,0⟩]) (t:toTime awL 0=[awK]):FOk EN 4 ⟨[],[],Unit,fun _=>([],.b true),fun _=>True⟩:=by
 refine v_fun Tryd.f4 ccRL3_4 MX (fun ν F σ w=>?_) Tryd.func4
 refine v_nl ?_
 refine v_call _ [2,0] (ToReceive_ok ([Event.mk 1 (Packet.mk 0 1 3 #[120].toList 0 [] []) (Ack.mk false 0)]) ([]) (0) (by decide) (by decide)) (((0:Int)=(0:Int))∧([Event.mk 1 (Packet.mk 0 1 3 #[120].toList 0 [] []) (Ack.mk false 0)]=[Event.mk 1 (Packet.mk 0 1 3 #[120].toList 0 [] []) (Ack.mk false 0)])∧(Eq (α:=List Event) [] [])) ⟨rfl,rfl,rfl⟩ (fun g1 p2=>?_)
 have p2:True:=p2
 refine v_call _ [2,0] (ToAnswer_ok ([Event.mk 1 (Packet.mk 0 1 3 #[120].toList 0 [] []) (Ack.mk false 0)]) ([]) (0) (by decide) (by decide)) (((0:Int)=(0:Int))∧([Event.mk 1 (Packet.mk 0 1 3 #[120].toList 0 [] []) (Ack.mk false 0)]=[Event.mk 1 (Packet.mk 0 1 3 #[120].toList 0 [] []) (Ack.mk false 0)])∧(Eq (α:=List Event) [] [])) ⟨rfl,rfl,rfl⟩ (fun g3 p4=>?_)
 have p4:True:=p4
 refine v_call _ [2,6] (ToAnswer_ok ([Event.mk 1 (Packet.mk 0 1 3 #[120].toList 0 [] []) (Ack.mk false 0)]) (awM) (0) (by decide) (by decide)) (((0:Int)=(0:Int))∧([Event.mk 1 (Packet.mk 0 1 3 #[120].toList 0 [] []) (Ack.mk false 0)]=[Event.mk 1 (Packet.mk 0 1 3 #[120].toList 0 [] []) (Ack.mk false 0)])∧([Event.mk 2 (Packet.mk 0 1 3 #[120].toList 0 [] []) (Ack.mk true 0)]=[Event.mk 2 (Packet.mk 0 1 3 #[120].toList 0 [] []) (Ack.mk true 0)])) ⟨rfl,rfl,rfl⟩ (fun g5 p6=>?_)
 have p6:True:=p6
 refine v_plan (.fs [0,1,2,3,4,5,6,7,8,9,10,11,12,13,14,15,16,17,18,19,20,21,22,23,24,25,26,27,28,29,30,31,32] (.o 33 (.fs [34,35,36,37] .e))) [1,2,3,4,5,6,7,8] True trivial ?_
 refine v_guard 31 (decide ((↑(toRecv [Event.mk 1 (Packet.mk 0 1 3 #[120].toList 0 [] []) (Ack.mk false 0)] [] 0).length:Int)=1)) True trivial (fun h7=>?_) (fun h7=>?_)
 ·have h7:=of_decide_eq_true h7
  refine v_guard 38 (decide (((toRecv [Event.mk (1:UInt8) (Packet.mk (0:Int) (1:UInt64) (3:UInt64) #[(120:UInt8)].toList (0:UInt64) [] []) (Ack.mk false (0:Int))] [] (0:Int)).getD (0:Nat) (Packet.mk (0:Int) (0:UInt64) (0:UInt64) [] (0:UInt64) [] [])).channel=(0:Int)) && (decide (((toRecv [Event.mk (1:UInt8) (Packet.mk (0:Int) (1:UInt64) (3:UInt64) #[(120:UInt8)].toList (0:UInt64) [] []) (Ack.mk false (0:Int))] [] (0:Int)).getD (0:Nat) (Packet.mk (0:Int) (0:UInt64) (0:UInt64) [] (0:UInt64) [] [])).seq=(1:UInt64)) && (decide (((toRecv [Event.mk (1:UInt8) (Packet.mk (0:Int) (1:UInt64) (3:UInt64) #[(120:UInt8)].toList (0:UInt64) [] []) (Ack.mk false (0:Int))] [] (0:Int)).getD (0:Nat) (Packet.mk (0:Int) (0:UInt64) (0:UInt64) [] (0:UInt64) [] [])).timeout=(3:UInt64)) && (decide (((toRecv [Event.mk (1:UInt8) (Packet.mk (0:Int) (1:UInt64) (3:UInt64) #[(120:UInt8)].toList (0:UInt64) [] []) (Ack.mk false (0:Int))] [] (0:Int)).getD (0:Nat) (Packet.mk (0:Int) (0:UInt64) (0:UInt64) [] (0:UInt64) [] [])).denom=#[(120:UInt8)].toList) && (decide (((toRecv [Event.mk (1:UInt8) (Packet.mk (0:Int) (1:UInt64) (3:UInt64) #[(120:UInt8)].toList (0:UInt64) [] []) (Ack.mk false (0:Int))] [] (0:Int)).getD (0:Nat) (Packet.mk (0:Int) (0:UInt64) (0:UInt64) [] (0:UInt64) [] [])).amount=(0:UInt64)) && (decide (((toRecv [Event.mk (1:UInt8) (Packet.mk (0:Int) (1:UInt64) (3:UInt64) #[(120:UInt8)].toList (0:UInt64) [] []) (Ack.mk false (0:Int))] [] (0:Int)).getD (0:Nat) (Packet.mk (0:Int) (0:UInt64) (0:UInt64) [] (0:UInt64) [] [])).from_=[]) && (decide (((toRecv [Event.mk (1:UInt8) (Packet.mk (0:Int) (1:UInt64) (3:UInt64) #[(120:UInt8)].toList (0:UInt64) [] []) (Ack.mk false (0:Int))] [] (0:Int)).getD (0:Nat) (Packet.mk (0:Int) (0:UInt64) (0:UInt64) [] (0:UInt64) [] [])).to=[]) && true))))))) (((0:Int)≤(0:Int)∧(0:Int)<(↑(toRecv [Event.mk (1:UInt8) (Packet.mk (0:Int) (1:UInt64) (3:UInt64) #[(120:UInt8)].toList (0:UInt64) [] []) (Ack.mk false (0:Int))] [] (0:Int)).length:Int))∧(EN.P.eqGuardType EN.P.depth (55:Nat)=false)∧(noBl EN.P 55)) ⟨(by decide),(by kernel_rfl),rfl⟩ (fun h8=>?_) (fun h8=>?_)
  ·skip
   refine v_guard 43 (decide ((↑(toAns [Event.mk 1 (Packet.mk 0 1 3 #[120].toList 0 [] []) (Ack.mk false 0)] [] 0).length:Int)=0)) True trivial (fun h9=>?_) (fun h9=>?_)
   ·have h9:=of_decide_eq_true h9
    refine v_guard 48 (decide ((↑(toAns [Event.mk 1 (Packet.mk 0 1 3 #[120].toList 0 [] []) (Ack.mk false 0)] [Event.mk 2 (Packet.mk 0 1 3 #[120].toList 0 [] []) (Ack.mk true 0)] 0).length:Int)=1)) True trivial (fun h10=>?_) (fun h10=>?_)
    ·have h10:=of_decide_eq_true h10
     refine v_guard 53 (decide ((↑(toAck [Event.mk 1 (Packet.mk 0 1 3 #[120].toList 0 [] []) (Ack.mk false 0)] [Event.mk 2 (Packet.mk 0 1 3 #[120].toList 0 [] []) (Ack.mk true 0)] 0).length:Int)=1)) True trivial (fun h11=>?_) (fun h11=>?_)
     ·have h11:=of_decide_eq_true h11
      refine v_guard 59 (((toAck [Event.mk 1 (Packet.mk 0 1 3 #[120].toList 0 [] []) (Ack.mk false 0)] [Event.mk 2 (Packet.mk 0 1 3 #[120].toList 0 [] []) (Ack.mk true 0)] 0).getD 0 (Ack.mk false 0)).ok) (((0:Int)≤(0:Int)∧(0:Int)<(↑(toAck [Event.mk (1:UInt8) (Packet.mk (0:Int) (1:UInt64) (3:UInt64) #[(120:UInt8)].toList (0:UInt64) [] []) (Ack.mk false (0:Int))] [Event.mk (2:UInt8) (Packet.mk (0:Int) (1:UInt64) (3:UInt64) #[(120:UInt8)].toList (0:UInt64) [] []) (Ack.mk true (0:Int))] (0:Int)).length:Int))) (by decide) (fun h12=>?_) (fun h12=>?_)
      ·skip
       refine v_call _ [2] (ToTimeout_ok ([Event.mk 1 (Packet.mk 0 1 3 #[120].toList 0 [] []) (Ack.mk false 0)]) (0) (by decide)) (((0:Int)=(0:Int))∧([Event.mk 1 (Packet.mk 0 1 3 #[120].toList 0 [] []) (Ack.mk false 0)]=[Event.mk 1 (Packet.mk 0 1 3 #[120].toList 0 [] []) (Ack.mk false 0)])) ⟨rfl,rfl⟩ (fun g13 p14=>?_)
       have p14:True:=p14
       exact v_ret () [] ((decide ((↑(toTime [Event.mk 1 (Packet.mk 0 1 3 #[120].toList 0 [] []) (Ack.mk false 0)] 0).length:Int)=1)=true)) rfl trivial
      ·skip
       contradiction
     ·have h11:=of_decide_eq_false h11
      contradiction
    ·have h10:=of_decide_eq_false h10
     contradiction
   ·have h9:=of_decide_eq_false h9
    contradiction
  ·skip
   contradiction
 ·have h7:=of_decide_eq_false h7
  contradiction
theorem Awake21_ok:FOk EN 4 ⟨[],[],Unit,fun _=>([],.b true),fun _=>True⟩:=Awake21_aux (by decide) (by decide) (by decide) (by decide) (by decide)
end Go.Proofs.YtkpnjjacbhicgaaDoor.X
set_option linter.unusedVariables false
set_option linter.unusedSimpArgs false
namespace Go.Proofs.YtkpnjjacbhicgaaDoor.E
open Go
/-- The byte of n that stands k places behind the greatest. -/
def byteAt (n:UInt64) (k:Nat):UInt8:=(n >>> (56 - 8*k).toUInt64).toUInt8
def eight (n:UInt64):List UInt8:=(List.range 8).map (byteAt n)
theorem eight_len (n:UInt64):(eight n).length=8:=by simp[eight]
def eightTo (n:UInt64) (k:Nat):List UInt8:=(List.range k).map (byteAt n)
theorem eightTo_succ (n:UInt64) (k:Nat):eightTo n k++[byteAt n k]=eightTo n (k+1):=by simp[eightTo,List.range_succ]
theorem eightTo_len (n:UInt64) (k:Nat):(eightTo n k).length=k:=by simp[eightTo]
def numTo (b:List UInt8) (k:Nat):UInt64:=(b.take k).foldl (fun n c=>n <<< (8:Nat).toUInt64 ||| c.toUInt64) 0
def rotr (x n:UInt32):UInt32:=x >>> n ||| x <<< (32 - n)
def be4 (a b c d:UInt8):UInt32:=a.toUInt32 <<< 24 ||| b.toUInt32 <<< 16 ||| c.toUInt32 <<< 8 ||| d.toUInt32
def sm0 (x:UInt32):UInt32:=rotr x 7 ^^^ rotr x 18 ^^^ x >>> 3
def sm1 (x:UInt32):UInt32:=rotr x 17 ^^^ rotr x 19 ^^^ x >>> 10
def bg0 (a:UInt32):UInt32:=rotr a 2 ^^^ rotr a 13 ^^^ rotr a 22
def bg1 (e:UInt32):UInt32:=rotr e 6 ^^^ rotr e 11 ^^^ rotr e 25
def chW (e f g:UInt32):UInt32:=e &&& f ^^^ ~~~e &&& g
def majW (a b c:UInt32):UInt32:=a &&& b ^^^ a &&& c ^^^ b &&& c
theorem bits_ext {x y:UInt32} (h:∀ i,x.toBitVec.getLsbD i=y.toBitVec.getLsbD i):x=y:=by
  apply UInt32.toBitVec_inj.1
  exact BitVec.eq_of_getLsbD_eq fun i _=>h i
theorem or_comm32 (a b:UInt32):(a ||| b)=(b ||| a):=by
  refine bits_ext fun i=>?_
  simp only[UInt32.toBitVec_or,BitVec.getLsbD_or,Bool.or_comm]
theorem e8 (a b c:Nat):(a*65536+b*256+c)*2 ^ 8=a*16777216+b*65536+c*256:=by
  rw[show(2:Nat) ^ 8=256 from rfl];omega
def kTab:List UInt32:=[
  0x428a2f98,0x71374491,0xb5c0fbcf,0xe9b5dba5,0x3956c25b,0x59f111f1,0x923f82a4,0xab1c5ed5,
  0xd807aa98,0x12835b01,0x243185be,0x550c7dc3,0x72be5d74,0x80deb1fe,0x9bdc06a7,0xc19bf174,
  0xe49b69c1,0xefbe4786,0x0fc19dc6,0x240ca1cc,0x2de92c6f,0x4a7484aa,0x5cb0a9dc,0x76f988da,
  0x983e5152,0xa831c66d,0xb00327c8,0xbf597fc7,0xc6e00bf3,0xd5a79147,0x06ca6351,0x14292967,
  0x27b70a85,0x2e1b2138,0x4d2c6dfc,0x53380d13,0x650a7354,0x766a0abb,0x81c2c92e,0x92722c85,
  0xa2bfe8a1,0xa81a664b,0xc24b8b70,0xc76c51a3,0xd192e819,0xd6990624,0xf40e3585,0x106aa070,
  0x19a4c116,0x1e376c08,0x2748774c,0x34b0bcb5,0x391c0cb3,0x4ed8aa4a,0x5b9cca4f,0x682e6ff3,
  0x748f82ee,0x78a5636f,0x84c87814,0x8cc70208,0x90befffa,0xa4506ceb,0xbef9a3f7,0xc67178f2]
def wAt (w:List UInt32) (i:Nat):UInt32:=w.getD i 0
def bAt (b:List UInt8) (i:Nat):UInt8:=b.getD i 0
def wordAt (b:List UInt8) (i:Nat):UInt32:=be4 (bAt b (4*i)) (bAt b (4*i+1)) (bAt b (4*i+2)) (bAt b (4*i+3))
def wextAt (w:List UInt32) (i:Nat):UInt32:=wAt w (i - 16)+sm0 (wAt w (i - 15))+wAt w (i - 7)+sm1 (wAt w (i - 2))
def schedTo (b:List UInt8):Nat→List UInt32
  | 0=>List.replicate 64 0
  | i+1=>(schedTo b i).set i (if i<16 then wordAt b i else wextAt (schedTo b i) i)
theorem schedTo_len (b:List UInt8):∀ k,(schedTo b k).length=64
  | 0=>by simp[schedTo]
  | k+1=>by simp[schedTo,schedTo_len b k]
structure St where
  a:UInt32
  b:UInt32
  c:UInt32
  d:UInt32
  e:UInt32
  f:UInt32
  g:UInt32
  h:UInt32
  deriving DecidableEq
def rnd (s:St) (k w:UInt32):St :=
  let x:=s.h+bg1 s.e+chW s.e s.f s.g+k+w
  let y:=bg0 s.a+majW s.a s.b s.c
  ⟨x+y,s.a,s.b,s.c,s.d+x,s.e,s.f,s.g⟩
def rndTo (w:List UInt32) (s:St):Nat→St
  | 0=>s
  | i+1=>rnd (rndTo w s i) (wAt kTab i) (wAt w i)
def addSt (s t:St):St:=⟨s.a+t.a,s.b+t.b,s.c+t.c,s.d+t.d,s.e+t.e,s.f+t.f,s.g+t.g,s.h+t.h⟩
def compress (s:St) (b:List UInt8):St:=addSt s (rndTo (schedTo b 64) s 64)
def st0:St:=⟨0x6a09e667,0xbb67ae85,0x3c6ef372,0xa54ff53a,0x510e527f,0x9b05688c,0x1f83d9ab,0x5be0cd19⟩
def padN (n:Nat):Nat:=(119 - n % 64) % 64
def padded (b:List UInt8):List UInt8:=b++[0x80]++List.replicate (padN b.length) 0++eight (UInt64.ofNat b.length*8)
def blocksTo (m:List UInt8):Nat→St
  | 0=>st0
  | i+1=>compress (blocksTo m i) (m.drop (64*i))
def four (x:UInt32):List UInt8:=[(x >>> (24:Nat).toUInt32).toUInt8,(x >>> (16:Nat).toUInt32).toUInt8,(x >>> (8:Nat).toUInt32).toUInt8,(x >>> (0:Nat).toUInt32).toUInt8]
def bytesSt (s:St):List UInt8:=four s.a++four s.b++four s.c++four s.d++four s.e++four s.f++four s.g++four s.h
def sum256 (b:List UInt8):List UInt8:=bytesSt (blocksTo (padded b) ((padded b).length / 64))
theorem sum256_len (b:List UInt8):(sum256 b).length=32:=by simp[sum256,bytesSt,four]
theorem padded_len (b:List UInt8):(padded b).length % 64=0:=by
  unfold padded padN
  simp only[List.length_append,List.length_cons,List.length_nil,List.length_replicate,eight_len]
  omega
end Go.Proofs.YtkpnjjacbhicgaaDoor.E
set_option linter.unusedVariables false
set_option linter.unusedSimpArgs false
set_option maxRecDepth 100000
namespace Go.Proofs.YtkpnjjacbhicgaaDoor.X
open Go Go.RowKit Go.Proofs Go.Proofs.YtkpnjjacbhicgaaDoor.E
def tabP (g:Nat):PP:=⟨fun σ w _=>Seg σ w g 0 (kTab.map wv),fun st h=>h.step st⟩
def wordsP:PP:=tabP 1
end Go.Proofs.YtkpnjjacbhicgaaDoor.X
set_option linter.unusedVariables false
set_option linter.unusedSimpArgs false
namespace Go.Proofs.YtkpnjjacbhicgaaDoor.E
open Go
theorem rl (x:UInt32) (k:Int) (a b:UInt32) (h1:(ofI k &&& 31).toNat.toUInt32=32 - a) (h2:(32 - (ofI k &&& 31)).toNat.toUInt32=a):rotl x k=rotr x a:=by
  unfold rotl rotr
  rw[h1,h2,or_comm32]
theorem rotl7 (x:UInt32):rotl x (-7)=rotr x 7:=rl x _ _ 0 (by decide) (by decide)
theorem rotl18 (x:UInt32):rotl x (-18)=rotr x 18:=rl x _ _ 0 (by decide) (by decide)
theorem rotl17 (x:UInt32):rotl x (-17)=rotr x 17:=rl x _ _ 0 (by decide) (by decide)
theorem rotl19 (x:UInt32):rotl x (-19)=rotr x 19:=rl x _ _ 0 (by decide) (by decide)
theorem rotl6 (x:UInt32):rotl x (-6)=rotr x 6:=rl x _ _ 0 (by decide) (by decide)
theorem rotl11 (x:UInt32):rotl x (-11)=rotr x 11:=rl x _ _ 0 (by decide) (by decide)
theorem rotl25 (x:UInt32):rotl x (-25)=rotr x 25:=rl x _ _ 0 (by decide) (by decide)
theorem rotl2 (x:UInt32):rotl x (-2)=rotr x 2:=rl x _ _ 0 (by decide) (by decide)
theorem rotl13 (x:UInt32):rotl x (-13)=rotr x 13:=rl x _ _ 0 (by decide) (by decide)
theorem rotl22 (x:UInt32):rotl x (-22)=rotr x 22:=rl x _ _ 0 (by decide) (by decide)
theorem schedTo_lo {b:List UInt8} {k:Nat} (hk:k<16) (hb:64≤b.length):schedTo b (k+1)=(schedTo b k).set k (be4 (b[4*k]'(by omega)) (b[4*k+1]'(by omega)) (b[4*k+2]'(by omega)) (b[4*k+3]'(by omega))):=by
  have e:schedTo b (k+1)=(schedTo b k).set k (if k<16 then wordAt b k else wextAt (schedTo b k) k):=rfl
  rw[e,if_pos hk]
  unfold wordAt bAt
  rw[getD_of b 0 (show 4*k<b.length by omega),getD_of b 0 (show 4*k+1<b.length by omega),getD_of b 0 (show 4*k+2<b.length by omega),getD_of b 0 (show 4*k+3<b.length by omega)]
theorem schedTo_hi {b:List UInt8} {k:Nat} (hk:¬ k<16):schedTo b (k+1)=(schedTo b k).set k (wextAt (schedTo b k) k):=by
  have e:schedTo b (k+1)=(schedTo b k).set k (if k<16 then wordAt b k else wextAt (schedTo b k) k):=rfl
  rw[e,if_neg hk]
def addTo (h v:List UInt32):Nat→List UInt32
  | 0=>h
  | i+1=>(addTo h v i).set i ((addTo h v i).getD i 0+v.getD i 0)
theorem addTo_len (h v:List UInt32):∀ k,(addTo h v k).length=h.length
  | 0=>rfl
  | k+1=>by simp[addTo,addTo_len h v k]
theorem f_retN {P:Program} {fn:Func} {a:Act} {n:Nat} {l:Sl} {M:Nat→Prop} {σ0:Nat→Nat} {w0 w:World} {Post:(Nat→Nat)→World→Value→Prop} (hF:Fr a n l) (rs:List ResultVar) (hr:fn.results=rs.toArray) (vs:List Value) (h:RVs P a w rs vs) (v:Value) (hv:(if h:vs.toArray.size=1 then vs.toArray[0] else .tuple vs.toArray)=v)
    (σ:Nat→Nat) (hs:Stp M σ0 w0 σ w) (hp:Post σ w v):bodyPost P fn (fun e w'=>∃ σ' v,e=.returned v∧Stp M σ0 w0 σ' w'∧Post σ' w' v) .normal a w :=
  ⟨hF.d,v,results_of hr h v hv,σ,v,rfl,hs,hp⟩
theorem kTab_len:kTab.length=64:=rfl
theorem i64_remN (a b:Nat):Int.tmod (a:Int) (b:Int)=((a % b:Nat):Int):=(Int.ofNat_tmod a b).symm
theorem i64_quoN (a b:Nat) (h:a<9223372036854775808):IntKind.i64.wrap (Int.tdiv (a:Int) (b:Int))=((a / b:Nat):Int):=by
  have e:Int.tdiv (a:Int) (b:Int)=((a / b:Nat):Int):=(Int.ofNat_tdiv a b).symm
  have h2:a / b≤a:=Nat.div_le_self _ _
  rw[e]
  generalize a / b=q at *
  exact i64_eq (by omega) (by omega) rfl
theorem flat_step {l:List (List UInt8)} {k:Nat} (hk:k<l.length):(l.take k).flatten++l[k]=(l.take (k+1)).flatten:=by
  rw[List.take_succ_eq_append_getElem hk,List.flatten_append]
  simp
theorem flat_len (l:List (List UInt8)) (k:Nat):((l.take k).flatten).length≤l.flatten.length:=by
  have h:l.flatten=(l.take k).flatten++(l.drop k).flatten:=by rw[← List.flatten_append,List.take_append_drop]
  rw[h,List.length_append];omega
theorem flat_len2 {l:List (List UInt8)} {k:Nat} (hk:k<l.length):((l.take k).flatten).length+(l[k]).length≤l.flatten.length:=by
  have h:=flat_len l (k+1)
  rw[← flat_step hk,List.length_append] at h
  exact h
theorem rep_step (P:List UInt8) (k:Nat):(P++List.replicate k 0)++[0]=P++List.replicate (k+1) 0:=by
  rw[List.append_assoc,List.replicate_succ']
theorem pad_end (n:Nat):(n+1+padN n) % 64=56:=by unfold padN;omega
theorem pad_lt {n k:Nat} (h:k≤padN n) (h2:¬ (n+1+k) % 64=56):k<padN n:=by
  rcases Nat.lt_or_ge k (padN n) with h3 | h3
  · exact h3
  · have : k = padN n := by omega
    subst this
    exact absurd (pad_end n) h2
theorem pad_eq {n k:Nat} (h:k≤padN n) (h2:(n+1+k) % 64=56):k=padN n:=by
  have h3:padN n<64:=by unfold padN;omega
  have h4:=pad_end n
  omega
def outTo (h:List UInt32):Nat→List UInt8
  | 0=>List.replicate 32 0
  | j+1=>(outTo h j).set j ((h.getD (j / 4) 0) >>> (24 - j % 4*8).toUInt32).toUInt8
theorem outTo_len (h:List UInt32):∀ k,(outTo h k).length=32
  | 0=>by simp[outTo]
  | k+1=>by simp[outTo,outTo_len h k]
theorem outTo_all (s:St):outTo [s.a,s.b,s.c,s.d,s.e,s.f,s.g,s.h] 32=bytesSt s:=by kernel_rfl
theorem drop_step (m:List UInt8) (g n:Nat) (hn:n=m.length - 64*g):(((m.drop (64*g)).take n).drop 64)=m.drop (64*(g+1)):=by
  subst hn
  rw[List.take_of_length_le (by simp),List.drop_drop]
  congr 1
section
variable {P:Program} {ops:Array Oper} {Q:Exit→Act→World→Prop} {Kp:Act→World→Prop} {n i:Nat} {l l':Sl} {a:Act} {w w':World} {C:Code} {M:Nat→Prop} {σ:Nat→Nat}
theorem q_storeAll {α:Type} (f:α→Value) {t:TypeId} (x y:Operand) (hF:Fr a n l) {b:Nat} {old:List Value} {e:TypeId} (hB:Bx σ w b old e) (ys:List α) (k:Nat) (L:Lay P t true k) (hl:ys.length=k) (ho':old.length=k) (h1:∀ z,(f z).oneCell'=true)
    (K:∀ a' w',Stp (· = b) σ w σ w'→Bx σ w' b (ys.map f) e→Fr a' n l→Kp a' w')
    (ho:(ops[i]?).map (fun o=>(o.dst,o.op))=some (none,.store t x y):=by kernel_rfl) (hk:okAt ops i n l=true:=by kernel_rfl)
    (hx:evl l x=.pointer (some ⟨b,0,none⟩):=by kernel_rfl) (hy:(evl l y).cells.toList=ys.map f:=by kernel_rfl):wpOp P ops Q i Kp a w :=
  r_store hF ho hk hB 0 (ys.map f) _ hx hy k true L (by simpa using hl) (by simp[h1]) (by simp;omega) (by
    rw[List.take_zero,List.nil_append,List.drop_of_length_le (by simp;omega),List.append_nil]) K
end
theorem padN_lt (n:Nat):padN n<64:=by unfold padN;omega
theorem s2_len (B:List UInt8) (k:Nat):((B++[128])++List.replicate k 0).length=B.length+1+k:=by simp;omega
theorem s2_lt {B:List UInt8} {k m:Nat} (hk:k≤padN B.length) (hln:((B++[128])++List.replicate k 0).length=m) (h:¬ m % 64=56):k<padN B.length:=by
  rw[s2_len] at hln
  subst hln
  exact pad_lt hk h
theorem s2_eq {B:List UInt8} {k m:Nat} (hk:k≤padN B.length) (hln:((B++[128])++List.replicate k 0).length=m) (h:m % 64=56):k=padN B.length:=by
  rw[s2_len] at hln
  subst hln
  exact pad_eq hk h
theorem e3_step (P:List UInt8) (n:UInt64) (k:Nat):(P++eightTo n k)++[byteAt n k]=P++eightTo n (k+1):=by rw[List.append_assoc,eightTo_succ]
theorem ofI_nat (m:Nat) (h:m<18446744073709551616):ofI ((m:Nat):Int)=UInt64.ofNat m:=by
  unfold ofI
  congr 1
  omega
theorem msg_eq {B:List UInt8} {N:UInt64} {k2 k3:Nat} (h2:k2=padN B.length) (h3:k3=8) (hN:N=UInt64.ofNat B.length*8):((B++[128])++List.replicate k2 0)++eightTo N k3=padded B:=by
  subst h2 h3 hN
  rfl
theorem sum_end {B:List UInt8} {N:UInt64} {k2 k3 k4 k5:Nat} (h2:k2=padN B.length) (h3:k3=8) (hN:N=UInt64.ofNat B.length*8) (h4:(((B++[128])++List.replicate k2 0)++eightTo N k3).length - 64*k4=0) (h4':64*k4≤(((B++[128])++List.replicate k2 0)++eightTo N k3).length) (h5:k5=32) (S:St) (hS:S=blocksTo (((B++[128])++List.replicate k2 0)++eightTo N k3) k4) :
    outTo [S.a,S.b,S.c,S.d,S.e,S.f,S.g,S.h] k5=sum256 B:=by
  subst h5 hS
  rw[outTo_all]
  rw[msg_eq h2 h3 hN] at *
  unfold sum256
  have:k4=(padded B).length / 64:=by omega
  rw[this]
end Go.Proofs.YtkpnjjacbhicgaaDoor.E
set_option linter.unusedVariables false
set_option linter.unusedSimpArgs false
set_option maxRecDepth 100000
namespace Go.Proofs.YtkpnjjacbhicgaaDoor.X
open Go Go.RowKit Go.Proofs Go.Proofs.YtkpnjjacbhicgaaDoor.E
def PB (B:List UInt8) (k:Nat):List UInt8:=(B++[128])++List.replicate k 0
theorem PB_len (B:List UInt8) (k:Nat):(PB B k).length=B.length+1+k:=s2_len B k
def MG (B:List UInt8) (k:Nat) (j:Nat):List UInt8:=PB B k++E.eightTo (ofI (B.length:Int)*8) j
theorem MG_len (B:List UInt8) (k j:Nat):(MG B k j).length=B.length+1+k+j:=by unfold MG;rw[List.length_append,PB_len,E.eightTo_len]
def ZI (M B:List UInt8) (g:Nat):Prop:=M=padded B∧64*g≤M.length∧M.length % 64=0∧M.length≤200000
theorem ZI.start {B:List UInt8} {k j:Nat} (hl:B.length≤100000) (h1:k≤padN B.length) (h2:¬ ((PB B k).length:Int) % 64≠56) (h3:j≤8) (h4:¬ (j:Int)<8):ZI (MG B k j) B 0:=by
  have hk:=s2_eq (k:=k) (m:=(PB B k).length) h1 rfl (by omega)
  have hj:j=8:=by omega
  have e:MG B k j=padded B:=msg_eq hk hj (by rw[ofI_nat _ (by omega)])
  have:=padN_lt B.length
  refine⟨e,by omega,?_,by rw[MG_len];omega⟩
  rw[e];exact padded_len B
theorem ZI.next {M B:List UInt8} {g:Nat} (h:ZI M B g) (hg:(64*(g:Int))<M.length):64*g+64≤M.length:=by have:=h.2.2.1;omega
theorem ZI.go {M B:List UInt8} {g:Nat} (h:ZI M B g) (hg:(64*(g:Int))<M.length):ZI M B (g+1)∧M.length - 64*(g+1)<M.length - 64*g:=by
  have:=h.next hg
  exact⟨⟨h.1,by omega,h.2.2⟩,by omega⟩
end Go.Proofs.YtkpnjjacbhicgaaDoor.X
set_option linter.unusedVariables false
namespace Go.Proofs.YtkpnjjacbhicgaaDoor.E
open Go Go.RowKit
open Go.Proofs
theorem C69:callable Tryd.prog 69=true:=by kernel_rfl
theorem C80:callable Tryd.prog 80=true:=by kernel_rfl
noncomputable def c3:Code:=(Tryd.f3.body).getD .skip
noncomputable def c4:Code:=(Tryd.f4.body).getD .skip
noncomputable def c5:Code:=(Tryd.f5.body).getD .skip
noncomputable def c6:Code:=(Tryd.f6.body).getD .skip
noncomputable def c7:Code:=(Tryd.f7.body).getD .skip
noncomputable def c8:Code:=(Tryd.f8.body).getD .skip
noncomputable def c9:Code:=(Tryd.f9.body).getD .skip
noncomputable def c27:Code:=(Tryd.f27.body).getD .skip
noncomputable def c28:Code:=(Tryd.f28.body).getD .skip
noncomputable def c30:Code:=(Tryd.f30.body).getD .skip
noncomputable def c31:Code:=(Tryd.f31.body).getD .skip
noncomputable def c35:Code:=(Tryd.f35.body).getD .skip
noncomputable def c37:Code:=(Tryd.f37.body).getD .skip
noncomputable def c41:Code:=(Tryd.f41.body).getD .skip
noncomputable def c42:Code:=(Tryd.f42.body).getD .skip
noncomputable def c45:Code:=(Tryd.f45.body).getD .skip
noncomputable def c46:Code:=(Tryd.f46.body).getD .skip
noncomputable def c58:Code:=(Tryd.f58.body).getD .skip
noncomputable def c59:Code:=(Tryd.f59.body).getD .skip
noncomputable def c60:Code:=(Tryd.f60.body).getD .skip
noncomputable def c62:Code:=(Tryd.f62.body).getD .skip
noncomputable def c63:Code:=(Tryd.f63.body).getD .skip
noncomputable def c64:Code:=(Tryd.f64.body).getD .skip
noncomputable def c68:Code:=(Tryd.f68.body).getD .skip
noncomputable def c69:Code:=(Tryd.f69.body).getD .skip
noncomputable def c71:Code:=(Tryd.f71.body).getD .skip
noncomputable def c75:Code:=(Tryd.f75.body).getD .skip
noncomputable def c80:Code:=(Tryd.f80.body).getD .skip
theorem L5:Lay Tryd.prog 5 false 1:=⟨fun _=>by kernel_rfl,fun _=>by kernel_rfl⟩
theorem L23:Lay Tryd.prog 23 false 1:=⟨fun _=>by kernel_rfl,fun _=>by kernel_rfl⟩
theorem L80:Lay Tryd.prog 80 true 32:=⟨fun _=>by kernel_rfl,fun _=>by kernel_rfl⟩
theorem L137:Lay Tryd.prog 137 false 1:=⟨fun _=>by kernel_rfl,fun _=>by kernel_rfl⟩
theorem L138:Lay Tryd.prog 138 true 8:=⟨fun _=>by kernel_rfl,fun _=>by kernel_rfl⟩
theorem L151:Lay Tryd.prog 151 true 64:=⟨fun _=>by kernel_rfl,fun _=>by kernel_rfl⟩
theorem U2:Tryd.prog.underlying 2=some (.int .i64):=by kernel_rfl
theorem U3:Tryd.prog.underlying 3=some (.int .i64):=by kernel_rfl
theorem U5:Tryd.prog.underlying 5=some (.int .u8):=by kernel_rfl
theorem U9:Tryd.prog.underlying 9=some .string:=by kernel_rfl
theorem U23:Tryd.prog.underlying 23=some (.slice 5):=by kernel_rfl
theorem U29:Tryd.prog.underlying 29=some (.slice 23):=by kernel_rfl
theorem U80:Tryd.prog.underlying 80=some (.array 32 5):=by kernel_rfl
theorem U138:Tryd.prog.underlying 138=some (.array 8 137):=by kernel_rfl
theorem U151:Tryd.prog.underlying 151=some (.array 64 137):=by kernel_rfl
theorem S23:SlT Tryd.prog 23 5 1 1 (Value.int .u8 0):=⟨U23,by kernel_rfl,rfl,by decide⟩
end Go.Proofs.YtkpnjjacbhicgaaDoor.E
set_option linter.unusedVariables false
set_option linter.unusedSimpArgs false
set_option maxRecDepth 100000
set_option maxHeartbeats 2000000
namespace Go.Proofs.YtkpnjjacbhicgaaDoor.E
open Go Go.RowKit
open Go.Proofs
theorem and31 (x:UInt64):(x &&& 31).toNat<32:=by
  rw[UInt64.toNat_and]
  have:(31:UInt64).toNat=31:=rfl
  rw[this]
  exact Nat.lt_succ_of_le Nat.and_le_right
theorem rot_lt {k:Int} (hk:(ofI k &&& 31).toNat≠0):(32 - (ofI k &&& 31)).toNat<32:=by
  have h:=and31 (ofI k)
  generalize ofI k &&& 31=s at *
  rw[UInt64.toNat_sub]
  have h32:(32:UInt64).toNat=32:=rfl
  have h64:(2 ^ 64:Nat)=18446744073709551616:=by decide
  rw[h32,h64]
  omega
theorem rotl_calls (σ:Nat→Nat) (w:World) (x:UInt32) (k:Int) (hk:(ofI k &&& 31).toNat≠0) :
  Ctr Tryd.prog 80 [(wv x),(Value.int .i64 (k))] noM σ w (fun σ' w' v=>v=wv (rotl x k)):=by
 have hk2:(32 - (ofI k &&& 31)).toNat<32:=rot_lt hk
 have hk1:(ofI k &&& 31).toNat<32:=and31 _
 refine ctr_enter Tryd.func80 c80 (by kernel_rfl) 17 (by kernel_rfl) (Nat.le_of_ble_eq_true (by kernel_rfl)) [(0,(wv x)),(1,(Value.int .i64 (k)))] (by kernel_rfl) ?_
 intro a hF1
 have hS2:=Stp.refl noM σ w
 refine q_seq ?_
 refine q_reg ?_
 refine q_run 1 [(4,(wv 0))] hF1 fun a3 hF4=>?_
 refine q_end ?_
 refine q_seq ?_
 refine q_reg ?_
 refine q_run 1 [(6,(Value.int .i64 (k)))] hF4 fun a5 hF6=>?_
 refine q_one 7 (congrArg (Value.int .u64) (i64_u64 (k:Int))) hF6 fun a7 hF8=>?_
 refine q_one 8 (congrArg (Value.int .u64) (u64_and (ofI (k:Int)) (31:UInt64))) hF8 fun a9 hF10=>?_
 refine q_run 1 [(5,(uv ((ofI (k:Int)) &&& 31)))] hF10 fun a11 hF12=>?_
 refine q_end ?_
 refine q_seq ?_
 refine q_reg ?_
 refine q_run 2 [(10,(uv ((ofI (k:Int)) &&& 31))),(9,(wv x))] hF12 fun a13 hF14=>?_
 refine r_at (q_val 11 (Op.binOp BinOp.shl 137 (Operand.tmp 9) (Operand.tmp 10) 113) hF14 (wv (x <<< (((ofI (k:Int)) &&& 31).toNat).toUInt32)) (exec_shl32 (n:=x) (k:=.u64) (s:=(((ofI (k:Int)) &&& 31).toNat:Int)) (by kernel_rfl) (by kernel_rfl) (by omega) (by omega) (((ofI (k:Int)) &&& 31).toNat) rfl) ?_)
 intro a15 hF16
 refine q_run 2 [(13,(uv ((ofI (k:Int)) &&& 31))),(12,(wv x))] hF16 fun a17 hF18=>?_
 refine q_one 14 (v0:=(Value.int .u64 (IntKind.u64.wrap (((32:UInt64).toNat:Int) - (((ofI (k:Int)) &&& 31).toNat:Int))))) (v:=(uv ((32:UInt64) - ((ofI (k:Int)) &&& 31)))) (congrArg (Value.int .u64) (u64_sub _ _)) hF18 fun a19 hF20=>?_
 refine r_at (q_val 15 (Op.binOp BinOp.shr 137 (Operand.tmp 12) (Operand.tmp 14) 113) hF20 (wv (x >>> (((32:UInt64) - ((ofI (k:Int)) &&& 31)).toNat).toUInt32)) (exec_shr32 (n:=x) (k:=.u64) (s:=(((32:UInt64) - ((ofI (k:Int)) &&& 31)).toNat:Int)) (by kernel_rfl) (by kernel_rfl) (by omega) (by omega) (((32:UInt64) - ((ofI (k:Int)) &&& 31)).toNat) rfl) ?_)
 intro a21 hF22
 refine q_one 16 (congrArg (Value.int .u32) (u32_or (x <<< (((ofI (k:Int)) &&& 31).toNat).toUInt32) (x >>> (((32:UInt64) - ((ofI (k:Int)) &&& 31)).toNat).toUInt32))) hF22 fun a23 hF24=>?_
 refine q_run 1 [(4,(wv ((x <<< (((ofI (k:Int)) &&& 31).toNat).toUInt32) ||| (x >>> (((32:UInt64) - ((ofI (k:Int)) &&& 31)).toNat).toUInt32))))] hF24 fun a25 hF26=>?_
 refine q_end ?_
 refine q_ret ?_
 try dsimp only[Exit.then,Exit.inBlock]
 refine f_ret1 hF26 4 (by kernel_rfl) (wv ((x <<< (((ofI (k:Int)) &&& 31).toNat).toUInt32) ||| (x >>> (((32:UInt64) - ((ofI (k:Int)) &&& 31)).toNat).toUInt32))) (by kernel_rfl) σ hS2 ?_
 rfl
end Go.Proofs.YtkpnjjacbhicgaaDoor.E
set_option linter.unusedVariables false
set_option linter.unusedSimpArgs false
set_option maxRecDepth 100000
set_option maxHeartbeats 2000000
namespace Go.Proofs.YtkpnjjacbhicgaaDoor.E
open Go Go.RowKit
open Go.Proofs
abbrev rS (b:List UInt8) (s:St) (k m:Nat):=rndTo (schedTo b k) s m
theorem block_calls (σ:Nat→Nat) (w:World) {bh:Nat} {s:St} (hh:Bx σ w bh (([s.a,s.b,s.c,s.d,s.e,s.f,s.g,s.h]:List UInt32).map wv) 138) {v1:Value} {b:List UInt8} (h1:Rd tU8 σ w v1 b) (hb:64≤b.length) (hg:Seg σ w 1 0 (kTab.map wv)) :
  Ctr Tryd.prog 69 [(Value.pointer (some ⟨bh,0,none⟩)),v1] (· = bh) σ w (fun σ' w' v=>v=.tuple #[]∧Bx σ' w' bh (([(compress s b).a,(compress s b).b,(compress s b).c,(compress s b).d,(compress s b).e,(compress s b).f,(compress s b).g,(compress s b).h]:List UInt32).map wv) 138):=by
 obtain⟨A0,c0,rfl,hl0⟩:=h1.form
 have hbd:b.length≤140737488355328:=Nat.le_trans (Nat.le_mul_of_pos_right _ (by decide)) h1.bd
 have hbhl:=hh.lt
 refine ctr_enter Tryd.func69 c69 (by kernel_rfl) 201 (by kernel_rfl) (Nat.le_of_ble_eq_true (by kernel_rfl)) [(0,(Value.pointer (some ⟨bh,0,none⟩))),(1,(Value.slice A0 b.length c0))] (by kernel_rfl) ?_
 intro a hF1
 have hS2:=Stp.refl (· = bh) σ w
 refine q_seq ?_
 refine q_reg ?_
 refine r_at (q_new 4 (Op.alloc 151) hF1 σ ((List.replicate 64 (0:UInt32)).map wv) 151 (exec_alloc ((List.replicate 64 (0:UInt32)).map wv) (fun _=>.inl (by kernel_rfl))) ?_)
 intro a3 s4 w5 b6 hb7 st8 hB9 hF10
 have hz11:=hS2.size
 have ne12:=hh.nl hb7
 have hS13:=hS2.then st8
 refine q_end ?_
 refine q_seq ?_
 refine q_seq ?_
 refine q_reg ?_
 refine q_run 1 [(19,(Value.int .i64 ((0:Nat):Int)))] hF10 fun a14 hF15=>?_
 refine q_end ?_
 refine q_block 0 ?_
 have h21:=(hh.step' st8)
 refine q_loop (fun(k1:Nat) a16 w17=>∃(s18:Nat→Nat),Fr a16 201 [(0,(Value.pointer (some ⟨bh,0,none⟩))),(1,(Value.slice A0 b.length c0)),(4,(Value.pointer (some ⟨b6,0,none⟩))),(19,(Value.int .i64 ((k1:Nat):Int)))]∧Stp (· = bh) σ w s18 w17∧Bx s18 w17 bh (([s.a,s.b,s.c,s.d,s.e,s.f,s.g,s.h]:List UInt32).map wv) 138∧Bx s18 w17 b6 ((schedTo b (k1)).map wv) 151∧k1≤16) (fun k1=>16 - k1) 0 ?_ ?_
 ·skip
  have hF22:=hF15.keep [0,1,4,19] [(0,(Value.pointer (some ⟨bh,0,none⟩))),(1,(Value.slice A0 b.length c0)),(4,(Value.pointer (some ⟨b6,0,none⟩))),(19,(Value.int .i64 ((0:Nat):Int)))] (by kernel_rfl)
  exact⟨s4,hF22,hS13,h21,hB9,(by omega)⟩
 ·rintro k1 a16 w17 ⟨s18,hF19,hS20,h23,h24,hk1⟩
  refine q_seq ?_
  refine q_reg ?_
  refine q_one 20 (congrArg Value.bool (cmp_nat_lss (k1) (16))) hF19 fun a25 hF26=>?_
  refine q_end ?_
  refine q_seq ?_
  refine q_cond 20 hF26 (decide ((k1:Nat)<16)) (fun hc27=>?_) (fun hc27=>?_)
  ·skip
   have hc27:=of_decide_eq_true hc27
   refine q_skip ?_
   refine q_seq ?_
   refine q_block 1 ?_
   refine q_seq ?_
   refine q_reg ?_
   refine q_run 2 [(5,(Value.int .i64 ((k1:Nat):Int))),(21,(Value.int .i64 ((k1:Nat):Int)))] hF26 fun a28 hF29=>?_
   refine q_end ?_
   refine c_planL 4 35 1 (by kernel_rfl) (by kernel_rfl) s18 (fun b=>b≠bh∧b≠b6∧True) [(0,true),(1,true),(2,true),(3,true),(4,true),(5,true),(6,true),(7,true),(8,true),(9,true),(10,true),(11,true),(12,true),(13,true),(14,true),(15,true),(16,true),(17,true),(18,true),(19,true),(20,true),(21,true),(22,true),(23,true),(24,true),(25,true),(26,true),(27,true),(28,true),(29,true),(30,true),(31,true),(32,true),(33,true),(34,true)] [(0,4194304,32),(0,8388608,2),(0,16777216,32),(4,33554432,16777216),(10,67108864,41943040),(16,134217728,67108864),(32,268435456,134217728),(64,536870912,268435456),(0,1073741824,2),(0,2147483648,32),(512,4294967296,2147483648),(1024,8589934592,4294967296),(2304,17179869184,9663676416),(4096,34359738368,17179869184),(8192,68719476736,34359738368),(16384,137438953472,68719476736),(32896,274877906944,137975824384),(0,549755813888,2),(0,1099511627776,32),(262144,2199023255552,1099511627776),(524288,4398046511104,2199023255552),(1179648,8796093022208,4947802324992),(2097152,17592186044416,8796093022208),(4194304,35184372088832,17592186044416),(8388608,70368744177664,35184372088832),(16842752,140737488355328,70643622084608),(0,281474976710656,2),(0,562949953421312,32),(134217728,1125899906842624,562949953421312),(268435456,2251799813685248,1125899906842624),(603979776,4503599627370496,2533274790395904),(1073741824,9007199254740992,4503599627370496),(2147483648,18014398509481984,9007199254740992),(4328521728,36028797018963968,18155135997837312),(17179869183,72057594037927936,4194320),(34359738367,0,108086391056891904)] (by kernel_rfl) (by kernel_rfl) (by kernel_rfl) (by kernel_rfl) ?_
   intro w30 st31
   have hS32:=hS20.then st31
   refine q_lrun (d:=22) (Value.int .i64 ((k1:Nat):Int)) hF29 ?_
   intro a33 hF34
   refine q_lrun (d:=23) (Value.slice A0 b.length c0) hF34 ?_
   intro a35 hF36
   refine q_lrun (d:=24) (Value.int .i64 ((k1:Nat):Int)) hF36 ?_
   intro a37 hF38
   refine q_lrun (d:=25) (Value.int .i64 (IntKind.i64.wrap (((4:Nat):Int)*((k1:Nat):Int)))) hF38 ?_
   intro a39 hF40
   have hF41:=hF40.set 25 (Value.int .i64 (IntKind.i64.wrap (((4:Nat):Int)*((k1:Nat):Int)))) (Value.int .i64 ((4*k1:Nat):Int)) (by kernel_rfl) (congrArg (Value.int .i64) (i64_eq (by omega) (by omega) (by omega)))
   have h42:=h1.step hS32
   have hi49:(4*k1)<(b).length:=(by have hq:=h42.ln;first | omega | (simp only[List.length_append,List.length_cons,List.length_nil,List.length_map,schedTo_len,addTo_len,kTab_len,List.length_set,List.length_replicate] at *;omega))
   obtain⟨b43,o44,c45,he46,hs47,hr48⟩:=(h42).at (4*k1) hi49
   obtain⟨o50,ho50⟩:∃ o,o=o44+(4*k1)*1:=⟨_,rfl⟩
   obtain⟨x51,hx52⟩:∃ x,x=(b[4*k1]'hi49):=⟨_,rfl⟩
   rw[← hx52] at hr48
   have hr48:c45=[(bv x51)]:=hr48
   subst hr48
   have hs47:Seg s18 w30 b43 o50 [(bv x51)]:=by rw[ho50];exact hs47
   refine q_lval 26 (Op.indexAddr 23 (Operand.tmp 23) (Operand.tmp 25)) (Value.pointer (some ⟨b43,o50,none⟩)) hF41 (fun w9 ⟨s9,hw9⟩=>(by rw[ho50];exact exec_index (len:=b.length) (cap:=c0) he46 (by kernel_rfl) (kd:=.i64) (4*k1) (by kernel_rfl) (by have:=h42.ln;omega) 1 U23 L5.s)) ?_
   intro a53 hF54
   refine q_lval 27 (Op.load 5 (Operand.tmp 26)) (bv x51) hF54 (fun w9 ⟨s9,hw9⟩=>(exec_load L5 (.inr rfl) (by kernel_rfl) (hs47.step hw9).cell)) ?_
   intro a55 hF56
   refine q_lrun (d:=28) (Value.int .u32 (IntKind.u32.wrap ((x51).toNat:Int))) hF56 ?_
   intro a57 hF58
   have hF59:=hF58.set 28 (Value.int .u32 (IntKind.u32.wrap ((x51).toNat:Int))) (wv ((x51).toUInt32)) (by kernel_rfl) (congrArg (Value.int .u32) (u8_u32 x51))
   refine q_lrun (d:=29) (Value.int .u32 (IntKind.u32.wrap ((((x51).toUInt32).toNat:Int)*(2 ^ (min (Int.toNat ((24:Nat):Int)) 32))))) hF59 ?_
   intro a60 hF61
   have hF62:=hF61.set 29 (Value.int .u32 (IntKind.u32.wrap ((((x51).toUInt32).toNat:Int)*(2 ^ (min (Int.toNat ((24:Nat):Int)) 32))))) (wv (((x51).toUInt32) <<< (24:Nat).toUInt32)) (by kernel_rfl) (congrArg (Value.int .u32) (u32_shl ((x51).toUInt32) 24 (by decide)))
   refine q_lrun (d:=30) (Value.slice A0 b.length c0) hF62 ?_
   intro a63 hF64
   refine q_lrun (d:=31) (Value.int .i64 ((k1:Nat):Int)) hF64 ?_
   intro a65 hF66
   refine q_lrun (d:=32) (Value.int .i64 (IntKind.i64.wrap (((4:Nat):Int)*((k1:Nat):Int)))) hF66 ?_
   intro a67 hF68
   have hF69:=hF68.set 32 (Value.int .i64 (IntKind.i64.wrap (((4:Nat):Int)*((k1:Nat):Int)))) (Value.int .i64 ((4*k1:Nat):Int)) (by kernel_rfl) (congrArg (Value.int .i64) (i64_eq (by omega) (by omega) (by omega)))
   refine q_lrun (d:=33) (Value.int .i64 (IntKind.i64.wrap (((4*k1:Nat):Int)+((1:Nat):Int)))) hF69 ?_
   intro a70 hF71
   have hF72:=hF71.set 33 (Value.int .i64 (IntKind.i64.wrap (((4*k1:Nat):Int)+((1:Nat):Int)))) (Value.int .i64 (((4*k1)+1:Nat):Int)) (by kernel_rfl) (congrArg (Value.int .i64) (i64_eq (by omega) (by omega) (by omega)))
   have hi79:((4*k1)+1)<(b).length:=(by have hq:=h42.ln;first | omega | (simp only[List.length_append,List.length_cons,List.length_nil,List.length_map,schedTo_len,addTo_len,kTab_len,List.length_set,List.length_replicate] at *;omega))
   obtain⟨b73,o74,c75,he76,hs77,hr78⟩:=(h42).at ((4*k1)+1) hi79
   obtain⟨o80,ho80⟩:∃ o,o=o74+((4*k1)+1)*1:=⟨_,rfl⟩
   obtain⟨x81,hx82⟩:∃ x,x=(b[(4*k1)+1]'hi79):=⟨_,rfl⟩
   rw[← hx82] at hr78
   have hr78:c75=[(bv x81)]:=hr78
   subst hr78
   have hs77:Seg s18 w30 b73 o80 [(bv x81)]:=by rw[ho80];exact hs77
   refine q_lval 34 (Op.indexAddr 23 (Operand.tmp 30) (Operand.tmp 33)) (Value.pointer (some ⟨b73,o80,none⟩)) hF72 (fun w9 ⟨s9,hw9⟩=>(by rw[ho80];exact exec_index (len:=b.length) (cap:=c0) he76 (by kernel_rfl) (kd:=.i64) ((4*k1)+1) (by kernel_rfl) (by have:=h42.ln;omega) 1 U23 L5.s)) ?_
   intro a83 hF84
   refine q_lval 35 (Op.load 5 (Operand.tmp 34)) (bv x81) hF84 (fun w9 ⟨s9,hw9⟩=>(exec_load L5 (.inr rfl) (by kernel_rfl) (hs77.step hw9).cell)) ?_
   intro a85 hF86
   refine q_lrun (d:=36) (Value.int .u32 (IntKind.u32.wrap ((x81).toNat:Int))) hF86 ?_
   intro a87 hF88
   have hF89:=hF88.set 36 (Value.int .u32 (IntKind.u32.wrap ((x81).toNat:Int))) (wv ((x81).toUInt32)) (by kernel_rfl) (congrArg (Value.int .u32) (u8_u32 x81))
   refine q_lrun (d:=37) (Value.int .u32 (IntKind.u32.wrap ((((x81).toUInt32).toNat:Int)*(2 ^ (min (Int.toNat ((16:Nat):Int)) 32))))) hF89 ?_
   intro a90 hF91
   have hF92:=hF91.set 37 (Value.int .u32 (IntKind.u32.wrap ((((x81).toUInt32).toNat:Int)*(2 ^ (min (Int.toNat ((16:Nat):Int)) 32))))) (wv (((x81).toUInt32) <<< (16:Nat).toUInt32)) (by kernel_rfl) (congrArg (Value.int .u32) (u32_shl ((x81).toUInt32) 16 (by decide)))
   refine q_lrun (d:=38) (Value.int .u32 (IntKind.u32.wrap ((BitVec.ofInt 32 ((((x51).toUInt32) <<< (24:Nat).toUInt32).toNat:Int) ||| BitVec.ofInt 32 ((((x81).toUInt32) <<< (16:Nat).toUInt32).toNat:Int)).toNat:Int))) hF92 ?_
   intro a93 hF94
   have hF95:=hF94.set 38 (Value.int .u32 (IntKind.u32.wrap ((BitVec.ofInt 32 ((((x51).toUInt32) <<< (24:Nat).toUInt32).toNat:Int) ||| BitVec.ofInt 32 ((((x81).toUInt32) <<< (16:Nat).toUInt32).toNat:Int)).toNat:Int))) (wv ((((x51).toUInt32) <<< (24:Nat).toUInt32) ||| (((x81).toUInt32) <<< (16:Nat).toUInt32))) (by kernel_rfl) (congrArg (Value.int .u32) (u32_or (((x51).toUInt32) <<< (24:Nat).toUInt32) (((x81).toUInt32) <<< (16:Nat).toUInt32)))
   refine q_lrun (d:=39) (Value.slice A0 b.length c0) hF95 ?_
   intro a96 hF97
   refine q_lrun (d:=40) (Value.int .i64 ((k1:Nat):Int)) hF97 ?_
   intro a98 hF99
   refine q_lrun (d:=41) (Value.int .i64 (IntKind.i64.wrap (((4:Nat):Int)*((k1:Nat):Int)))) hF99 ?_
   intro a100 hF101
   have hF102:=hF101.set 41 (Value.int .i64 (IntKind.i64.wrap (((4:Nat):Int)*((k1:Nat):Int)))) (Value.int .i64 ((4*k1:Nat):Int)) (by kernel_rfl) (congrArg (Value.int .i64) (i64_eq (by omega) (by omega) (by omega)))
   refine q_lrun (d:=42) (Value.int .i64 (IntKind.i64.wrap (((4*k1:Nat):Int)+((2:Nat):Int)))) hF102 ?_
   intro a103 hF104
   have hF105:=hF104.set 42 (Value.int .i64 (IntKind.i64.wrap (((4*k1:Nat):Int)+((2:Nat):Int)))) (Value.int .i64 (((4*k1)+2:Nat):Int)) (by kernel_rfl) (congrArg (Value.int .i64) (i64_eq (by omega) (by omega) (by omega)))
   have hi112:((4*k1)+2)<(b).length:=(by have hq:=h42.ln;first | omega | (simp only[List.length_append,List.length_cons,List.length_nil,List.length_map,schedTo_len,addTo_len,kTab_len,List.length_set,List.length_replicate] at *;omega))
   obtain⟨b106,o107,c108,he109,hs110,hr111⟩:=(h42).at ((4*k1)+2) hi112
   obtain⟨o113,ho113⟩:∃ o,o=o107+((4*k1)+2)*1:=⟨_,rfl⟩
   obtain⟨x114,hx115⟩:∃ x,x=(b[(4*k1)+2]'hi112):=⟨_,rfl⟩
   rw[← hx115] at hr111
   have hr111:c108=[(bv x114)]:=hr111
   subst hr111
   have hs110:Seg s18 w30 b106 o113 [(bv x114)]:=by rw[ho113];exact hs110
   refine q_lval 43 (Op.indexAddr 23 (Operand.tmp 39) (Operand.tmp 42)) (Value.pointer (some ⟨b106,o113,none⟩)) hF105 (fun w9 ⟨s9,hw9⟩=>(by rw[ho113];exact exec_index (len:=b.length) (cap:=c0) he109 (by kernel_rfl) (kd:=.i64) ((4*k1)+2) (by kernel_rfl) (by have:=h42.ln;omega) 1 U23 L5.s)) ?_
   intro a116 hF117
   refine q_lval 44 (Op.load 5 (Operand.tmp 43)) (bv x114) hF117 (fun w9 ⟨s9,hw9⟩=>(exec_load L5 (.inr rfl) (by kernel_rfl) (hs110.step hw9).cell)) ?_
   intro a118 hF119
   refine q_lrun (d:=45) (Value.int .u32 (IntKind.u32.wrap ((x114).toNat:Int))) hF119 ?_
   intro a120 hF121
   have hF122:=hF121.set 45 (Value.int .u32 (IntKind.u32.wrap ((x114).toNat:Int))) (wv ((x114).toUInt32)) (by kernel_rfl) (congrArg (Value.int .u32) (u8_u32 x114))
   refine q_lrun (d:=46) (Value.int .u32 (IntKind.u32.wrap ((((x114).toUInt32).toNat:Int)*(2 ^ (min (Int.toNat ((8:Nat):Int)) 32))))) hF122 ?_
   intro a123 hF124
   have hF125:=hF124.set 46 (Value.int .u32 (IntKind.u32.wrap ((((x114).toUInt32).toNat:Int)*(2 ^ (min (Int.toNat ((8:Nat):Int)) 32))))) (wv (((x114).toUInt32) <<< (8:Nat).toUInt32)) (by kernel_rfl) (congrArg (Value.int .u32) (u32_shl ((x114).toUInt32) 8 (by decide)))
   refine q_lrun (d:=47) (Value.int .u32 (IntKind.u32.wrap ((BitVec.ofInt 32 (((((x51).toUInt32) <<< (24:Nat).toUInt32) ||| (((x81).toUInt32) <<< (16:Nat).toUInt32)).toNat:Int) ||| BitVec.ofInt 32 ((((x114).toUInt32) <<< (8:Nat).toUInt32).toNat:Int)).toNat:Int))) hF125 ?_
   intro a126 hF127
   have hF128:=hF127.set 47 (Value.int .u32 (IntKind.u32.wrap ((BitVec.ofInt 32 (((((x51).toUInt32) <<< (24:Nat).toUInt32) ||| (((x81).toUInt32) <<< (16:Nat).toUInt32)).toNat:Int) ||| BitVec.ofInt 32 ((((x114).toUInt32) <<< (8:Nat).toUInt32).toNat:Int)).toNat:Int))) (wv (((((x51).toUInt32) <<< (24:Nat).toUInt32) ||| (((x81).toUInt32) <<< (16:Nat).toUInt32)) ||| (((x114).toUInt32) <<< (8:Nat).toUInt32))) (by kernel_rfl) (congrArg (Value.int .u32) (u32_or ((((x51).toUInt32) <<< (24:Nat).toUInt32) ||| (((x81).toUInt32) <<< (16:Nat).toUInt32)) (((x114).toUInt32) <<< (8:Nat).toUInt32)))
   refine q_lrun (d:=48) (Value.slice A0 b.length c0) hF128 ?_
   intro a129 hF130
   refine q_lrun (d:=49) (Value.int .i64 ((k1:Nat):Int)) hF130 ?_
   intro a131 hF132
   refine q_lrun (d:=50) (Value.int .i64 (IntKind.i64.wrap (((4:Nat):Int)*((k1:Nat):Int)))) hF132 ?_
   intro a133 hF134
   have hF135:=hF134.set 50 (Value.int .i64 (IntKind.i64.wrap (((4:Nat):Int)*((k1:Nat):Int)))) (Value.int .i64 ((4*k1:Nat):Int)) (by kernel_rfl) (congrArg (Value.int .i64) (i64_eq (by omega) (by omega) (by omega)))
   refine q_lrun (d:=51) (Value.int .i64 (IntKind.i64.wrap (((4*k1:Nat):Int)+((3:Nat):Int)))) hF135 ?_
   intro a136 hF137
   have hF138:=hF137.set 51 (Value.int .i64 (IntKind.i64.wrap (((4*k1:Nat):Int)+((3:Nat):Int)))) (Value.int .i64 (((4*k1)+3:Nat):Int)) (by kernel_rfl) (congrArg (Value.int .i64) (i64_eq (by omega) (by omega) (by omega)))
   have hi145:((4*k1)+3)<(b).length:=(by have hq:=h42.ln;first | omega | (simp only[List.length_append,List.length_cons,List.length_nil,List.length_map,schedTo_len,addTo_len,kTab_len,List.length_set,List.length_replicate] at *;omega))
   obtain⟨b139,o140,c141,he142,hs143,hr144⟩:=(h42).at ((4*k1)+3) hi145
   obtain⟨o146,ho146⟩:∃ o,o=o140+((4*k1)+3)*1:=⟨_,rfl⟩
   obtain⟨x147,hx148⟩:∃ x,x=(b[(4*k1)+3]'hi145):=⟨_,rfl⟩
   rw[← hx148] at hr144
   have hr144:c141=[(bv x147)]:=hr144
   subst hr144
   have hs143:Seg s18 w30 b139 o146 [(bv x147)]:=by rw[ho146];exact hs143
   refine q_lval 52 (Op.indexAddr 23 (Operand.tmp 48) (Operand.tmp 51)) (Value.pointer (some ⟨b139,o146,none⟩)) hF138 (fun w9 ⟨s9,hw9⟩=>(by rw[ho146];exact exec_index (len:=b.length) (cap:=c0) he142 (by kernel_rfl) (kd:=.i64) ((4*k1)+3) (by kernel_rfl) (by have:=h42.ln;omega) 1 U23 L5.s)) ?_
   intro a149 hF150
   refine q_lval 53 (Op.load 5 (Operand.tmp 52)) (bv x147) hF150 (fun w9 ⟨s9,hw9⟩=>(exec_load L5 (.inr rfl) (by kernel_rfl) (hs143.step hw9).cell)) ?_
   intro a151 hF152
   refine q_lrun (d:=54) (Value.int .u32 (IntKind.u32.wrap ((x147).toNat:Int))) hF152 ?_
   intro a153 hF154
   have hF155:=hF154.set 54 (Value.int .u32 (IntKind.u32.wrap ((x147).toNat:Int))) (wv ((x147).toUInt32)) (by kernel_rfl) (congrArg (Value.int .u32) (u8_u32 x147))
   refine q_lrun (d:=55) (Value.int .u32 (IntKind.u32.wrap ((BitVec.ofInt 32 ((((((x51).toUInt32) <<< (24:Nat).toUInt32) ||| (((x81).toUInt32) <<< (16:Nat).toUInt32)) ||| (((x114).toUInt32) <<< (8:Nat).toUInt32)).toNat:Int) ||| BitVec.ofInt 32 (((x147).toUInt32).toNat:Int)).toNat:Int))) hF155 ?_
   intro a156 hF157
   have hF158:=hF157.set 55 (Value.int .u32 (IntKind.u32.wrap ((BitVec.ofInt 32 ((((((x51).toUInt32) <<< (24:Nat).toUInt32) ||| (((x81).toUInt32) <<< (16:Nat).toUInt32)) ||| (((x114).toUInt32) <<< (8:Nat).toUInt32)).toNat:Int) ||| BitVec.ofInt 32 (((x147).toUInt32).toNat:Int)).toNat:Int))) (wv ((((((x51).toUInt32) <<< (24:Nat).toUInt32) ||| (((x81).toUInt32) <<< (16:Nat).toUInt32)) ||| (((x114).toUInt32) <<< (8:Nat).toUInt32)) ||| ((x147).toUInt32))) (by kernel_rfl) (congrArg (Value.int .u32) (u32_or (((((x51).toUInt32) <<< (24:Nat).toUInt32) ||| (((x81).toUInt32) <<< (16:Nat).toUInt32)) ||| (((x114).toUInt32) <<< (8:Nat).toUInt32)) ((x147).toUInt32)))
   refine q_lval 56 (Op.indexAddr 151 (Operand.tmp 4) (Operand.tmp 22)) (Value.pointer (some ⟨b6,k1,none⟩)) hF158 (fun w9 ⟨s9,hw9⟩=>(exec_indexP1 (N:=64) (by kernel_rfl) (kd:=.i64) k1 (by kernel_rfl) (by omega) U151 L137.s)) ?_
   intro a159 hF160
   have h161:=(h24.step' st31)
   have hj167:k1<(schedTo b (k1)).length:=(by first | omega | (simp only[List.length_append,List.length_cons,List.length_nil,List.length_map,schedTo_len,addTo_len,kTab_len,List.length_set,List.length_replicate];omega) | simp)
   refine l_last (q_storeA wv (Operand.tmp 56) (Operand.tmp 55) hF160 h161 k1 hj167 ((((((x51).toUInt32) <<< (24:Nat).toUInt32) ||| (((x81).toUInt32) <<< (16:Nat).toUInt32)) ||| (((x114).toUInt32) <<< (8:Nat).toUInt32)) ||| ((x147).toUInt32)) L137 ?_)
   intro a162 w163 st164 hB165 hF166
   have hS168:=hS32.and st164 (fun b e=>by subst e;omega)
   refine q_reg ?_
   refine q_one 57 (v0:=(Value.int .i64 (IntKind.i64.wrap (((k1:Nat):Int)+((1:Nat):Int))))) (v:=(Value.int .i64 ((k1+1:Nat):Int))) (congrArg (Value.int .i64) (i64_eq (by omega) (by omega) (by omega))) hF166 fun a169 hF170=>?_
   refine q_run 1 [(19,(Value.int .i64 ((k1+1:Nat):Int)))] hF170 fun a171 hF172=>?_
   refine q_end ?_
   have h173:=((h23.step' st31).step st164 (fun e=>absurd e (by omega)))
   have hF174:=hF172.keep [0,1,4,19] [(0,(Value.pointer (some ⟨bh,0,none⟩))),(1,(Value.slice A0 b.length c0)),(4,(Value.pointer (some ⟨b6,0,none⟩))),(19,(Value.int .i64 ((k1+1:Nat):Int)))] (by kernel_rfl)
   exact⟨k1+1,⟨s18,hF174,hS168,h173,(by subst hx52 hx82 hx115 hx148;rw[schedTo_lo (by omega) (by omega)];exact hB165),(by omega)⟩,by omega⟩
  ·skip
   have hc27:=of_decide_eq_false hc27
   refine q_exit 0 ?_
   refine q_seq ?_
   refine q_seq ?_
   refine q_reg ?_
   refine q_run 1 [(6,(Value.int .i64 ((16:Nat):Int)))] hF26 fun a175 hF176=>?_
   refine q_end ?_
   refine q_block 2 ?_
   refine q_loop (fun(k2:Nat) a177 w178=>∃(s179:Nat→Nat),Fr a177 201 [(0,(Value.pointer (some ⟨bh,0,none⟩))),(4,(Value.pointer (some ⟨b6,0,none⟩))),(6,(Value.int .i64 ((k2:Nat):Int)))]∧Stp (· = bh) σ w s179 w178∧Bx s179 w178 bh (([s.a,s.b,s.c,s.d,s.e,s.f,s.g,s.h]:List UInt32).map wv) 138∧Bx s179 w178 b6 ((schedTo b (k2)).map wv) 151∧k2≤64∧16≤k2) (fun k2=>64 - k2) 16 ?_ ?_
   ·skip
    have hF182:=hF176.keep [0,4,6] [(0,(Value.pointer (some ⟨bh,0,none⟩))),(4,(Value.pointer (some ⟨b6,0,none⟩))),(6,(Value.int .i64 ((16:Nat):Int)))] (by kernel_rfl)
    exact⟨s18,hF182,hS20,h23,(by have h9:=h24;have e:k1=16:=(by omega);rw[e] at h9;exact h9),(by omega),(by omega)⟩
   ·rintro k2 a177 w178 ⟨s179,hF180,hS181,h183,h184,hk2,hk2l⟩
    refine q_seq ?_
    refine q_seq ?_
    refine q_reg ?_
    refine q_run 1 [(58,(Value.int .i64 ((k2:Nat):Int)))] hF180 fun a185 hF186=>?_
    refine q_one 59 (congrArg Value.bool (cmp_nat_lss (k2) (64))) hF186 fun a187 hF188=>?_
    refine q_end ?_
    refine q_cond 59 hF188 (decide ((k2:Nat)<64)) (fun hc189=>?_) (fun hc189=>?_)
    ·skip
     have hc189:=of_decide_eq_true hc189
     refine q_skip ?_
     refine q_seq ?_
     refine q_block 3 ?_
     refine q_seq ?_
     refine c_plan 9 (by kernel_rfl) (by kernel_rfl) s179 (fun b=>b≠bh∧b≠b6∧True) [(0,true),(1,true),(2,true),(3,true),(4,true),(5,true),(6,true),(7,true),(8,true),(9,true)] [(0,4611686018427387904,64),(1,9223372036854775808,4611686018427387904),(2,18446744073709551616,9223372036854775824),(4,36893488147419103232,18446744073709551616),(0,73786976294838206464,64),(16,147573952589676412928,73786976294838206464),(32,295147905179352825856,147573952589676412944),(64,590295810358705651712,295147905179352825856),(15,128,36893488147419103232),(511,256,590295810358705651712)] (by kernel_rfl) (by kernel_rfl) (by kernel_rfl) (by kernel_rfl) ?_
     intro w190 st191
     have hS192:=hS181.then st191
     refine q_prun (d:=62) (Value.int .i64 ((k2:Nat):Int)) hF188 ?_
     intro a193 hF194
     refine q_prun (d:=63) (Value.int .i64 (IntKind.i64.wrap (((k2:Nat):Int) - ((15:Nat):Int)))) hF194 ?_
     intro a195 hF196
     have hF197:=hF196.set 63 (Value.int .i64 (IntKind.i64.wrap (((k2:Nat):Int) - ((15:Nat):Int)))) (Value.int .i64 ((k2 - 15:Nat):Int)) (by kernel_rfl) (congrArg (Value.int .i64) (i64_eq (by omega) (by omega) (by omega)))
     refine q_pval 64 (Op.indexAddr 151 (Operand.tmp 4) (Operand.tmp 63)) (Value.pointer (some ⟨b6,k2 - 15,none⟩)) hF197 (fun w9 ⟨s9,hw9⟩=>(exec_indexP1 (N:=64) (by kernel_rfl) (kd:=.i64) (k2 - 15) (by kernel_rfl) (by omega) U151 L137.s)) ?_
     intro a198 hF199
     have h200:=(h184.step' st191)
     have hj201:k2 - 15<(schedTo b (k2)).length:=(by first | omega | (simp only[List.length_append,List.length_cons,List.length_nil,List.length_map,schedTo_len,addTo_len,kTab_len,List.length_set,List.length_replicate];omega) | simp)
     refine q_pval 65 (Op.load 137 (Operand.tmp 64)) (wv ((schedTo b (k2)).getD (k2 - 15) 0)) hF199 (fun w9 ⟨s9,hw9⟩=>(exec_load (cs:=[wv ((schedTo b (k2)).getD (k2 - 15) 0)]) L137 (.inr rfl) (by kernel_rfl) (Bx.elemG (h200.step hw9 (fun h=>h.2.1 rfl)) (0:UInt32) (k2 - 15) hj201))) ?_
     intro a202 hF203
     refine q_prun (d:=66) (Value.int .i64 ((k2:Nat):Int)) hF203 ?_
     intro a204 hF205
     refine q_prun (d:=67) (Value.int .i64 (IntKind.i64.wrap (((k2:Nat):Int) - ((2:Nat):Int)))) hF205 ?_
     intro a206 hF207
     have hF208:=hF207.set 67 (Value.int .i64 (IntKind.i64.wrap (((k2:Nat):Int) - ((2:Nat):Int)))) (Value.int .i64 ((k2 - 2:Nat):Int)) (by kernel_rfl) (congrArg (Value.int .i64) (i64_eq (by omega) (by omega) (by omega)))
     refine q_pval 68 (Op.indexAddr 151 (Operand.tmp 4) (Operand.tmp 67)) (Value.pointer (some ⟨b6,k2 - 2,none⟩)) hF208 (fun w9 ⟨s9,hw9⟩=>(exec_indexP1 (N:=64) (by kernel_rfl) (kd:=.i64) (k2 - 2) (by kernel_rfl) (by omega) U151 L137.s)) ?_
     intro a209 hF210
     have hj211:k2 - 2<(schedTo b (k2)).length:=(by first | omega | (simp only[List.length_append,List.length_cons,List.length_nil,List.length_map,schedTo_len,addTo_len,kTab_len,List.length_set,List.length_replicate];omega) | simp)
     refine q_pval 69 (Op.load 137 (Operand.tmp 68)) (wv ((schedTo b (k2)).getD (k2 - 2) 0)) hF210 (fun w9 ⟨s9,hw9⟩=>(exec_load (cs:=[wv ((schedTo b (k2)).getD (k2 - 2) 0)]) L137 (.inr rfl) (by kernel_rfl) (Bx.elemG (h200.step hw9 (fun h=>h.2.1 rfl)) (0:UInt32) (k2 - 2) hj211))) ?_
     intro a212 hF213
     refine q_prun (d:=7) (wv ((schedTo b (k2)).getD (k2 - 15) 0)) hF213 ?_
     intro a214 hF215
     refine q_prun (d:=8) (wv ((schedTo b (k2)).getD (k2 - 2) 0)) hF215 ?_
     intro a216 hF217
     refine p_end ?_
     refine q_seq ?_
     refine q_reg ?_
     refine q_run 1 [(70,(wv ((schedTo b (k2)).getD (k2 - 15) 0)))] hF217 fun a218 hF219=>?_
     have h220:=(h183.step' st191)
     refine r_at (q_call (some 71) (#[(Operand.tmp 70),(Operand.const (Value.int IntKind.i64 (-7)))]) (#[137,3]) hF219 C80 [(wv ((schedTo b (k2)).getD (k2 - 15) 0)),(Value.int .i64 (-7))] (rotl_calls s179 w190 ((schedTo b (k2)).getD (k2 - 15) 0) (-7:Int) (by decide)) ?_)
     intro a221 s222 w223 v224 st225 hP226 hF227
     have hz228:=hS192.size
     have hS229:=hS192.then st225
     subst hP226
     refine q_run 1 [(72,(wv ((schedTo b (k2)).getD (k2 - 15) 0)))] hF227 fun a230 hF231=>?_
     have h232:=(h220.step' st225)
     have h233:=(h200.step' st225)
     refine r_at (q_call (some 73) (#[(Operand.tmp 72),(Operand.const (Value.int IntKind.i64 (-18)))]) (#[137,3]) hF231 C80 [(wv ((schedTo b (k2)).getD (k2 - 15) 0)),(Value.int .i64 (-18))] (rotl_calls s222 w223 ((schedTo b (k2)).getD (k2 - 15) 0) (-18:Int) (by decide)) ?_)
     intro a234 s235 w236 v237 st238 hP239 hF240
     have hz241:=hS229.size
     have hS242:=hS229.then st238
     subst hP239
     refine q_one 74 (congrArg (Value.int .u32) (u32_xor (rotl ((schedTo b (k2)).getD (k2 - 15) 0) (-7:Int)) (rotl ((schedTo b (k2)).getD (k2 - 15) 0) (-18:Int)))) hF240 fun a243 hF244=>?_
     refine q_run 1 [(75,(wv ((schedTo b (k2)).getD (k2 - 15) 0)))] hF244 fun a245 hF246=>?_
     refine q_one 76 (congrArg (Value.int .u32) (u32_shr ((schedTo b (k2)).getD (k2 - 15) 0) 3 (by decide))) hF246 fun a247 hF248=>?_
     refine q_one 77 (congrArg (Value.int .u32) (u32_xor ((rotl ((schedTo b (k2)).getD (k2 - 15) 0) (-7:Int)) ^^^ (rotl ((schedTo b (k2)).getD (k2 - 15) 0) (-18:Int))) (((schedTo b (k2)).getD (k2 - 15) 0) >>> (3:Nat).toUInt32))) hF248 fun a249 hF250=>?_
     refine q_run 1 [(9,(wv (((rotl ((schedTo b (k2)).getD (k2 - 15) 0) (-7:Int)) ^^^ (rotl ((schedTo b (k2)).getD (k2 - 15) 0) (-18:Int))) ^^^ (((schedTo b (k2)).getD (k2 - 15) 0) >>> (3:Nat).toUInt32))))] hF250 fun a251 hF252=>?_
     refine q_end ?_
     refine q_seq ?_
     refine q_reg ?_
     refine q_run 1 [(78,(wv ((schedTo b (k2)).getD (k2 - 2) 0)))] hF252 fun a253 hF254=>?_
     have h255:=(h232.step' st238)
     have h256:=(h233.step' st238)
     refine r_at (q_call (some 79) (#[(Operand.tmp 78),(Operand.const (Value.int IntKind.i64 (-17)))]) (#[137,3]) hF254 C80 [(wv ((schedTo b (k2)).getD (k2 - 2) 0)),(Value.int .i64 (-17))] (rotl_calls s235 w236 ((schedTo b (k2)).getD (k2 - 2) 0) (-17:Int) (by decide)) ?_)
     intro a257 s258 w259 v260 st261 hP262 hF263
     have hz264:=hS242.size
     have hS265:=hS242.then st261
     subst hP262
     refine q_run 1 [(80,(wv ((schedTo b (k2)).getD (k2 - 2) 0)))] hF263 fun a266 hF267=>?_
     have h268:=(h255.step' st261)
     have h269:=(h256.step' st261)
     refine r_at (q_call (some 81) (#[(Operand.tmp 80),(Operand.const (Value.int IntKind.i64 (-19)))]) (#[137,3]) hF267 C80 [(wv ((schedTo b (k2)).getD (k2 - 2) 0)),(Value.int .i64 (-19))] (rotl_calls s258 w259 ((schedTo b (k2)).getD (k2 - 2) 0) (-19:Int) (by decide)) ?_)
     intro a270 s271 w272 v273 st274 hP275 hF276
     have hz277:=hS265.size
     have hS278:=hS265.then st274
     subst hP275
     refine q_one 82 (congrArg (Value.int .u32) (u32_xor (rotl ((schedTo b (k2)).getD (k2 - 2) 0) (-17:Int)) (rotl ((schedTo b (k2)).getD (k2 - 2) 0) (-19:Int)))) hF276 fun a279 hF280=>?_
     refine q_run 1 [(83,(wv ((schedTo b (k2)).getD (k2 - 2) 0)))] hF280 fun a281 hF282=>?_
     refine q_one 84 (congrArg (Value.int .u32) (u32_shr ((schedTo b (k2)).getD (k2 - 2) 0) 10 (by decide))) hF282 fun a283 hF284=>?_
     refine q_one 85 (congrArg (Value.int .u32) (u32_xor ((rotl ((schedTo b (k2)).getD (k2 - 2) 0) (-17:Int)) ^^^ (rotl ((schedTo b (k2)).getD (k2 - 2) 0) (-19:Int))) (((schedTo b (k2)).getD (k2 - 2) 0) >>> (10:Nat).toUInt32))) hF284 fun a285 hF286=>?_
     refine q_run 1 [(10,(wv (((rotl ((schedTo b (k2)).getD (k2 - 2) 0) (-17:Int)) ^^^ (rotl ((schedTo b (k2)).getD (k2 - 2) 0) (-19:Int))) ^^^ (((schedTo b (k2)).getD (k2 - 2) 0) >>> (10:Nat).toUInt32))))] hF286 fun a287 hF288=>?_
     refine q_end ?_
     refine c_planL 12 15 1 (by kernel_rfl) (by kernel_rfl) s271 (fun b=>b≠bh∧b≠b6∧True) [(0,true),(1,true),(2,true),(3,true),(4,true),(5,true),(6,true),(7,true),(8,true),(9,true),(10,true),(11,true),(12,true),(13,true),(14,true)] [(0,77371252455336267181195264,64),(0,154742504910672534362390528,64),(2,309485009821345068724781056,154742504910672534362390528),(4,618970019642690137449562112,309485009821345068724781072),(8,1237940039285380274899124224,618970019642690137449562112),(0,2475880078570760549798248448,512),(48,4951760157141521099596496896,3713820117856140824697372672),(0,9903520314283042199192993792,64),(128,19807040628566084398385987584,9903520314283042199192993792),(256,39614081257132168796771975168,19807040628566084398385987600),(512,79228162514264337593543950336,39614081257132168796771975168),(1088,158456325028528675187087900672,84179922671405858693140447232),(0,316912650057057350374175801344,1024),(6144,633825300114114700748351602688,475368975085586025561263702016),(16383,1267650600228229401496703205376,77371252455336267181195280),(32767,0,1901475900342344102245054808064)] (by kernel_rfl) (by kernel_rfl) (by kernel_rfl) (by kernel_rfl) ?_
     intro w289 st290
     have hS291:=hS278.then st290
     refine q_lrun (d:=86) (Value.int .i64 ((k2:Nat):Int)) hF288 ?_
     intro a292 hF293
     refine q_lrun (d:=87) (Value.int .i64 ((k2:Nat):Int)) hF293 ?_
     intro a294 hF295
     refine q_lrun (d:=88) (Value.int .i64 (IntKind.i64.wrap (((k2:Nat):Int) - ((16:Nat):Int)))) hF295 ?_
     intro a296 hF297
     have hF298:=hF297.set 88 (Value.int .i64 (IntKind.i64.wrap (((k2:Nat):Int) - ((16:Nat):Int)))) (Value.int .i64 ((k2 - 16:Nat):Int)) (by kernel_rfl) (congrArg (Value.int .i64) (i64_eq (by omega) (by omega) (by omega)))
     refine q_lval 89 (Op.indexAddr 151 (Operand.tmp 4) (Operand.tmp 88)) (Value.pointer (some ⟨b6,k2 - 16,none⟩)) hF298 (fun w9 ⟨s9,hw9⟩=>(exec_indexP1 (N:=64) (by kernel_rfl) (kd:=.i64) (k2 - 16) (by kernel_rfl) (by omega) U151 L137.s)) ?_
     intro a299 hF300
     have h301:=((h269.step' st274).step' st290)
     have hj302:k2 - 16<(schedTo b (k2)).length:=(by first | omega | (simp only[List.length_append,List.length_cons,List.length_nil,List.length_map,schedTo_len,addTo_len,kTab_len,List.length_set,List.length_replicate];omega) | simp)
     refine q_lval 90 (Op.load 137 (Operand.tmp 89)) (wv ((schedTo b (k2)).getD (k2 - 16) 0)) hF300 (fun w9 ⟨s9,hw9⟩=>(exec_load (cs:=[wv ((schedTo b (k2)).getD (k2 - 16) 0)]) L137 (.inr rfl) (by kernel_rfl) (Bx.elemG (h301.step hw9 (fun h=>h.2.1 rfl)) (0:UInt32) (k2 - 16) hj302))) ?_
     intro a303 hF304
     refine q_lrun (d:=91) (wv (((rotl ((schedTo b (k2)).getD (k2 - 15) 0) (-7:Int)) ^^^ (rotl ((schedTo b (k2)).getD (k2 - 15) 0) (-18:Int))) ^^^ (((schedTo b (k2)).getD (k2 - 15) 0) >>> (3:Nat).toUInt32))) hF304 ?_
     intro a305 hF306
     refine q_lrun (d:=92) (Value.int .u32 (IntKind.u32.wrap ((((schedTo b (k2)).getD (k2 - 16) 0).toNat:Int)+((((rotl ((schedTo b (k2)).getD (k2 - 15) 0) (-7:Int)) ^^^ (rotl ((schedTo b (k2)).getD (k2 - 15) 0) (-18:Int))) ^^^ (((schedTo b (k2)).getD (k2 - 15) 0) >>> (3:Nat).toUInt32)).toNat:Int)))) hF306 ?_
     intro a307 hF308
     have hF309:=hF308.set 92 (Value.int .u32 (IntKind.u32.wrap ((((schedTo b (k2)).getD (k2 - 16) 0).toNat:Int)+((((rotl ((schedTo b (k2)).getD (k2 - 15) 0) (-7:Int)) ^^^ (rotl ((schedTo b (k2)).getD (k2 - 15) 0) (-18:Int))) ^^^ (((schedTo b (k2)).getD (k2 - 15) 0) >>> (3:Nat).toUInt32)).toNat:Int)))) (wv (((schedTo b (k2)).getD (k2 - 16) 0)+(((rotl ((schedTo b (k2)).getD (k2 - 15) 0) (-7:Int)) ^^^ (rotl ((schedTo b (k2)).getD (k2 - 15) 0) (-18:Int))) ^^^ (((schedTo b (k2)).getD (k2 - 15) 0) >>> (3:Nat).toUInt32)))) (by kernel_rfl) (congrArg (Value.int .u32) (u32_add _ _))
     refine q_lrun (d:=93) (Value.int .i64 ((k2:Nat):Int)) hF309 ?_
     intro a310 hF311
     refine q_lrun (d:=94) (Value.int .i64 (IntKind.i64.wrap (((k2:Nat):Int) - ((7:Nat):Int)))) hF311 ?_
     intro a312 hF313
     have hF314:=hF313.set 94 (Value.int .i64 (IntKind.i64.wrap (((k2:Nat):Int) - ((7:Nat):Int)))) (Value.int .i64 ((k2 - 7:Nat):Int)) (by kernel_rfl) (congrArg (Value.int .i64) (i64_eq (by omega) (by omega) (by omega)))
     refine q_lval 95 (Op.indexAddr 151 (Operand.tmp 4) (Operand.tmp 94)) (Value.pointer (some ⟨b6,k2 - 7,none⟩)) hF314 (fun w9 ⟨s9,hw9⟩=>(exec_indexP1 (N:=64) (by kernel_rfl) (kd:=.i64) (k2 - 7) (by kernel_rfl) (by omega) U151 L137.s)) ?_
     intro a315 hF316
     have hj317:k2 - 7<(schedTo b (k2)).length:=(by first | omega | (simp only[List.length_append,List.length_cons,List.length_nil,List.length_map,schedTo_len,addTo_len,kTab_len,List.length_set,List.length_replicate];omega) | simp)
     refine q_lval 96 (Op.load 137 (Operand.tmp 95)) (wv ((schedTo b (k2)).getD (k2 - 7) 0)) hF316 (fun w9 ⟨s9,hw9⟩=>(exec_load (cs:=[wv ((schedTo b (k2)).getD (k2 - 7) 0)]) L137 (.inr rfl) (by kernel_rfl) (Bx.elemG (h301.step hw9 (fun h=>h.2.1 rfl)) (0:UInt32) (k2 - 7) hj317))) ?_
     intro a318 hF319
     refine q_lrun (d:=97) (Value.int .u32 (IntKind.u32.wrap (((((schedTo b (k2)).getD (k2 - 16) 0)+(((rotl ((schedTo b (k2)).getD (k2 - 15) 0) (-7:Int)) ^^^ (rotl ((schedTo b (k2)).getD (k2 - 15) 0) (-18:Int))) ^^^ (((schedTo b (k2)).getD (k2 - 15) 0) >>> (3:Nat).toUInt32))).toNat:Int)+(((schedTo b (k2)).getD (k2 - 7) 0).toNat:Int)))) hF319 ?_
     intro a320 hF321
     have hF322:=hF321.set 97 (Value.int .u32 (IntKind.u32.wrap (((((schedTo b (k2)).getD (k2 - 16) 0)+(((rotl ((schedTo b (k2)).getD (k2 - 15) 0) (-7:Int)) ^^^ (rotl ((schedTo b (k2)).getD (k2 - 15) 0) (-18:Int))) ^^^ (((schedTo b (k2)).getD (k2 - 15) 0) >>> (3:Nat).toUInt32))).toNat:Int)+(((schedTo b (k2)).getD (k2 - 7) 0).toNat:Int)))) (wv ((((schedTo b (k2)).getD (k2 - 16) 0)+(((rotl ((schedTo b (k2)).getD (k2 - 15) 0) (-7:Int)) ^^^ (rotl ((schedTo b (k2)).getD (k2 - 15) 0) (-18:Int))) ^^^ (((schedTo b (k2)).getD (k2 - 15) 0) >>> (3:Nat).toUInt32)))+((schedTo b (k2)).getD (k2 - 7) 0))) (by kernel_rfl) (congrArg (Value.int .u32) (u32_add _ _))
     refine q_lrun (d:=98) (wv (((rotl ((schedTo b (k2)).getD (k2 - 2) 0) (-17:Int)) ^^^ (rotl ((schedTo b (k2)).getD (k2 - 2) 0) (-19:Int))) ^^^ (((schedTo b (k2)).getD (k2 - 2) 0) >>> (10:Nat).toUInt32))) hF322 ?_
     intro a323 hF324
     refine q_lrun (d:=99) (Value.int .u32 (IntKind.u32.wrap ((((((schedTo b (k2)).getD (k2 - 16) 0)+(((rotl ((schedTo b (k2)).getD (k2 - 15) 0) (-7:Int)) ^^^ (rotl ((schedTo b (k2)).getD (k2 - 15) 0) (-18:Int))) ^^^ (((schedTo b (k2)).getD (k2 - 15) 0) >>> (3:Nat).toUInt32)))+((schedTo b (k2)).getD (k2 - 7) 0)).toNat:Int)+((((rotl ((schedTo b (k2)).getD (k2 - 2) 0) (-17:Int)) ^^^ (rotl ((schedTo b (k2)).getD (k2 - 2) 0) (-19:Int))) ^^^ (((schedTo b (k2)).getD (k2 - 2) 0) >>> (10:Nat).toUInt32)).toNat:Int)))) hF324 ?_
     intro a325 hF326
     have hF327:=hF326.set 99 (Value.int .u32 (IntKind.u32.wrap ((((((schedTo b (k2)).getD (k2 - 16) 0)+(((rotl ((schedTo b (k2)).getD (k2 - 15) 0) (-7:Int)) ^^^ (rotl ((schedTo b (k2)).getD (k2 - 15) 0) (-18:Int))) ^^^ (((schedTo b (k2)).getD (k2 - 15) 0) >>> (3:Nat).toUInt32)))+((schedTo b (k2)).getD (k2 - 7) 0)).toNat:Int)+((((rotl ((schedTo b (k2)).getD (k2 - 2) 0) (-17:Int)) ^^^ (rotl ((schedTo b (k2)).getD (k2 - 2) 0) (-19:Int))) ^^^ (((schedTo b (k2)).getD (k2 - 2) 0) >>> (10:Nat).toUInt32)).toNat:Int)))) (wv (((((schedTo b (k2)).getD (k2 - 16) 0)+(((rotl ((schedTo b (k2)).getD (k2 - 15) 0) (-7:Int)) ^^^ (rotl ((schedTo b (k2)).getD (k2 - 15) 0) (-18:Int))) ^^^ (((schedTo b (k2)).getD (k2 - 15) 0) >>> (3:Nat).toUInt32)))+((schedTo b (k2)).getD (k2 - 7) 0))+(((rotl ((schedTo b (k2)).getD (k2 - 2) 0) (-17:Int)) ^^^ (rotl ((schedTo b (k2)).getD (k2 - 2) 0) (-19:Int))) ^^^ (((schedTo b (k2)).getD (k2 - 2) 0) >>> (10:Nat).toUInt32)))) (by kernel_rfl) (congrArg (Value.int .u32) (u32_add _ _))
     refine q_lval 100 (Op.indexAddr 151 (Operand.tmp 4) (Operand.tmp 86)) (Value.pointer (some ⟨b6,k2,none⟩)) hF327 (fun w9 ⟨s9,hw9⟩=>(exec_indexP1 (N:=64) (by kernel_rfl) (kd:=.i64) k2 (by kernel_rfl) (by omega) U151 L137.s)) ?_
     intro a328 hF329
     have hj335:k2<(schedTo b (k2)).length:=(by first | omega | (simp only[List.length_append,List.length_cons,List.length_nil,List.length_map,schedTo_len,addTo_len,kTab_len,List.length_set,List.length_replicate];omega) | simp)
     refine l_last (q_storeA wv (Operand.tmp 100) (Operand.tmp 99) hF329 h301 k2 hj335 (((((schedTo b (k2)).getD (k2 - 16) 0)+(((rotl ((schedTo b (k2)).getD (k2 - 15) 0) (-7:Int)) ^^^ (rotl ((schedTo b (k2)).getD (k2 - 15) 0) (-18:Int))) ^^^ (((schedTo b (k2)).getD (k2 - 15) 0) >>> (3:Nat).toUInt32)))+((schedTo b (k2)).getD (k2 - 7) 0))+(((rotl ((schedTo b (k2)).getD (k2 - 2) 0) (-17:Int)) ^^^ (rotl ((schedTo b (k2)).getD (k2 - 2) 0) (-19:Int))) ^^^ (((schedTo b (k2)).getD (k2 - 2) 0) >>> (10:Nat).toUInt32))) L137 ?_)
     intro a330 w331 st332 hB333 hF334
     have hS336:=hS291.and st332 (fun b e=>by subst e;omega)
     refine q_reg ?_
     refine q_run 1 [(60,(Value.int .i64 ((k2:Nat):Int)))] hF334 fun a337 hF338=>?_
     refine q_one 61 (v0:=(Value.int .i64 (IntKind.i64.wrap (((k2:Nat):Int)+((1:Nat):Int))))) (v:=(Value.int .i64 ((k2+1:Nat):Int))) (congrArg (Value.int .i64) (i64_eq (by omega) (by omega) (by omega))) hF338 fun a339 hF340=>?_
     refine q_run 1 [(6,(Value.int .i64 ((k2+1:Nat):Int)))] hF340 fun a341 hF342=>?_
     refine q_end ?_
     have h343:=(((h268.step' st274).step' st290).step st332 (fun e=>absurd e (by omega)))
     have hF344:=hF342.keep [0,4,6] [(0,(Value.pointer (some ⟨bh,0,none⟩))),(4,(Value.pointer (some ⟨b6,0,none⟩))),(6,(Value.int .i64 ((k2+1:Nat):Int)))] (by kernel_rfl)
     exact⟨k2+1,⟨s271,hF344,hS336,h343,(by have h9:=hB333;simp only[rotl7,rotl18,rotl17,rotl19] at h9;rw[schedTo_hi (by omega)];exact h9),(by omega),(by omega)⟩,by omega⟩
    ·skip
     have hc189:=of_decide_eq_false hc189
     refine q_exit 2 ?_
     refine q_seq ?_
     refine q_reg ?_
     refine q_run 2 [(102,(Value.pointer (some ⟨bh,0,none⟩))),(101,(Value.pointer (some ⟨bh,0,none⟩)))] hF188 fun a345 hF346=>?_
     refine r_at (q_val 103 (Op.load 138 (Operand.tmp 102)) hF346 (Value.agg (([s.a,s.b,s.c,s.d,s.e,s.f,s.g,s.h]:List UInt32).map wv).toArray) (exec_loadAll wv L138 h183 (by first | rfl | simp only[List.length_append,List.length_cons,List.length_nil,List.length_map,schedTo_len,addTo_len,kTab_len,List.length_set,List.length_replicate]) (by kernel_rfl)) ?_)
     intro a347 hF348
     refine r_at (q_new 11 (Op.alloc 138) hF348 s179 (([0,0,0,0,0,0,0,0]:List UInt32).map wv) 138 (exec_alloc (([0,0,0,0,0,0,0,0]:List UInt32).map wv) (fun _=>.inl (by kernel_rfl))) ?_)
     intro a349 s350 w351 b352 hb353 st354 hB355 hF356
     have hz357:=hS181.size
     have ne358:=h183.nl hb353
     have ne359:=h184.nl hb353
     have hS360:=hS181.then st354
     refine r_at (q_store (Operand.tmp 11) (Operand.tmp 103) hF356 hB355 0 (([s.a,s.b,s.c,s.d,s.e,s.f,s.g,s.h]:List UInt32).map wv) 8 L138 ?_)
     intro a361 w362 st363 hB364 hF365
     have hS366:=hS360.and st363 (fun b e=>by subst e;omega)
     refine q_end ?_
     refine q_seq ?_
     refine q_seq ?_
     refine q_reg ?_
     have h367:=hg.step hS366
     refine r_at (q_val 104 (Op.load 151 (Operand.global 1)) hF365 (Value.agg (kTab.map wv).toArray) (exec_load (cs:=kTab.map wv) (b:=1) (o:=0) L151 (.inl rfl) (by kernel_rfl) (Seg.cell h367)) ?_)
     intro a368 hF369
     refine q_run 1 [(105,(Value.int .i64 ((0:Nat):Int)))] hF369 fun a370 hF371=>?_
     refine q_end ?_
     refine q_block 4 ?_
     have h377:=((h183.step' st354).step st363 (fun e=>absurd e (by omega)))
     have h378:=((h184.step' st354).step st363 (fun e=>absurd e (by omega)))
     refine q_loop (fun(k3:Nat) a372 w373=>∃(s374:Nat→Nat),Fr a372 201 [(0,(Value.pointer (some ⟨bh,0,none⟩))),(4,(Value.pointer (some ⟨b6,0,none⟩))),(11,(Value.pointer (some ⟨b352,0,none⟩))),(104,(Value.agg (kTab.map wv).toArray)),(105,(Value.int .i64 ((k3:Nat):Int)))]∧Stp (· = bh) σ w s374 w373∧Bx s374 w373 bh (([s.a,s.b,s.c,s.d,s.e,s.f,s.g,s.h]:List UInt32).map wv) 138∧Bx s374 w373 b6 ((schedTo b (k2)).map wv) 151∧Bx s374 w373 b352 (([(rS b s k2 k3).a,(rS b s k2 k3).b,(rS b s k2 k3).c,(rS b s k2 k3).d,(rS b s k2 k3).e,(rS b s k2 k3).f,(rS b s k2 k3).g,(rS b s k2 k3).h]:List UInt32).map wv) 138∧k3≤64) (fun k3=>64 - k3) 0 ?_ ?_
     ·skip
      have hF379:=hF371.keep [0,4,11,104,105] [(0,(Value.pointer (some ⟨bh,0,none⟩))),(4,(Value.pointer (some ⟨b6,0,none⟩))),(11,(Value.pointer (some ⟨b352,0,none⟩))),(104,(Value.agg (kTab.map wv).toArray)),(105,(Value.int .i64 ((0:Nat):Int)))] (by kernel_rfl)
      exact⟨s350,hF379,hS366,h377,h378,hB364,(by omega)⟩
     ·rintro k3 a372 w373 ⟨s374,hF375,hS376,h380,h381,h382,hk3⟩
      refine q_seq ?_
      refine q_reg ?_
      refine q_one 106 (congrArg Value.bool (cmp_nat_lss (k3) (64))) hF375 fun a383 hF384=>?_
      refine q_end ?_
      refine q_seq ?_
      refine q_cond 106 hF384 (decide ((k3:Nat)<64)) (fun hc385=>?_) (fun hc385=>?_)
      ·skip
       have hc385:=of_decide_eq_true hc385
       refine q_skip ?_
       refine q_seq ?_
       refine q_block 5 ?_
       refine q_seq ?_
       refine q_reg ?_
       refine q_run 1 [(107,(Value.int .i64 ((k3:Nat):Int)))] hF384 fun a386 hF387=>?_
       refine r_at (q_val 108 (Op.index 151 (Operand.tmp 104) (Operand.tmp 105)) hF387 (wv (kTab.getD k3 0)) (exec_indexV (N:=64) wv (0:UInt32) (xs:=kTab) (by kernel_rfl) (kd:=.i64) k3 (by kernel_rfl) (by omega) (by first | rfl | simp) U151 L137) ?_)
       intro a388 hF389
       refine q_run 2 [(13,(wv (kTab.getD k3 0))),(12,(Value.int .i64 ((k3:Nat):Int)))] hF389 fun a390 hF391=>?_
       refine q_end ?_
       refine q_seq ?_
       refine c_plan 17 (by kernel_rfl) (by kernel_rfl) s374 (fun b=>b≠bh∧b≠b6∧b≠b352∧True) [(0,true),(1,true),(2,true),(3,true),(4,true),(5,true)] [(0,649037107316853453566312041152512,2048),(1,1298074214633706907132624082305024,649037107316853453566312041152512),(0,2596148429267413814265248164610048,2048),(4,5192296858534827628530496329220096,2596148429267413814265248164610048),(3,16384,1298074214633706907132624082305024),(31,32768,5192296858534827628530496329220096)] (by kernel_rfl) (by kernel_rfl) (by kernel_rfl) (by kernel_rfl) ?_
       intro w392 st393
       have hS394:=hS376.then st393
       refine q_pval 109 (Op.indexAddr 138 (Operand.tmp 11) (Operand.const (Value.int IntKind.i64 4))) (Value.pointer (some ⟨b352,4,none⟩)) hF391 (fun w9 ⟨s9,hw9⟩=>(exec_indexP1 (N:=8) (by kernel_rfl) (kd:=.i64) 4 (by kernel_rfl) (by omega) U138 L137.s)) ?_
       intro a395 hF396
       have h397:=(h382.step' st393)
       have hj398:4<(([(rS b s k2 k3).a,(rS b s k2 k3).b,(rS b s k2 k3).c,(rS b s k2 k3).d,(rS b s k2 k3).e,(rS b s k2 k3).f,(rS b s k2 k3).g,(rS b s k2 k3).h]:List UInt32)).length:=(by first | omega | (simp only[List.length_append,List.length_cons,List.length_nil,List.length_map,schedTo_len,addTo_len,kTab_len,List.length_set,List.length_replicate];omega) | simp)
       refine q_pval 110 (Op.load 137 (Operand.tmp 109)) (wv ((rS b s k2 k3).e)) hF396 (fun w9 ⟨s9,hw9⟩=>(exec_load (cs:=[wv (([(rS b s k2 k3).a,(rS b s k2 k3).b,(rS b s k2 k3).c,(rS b s k2 k3).d,(rS b s k2 k3).e,(rS b s k2 k3).f,(rS b s k2 k3).g,(rS b s k2 k3).h]:List UInt32).getD 4 0)]) L137 (.inr rfl) (by kernel_rfl) (Bx.elemG (h397.step hw9 (fun h=>h.2.2.1 rfl)) (0:UInt32) 4 hj398))) ?_
       intro a399 hF400
       refine q_pval 111 (Op.indexAddr 138 (Operand.tmp 11) (Operand.const (Value.int IntKind.i64 0))) (Value.pointer (some ⟨b352,0,none⟩)) hF400 (fun w9 ⟨s9,hw9⟩=>(exec_indexP1 (N:=8) (by kernel_rfl) (kd:=.i64) 0 (by kernel_rfl) (by omega) U138 L137.s)) ?_
       intro a401 hF402
       have hj403:0<(([(rS b s k2 k3).a,(rS b s k2 k3).b,(rS b s k2 k3).c,(rS b s k2 k3).d,(rS b s k2 k3).e,(rS b s k2 k3).f,(rS b s k2 k3).g,(rS b s k2 k3).h]:List UInt32)).length:=(by first | omega | (simp only[List.length_append,List.length_cons,List.length_nil,List.length_map,schedTo_len,addTo_len,kTab_len,List.length_set,List.length_replicate];omega) | simp)
       refine q_pval 112 (Op.load 137 (Operand.tmp 111)) (wv ((rS b s k2 k3).a)) hF402 (fun w9 ⟨s9,hw9⟩=>(exec_load (cs:=[wv (([(rS b s k2 k3).a,(rS b s k2 k3).b,(rS b s k2 k3).c,(rS b s k2 k3).d,(rS b s k2 k3).e,(rS b s k2 k3).f,(rS b s k2 k3).g,(rS b s k2 k3).h]:List UInt32).getD 0 0)]) L137 (.inr rfl) (by kernel_rfl) (Bx.elemG (h397.step hw9 (fun h=>h.2.2.1 rfl)) (0:UInt32) 0 hj403))) ?_
       intro a404 hF405
       refine q_prun (d:=14) (wv ((rS b s k2 k3).e)) hF405 ?_
       intro a406 hF407
       refine q_prun (d:=15) (wv ((rS b s k2 k3).a)) hF407 ?_
       intro a408 hF409
       refine p_end ?_
       refine q_seq ?_
       refine c_plan 18 (by kernel_rfl) (by kernel_rfl) s374 (fun b=>b≠bh∧b≠b6∧b≠b352∧True) [(0,true),(1,true),(2,true),(4,true),(7,true),(11,true),(12,true),(13,true),(14,true),(15,true),(16,true),(17,true),(18,true),(19,true),(20,true),(22,true),(24,true),(25,true),(26,true),(3,false),(5,false),(6,true),(8,false),(9,true),(10,true),(21,true),(23,true),(27,true),(28,true)] [(0,10384593717069655257060992658440192,2048),(1,20769187434139310514121985316880384,10384593717069655257060992658440192),(0,41538374868278621028243970633760768,16384),(4,83076749736557242056487941267521536,41538374868278621028243970633760768),(0,166153499473114484112975882535043072,16384),(24,332306998946228968225951765070086144,166153499473114484112975882535043072),(40,664613997892457936451903530140172288,415383748682786210282439706337607680),(0,1329227995784915872903807060280344576,16384),(160,2658455991569831745807614120560689152,1329227995784915872903807060280344576),(320,5316911983139663491615228241121378304,3323069989462289682259517650700861440),(514,10633823966279326983230456482242756608,5337681170573802802129350226438258688),(0,21267647932558653966460912964485513216,16384),(0,42535295865117307932921825928971026432,2048),(4096,85070591730234615865843651857942052864,42535295865117307932921825928971026432),(10240,170141183460469231731687303715884105728,106338239662793269832304564822427566080),(0,340282366920938463463374607431768211456,16384),(32768,680564733841876926926749214863536422912,340282366920938463463374607431768211456),(0,1361129467683753853853498429727072845824,2048),(131072,2722258935367507707706996859454145691648,1361129467683753853853498429727072845824),(327680,5444517870735015415413993718908291383296,3402823669209384634633746074317682114560),(540672,10889035741470030830827987437816582766592,5614659054195484647145681022624175489024),(1049600,21778071482940061661655974875633165533184,10899669565436310157811217894298825523200),(0,43556142965880123323311949751266331066368,8192),(6291456,87112285931760246646623899502532662132736,65334214448820184984967924626899496599552),(0,174224571863520493293247799005065324265472,4096),(16777216,348449143727040986586495598010130648530944,174224571863520493293247799005065324265488),(33554432,696898287454081973172991196020261297061888,348449143727040986586495598010130648530944),(75497472,1393796574908163946345982392040522594123776,784010573385842219819615095522793959194624),(268435455,65536,1393796574908163946345982392040522594123776)] (by kernel_rfl) (by kernel_rfl) (by kernel_rfl) (by kernel_rfl) ?_
       intro w410 st411
       have hS412:=hS394.then st411
       refine q_pval 113 (Op.indexAddr 138 (Operand.tmp 11) (Operand.const (Value.int IntKind.i64 7))) (Value.pointer (some ⟨b352,7,none⟩)) hF409 (fun w9 ⟨s9,hw9⟩=>(exec_indexP1 (N:=8) (by kernel_rfl) (kd:=.i64) 7 (by kernel_rfl) (by omega) U138 L137.s)) ?_
       intro a413 hF414
       have h415:=(h397.step' st411)
       have hj416:7<(([(rS b s k2 k3).a,(rS b s k2 k3).b,(rS b s k2 k3).c,(rS b s k2 k3).d,(rS b s k2 k3).e,(rS b s k2 k3).f,(rS b s k2 k3).g,(rS b s k2 k3).h]:List UInt32)).length:=(by first | omega | (simp only[List.length_append,List.length_cons,List.length_nil,List.length_map,schedTo_len,addTo_len,kTab_len,List.length_set,List.length_replicate];omega) | simp)
       refine q_pval 114 (Op.load 137 (Operand.tmp 113)) (wv ((rS b s k2 k3).h)) hF414 (fun w9 ⟨s9,hw9⟩=>(exec_load (cs:=[wv (([(rS b s k2 k3).a,(rS b s k2 k3).b,(rS b s k2 k3).c,(rS b s k2 k3).d,(rS b s k2 k3).e,(rS b s k2 k3).f,(rS b s k2 k3).g,(rS b s k2 k3).h]:List UInt32).getD 7 0)]) L137 (.inr rfl) (by kernel_rfl) (Bx.elemG (h415.step hw9 (fun h=>h.2.2.1 rfl)) (0:UInt32) 7 hj416))) ?_
       intro a417 hF418
       refine q_prun (d:=115) (wv ((rS b s k2 k3).e)) hF418 ?_
       intro a419 hF420
       refine q_prun (d:=117) (wv ((rS b s k2 k3).e)) hF420 ?_
       intro a421 hF422
       refine q_prun (d:=120) (wv ((rS b s k2 k3).e)) hF422 ?_
       intro a423 hF424
       refine q_prun (d:=124) (wv ((rS b s k2 k3).e)) hF424 ?_
       intro a425 hF426
       refine q_pval 125 (Op.indexAddr 138 (Operand.tmp 11) (Operand.const (Value.int IntKind.i64 5))) (Value.pointer (some ⟨b352,5,none⟩)) hF426 (fun w9 ⟨s9,hw9⟩=>(exec_indexP1 (N:=8) (by kernel_rfl) (kd:=.i64) 5 (by kernel_rfl) (by omega) U138 L137.s)) ?_
       intro a427 hF428
       have hj429:5<(([(rS b s k2 k3).a,(rS b s k2 k3).b,(rS b s k2 k3).c,(rS b s k2 k3).d,(rS b s k2 k3).e,(rS b s k2 k3).f,(rS b s k2 k3).g,(rS b s k2 k3).h]:List UInt32)).length:=(by first | omega | (simp only[List.length_append,List.length_cons,List.length_nil,List.length_map,schedTo_len,addTo_len,kTab_len,List.length_set,List.length_replicate];omega) | simp)
       refine q_pval 126 (Op.load 137 (Operand.tmp 125)) (wv ((rS b s k2 k3).f)) hF428 (fun w9 ⟨s9,hw9⟩=>(exec_load (cs:=[wv (([(rS b s k2 k3).a,(rS b s k2 k3).b,(rS b s k2 k3).c,(rS b s k2 k3).d,(rS b s k2 k3).e,(rS b s k2 k3).f,(rS b s k2 k3).g,(rS b s k2 k3).h]:List UInt32).getD 5 0)]) L137 (.inr rfl) (by kernel_rfl) (Bx.elemG (h415.step hw9 (fun h=>h.2.2.1 rfl)) (0:UInt32) 5 hj429))) ?_
       intro a430 hF431
       refine q_prun (d:=127) (Value.int .u32 (IntKind.u32.wrap ((BitVec.ofInt 32 (((rS b s k2 k3).e).toNat:Int) &&& BitVec.ofInt 32 (((rS b s k2 k3).f).toNat:Int)).toNat:Int))) hF431 ?_
       intro a432 hF433
       have hF434:=hF433.set 127 (Value.int .u32 (IntKind.u32.wrap ((BitVec.ofInt 32 (((rS b s k2 k3).e).toNat:Int) &&& BitVec.ofInt 32 (((rS b s k2 k3).f).toNat:Int)).toNat:Int))) (wv (((rS b s k2 k3).e) &&& ((rS b s k2 k3).f))) (by kernel_rfl) (congrArg (Value.int .u32) (u32_and ((rS b s k2 k3).e) ((rS b s k2 k3).f)))
       refine q_prun (d:=128) (wv ((rS b s k2 k3).e)) hF434 ?_
       intro a435 hF436
       refine q_prun (d:=129) (Value.int .u32 (IntKind.u32.wrap ((BitVec.ofInt 32 IntKind.u32.max ^^^ BitVec.ofInt 32 (((rS b s k2 k3).e).toNat:Int)).toNat:Int))) hF436 ?_
       intro a437 hF438
       have hF439:=hF438.set 129 (Value.int .u32 (IntKind.u32.wrap ((BitVec.ofInt 32 IntKind.u32.max ^^^ BitVec.ofInt 32 (((rS b s k2 k3).e).toNat:Int)).toNat:Int))) (wv (~~~((rS b s k2 k3).e))) (by kernel_rfl) (congrArg (Value.int .u32) (u32_not ((rS b s k2 k3).e)))
       refine q_pval 130 (Op.indexAddr 138 (Operand.tmp 11) (Operand.const (Value.int IntKind.i64 6))) (Value.pointer (some ⟨b352,6,none⟩)) hF439 (fun w9 ⟨s9,hw9⟩=>(exec_indexP1 (N:=8) (by kernel_rfl) (kd:=.i64) 6 (by kernel_rfl) (by omega) U138 L137.s)) ?_
       intro a440 hF441
       have hj442:6<(([(rS b s k2 k3).a,(rS b s k2 k3).b,(rS b s k2 k3).c,(rS b s k2 k3).d,(rS b s k2 k3).e,(rS b s k2 k3).f,(rS b s k2 k3).g,(rS b s k2 k3).h]:List UInt32)).length:=(by first | omega | (simp only[List.length_append,List.length_cons,List.length_nil,List.length_map,schedTo_len,addTo_len,kTab_len,List.length_set,List.length_replicate];omega) | simp)
       refine q_pval 131 (Op.load 137 (Operand.tmp 130)) (wv ((rS b s k2 k3).g)) hF441 (fun w9 ⟨s9,hw9⟩=>(exec_load (cs:=[wv (([(rS b s k2 k3).a,(rS b s k2 k3).b,(rS b s k2 k3).c,(rS b s k2 k3).d,(rS b s k2 k3).e,(rS b s k2 k3).f,(rS b s k2 k3).g,(rS b s k2 k3).h]:List UInt32).getD 6 0)]) L137 (.inr rfl) (by kernel_rfl) (Bx.elemG (h415.step hw9 (fun h=>h.2.2.1 rfl)) (0:UInt32) 6 hj442))) ?_
       intro a443 hF444
       refine q_prun (d:=132) (Value.int .u32 (IntKind.u32.wrap ((BitVec.ofInt 32 ((~~~((rS b s k2 k3).e)).toNat:Int) &&& BitVec.ofInt 32 (((rS b s k2 k3).g).toNat:Int)).toNat:Int))) hF444 ?_
       intro a445 hF446
       have hF447:=hF446.set 132 (Value.int .u32 (IntKind.u32.wrap ((BitVec.ofInt 32 ((~~~((rS b s k2 k3).e)).toNat:Int) &&& BitVec.ofInt 32 (((rS b s k2 k3).g).toNat:Int)).toNat:Int))) (wv ((~~~((rS b s k2 k3).e)) &&& ((rS b s k2 k3).g))) (by kernel_rfl) (congrArg (Value.int .u32) (u32_and (~~~((rS b s k2 k3).e)) ((rS b s k2 k3).g)))
       refine q_prun (d:=133) (Value.int .u32 (IntKind.u32.wrap ((BitVec.ofInt 32 ((((rS b s k2 k3).e) &&& ((rS b s k2 k3).f)).toNat:Int) ^^^ BitVec.ofInt 32 (((~~~((rS b s k2 k3).e)) &&& ((rS b s k2 k3).g)).toNat:Int)).toNat:Int))) hF447 ?_
       intro a448 hF449
       have hF450:=hF449.set 133 (Value.int .u32 (IntKind.u32.wrap ((BitVec.ofInt 32 ((((rS b s k2 k3).e) &&& ((rS b s k2 k3).f)).toNat:Int) ^^^ BitVec.ofInt 32 (((~~~((rS b s k2 k3).e)) &&& ((rS b s k2 k3).g)).toNat:Int)).toNat:Int))) (wv ((((rS b s k2 k3).e) &&& ((rS b s k2 k3).f)) ^^^ ((~~~((rS b s k2 k3).e)) &&& ((rS b s k2 k3).g)))) (by kernel_rfl) (congrArg (Value.int .u32) (u32_xor (((rS b s k2 k3).e) &&& ((rS b s k2 k3).f)) ((~~~((rS b s k2 k3).e)) &&& ((rS b s k2 k3).g))))
       refine q_prun (d:=135) (wv (kTab.getD k3 0)) hF450 ?_
       intro a451 hF452
       refine q_prun (d:=137) (Value.int .i64 ((k3:Nat):Int)) hF452 ?_
       intro a453 hF454
       refine q_pval 138 (Op.indexAddr 151 (Operand.tmp 4) (Operand.tmp 137)) (Value.pointer (some ⟨b6,k3,none⟩)) hF454 (fun w9 ⟨s9,hw9⟩=>(exec_indexP1 (N:=64) (by kernel_rfl) (kd:=.i64) k3 (by kernel_rfl) (by omega) U151 L137.s)) ?_
       intro a455 hF456
       have h457:=((h381.step' st393).step' st411)
       have hj458:k3<(schedTo b (k2)).length:=(by first | omega | (simp only[List.length_append,List.length_cons,List.length_nil,List.length_map,schedTo_len,addTo_len,kTab_len,List.length_set,List.length_replicate];omega) | simp)
       refine q_pval 139 (Op.load 137 (Operand.tmp 138)) (wv ((schedTo b (k2)).getD k3 0)) hF456 (fun w9 ⟨s9,hw9⟩=>(exec_load (cs:=[wv ((schedTo b (k2)).getD k3 0)]) L137 (.inr rfl) (by kernel_rfl) (Bx.elemG (h457.step hw9 (fun h=>h.2.1 rfl)) (0:UInt32) k3 hj458))) ?_
       intro a459 hF460
       have h461:=((h380.step' st393).step' st411)
       refine p_do (q_call (some 116) (#[(Operand.tmp 115),(Operand.const (Value.int IntKind.i64 (-6)))]) (#[137,3]) hF460 C80 [(wv ((rS b s k2 k3).e)),(Value.int .i64 (-6))] (rotl_calls s374 w410 ((rS b s k2 k3).e) (-6:Int) (by decide)) ?_)
       intro a462 s463 w464 v465 st466 hP467 hF468
       have hz469:=hS412.size
       have hS470:=hS412.then st466
       refine⟨s463,st466.mono (fun b _ e=>(fun _ e=>e.elim) b e),?_⟩
       subst hP467
       have h471:=(h461.step' st466)
       have h472:=(h457.step' st466)
       have h473:=(h415.step' st466)
       refine p_do (q_call (some 118) (#[(Operand.tmp 117),(Operand.const (Value.int IntKind.i64 (-11)))]) (#[137,3]) hF468 C80 [(wv ((rS b s k2 k3).e)),(Value.int .i64 (-11))] (rotl_calls s463 w464 ((rS b s k2 k3).e) (-11:Int) (by decide)) ?_)
       intro a474 s475 w476 v477 st478 hP479 hF480
       have hz481:=hS470.size
       have hS482:=hS470.then st478
       refine⟨s475,st478.mono (fun b _ e=>(fun _ e=>e.elim) b e),?_⟩
       subst hP479
       refine q_prun (d:=119) (Value.int .u32 (IntKind.u32.wrap ((BitVec.ofInt 32 ((rotl ((rS b s k2 k3).e) (-6:Int)).toNat:Int) ^^^ BitVec.ofInt 32 ((rotl ((rS b s k2 k3).e) (-11:Int)).toNat:Int)).toNat:Int))) hF480 ?_
       intro a483 hF484
       have hF485:=hF484.set 119 (Value.int .u32 (IntKind.u32.wrap ((BitVec.ofInt 32 ((rotl ((rS b s k2 k3).e) (-6:Int)).toNat:Int) ^^^ BitVec.ofInt 32 ((rotl ((rS b s k2 k3).e) (-11:Int)).toNat:Int)).toNat:Int))) (wv ((rotl ((rS b s k2 k3).e) (-6:Int)) ^^^ (rotl ((rS b s k2 k3).e) (-11:Int)))) (by kernel_rfl) (congrArg (Value.int .u32) (u32_xor (rotl ((rS b s k2 k3).e) (-6:Int)) (rotl ((rS b s k2 k3).e) (-11:Int))))
       have h486:=(h471.step' st478)
       have h487:=(h472.step' st478)
       have h488:=(h473.step' st478)
       refine p_do (q_call (some 121) (#[(Operand.tmp 120),(Operand.const (Value.int IntKind.i64 (-25)))]) (#[137,3]) hF485 C80 [(wv ((rS b s k2 k3).e)),(Value.int .i64 (-25))] (rotl_calls s475 w476 ((rS b s k2 k3).e) (-25:Int) (by decide)) ?_)
       intro a489 s490 w491 v492 st493 hP494 hF495
       have hz496:=hS482.size
       have hS497:=hS482.then st493
       refine⟨s490,st493.mono (fun b _ e=>(fun _ e=>e.elim) b e),?_⟩
       subst hP494
       refine q_prun (d:=122) (Value.int .u32 (IntKind.u32.wrap ((BitVec.ofInt 32 (((rotl ((rS b s k2 k3).e) (-6:Int)) ^^^ (rotl ((rS b s k2 k3).e) (-11:Int))).toNat:Int) ^^^ BitVec.ofInt 32 ((rotl ((rS b s k2 k3).e) (-25:Int)).toNat:Int)).toNat:Int))) hF495 ?_
       intro a498 hF499
       have hF500:=hF499.set 122 (Value.int .u32 (IntKind.u32.wrap ((BitVec.ofInt 32 (((rotl ((rS b s k2 k3).e) (-6:Int)) ^^^ (rotl ((rS b s k2 k3).e) (-11:Int))).toNat:Int) ^^^ BitVec.ofInt 32 ((rotl ((rS b s k2 k3).e) (-25:Int)).toNat:Int)).toNat:Int))) (wv (((rotl ((rS b s k2 k3).e) (-6:Int)) ^^^ (rotl ((rS b s k2 k3).e) (-11:Int))) ^^^ (rotl ((rS b s k2 k3).e) (-25:Int)))) (by kernel_rfl) (congrArg (Value.int .u32) (u32_xor ((rotl ((rS b s k2 k3).e) (-6:Int)) ^^^ (rotl ((rS b s k2 k3).e) (-11:Int))) (rotl ((rS b s k2 k3).e) (-25:Int))))
       refine q_prun (d:=123) (Value.int .u32 (IntKind.u32.wrap ((((rS b s k2 k3).h).toNat:Int)+((((rotl ((rS b s k2 k3).e) (-6:Int)) ^^^ (rotl ((rS b s k2 k3).e) (-11:Int))) ^^^ (rotl ((rS b s k2 k3).e) (-25:Int))).toNat:Int)))) hF500 ?_
       intro a501 hF502
       have hF503:=hF502.set 123 (Value.int .u32 (IntKind.u32.wrap ((((rS b s k2 k3).h).toNat:Int)+((((rotl ((rS b s k2 k3).e) (-6:Int)) ^^^ (rotl ((rS b s k2 k3).e) (-11:Int))) ^^^ (rotl ((rS b s k2 k3).e) (-25:Int))).toNat:Int)))) (wv (((rS b s k2 k3).h)+(((rotl ((rS b s k2 k3).e) (-6:Int)) ^^^ (rotl ((rS b s k2 k3).e) (-11:Int))) ^^^ (rotl ((rS b s k2 k3).e) (-25:Int))))) (by kernel_rfl) (congrArg (Value.int .u32) (u32_add _ _))
       refine q_prun (d:=134) (Value.int .u32 (IntKind.u32.wrap (((((rS b s k2 k3).h)+(((rotl ((rS b s k2 k3).e) (-6:Int)) ^^^ (rotl ((rS b s k2 k3).e) (-11:Int))) ^^^ (rotl ((rS b s k2 k3).e) (-25:Int)))).toNat:Int)+(((((rS b s k2 k3).e) &&& ((rS b s k2 k3).f)) ^^^ ((~~~((rS b s k2 k3).e)) &&& ((rS b s k2 k3).g))).toNat:Int)))) hF503 ?_
       intro a504 hF505
       have hF506:=hF505.set 134 (Value.int .u32 (IntKind.u32.wrap (((((rS b s k2 k3).h)+(((rotl ((rS b s k2 k3).e) (-6:Int)) ^^^ (rotl ((rS b s k2 k3).e) (-11:Int))) ^^^ (rotl ((rS b s k2 k3).e) (-25:Int)))).toNat:Int)+(((((rS b s k2 k3).e) &&& ((rS b s k2 k3).f)) ^^^ ((~~~((rS b s k2 k3).e)) &&& ((rS b s k2 k3).g))).toNat:Int)))) (wv ((((rS b s k2 k3).h)+(((rotl ((rS b s k2 k3).e) (-6:Int)) ^^^ (rotl ((rS b s k2 k3).e) (-11:Int))) ^^^ (rotl ((rS b s k2 k3).e) (-25:Int))))+((((rS b s k2 k3).e) &&& ((rS b s k2 k3).f)) ^^^ ((~~~((rS b s k2 k3).e)) &&& ((rS b s k2 k3).g))))) (by kernel_rfl) (congrArg (Value.int .u32) (u32_add _ _))
       refine q_prun (d:=136) (Value.int .u32 (IntKind.u32.wrap ((((((rS b s k2 k3).h)+(((rotl ((rS b s k2 k3).e) (-6:Int)) ^^^ (rotl ((rS b s k2 k3).e) (-11:Int))) ^^^ (rotl ((rS b s k2 k3).e) (-25:Int))))+((((rS b s k2 k3).e) &&& ((rS b s k2 k3).f)) ^^^ ((~~~((rS b s k2 k3).e)) &&& ((rS b s k2 k3).g)))).toNat:Int)+((kTab.getD k3 0).toNat:Int)))) hF506 ?_
       intro a507 hF508
       have hF509:=hF508.set 136 (Value.int .u32 (IntKind.u32.wrap ((((((rS b s k2 k3).h)+(((rotl ((rS b s k2 k3).e) (-6:Int)) ^^^ (rotl ((rS b s k2 k3).e) (-11:Int))) ^^^ (rotl ((rS b s k2 k3).e) (-25:Int))))+((((rS b s k2 k3).e) &&& ((rS b s k2 k3).f)) ^^^ ((~~~((rS b s k2 k3).e)) &&& ((rS b s k2 k3).g)))).toNat:Int)+((kTab.getD k3 0).toNat:Int)))) (wv (((((rS b s k2 k3).h)+(((rotl ((rS b s k2 k3).e) (-6:Int)) ^^^ (rotl ((rS b s k2 k3).e) (-11:Int))) ^^^ (rotl ((rS b s k2 k3).e) (-25:Int))))+((((rS b s k2 k3).e) &&& ((rS b s k2 k3).f)) ^^^ ((~~~((rS b s k2 k3).e)) &&& ((rS b s k2 k3).g))))+(kTab.getD k3 0))) (by kernel_rfl) (congrArg (Value.int .u32) (u32_add _ _))
       refine q_prun (d:=140) (Value.int .u32 (IntKind.u32.wrap (((((((rS b s k2 k3).h)+(((rotl ((rS b s k2 k3).e) (-6:Int)) ^^^ (rotl ((rS b s k2 k3).e) (-11:Int))) ^^^ (rotl ((rS b s k2 k3).e) (-25:Int))))+((((rS b s k2 k3).e) &&& ((rS b s k2 k3).f)) ^^^ ((~~~((rS b s k2 k3).e)) &&& ((rS b s k2 k3).g))))+(kTab.getD k3 0)).toNat:Int)+(((schedTo b (k2)).getD k3 0).toNat:Int)))) hF509 ?_
       intro a510 hF511
       have hF512:=hF511.set 140 (Value.int .u32 (IntKind.u32.wrap (((((((rS b s k2 k3).h)+(((rotl ((rS b s k2 k3).e) (-6:Int)) ^^^ (rotl ((rS b s k2 k3).e) (-11:Int))) ^^^ (rotl ((rS b s k2 k3).e) (-25:Int))))+((((rS b s k2 k3).e) &&& ((rS b s k2 k3).f)) ^^^ ((~~~((rS b s k2 k3).e)) &&& ((rS b s k2 k3).g))))+(kTab.getD k3 0)).toNat:Int)+(((schedTo b (k2)).getD k3 0).toNat:Int)))) (wv ((((((rS b s k2 k3).h)+(((rotl ((rS b s k2 k3).e) (-6:Int)) ^^^ (rotl ((rS b s k2 k3).e) (-11:Int))) ^^^ (rotl ((rS b s k2 k3).e) (-25:Int))))+((((rS b s k2 k3).e) &&& ((rS b s k2 k3).f)) ^^^ ((~~~((rS b s k2 k3).e)) &&& ((rS b s k2 k3).g))))+(kTab.getD k3 0))+((schedTo b (k2)).getD k3 0))) (by kernel_rfl) (congrArg (Value.int .u32) (u32_add _ _))
       refine q_prun (d:=16) (wv ((((((rS b s k2 k3).h)+(((rotl ((rS b s k2 k3).e) (-6:Int)) ^^^ (rotl ((rS b s k2 k3).e) (-11:Int))) ^^^ (rotl ((rS b s k2 k3).e) (-25:Int))))+((((rS b s k2 k3).e) &&& ((rS b s k2 k3).f)) ^^^ ((~~~((rS b s k2 k3).e)) &&& ((rS b s k2 k3).g))))+(kTab.getD k3 0))+((schedTo b (k2)).getD k3 0))) hF512 ?_
       intro a513 hF514
       refine p_end ?_
       refine q_seq ?_
       refine c_plan 19 (by kernel_rfl) (by kernel_rfl) s490 (fun b=>b≠bh∧b≠b6∧b≠b352∧True) [(0,true),(2,true),(5,true),(8,true),(9,true),(10,true),(11,true),(12,true),(13,true),(14,true),(15,true),(16,true),(17,true),(18,true),(19,true),(20,true),(21,true),(22,true),(1,false),(3,false),(4,true),(6,false),(7,true),(23,true),(24,true)] [(0,2787593149816327892691964784081045188247552,32768),(1,5575186299632655785383929568162090376495104,2787593149816327892691964784081045188247552),(0,11150372599265311570767859136324180752990208,32768),(6,22300745198530623141535718272648361505980416,11150372599265311570767859136324180752990208),(10,44601490397061246283071436545296723011960832,27875931498163278926919647840810451882475520),(0,89202980794122492566142873090593446023921664,32768),(40,178405961588244985132285746181186892047843328,89202980794122492566142873090593446023921664),(80,356811923176489970264571492362373784095686656,223007451985306231415357182726483615059804160),(0,713623846352979940529142984724747568191373312,32768),(0,1427247692705959881058285969449495136382746624,2048),(512,2854495385411919762116571938898990272765493248,1427247692705959881058285969449495136382746624),(1280,5708990770823839524233143877797980545530986496,3568119231764899702645714923623737840956866560),(0,11417981541647679048466287755595961091061972992,32768),(0,22835963083295358096932575511191922182123945984,2048),(8192,45671926166590716193865151022383844364247891968,22835963083295358096932575511191922182123945984),(20480,91343852333181432387730302044767688728495783936,57089907708238395242331438777979805455309864960),(34816,182687704666362864775460604089535377456991567872,97052843104005271911963445922565669274026770432),(0,365375409332725729550921208179070754913983135744,2048),(131072,730750818665451459101842416358141509827966271488,365375409332725729550921208179070754913983135744),(0,1461501637330902918203684832716283019655932542976,2048),(524288,2923003274661805836407369665432566039311865085952,1461501637330902918203684832716283019655932542976),(1310720,5846006549323611672814739330865132078623730171904,3653754093327257295509212081790707549139831357440),(2162688,11692013098647223345629478661730264157247460343808,6028694253989974537590199934954667456080721739776),(4194432,23384026197294446691258957323460528314494920687616,11692369910570399835599743233222626531031556030464),(16777215,131072,23384026197294446691258957323460528314494920687616)] (by kernel_rfl) (by kernel_rfl) (by kernel_rfl) (by kernel_rfl) ?_
       intro w515 st516
       have hS517:=hS497.then st516
       refine q_prun (d:=141) (wv ((rS b s k2 k3).a)) hF514 ?_
       intro a518 hF519
       refine q_prun (d:=143) (wv ((rS b s k2 k3).a)) hF519 ?_
       intro a520 hF521
       refine q_prun (d:=146) (wv ((rS b s k2 k3).a)) hF521 ?_
       intro a522 hF523
       refine q_prun (d:=149) (wv ((rS b s k2 k3).a)) hF523 ?_
       intro a524 hF525
       refine q_pval 150 (Op.indexAddr 138 (Operand.tmp 11) (Operand.const (Value.int IntKind.i64 1))) (Value.pointer (some ⟨b352,1,none⟩)) hF525 (fun w9 ⟨s9,hw9⟩=>(exec_indexP1 (N:=8) (by kernel_rfl) (kd:=.i64) 1 (by kernel_rfl) (by omega) U138 L137.s)) ?_
       intro a526 hF527
       have h528:=((h488.step' st493).step' st516)
       have hj529:1<(([(rS b s k2 k3).a,(rS b s k2 k3).b,(rS b s k2 k3).c,(rS b s k2 k3).d,(rS b s k2 k3).e,(rS b s k2 k3).f,(rS b s k2 k3).g,(rS b s k2 k3).h]:List UInt32)).length:=(by first | omega | (simp only[List.length_append,List.length_cons,List.length_nil,List.length_map,schedTo_len,addTo_len,kTab_len,List.length_set,List.length_replicate];omega) | simp)
       refine q_pval 151 (Op.load 137 (Operand.tmp 150)) (wv ((rS b s k2 k3).b)) hF527 (fun w9 ⟨s9,hw9⟩=>(exec_load (cs:=[wv (([(rS b s k2 k3).a,(rS b s k2 k3).b,(rS b s k2 k3).c,(rS b s k2 k3).d,(rS b s k2 k3).e,(rS b s k2 k3).f,(rS b s k2 k3).g,(rS b s k2 k3).h]:List UInt32).getD 1 0)]) L137 (.inr rfl) (by kernel_rfl) (Bx.elemG (h528.step hw9 (fun h=>h.2.2.1 rfl)) (0:UInt32) 1 hj529))) ?_
       intro a530 hF531
       refine q_prun (d:=152) (Value.int .u32 (IntKind.u32.wrap ((BitVec.ofInt 32 (((rS b s k2 k3).a).toNat:Int) &&& BitVec.ofInt 32 (((rS b s k2 k3).b).toNat:Int)).toNat:Int))) hF531 ?_
       intro a532 hF533
       have hF534:=hF533.set 152 (Value.int .u32 (IntKind.u32.wrap ((BitVec.ofInt 32 (((rS b s k2 k3).a).toNat:Int) &&& BitVec.ofInt 32 (((rS b s k2 k3).b).toNat:Int)).toNat:Int))) (wv (((rS b s k2 k3).a) &&& ((rS b s k2 k3).b))) (by kernel_rfl) (congrArg (Value.int .u32) (u32_and ((rS b s k2 k3).a) ((rS b s k2 k3).b)))
       refine q_prun (d:=153) (wv ((rS b s k2 k3).a)) hF534 ?_
       intro a535 hF536
       refine q_pval 154 (Op.indexAddr 138 (Operand.tmp 11) (Operand.const (Value.int IntKind.i64 2))) (Value.pointer (some ⟨b352,2,none⟩)) hF536 (fun w9 ⟨s9,hw9⟩=>(exec_indexP1 (N:=8) (by kernel_rfl) (kd:=.i64) 2 (by kernel_rfl) (by omega) U138 L137.s)) ?_
       intro a537 hF538
       have hj539:2<(([(rS b s k2 k3).a,(rS b s k2 k3).b,(rS b s k2 k3).c,(rS b s k2 k3).d,(rS b s k2 k3).e,(rS b s k2 k3).f,(rS b s k2 k3).g,(rS b s k2 k3).h]:List UInt32)).length:=(by first | omega | (simp only[List.length_append,List.length_cons,List.length_nil,List.length_map,schedTo_len,addTo_len,kTab_len,List.length_set,List.length_replicate];omega) | simp)
       refine q_pval 155 (Op.load 137 (Operand.tmp 154)) (wv ((rS b s k2 k3).c)) hF538 (fun w9 ⟨s9,hw9⟩=>(exec_load (cs:=[wv (([(rS b s k2 k3).a,(rS b s k2 k3).b,(rS b s k2 k3).c,(rS b s k2 k3).d,(rS b s k2 k3).e,(rS b s k2 k3).f,(rS b s k2 k3).g,(rS b s k2 k3).h]:List UInt32).getD 2 0)]) L137 (.inr rfl) (by kernel_rfl) (Bx.elemG (h528.step hw9 (fun h=>h.2.2.1 rfl)) (0:UInt32) 2 hj539))) ?_
       intro a540 hF541
       refine q_prun (d:=156) (Value.int .u32 (IntKind.u32.wrap ((BitVec.ofInt 32 (((rS b s k2 k3).a).toNat:Int) &&& BitVec.ofInt 32 (((rS b s k2 k3).c).toNat:Int)).toNat:Int))) hF541 ?_
       intro a542 hF543
       have hF544:=hF543.set 156 (Value.int .u32 (IntKind.u32.wrap ((BitVec.ofInt 32 (((rS b s k2 k3).a).toNat:Int) &&& BitVec.ofInt 32 (((rS b s k2 k3).c).toNat:Int)).toNat:Int))) (wv (((rS b s k2 k3).a) &&& ((rS b s k2 k3).c))) (by kernel_rfl) (congrArg (Value.int .u32) (u32_and ((rS b s k2 k3).a) ((rS b s k2 k3).c)))
       refine q_prun (d:=157) (Value.int .u32 (IntKind.u32.wrap ((BitVec.ofInt 32 ((((rS b s k2 k3).a) &&& ((rS b s k2 k3).b)).toNat:Int) ^^^ BitVec.ofInt 32 ((((rS b s k2 k3).a) &&& ((rS b s k2 k3).c)).toNat:Int)).toNat:Int))) hF544 ?_
       intro a545 hF546
       have hF547:=hF546.set 157 (Value.int .u32 (IntKind.u32.wrap ((BitVec.ofInt 32 ((((rS b s k2 k3).a) &&& ((rS b s k2 k3).b)).toNat:Int) ^^^ BitVec.ofInt 32 ((((rS b s k2 k3).a) &&& ((rS b s k2 k3).c)).toNat:Int)).toNat:Int))) (wv ((((rS b s k2 k3).a) &&& ((rS b s k2 k3).b)) ^^^ (((rS b s k2 k3).a) &&& ((rS b s k2 k3).c)))) (by kernel_rfl) (congrArg (Value.int .u32) (u32_xor (((rS b s k2 k3).a) &&& ((rS b s k2 k3).b)) (((rS b s k2 k3).a) &&& ((rS b s k2 k3).c))))
       refine q_pval 158 (Op.indexAddr 138 (Operand.tmp 11) (Operand.const (Value.int IntKind.i64 1))) (Value.pointer (some ⟨b352,1,none⟩)) hF547 (fun w9 ⟨s9,hw9⟩=>(exec_indexP1 (N:=8) (by kernel_rfl) (kd:=.i64) 1 (by kernel_rfl) (by omega) U138 L137.s)) ?_
       intro a548 hF549
       have hj550:1<(([(rS b s k2 k3).a,(rS b s k2 k3).b,(rS b s k2 k3).c,(rS b s k2 k3).d,(rS b s k2 k3).e,(rS b s k2 k3).f,(rS b s k2 k3).g,(rS b s k2 k3).h]:List UInt32)).length:=(by first | omega | (simp only[List.length_append,List.length_cons,List.length_nil,List.length_map,schedTo_len,addTo_len,kTab_len,List.length_set,List.length_replicate];omega) | simp)
       refine q_pval 159 (Op.load 137 (Operand.tmp 158)) (wv ((rS b s k2 k3).b)) hF549 (fun w9 ⟨s9,hw9⟩=>(exec_load (cs:=[wv (([(rS b s k2 k3).a,(rS b s k2 k3).b,(rS b s k2 k3).c,(rS b s k2 k3).d,(rS b s k2 k3).e,(rS b s k2 k3).f,(rS b s k2 k3).g,(rS b s k2 k3).h]:List UInt32).getD 1 0)]) L137 (.inr rfl) (by kernel_rfl) (Bx.elemG (h528.step hw9 (fun h=>h.2.2.1 rfl)) (0:UInt32) 1 hj550))) ?_
       intro a551 hF552
       refine q_pval 160 (Op.indexAddr 138 (Operand.tmp 11) (Operand.const (Value.int IntKind.i64 2))) (Value.pointer (some ⟨b352,2,none⟩)) hF552 (fun w9 ⟨s9,hw9⟩=>(exec_indexP1 (N:=8) (by kernel_rfl) (kd:=.i64) 2 (by kernel_rfl) (by omega) U138 L137.s)) ?_
       intro a553 hF554
       have hj555:2<(([(rS b s k2 k3).a,(rS b s k2 k3).b,(rS b s k2 k3).c,(rS b s k2 k3).d,(rS b s k2 k3).e,(rS b s k2 k3).f,(rS b s k2 k3).g,(rS b s k2 k3).h]:List UInt32)).length:=(by first | omega | (simp only[List.length_append,List.length_cons,List.length_nil,List.length_map,schedTo_len,addTo_len,kTab_len,List.length_set,List.length_replicate];omega) | simp)
       refine q_pval 161 (Op.load 137 (Operand.tmp 160)) (wv ((rS b s k2 k3).c)) hF554 (fun w9 ⟨s9,hw9⟩=>(exec_load (cs:=[wv (([(rS b s k2 k3).a,(rS b s k2 k3).b,(rS b s k2 k3).c,(rS b s k2 k3).d,(rS b s k2 k3).e,(rS b s k2 k3).f,(rS b s k2 k3).g,(rS b s k2 k3).h]:List UInt32).getD 2 0)]) L137 (.inr rfl) (by kernel_rfl) (Bx.elemG (h528.step hw9 (fun h=>h.2.2.1 rfl)) (0:UInt32) 2 hj555))) ?_
       intro a556 hF557
       refine q_prun (d:=162) (Value.int .u32 (IntKind.u32.wrap ((BitVec.ofInt 32 (((rS b s k2 k3).b).toNat:Int) &&& BitVec.ofInt 32 (((rS b s k2 k3).c).toNat:Int)).toNat:Int))) hF557 ?_
       intro a558 hF559
       have hF560:=hF559.set 162 (Value.int .u32 (IntKind.u32.wrap ((BitVec.ofInt 32 (((rS b s k2 k3).b).toNat:Int) &&& BitVec.ofInt 32 (((rS b s k2 k3).c).toNat:Int)).toNat:Int))) (wv (((rS b s k2 k3).b) &&& ((rS b s k2 k3).c))) (by kernel_rfl) (congrArg (Value.int .u32) (u32_and ((rS b s k2 k3).b) ((rS b s k2 k3).c)))
       refine q_prun (d:=163) (Value.int .u32 (IntKind.u32.wrap ((BitVec.ofInt 32 (((((rS b s k2 k3).a) &&& ((rS b s k2 k3).b)) ^^^ (((rS b s k2 k3).a) &&& ((rS b s k2 k3).c))).toNat:Int) ^^^ BitVec.ofInt 32 ((((rS b s k2 k3).b) &&& ((rS b s k2 k3).c)).toNat:Int)).toNat:Int))) hF560 ?_
       intro a561 hF562
       have hF563:=hF562.set 163 (Value.int .u32 (IntKind.u32.wrap ((BitVec.ofInt 32 (((((rS b s k2 k3).a) &&& ((rS b s k2 k3).b)) ^^^ (((rS b s k2 k3).a) &&& ((rS b s k2 k3).c))).toNat:Int) ^^^ BitVec.ofInt 32 ((((rS b s k2 k3).b) &&& ((rS b s k2 k3).c)).toNat:Int)).toNat:Int))) (wv (((((rS b s k2 k3).a) &&& ((rS b s k2 k3).b)) ^^^ (((rS b s k2 k3).a) &&& ((rS b s k2 k3).c))) ^^^ (((rS b s k2 k3).b) &&& ((rS b s k2 k3).c)))) (by kernel_rfl) (congrArg (Value.int .u32) (u32_xor ((((rS b s k2 k3).a) &&& ((rS b s k2 k3).b)) ^^^ (((rS b s k2 k3).a) &&& ((rS b s k2 k3).c))) (((rS b s k2 k3).b) &&& ((rS b s k2 k3).c))))
       have h564:=((h486.step' st493).step' st516)
       have h565:=((h487.step' st493).step' st516)
       refine p_do (q_call (some 142) (#[(Operand.tmp 141),(Operand.const (Value.int IntKind.i64 (-2)))]) (#[137,3]) hF563 C80 [(wv ((rS b s k2 k3).a)),(Value.int .i64 (-2))] (rotl_calls s490 w515 ((rS b s k2 k3).a) (-2:Int) (by decide)) ?_)
       intro a566 s567 w568 v569 st570 hP571 hF572
       have hz573:=hS517.size
       have hS574:=hS517.then st570
       refine⟨s567,st570.mono (fun b _ e=>(fun _ e=>e.elim) b e),?_⟩
       subst hP571
       have h575:=(h564.step' st570)
       have h576:=(h565.step' st570)
       have h577:=(h528.step' st570)
       refine p_do (q_call (some 144) (#[(Operand.tmp 143),(Operand.const (Value.int IntKind.i64 (-13)))]) (#[137,3]) hF572 C80 [(wv ((rS b s k2 k3).a)),(Value.int .i64 (-13))] (rotl_calls s567 w568 ((rS b s k2 k3).a) (-13:Int) (by decide)) ?_)
       intro a578 s579 w580 v581 st582 hP583 hF584
       have hz585:=hS574.size
       have hS586:=hS574.then st582
       refine⟨s579,st582.mono (fun b _ e=>(fun _ e=>e.elim) b e),?_⟩
       subst hP583
       refine q_prun (d:=145) (Value.int .u32 (IntKind.u32.wrap ((BitVec.ofInt 32 ((rotl ((rS b s k2 k3).a) (-2:Int)).toNat:Int) ^^^ BitVec.ofInt 32 ((rotl ((rS b s k2 k3).a) (-13:Int)).toNat:Int)).toNat:Int))) hF584 ?_
       intro a587 hF588
       have hF589:=hF588.set 145 (Value.int .u32 (IntKind.u32.wrap ((BitVec.ofInt 32 ((rotl ((rS b s k2 k3).a) (-2:Int)).toNat:Int) ^^^ BitVec.ofInt 32 ((rotl ((rS b s k2 k3).a) (-13:Int)).toNat:Int)).toNat:Int))) (wv ((rotl ((rS b s k2 k3).a) (-2:Int)) ^^^ (rotl ((rS b s k2 k3).a) (-13:Int)))) (by kernel_rfl) (congrArg (Value.int .u32) (u32_xor (rotl ((rS b s k2 k3).a) (-2:Int)) (rotl ((rS b s k2 k3).a) (-13:Int))))
       have h590:=(h575.step' st582)
       have h591:=(h576.step' st582)
       have h592:=(h577.step' st582)
       refine p_do (q_call (some 147) (#[(Operand.tmp 146),(Operand.const (Value.int IntKind.i64 (-22)))]) (#[137,3]) hF589 C80 [(wv ((rS b s k2 k3).a)),(Value.int .i64 (-22))] (rotl_calls s579 w580 ((rS b s k2 k3).a) (-22:Int) (by decide)) ?_)
       intro a593 s594 w595 v596 st597 hP598 hF599
       have hz600:=hS586.size
       have hS601:=hS586.then st597
       refine⟨s594,st597.mono (fun b _ e=>(fun _ e=>e.elim) b e),?_⟩
       subst hP598
       refine q_prun (d:=148) (Value.int .u32 (IntKind.u32.wrap ((BitVec.ofInt 32 (((rotl ((rS b s k2 k3).a) (-2:Int)) ^^^ (rotl ((rS b s k2 k3).a) (-13:Int))).toNat:Int) ^^^ BitVec.ofInt 32 ((rotl ((rS b s k2 k3).a) (-22:Int)).toNat:Int)).toNat:Int))) hF599 ?_
       intro a602 hF603
       have hF604:=hF603.set 148 (Value.int .u32 (IntKind.u32.wrap ((BitVec.ofInt 32 (((rotl ((rS b s k2 k3).a) (-2:Int)) ^^^ (rotl ((rS b s k2 k3).a) (-13:Int))).toNat:Int) ^^^ BitVec.ofInt 32 ((rotl ((rS b s k2 k3).a) (-22:Int)).toNat:Int)).toNat:Int))) (wv (((rotl ((rS b s k2 k3).a) (-2:Int)) ^^^ (rotl ((rS b s k2 k3).a) (-13:Int))) ^^^ (rotl ((rS b s k2 k3).a) (-22:Int)))) (by kernel_rfl) (congrArg (Value.int .u32) (u32_xor ((rotl ((rS b s k2 k3).a) (-2:Int)) ^^^ (rotl ((rS b s k2 k3).a) (-13:Int))) (rotl ((rS b s k2 k3).a) (-22:Int))))
       refine q_prun (d:=164) (Value.int .u32 (IntKind.u32.wrap (((((rotl ((rS b s k2 k3).a) (-2:Int)) ^^^ (rotl ((rS b s k2 k3).a) (-13:Int))) ^^^ (rotl ((rS b s k2 k3).a) (-22:Int))).toNat:Int)+((((((rS b s k2 k3).a) &&& ((rS b s k2 k3).b)) ^^^ (((rS b s k2 k3).a) &&& ((rS b s k2 k3).c))) ^^^ (((rS b s k2 k3).b) &&& ((rS b s k2 k3).c))).toNat:Int)))) hF604 ?_
       intro a605 hF606
       have hF607:=hF606.set 164 (Value.int .u32 (IntKind.u32.wrap (((((rotl ((rS b s k2 k3).a) (-2:Int)) ^^^ (rotl ((rS b s k2 k3).a) (-13:Int))) ^^^ (rotl ((rS b s k2 k3).a) (-22:Int))).toNat:Int)+((((((rS b s k2 k3).a) &&& ((rS b s k2 k3).b)) ^^^ (((rS b s k2 k3).a) &&& ((rS b s k2 k3).c))) ^^^ (((rS b s k2 k3).b) &&& ((rS b s k2 k3).c))).toNat:Int)))) (wv ((((rotl ((rS b s k2 k3).a) (-2:Int)) ^^^ (rotl ((rS b s k2 k3).a) (-13:Int))) ^^^ (rotl ((rS b s k2 k3).a) (-22:Int)))+(((((rS b s k2 k3).a) &&& ((rS b s k2 k3).b)) ^^^ (((rS b s k2 k3).a) &&& ((rS b s k2 k3).c))) ^^^ (((rS b s k2 k3).b) &&& ((rS b s k2 k3).c))))) (by kernel_rfl) (congrArg (Value.int .u32) (u32_add _ _))
       refine q_prun (d:=17) (wv ((((rotl ((rS b s k2 k3).a) (-2:Int)) ^^^ (rotl ((rS b s k2 k3).a) (-13:Int))) ^^^ (rotl ((rS b s k2 k3).a) (-22:Int)))+(((((rS b s k2 k3).a) &&& ((rS b s k2 k3).b)) ^^^ (((rS b s k2 k3).a) &&& ((rS b s k2 k3).c))) ^^^ (((rS b s k2 k3).b) &&& ((rS b s k2 k3).c))))) hF607 ?_
       intro a608 hF609
       refine p_end ?_
       refine q_reg ?_
       refine q_run 2 [(166,(wv ((((rotl ((rS b s k2 k3).a) (-2:Int)) ^^^ (rotl ((rS b s k2 k3).a) (-13:Int))) ^^^ (rotl ((rS b s k2 k3).a) (-22:Int)))+(((((rS b s k2 k3).a) &&& ((rS b s k2 k3).b)) ^^^ (((rS b s k2 k3).a) &&& ((rS b s k2 k3).c))) ^^^ (((rS b s k2 k3).b) &&& ((rS b s k2 k3).c)))))),(165,(wv ((((((rS b s k2 k3).h)+(((rotl ((rS b s k2 k3).e) (-6:Int)) ^^^ (rotl ((rS b s k2 k3).e) (-11:Int))) ^^^ (rotl ((rS b s k2 k3).e) (-25:Int))))+((((rS b s k2 k3).e) &&& ((rS b s k2 k3).f)) ^^^ ((~~~((rS b s k2 k3).e)) &&& ((rS b s k2 k3).g))))+(kTab.getD k3 0))+((schedTo b (k2)).getD k3 0))))] hF609 fun a610 hF611=>?_
       refine q_one 167 (v0:=(Value.int .u32 (IntKind.u32.wrap ((((((((rS b s k2 k3).h)+(((rotl ((rS b s k2 k3).e) (-6:Int)) ^^^ (rotl ((rS b s k2 k3).e) (-11:Int))) ^^^ (rotl ((rS b s k2 k3).e) (-25:Int))))+((((rS b s k2 k3).e) &&& ((rS b s k2 k3).f)) ^^^ ((~~~((rS b s k2 k3).e)) &&& ((rS b s k2 k3).g))))+(kTab.getD k3 0))+((schedTo b (k2)).getD k3 0)).toNat:Int)+(((((rotl ((rS b s k2 k3).a) (-2:Int)) ^^^ (rotl ((rS b s k2 k3).a) (-13:Int))) ^^^ (rotl ((rS b s k2 k3).a) (-22:Int)))+(((((rS b s k2 k3).a) &&& ((rS b s k2 k3).b)) ^^^ (((rS b s k2 k3).a) &&& ((rS b s k2 k3).c))) ^^^ (((rS b s k2 k3).b) &&& ((rS b s k2 k3).c)))).toNat:Int))))) (v:=(wv (((((((rS b s k2 k3).h)+(((rotl ((rS b s k2 k3).e) (-6:Int)) ^^^ (rotl ((rS b s k2 k3).e) (-11:Int))) ^^^ (rotl ((rS b s k2 k3).e) (-25:Int))))+((((rS b s k2 k3).e) &&& ((rS b s k2 k3).f)) ^^^ ((~~~((rS b s k2 k3).e)) &&& ((rS b s k2 k3).g))))+(kTab.getD k3 0))+((schedTo b (k2)).getD k3 0))+((((rotl ((rS b s k2 k3).a) (-2:Int)) ^^^ (rotl ((rS b s k2 k3).a) (-13:Int))) ^^^ (rotl ((rS b s k2 k3).a) (-22:Int)))+(((((rS b s k2 k3).a) &&& ((rS b s k2 k3).b)) ^^^ (((rS b s k2 k3).a) &&& ((rS b s k2 k3).c))) ^^^ (((rS b s k2 k3).b) &&& ((rS b s k2 k3).c))))))) (congrArg (Value.int .u32) (u32_add _ _)) hF611 fun a612 hF613=>?_
       refine r_at (q_val 168 (Op.indexAddr 138 (Operand.tmp 11) (Operand.const (Value.int IntKind.i64 0))) hF613 (Value.pointer (some ⟨b352,0,none⟩)) (exec_indexP1 (N:=8) (by kernel_rfl) (kd:=.i64) 0 (by kernel_rfl) (by omega) U138 L137.s) ?_)
       intro a614 hF615
       have h616:=(h592.step' st597)
       have hj617:0<(([(rS b s k2 k3).a,(rS b s k2 k3).b,(rS b s k2 k3).c,(rS b s k2 k3).d,(rS b s k2 k3).e,(rS b s k2 k3).f,(rS b s k2 k3).g,(rS b s k2 k3).h]:List UInt32)).length:=(by first | omega | (simp only[List.length_append,List.length_cons,List.length_nil,List.length_map,schedTo_len,addTo_len,kTab_len,List.length_set,List.length_replicate];omega) | simp)
       refine r_at (q_val 169 (Op.load 137 (Operand.tmp 168)) hF615 (wv ((rS b s k2 k3).a)) (exec_load (cs:=[wv (([(rS b s k2 k3).a,(rS b s k2 k3).b,(rS b s k2 k3).c,(rS b s k2 k3).d,(rS b s k2 k3).e,(rS b s k2 k3).f,(rS b s k2 k3).g,(rS b s k2 k3).h]:List UInt32).getD 0 0)]) L137 (.inr rfl) (by kernel_rfl) (Bx.elemG h616 (0:UInt32) 0 hj617)) ?_)
       intro a618 hF619
       refine r_at (q_val 170 (Op.indexAddr 138 (Operand.tmp 11) (Operand.const (Value.int IntKind.i64 1))) hF619 (Value.pointer (some ⟨b352,1,none⟩)) (exec_indexP1 (N:=8) (by kernel_rfl) (kd:=.i64) 1 (by kernel_rfl) (by omega) U138 L137.s) ?_)
       intro a620 hF621
       have hj622:1<(([(rS b s k2 k3).a,(rS b s k2 k3).b,(rS b s k2 k3).c,(rS b s k2 k3).d,(rS b s k2 k3).e,(rS b s k2 k3).f,(rS b s k2 k3).g,(rS b s k2 k3).h]:List UInt32)).length:=(by first | omega | (simp only[List.length_append,List.length_cons,List.length_nil,List.length_map,schedTo_len,addTo_len,kTab_len,List.length_set,List.length_replicate];omega) | simp)
       refine r_at (q_val 171 (Op.load 137 (Operand.tmp 170)) hF621 (wv ((rS b s k2 k3).b)) (exec_load (cs:=[wv (([(rS b s k2 k3).a,(rS b s k2 k3).b,(rS b s k2 k3).c,(rS b s k2 k3).d,(rS b s k2 k3).e,(rS b s k2 k3).f,(rS b s k2 k3).g,(rS b s k2 k3).h]:List UInt32).getD 1 0)]) L137 (.inr rfl) (by kernel_rfl) (Bx.elemG h616 (0:UInt32) 1 hj622)) ?_)
       intro a623 hF624
       refine r_at (q_val 172 (Op.indexAddr 138 (Operand.tmp 11) (Operand.const (Value.int IntKind.i64 2))) hF624 (Value.pointer (some ⟨b352,2,none⟩)) (exec_indexP1 (N:=8) (by kernel_rfl) (kd:=.i64) 2 (by kernel_rfl) (by omega) U138 L137.s) ?_)
       intro a625 hF626
       have hj627:2<(([(rS b s k2 k3).a,(rS b s k2 k3).b,(rS b s k2 k3).c,(rS b s k2 k3).d,(rS b s k2 k3).e,(rS b s k2 k3).f,(rS b s k2 k3).g,(rS b s k2 k3).h]:List UInt32)).length:=(by first | omega | (simp only[List.length_append,List.length_cons,List.length_nil,List.length_map,schedTo_len,addTo_len,kTab_len,List.length_set,List.length_replicate];omega) | simp)
       refine r_at (q_val 173 (Op.load 137 (Operand.tmp 172)) hF626 (wv ((rS b s k2 k3).c)) (exec_load (cs:=[wv (([(rS b s k2 k3).a,(rS b s k2 k3).b,(rS b s k2 k3).c,(rS b s k2 k3).d,(rS b s k2 k3).e,(rS b s k2 k3).f,(rS b s k2 k3).g,(rS b s k2 k3).h]:List UInt32).getD 2 0)]) L137 (.inr rfl) (by kernel_rfl) (Bx.elemG h616 (0:UInt32) 2 hj627)) ?_)
       intro a628 hF629
       refine r_at (q_val 174 (Op.indexAddr 138 (Operand.tmp 11) (Operand.const (Value.int IntKind.i64 3))) hF629 (Value.pointer (some ⟨b352,3,none⟩)) (exec_indexP1 (N:=8) (by kernel_rfl) (kd:=.i64) 3 (by kernel_rfl) (by omega) U138 L137.s) ?_)
       intro a630 hF631
       have hj632:3<(([(rS b s k2 k3).a,(rS b s k2 k3).b,(rS b s k2 k3).c,(rS b s k2 k3).d,(rS b s k2 k3).e,(rS b s k2 k3).f,(rS b s k2 k3).g,(rS b s k2 k3).h]:List UInt32)).length:=(by first | omega | (simp only[List.length_append,List.length_cons,List.length_nil,List.length_map,schedTo_len,addTo_len,kTab_len,List.length_set,List.length_replicate];omega) | simp)
       refine r_at (q_val 175 (Op.load 137 (Operand.tmp 174)) hF631 (wv ((rS b s k2 k3).d)) (exec_load (cs:=[wv (([(rS b s k2 k3).a,(rS b s k2 k3).b,(rS b s k2 k3).c,(rS b s k2 k3).d,(rS b s k2 k3).e,(rS b s k2 k3).f,(rS b s k2 k3).g,(rS b s k2 k3).h]:List UInt32).getD 3 0)]) L137 (.inr rfl) (by kernel_rfl) (Bx.elemG h616 (0:UInt32) 3 hj632)) ?_)
       intro a633 hF634
       refine q_run 1 [(176,(wv ((((((rS b s k2 k3).h)+(((rotl ((rS b s k2 k3).e) (-6:Int)) ^^^ (rotl ((rS b s k2 k3).e) (-11:Int))) ^^^ (rotl ((rS b s k2 k3).e) (-25:Int))))+((((rS b s k2 k3).e) &&& ((rS b s k2 k3).f)) ^^^ ((~~~((rS b s k2 k3).e)) &&& ((rS b s k2 k3).g))))+(kTab.getD k3 0))+((schedTo b (k2)).getD k3 0))))] hF634 fun a635 hF636=>?_
       refine q_one 177 (v0:=(Value.int .u32 (IntKind.u32.wrap ((((rS b s k2 k3).d).toNat:Int)+(((((((rS b s k2 k3).h)+(((rotl ((rS b s k2 k3).e) (-6:Int)) ^^^ (rotl ((rS b s k2 k3).e) (-11:Int))) ^^^ (rotl ((rS b s k2 k3).e) (-25:Int))))+((((rS b s k2 k3).e) &&& ((rS b s k2 k3).f)) ^^^ ((~~~((rS b s k2 k3).e)) &&& ((rS b s k2 k3).g))))+(kTab.getD k3 0))+((schedTo b (k2)).getD k3 0)).toNat:Int))))) (v:=(wv (((rS b s k2 k3).d)+((((((rS b s k2 k3).h)+(((rotl ((rS b s k2 k3).e) (-6:Int)) ^^^ (rotl ((rS b s k2 k3).e) (-11:Int))) ^^^ (rotl ((rS b s k2 k3).e) (-25:Int))))+((((rS b s k2 k3).e) &&& ((rS b s k2 k3).f)) ^^^ ((~~~((rS b s k2 k3).e)) &&& ((rS b s k2 k3).g))))+(kTab.getD k3 0))+((schedTo b (k2)).getD k3 0))))) (congrArg (Value.int .u32) (u32_add _ _)) hF636 fun a637 hF638=>?_
       refine r_at (q_val 178 (Op.indexAddr 138 (Operand.tmp 11) (Operand.const (Value.int IntKind.i64 4))) hF638 (Value.pointer (some ⟨b352,4,none⟩)) (exec_indexP1 (N:=8) (by kernel_rfl) (kd:=.i64) 4 (by kernel_rfl) (by omega) U138 L137.s) ?_)
       intro a639 hF640
       have hj641:4<(([(rS b s k2 k3).a,(rS b s k2 k3).b,(rS b s k2 k3).c,(rS b s k2 k3).d,(rS b s k2 k3).e,(rS b s k2 k3).f,(rS b s k2 k3).g,(rS b s k2 k3).h]:List UInt32)).length:=(by first | omega | (simp only[List.length_append,List.length_cons,List.length_nil,List.length_map,schedTo_len,addTo_len,kTab_len,List.length_set,List.length_replicate];omega) | simp)
       refine r_at (q_val 179 (Op.load 137 (Operand.tmp 178)) hF640 (wv ((rS b s k2 k3).e)) (exec_load (cs:=[wv (([(rS b s k2 k3).a,(rS b s k2 k3).b,(rS b s k2 k3).c,(rS b s k2 k3).d,(rS b s k2 k3).e,(rS b s k2 k3).f,(rS b s k2 k3).g,(rS b s k2 k3).h]:List UInt32).getD 4 0)]) L137 (.inr rfl) (by kernel_rfl) (Bx.elemG h616 (0:UInt32) 4 hj641)) ?_)
       intro a642 hF643
       refine r_at (q_val 180 (Op.indexAddr 138 (Operand.tmp 11) (Operand.const (Value.int IntKind.i64 5))) hF643 (Value.pointer (some ⟨b352,5,none⟩)) (exec_indexP1 (N:=8) (by kernel_rfl) (kd:=.i64) 5 (by kernel_rfl) (by omega) U138 L137.s) ?_)
       intro a644 hF645
       have hj646:5<(([(rS b s k2 k3).a,(rS b s k2 k3).b,(rS b s k2 k3).c,(rS b s k2 k3).d,(rS b s k2 k3).e,(rS b s k2 k3).f,(rS b s k2 k3).g,(rS b s k2 k3).h]:List UInt32)).length:=(by first | omega | (simp only[List.length_append,List.length_cons,List.length_nil,List.length_map,schedTo_len,addTo_len,kTab_len,List.length_set,List.length_replicate];omega) | simp)
       refine r_at (q_val 181 (Op.load 137 (Operand.tmp 180)) hF645 (wv ((rS b s k2 k3).f)) (exec_load (cs:=[wv (([(rS b s k2 k3).a,(rS b s k2 k3).b,(rS b s k2 k3).c,(rS b s k2 k3).d,(rS b s k2 k3).e,(rS b s k2 k3).f,(rS b s k2 k3).g,(rS b s k2 k3).h]:List UInt32).getD 5 0)]) L137 (.inr rfl) (by kernel_rfl) (Bx.elemG h616 (0:UInt32) 5 hj646)) ?_)
       intro a647 hF648
       refine r_at (q_val 182 (Op.indexAddr 138 (Operand.tmp 11) (Operand.const (Value.int IntKind.i64 6))) hF648 (Value.pointer (some ⟨b352,6,none⟩)) (exec_indexP1 (N:=8) (by kernel_rfl) (kd:=.i64) 6 (by kernel_rfl) (by omega) U138 L137.s) ?_)
       intro a649 hF650
       have hj651:6<(([(rS b s k2 k3).a,(rS b s k2 k3).b,(rS b s k2 k3).c,(rS b s k2 k3).d,(rS b s k2 k3).e,(rS b s k2 k3).f,(rS b s k2 k3).g,(rS b s k2 k3).h]:List UInt32)).length:=(by first | omega | (simp only[List.length_append,List.length_cons,List.length_nil,List.length_map,schedTo_len,addTo_len,kTab_len,List.length_set,List.length_replicate];omega) | simp)
       refine r_at (q_val 183 (Op.load 137 (Operand.tmp 182)) hF650 (wv ((rS b s k2 k3).g)) (exec_load (cs:=[wv (([(rS b s k2 k3).a,(rS b s k2 k3).b,(rS b s k2 k3).c,(rS b s k2 k3).d,(rS b s k2 k3).e,(rS b s k2 k3).f,(rS b s k2 k3).g,(rS b s k2 k3).h]:List UInt32).getD 6 0)]) L137 (.inr rfl) (by kernel_rfl) (Bx.elemG h616 (0:UInt32) 6 hj651)) ?_)
       intro a652 hF653
       refine q_run 1 [(184,(Value.agg (([((((((rS b s k2 k3).h)+(((rotl ((rS b s k2 k3).e) (-6:Int)) ^^^ (rotl ((rS b s k2 k3).e) (-11:Int))) ^^^ (rotl ((rS b s k2 k3).e) (-25:Int))))+((((rS b s k2 k3).e) &&& ((rS b s k2 k3).f)) ^^^ ((~~~((rS b s k2 k3).e)) &&& ((rS b s k2 k3).g))))+(kTab.getD k3 0))+((schedTo b (k2)).getD k3 0))+((((rotl ((rS b s k2 k3).a) (-2:Int)) ^^^ (rotl ((rS b s k2 k3).a) (-13:Int))) ^^^ (rotl ((rS b s k2 k3).a) (-22:Int)))+(((((rS b s k2 k3).a) &&& ((rS b s k2 k3).b)) ^^^ (((rS b s k2 k3).a) &&& ((rS b s k2 k3).c))) ^^^ (((rS b s k2 k3).b) &&& ((rS b s k2 k3).c)))),(rS b s k2 k3).a,(rS b s k2 k3).b,(rS b s k2 k3).c,((rS b s k2 k3).d)+((((((rS b s k2 k3).h)+(((rotl ((rS b s k2 k3).e) (-6:Int)) ^^^ (rotl ((rS b s k2 k3).e) (-11:Int))) ^^^ (rotl ((rS b s k2 k3).e) (-25:Int))))+((((rS b s k2 k3).e) &&& ((rS b s k2 k3).f)) ^^^ ((~~~((rS b s k2 k3).e)) &&& ((rS b s k2 k3).g))))+(kTab.getD k3 0))+((schedTo b (k2)).getD k3 0)),(rS b s k2 k3).e,(rS b s k2 k3).f,(rS b s k2 k3).g]:List UInt32).map wv).toArray))] hF653 fun a654 hF655=>?_
       refine r_at (q_store (Operand.tmp 11) (Operand.tmp 184) hF655 h616 0 (([((((((rS b s k2 k3).h)+(((rotl ((rS b s k2 k3).e) (-6:Int)) ^^^ (rotl ((rS b s k2 k3).e) (-11:Int))) ^^^ (rotl ((rS b s k2 k3).e) (-25:Int))))+((((rS b s k2 k3).e) &&& ((rS b s k2 k3).f)) ^^^ ((~~~((rS b s k2 k3).e)) &&& ((rS b s k2 k3).g))))+(kTab.getD k3 0))+((schedTo b (k2)).getD k3 0))+((((rotl ((rS b s k2 k3).a) (-2:Int)) ^^^ (rotl ((rS b s k2 k3).a) (-13:Int))) ^^^ (rotl ((rS b s k2 k3).a) (-22:Int)))+(((((rS b s k2 k3).a) &&& ((rS b s k2 k3).b)) ^^^ (((rS b s k2 k3).a) &&& ((rS b s k2 k3).c))) ^^^ (((rS b s k2 k3).b) &&& ((rS b s k2 k3).c)))),(rS b s k2 k3).a,(rS b s k2 k3).b,(rS b s k2 k3).c,((rS b s k2 k3).d)+((((((rS b s k2 k3).h)+(((rotl ((rS b s k2 k3).e) (-6:Int)) ^^^ (rotl ((rS b s k2 k3).e) (-11:Int))) ^^^ (rotl ((rS b s k2 k3).e) (-25:Int))))+((((rS b s k2 k3).e) &&& ((rS b s k2 k3).f)) ^^^ ((~~~((rS b s k2 k3).e)) &&& ((rS b s k2 k3).g))))+(kTab.getD k3 0))+((schedTo b (k2)).getD k3 0)),(rS b s k2 k3).e,(rS b s k2 k3).f,(rS b s k2 k3).g]:List UInt32).map wv) 8 L138 ?_)
       intro a656 w657 st658 hB659 hF660
       have hS661:=hS601.and st658 (fun b e=>by subst e;omega)
       refine q_end ?_
       refine q_reg ?_
       refine q_one 185 (v0:=(Value.int .i64 (IntKind.i64.wrap (((k3:Nat):Int)+((1:Nat):Int))))) (v:=(Value.int .i64 ((k3+1:Nat):Int))) (congrArg (Value.int .i64) (i64_eq (by omega) (by omega) (by omega))) hF660 fun a662 hF663=>?_
       refine q_run 1 [(105,(Value.int .i64 ((k3+1:Nat):Int)))] hF663 fun a664 hF665=>?_
       refine q_end ?_
       have h666:=((h590.step' st597).step st658 (fun e=>absurd e (by omega)))
       have h667:=((h591.step' st597).step st658 (fun e=>absurd e (by omega)))
       have hF668:=hF665.keep [0,4,11,104,105] [(0,(Value.pointer (some ⟨bh,0,none⟩))),(4,(Value.pointer (some ⟨b6,0,none⟩))),(11,(Value.pointer (some ⟨b352,0,none⟩))),(104,(Value.agg (kTab.map wv).toArray)),(105,(Value.int .i64 ((k3+1:Nat):Int)))] (by kernel_rfl)
       exact⟨k3+1,⟨s594,hF668,hS661,h666,h667,(by have h9:=hB659;simp only[rotl6,rotl11,rotl25,rotl2,rotl13,rotl22] at h9;exact h9),(by omega)⟩,by omega⟩
      ·skip
       have hc385:=of_decide_eq_false hc385
       refine q_exit 4 ?_
       refine q_seq ?_
       refine q_reg ?_
       refine q_run 1 [(186,(Value.int .i64 ((0:Nat):Int)))] hF384 fun a669 hF670=>?_
       refine q_end ?_
       refine q_block 6 ?_
       refine q_loop (fun(k4:Nat) a671 w672=>∃(s673:Nat→Nat),Fr a671 201 [(0,(Value.pointer (some ⟨bh,0,none⟩))),(11,(Value.pointer (some ⟨b352,0,none⟩))),(186,(Value.int .i64 ((k4:Nat):Int)))]∧Stp (· = bh) σ w s673 w672∧Bx s673 w672 b352 (([(rS b s k2 k3).a,(rS b s k2 k3).b,(rS b s k2 k3).c,(rS b s k2 k3).d,(rS b s k2 k3).e,(rS b s k2 k3).f,(rS b s k2 k3).g,(rS b s k2 k3).h]:List UInt32).map wv) 138∧Bx s673 w672 bh ((addTo ([s.a,s.b,s.c,s.d,s.e,s.f,s.g,s.h]:List UInt32) ([(rS b s k2 k3).a,(rS b s k2 k3).b,(rS b s k2 k3).c,(rS b s k2 k3).d,(rS b s k2 k3).e,(rS b s k2 k3).f,(rS b s k2 k3).g,(rS b s k2 k3).h]:List UInt32) (k4)).map wv) 138∧k4≤8) (fun k4=>8 - k4) 0 ?_ ?_
       ·skip
        have hF676:=hF670.keep [0,11,186] [(0,(Value.pointer (some ⟨bh,0,none⟩))),(11,(Value.pointer (some ⟨b352,0,none⟩))),(186,(Value.int .i64 ((0:Nat):Int)))] (by kernel_rfl)
        exact⟨s374,hF676,hS376,h382,h380,(by omega)⟩
       ·rintro k4 a671 w672 ⟨s673,hF674,hS675,h677,h678,hk4⟩
        refine q_seq ?_
        refine q_reg ?_
        refine q_one 187 (congrArg Value.bool (cmp_nat_lss (k4) (8))) hF674 fun a679 hF680=>?_
        refine q_end ?_
        refine q_seq ?_
        refine q_cond 187 hF680 (decide ((k4:Nat)<8)) (fun hc681=>?_) (fun hc681=>?_)
        ·skip
         have hc681:=of_decide_eq_true hc681
         refine q_skip ?_
         refine q_seq ?_
         refine q_block 7 ?_
         refine q_seq ?_
         refine q_reg ?_
         refine q_run 2 [(18,(Value.int .i64 ((k4:Nat):Int))),(188,(Value.int .i64 ((k4:Nat):Int)))] hF680 fun a682 hF683=>?_
         refine q_end ?_
         refine c_planL 25 11 2 (by kernel_rfl) (by kernel_rfl) s673 (fun b=>b≠b352∧b≠bh∧True) [(0,true),(1,true),(2,true),(3,true),(4,true),(5,true),(6,true),(7,true),(8,true),(9,true),(10,true)] [(0,784637716923335095479473677900958302012794430558004314112,1),(0,1569275433846670190958947355801916604025588861116008628224,262144),(1,3138550867693340381917894711603833208051177722232017256448,784637716923335095479473677900958302012794430558004314112),(6,6277101735386680763835789423207666416102355444464034512896,4707826301540010572876842067405749812076766583348025884672),(8,12554203470773361527671578846415332832204710888928069025792,6277101735386680763835789423207666416102355444464034512896),(0,25108406941546723055343157692830665664409421777856138051584,262144),(32,50216813883093446110686315385661331328818843555712276103168,25108406941546723055343157692830665664409421777856138053632),(64,100433627766186892221372630771322662657637687111424552206336,50216813883093446110686315385661331328818843555712276103168),(144,200867255532373784442745261542645325315275374222849104412672,112987831236960253749044209617737995489842398000352621232128),(1,401734511064747568885490523085290650630550748445698208825344,784637716923335095479473677900958302012794430558004314112),(1023,803469022129495137770981046170581301261101496891396417650688,403303786498594239076449470441092567234576337306814217453568),(1535,0,1004336277661868922213726307713226626576376871114245522063360)] (by kernel_rfl) (by kernel_rfl) (by kernel_rfl) (by kernel_rfl) ?_
         intro w684 st685
         have hS686:=hS675.then st685
         refine q_lrun (d:=189) (Value.pointer (some ⟨bh,0,none⟩)) hF683 ?_
         intro a687 hF688
         refine q_lrun (d:=190) (Value.int .i64 ((k4:Nat):Int)) hF688 ?_
         intro a689 hF690
         refine q_lrun (d:=191) (Value.pointer (some ⟨bh,0,none⟩)) hF690 ?_
         intro a691 hF692
         refine q_lval 192 (Op.indexAddr 138 (Operand.tmp 191) (Operand.tmp 190)) (Value.pointer (some ⟨bh,k4,none⟩)) hF692 (fun w9 ⟨s9,hw9⟩=>(exec_indexP1 (N:=8) (by kernel_rfl) (kd:=.i64) k4 (by kernel_rfl) (by omega) U138 L137.s)) ?_
         intro a693 hF694
         have h695:=(h678.step' st685)
         have hj696:k4<(addTo ([s.a,s.b,s.c,s.d,s.e,s.f,s.g,s.h]:List UInt32) ([(rS b s k2 k3).a,(rS b s k2 k3).b,(rS b s k2 k3).c,(rS b s k2 k3).d,(rS b s k2 k3).e,(rS b s k2 k3).f,(rS b s k2 k3).g,(rS b s k2 k3).h]:List UInt32) (k4)).length:=(by first | omega | (simp only[List.length_append,List.length_cons,List.length_nil,List.length_map,schedTo_len,addTo_len,kTab_len,List.length_set,List.length_replicate];omega) | simp)
         refine q_lval 193 (Op.load 137 (Operand.tmp 192)) (wv ((addTo ([s.a,s.b,s.c,s.d,s.e,s.f,s.g,s.h]:List UInt32) ([(rS b s k2 k3).a,(rS b s k2 k3).b,(rS b s k2 k3).c,(rS b s k2 k3).d,(rS b s k2 k3).e,(rS b s k2 k3).f,(rS b s k2 k3).g,(rS b s k2 k3).h]:List UInt32) (k4)).getD k4 0)) hF694 (fun w9 ⟨s9,hw9⟩=>(exec_load (cs:=[wv ((addTo ([s.a,s.b,s.c,s.d,s.e,s.f,s.g,s.h]:List UInt32) ([(rS b s k2 k3).a,(rS b s k2 k3).b,(rS b s k2 k3).c,(rS b s k2 k3).d,(rS b s k2 k3).e,(rS b s k2 k3).f,(rS b s k2 k3).g,(rS b s k2 k3).h]:List UInt32) (k4)).getD k4 0)]) L137 (.inr rfl) (by kernel_rfl) (Bx.elemG (h695.step hw9 (fun h=>h.2.1 rfl)) (0:UInt32) k4 hj696))) ?_
         intro a697 hF698
         refine q_lrun (d:=194) (Value.int .i64 ((k4:Nat):Int)) hF698 ?_
         intro a699 hF700
         refine q_lval 195 (Op.indexAddr 138 (Operand.tmp 11) (Operand.tmp 194)) (Value.pointer (some ⟨b352,k4,none⟩)) hF700 (fun w9 ⟨s9,hw9⟩=>(exec_indexP1 (N:=8) (by kernel_rfl) (kd:=.i64) k4 (by kernel_rfl) (by omega) U138 L137.s)) ?_
         intro a701 hF702
         have h703:=(h677.step' st685)
         have hj704:k4<(([(rS b s k2 k3).a,(rS b s k2 k3).b,(rS b s k2 k3).c,(rS b s k2 k3).d,(rS b s k2 k3).e,(rS b s k2 k3).f,(rS b s k2 k3).g,(rS b s k2 k3).h]:List UInt32)).length:=(by first | omega | (simp only[List.length_append,List.length_cons,List.length_nil,List.length_map,schedTo_len,addTo_len,kTab_len,List.length_set,List.length_replicate];omega) | simp)
         refine q_lval 196 (Op.load 137 (Operand.tmp 195)) (wv (([(rS b s k2 k3).a,(rS b s k2 k3).b,(rS b s k2 k3).c,(rS b s k2 k3).d,(rS b s k2 k3).e,(rS b s k2 k3).f,(rS b s k2 k3).g,(rS b s k2 k3).h]:List UInt32).getD k4 0)) hF702 (fun w9 ⟨s9,hw9⟩=>(exec_load (cs:=[wv (([(rS b s k2 k3).a,(rS b s k2 k3).b,(rS b s k2 k3).c,(rS b s k2 k3).d,(rS b s k2 k3).e,(rS b s k2 k3).f,(rS b s k2 k3).g,(rS b s k2 k3).h]:List UInt32).getD k4 0)]) L137 (.inr rfl) (by kernel_rfl) (Bx.elemG (h703.step hw9 (fun h=>h.1 rfl)) (0:UInt32) k4 hj704))) ?_
         intro a705 hF706
         refine q_lrun (d:=197) (Value.int .u32 (IntKind.u32.wrap ((((addTo ([s.a,s.b,s.c,s.d,s.e,s.f,s.g,s.h]:List UInt32) ([(rS b s k2 k3).a,(rS b s k2 k3).b,(rS b s k2 k3).c,(rS b s k2 k3).d,(rS b s k2 k3).e,(rS b s k2 k3).f,(rS b s k2 k3).g,(rS b s k2 k3).h]:List UInt32) (k4)).getD k4 0).toNat:Int)+((([(rS b s k2 k3).a,(rS b s k2 k3).b,(rS b s k2 k3).c,(rS b s k2 k3).d,(rS b s k2 k3).e,(rS b s k2 k3).f,(rS b s k2 k3).g,(rS b s k2 k3).h]:List UInt32).getD k4 0).toNat:Int)))) hF706 ?_
         intro a707 hF708
         have hF709:=hF708.set 197 (Value.int .u32 (IntKind.u32.wrap ((((addTo ([s.a,s.b,s.c,s.d,s.e,s.f,s.g,s.h]:List UInt32) ([(rS b s k2 k3).a,(rS b s k2 k3).b,(rS b s k2 k3).c,(rS b s k2 k3).d,(rS b s k2 k3).e,(rS b s k2 k3).f,(rS b s k2 k3).g,(rS b s k2 k3).h]:List UInt32) (k4)).getD k4 0).toNat:Int)+((([(rS b s k2 k3).a,(rS b s k2 k3).b,(rS b s k2 k3).c,(rS b s k2 k3).d,(rS b s k2 k3).e,(rS b s k2 k3).f,(rS b s k2 k3).g,(rS b s k2 k3).h]:List UInt32).getD k4 0).toNat:Int)))) (wv (((addTo ([s.a,s.b,s.c,s.d,s.e,s.f,s.g,s.h]:List UInt32) ([(rS b s k2 k3).a,(rS b s k2 k3).b,(rS b s k2 k3).c,(rS b s k2 k3).d,(rS b s k2 k3).e,(rS b s k2 k3).f,(rS b s k2 k3).g,(rS b s k2 k3).h]:List UInt32) (k4)).getD k4 0)+(([(rS b s k2 k3).a,(rS b s k2 k3).b,(rS b s k2 k3).c,(rS b s k2 k3).d,(rS b s k2 k3).e,(rS b s k2 k3).f,(rS b s k2 k3).g,(rS b s k2 k3).h]:List UInt32).getD k4 0))) (by kernel_rfl) (congrArg (Value.int .u32) (u32_add _ _))
         refine q_lrun (d:=198) (Value.pointer (some ⟨bh,0,none⟩)) hF709 ?_
         intro a710 hF711
         refine q_lval 199 (Op.indexAddr 138 (Operand.tmp 198) (Operand.tmp 190)) (Value.pointer (some ⟨bh,k4,none⟩)) hF711 (fun w9 ⟨s9,hw9⟩=>(exec_indexP1 (N:=8) (by kernel_rfl) (kd:=.i64) k4 (by kernel_rfl) (by omega) U138 L137.s)) ?_
         intro a712 hF713
         have hj719:k4<(addTo ([s.a,s.b,s.c,s.d,s.e,s.f,s.g,s.h]:List UInt32) ([(rS b s k2 k3).a,(rS b s k2 k3).b,(rS b s k2 k3).c,(rS b s k2 k3).d,(rS b s k2 k3).e,(rS b s k2 k3).f,(rS b s k2 k3).g,(rS b s k2 k3).h]:List UInt32) (k4)).length:=(by first | omega | (simp only[List.length_append,List.length_cons,List.length_nil,List.length_map,schedTo_len,addTo_len,kTab_len,List.length_set,List.length_replicate];omega) | simp)
         refine l_last (q_storeA wv (Operand.tmp 199) (Operand.tmp 197) hF713 h695 k4 hj719 (((addTo ([s.a,s.b,s.c,s.d,s.e,s.f,s.g,s.h]:List UInt32) ([(rS b s k2 k3).a,(rS b s k2 k3).b,(rS b s k2 k3).c,(rS b s k2 k3).d,(rS b s k2 k3).e,(rS b s k2 k3).f,(rS b s k2 k3).g,(rS b s k2 k3).h]:List UInt32) (k4)).getD k4 0)+(([(rS b s k2 k3).a,(rS b s k2 k3).b,(rS b s k2 k3).c,(rS b s k2 k3).d,(rS b s k2 k3).e,(rS b s k2 k3).f,(rS b s k2 k3).g,(rS b s k2 k3).h]:List UInt32).getD k4 0)) L137 ?_)
         intro a714 w715 st716 hB717 hF718
         have hS720:=hS686.trans st716 (fun b _ e=>e.elim id id)
         refine q_reg ?_
         refine q_one 200 (v0:=(Value.int .i64 (IntKind.i64.wrap (((k4:Nat):Int)+((1:Nat):Int))))) (v:=(Value.int .i64 ((k4+1:Nat):Int))) (congrArg (Value.int .i64) (i64_eq (by omega) (by omega) (by omega))) hF718 fun a721 hF722=>?_
         refine q_run 1 [(186,(Value.int .i64 ((k4+1:Nat):Int)))] hF722 fun a723 hF724=>?_
         refine q_end ?_
         have h725:=(h703.step st716 (fun e=>absurd e (by omega)))
         have hF726:=hF724.keep [0,11,186] [(0,(Value.pointer (some ⟨bh,0,none⟩))),(11,(Value.pointer (some ⟨b352,0,none⟩))),(186,(Value.int .i64 ((k4+1:Nat):Int)))] (by kernel_rfl)
         exact⟨k4+1,⟨s673,hF726,hS720,h725,(by exact hB717),(by omega)⟩,by omega⟩
        ·skip
         have hc681:=of_decide_eq_false hc681
         refine q_exit 6 ?_
         simp only[Exit.then,Exit.inBlock,if_true]
         refine f_retN hF680 [] (by kernel_rfl) [] .nil _ rfl s673 hS675 ?_
         have e4:k4=8:=by omega
         have e3:k3=64:=by omega
         have e2:k2=64:=by omega
         subst e4 e3 e2
         exact⟨rfl,h678⟩
end Go.Proofs.YtkpnjjacbhicgaaDoor.E
set_option linter.unusedVariables false
set_option linter.unusedSimpArgs false
set_option maxRecDepth 100000
set_option maxHeartbeats 2000000
namespace Go.Proofs.YtkpnjjacbhicgaaDoor.E
open Go Go.RowKit
open Go.Proofs
theorem sum_calls (σ:Nat→Nat) (w:World) {v0:Value} {ps:List (List UInt8)} (h0:Rd (tSl tU8) σ w v0 ps) (hl:ps.flatten.length≤100000) (hg:Seg σ w 1 0 (kTab.map wv)) :
  Ctr Tryd.prog 63 [v0] noM σ w (fun σ' w' v=>v=.agg ((sum256 ps.flatten).map bv).toArray):=by
 obtain⟨A0,c0,rfl,hl0⟩:=h0.form
 have hbd:ps.length≤140737488355328:=Nat.le_trans (Nat.le_mul_of_pos_right _ (by decide)) h0.bd
 have hfl:=flat_len ps
 refine ctr_enter Tryd.func63 c63 (by kernel_rfl) 71 (by kernel_rfl) (Nat.le_of_ble_eq_true (by kernel_rfl)) [(0,(Value.slice A0 ps.length c0))] (by kernel_rfl) ?_
 intro a hF1
 have hS2:=Stp.refl noM σ w
 refine q_seq ?_
 refine q_reg ?_
 refine r_at (q_new 2 (Op.alloc 80) hF1 σ ((List.replicate 32 (0:UInt8)).map bv) 80 (exec_alloc ((List.replicate 32 (0:UInt8)).map bv) (fun _=>.inl (by kernel_rfl))) ?_)
 intro a3 s4 w5 b6 hb7 st8 hB9 hF10
 have hz11:=hS2.size
 have hS12:=hS2.then st8
 refine q_end ?_
 refine q_seq ?_
 refine q_reg ?_
 refine q_run 1 [(3,(Value.slice none 0 0))] hF10 fun a13 hF14=>?_
 refine q_end ?_
 refine q_seq ?_
 refine q_seq ?_
 refine q_reg ?_
 refine q_run 3 [(13,(Value.int .i64 ((0:Nat):Int))),(12,(Value.int .i64 ((ps.length:Nat):Int))),(11,(Value.slice A0 ps.length c0))] hF14 fun a15 hF16=>?_
 refine q_end ?_
 refine q_block 0 ?_
 refine q_loop (fun(k1:Nat) a17 w18=>∃(s19:Nat→Nat) (A22:Option Addr) (cp23:Nat) (m24:Nat),Fr a17 71 [(2,(Value.pointer (some ⟨b6,0,none⟩))),(3,(Value.slice A22 m24 cp23)),(11,(Value.slice A0 ps.length c0)),(12,(Value.int .i64 ((ps.length:Nat):Int))),(13,(Value.int .i64 ((k1:Nat):Int)))]∧Stp noM σ w s19 w18∧Bx s19 w18 b6 ((List.replicate 32 (0:UInt8)).map bv) 80∧Own tU8 5 w.heap.size s19 w18 (Value.slice A22 m24 cp23) ((ps.take (k1)).flatten)∧k1≤ps.length∧¬ Value.ownBlock (Value.slice A22 m24 cp23)=some b6) (fun k1=>ps.length - k1) 0 ?_ ?_
 ·skip
  have hF27:=hF16.keep [2,3,11,12,13] [(2,(Value.pointer (some ⟨b6,0,none⟩))),(3,(Value.slice none 0 0)),(11,(Value.slice A0 ps.length c0)),(12,(Value.int .i64 ((ps.length:Nat):Int))),(13,(Value.int .i64 ((0:Nat):Int)))] (by kernel_rfl)
  exact⟨s4,none,0,0,hF27,hS12,hB9,(Own.nil _ _ _ _ _),(by omega),(fun e=>by simp[Value.ownBlock] at e)⟩
 ·rintro k1 a17 w18 ⟨s19,A22,cp23,m24,hF20,hS21,h28,hO29,hk1,ne26⟩
  have hln30:=hO29.ln
  refine q_seq ?_
  refine q_reg ?_
  refine q_one 14 (congrArg Value.bool (cmp_nat_lss (k1) (ps.length))) hF20 fun a31 hF32=>?_
  refine q_end ?_
  refine q_seq ?_
  refine q_cond 14 hF32 (decide ((k1:Nat)<ps.length)) (fun hc33=>?_) (fun hc33=>?_)
  ·skip
   have hc33:=of_decide_eq_true hc33
   refine q_skip ?_
   refine q_seq ?_
   refine q_block 1 ?_
   refine q_seq ?_
   refine q_reg ?_
   have h34:=h0.step hS21
   have hi41:k1<(ps).length:=(by have hq:=h34.ln;first | omega | (simp only[List.length_append,List.length_cons,List.length_nil,List.length_map,outTo_len,List.length_set,List.length_replicate,eight_len,eightTo_len] at *;omega))
   obtain⟨b35,o36,c37,he38,hs39,hr40⟩:=(h34).at k1 hi41
   obtain⟨o42,ho42⟩:∃ o,o=o36+k1*1:=⟨_,rfl⟩
   obtain⟨v43,rfl,hr44⟩:=hr40
   obtain⟨A45,m48,c46,rfl,hl47⟩:=hr44.formL
   have hbd49:((ps[k1]'hi41)).length≤140737488355328:=Nat.le_trans (Nat.le_mul_of_pos_right _ (by decide)) hr44.bd
   have hs39:Seg s19 w18 b35 o42 [(Value.slice A45 m48 c46)]:=by rw[ho42];exact hs39
   refine r_at (q_val 15 (Op.indexAddr 29 (Operand.tmp 11) (Operand.tmp 13)) hF32 (Value.pointer (some ⟨b35,o42,none⟩)) (by rw[ho42];exact exec_index (len:=ps.length) (cap:=c0) he38 (by kernel_rfl) (kd:=.i64) k1 (by kernel_rfl) (by have:=h34.ln;omega) 1 U29 L23.s) ?_)
   intro a50 hF51
   refine r_at (q_loadS 16 (Operand.tmp 15) L23 hF51 hs39 0 fun a52 hF53=>?_)
   refine q_run 1 [(5,(Value.slice A45 m48 c46))] hF53 fun a54 hF55=>?_
   refine q_end ?_
   refine q_reg ?_
   refine q_run 2 [(18,(Value.slice A45 m48 c46)),(17,(Value.slice A22 m24 cp23))] hF55 fun a56 hF57=>?_
   have hz67:=hS21.size
   have hb66:((ps.take (k1)).flatten).length+((ps[k1]'hi41):List _).length≤1000000:=(by have h8:=hfl k1;have h9:=flat_len2 (l:=ps) (k:=k1) (by omega);omega)
   refine r_at (q_app tU8 S23 19 (Operand.tmp 17) (Operand.tmp 18) hF57 hO29 hr44 (app_small hb66 (by decide)) (by omega) hz67 ?_)
   intro a58 s59 w60 v61 st62 hO63 hn64 hF65
   obtain⟨A70,m73,c71,rfl,hl72⟩:=hO63.formL
   have hS74:=hS21.and st62 (fun b e=>hO29.ge e)
   have ne76:¬ Value.ownBlock (Value.slice A70 m73 c71)=some b6:=fun e=>ne26 (hn64 _ h28.lt e)
   refine q_run 1 [(3,(Value.slice A70 m73 c71))] hF65 fun a77 hF78=>?_
   refine q_end ?_
   refine q_reg ?_
   refine q_one 20 (v0:=(Value.int .i64 (IntKind.i64.wrap (((k1:Nat):Int)+((1:Nat):Int))))) (v:=(Value.int .i64 ((k1+1:Nat):Int))) (congrArg (Value.int .i64) (i64_eq (by omega) (by omega) (by omega))) hF78 fun a79 hF80=>?_
   refine q_run 1 [(13,(Value.int .i64 ((k1+1:Nat):Int)))] hF80 fun a81 hF82=>?_
   refine q_end ?_
   have h83:=(h28.step st62 (fun e=>ne26 e))
   have hF84:=hF82.keep [2,3,11,12,13] [(2,(Value.pointer (some ⟨b6,0,none⟩))),(3,(Value.slice A70 m73 c71)),(11,(Value.slice A0 ps.length c0)),(12,(Value.int .i64 ((ps.length:Nat):Int))),(13,(Value.int .i64 ((k1+1:Nat):Int)))] (by kernel_rfl)
   exact⟨k1+1,⟨s59,A70,c71,m73,hF84,hS74,h83,(hO63.cast (by first | rfl | omega | (simp only[List.length_append,List.length_cons,List.length_nil,List.length_map,outTo_len,List.length_set,List.length_replicate,eight_len,eightTo_len] at *;omega)) (by exact(flat_step (by omega)))),(by omega),ne76⟩,by omega⟩
  ·skip
   have hc33:=of_decide_eq_false hc33
   refine q_exit 0 ?_
   refine q_seq ?_
   refine q_reg ?_
   refine q_run 2 [(22,(Value.int .i64 ((m24:Nat):Int))),(21,(Value.slice A22 m24 cp23))] hF32 fun a85 hF86=>?_
   refine q_one 23 (congrArg (Value.int .u64) (i64_u64 ((m24:Nat):Int))) hF86 fun a87 hF88=>?_
   refine q_one 24 (v0:=(Value.int .u64 (IntKind.u64.wrap ((((ofI ((m24:Nat):Int))).toNat:Int)*((8:UInt64).toNat:Int))))) (v:=(uv ((ofI ((m24:Nat):Int))*8))) (congrArg (Value.int .u64) (u64_mul _ _)) hF88 fun a89 hF90=>?_
   refine q_run 1 [(6,(uv ((ofI ((m24:Nat):Int))*8)))] hF90 fun a91 hF92=>?_
   refine q_end ?_
   refine q_seq ?_
   refine q_reg ?_
   refine q_run 1 [(25,(Value.slice A22 m24 cp23))] hF92 fun a93 hF94=>?_
   refine r_at (q_lit tU8 26 23 5 1 (#[(0,(Operand.const (Value.int IntKind.u8 128)))]) hF94 s19 [128] [(bv 128)] ⟨_,_,rfl,rfl,rfl⟩ (fun o e=>by simp only[execOp,e];kernel_rfl) ?_)
   intro a95 s96 w97 g98 hg99 st100 hO101 hF102
   have hz103:=hS21.size
   have hS104:=hS21.then st100
   have hO105:Own tU8 5 w.heap.size s96 w97 (Value.slice (some ⟨g98,0,none⟩) 1 1) [128]:=(hO101.le (by omega:w.heap.size≤_))
   have ne107:=hO101.gb (by have:=h28.lt;omega:b6<_)
   have ne108:=hO101.gg hO29 (by omega)
   have h109:=(hO29.step' st100)
   have h110:=(h28.step' st100)
   have hz120:=hS104.size
   have hb119:((ps.take (k1)).flatten).length+([128]:List _).length≤1000000:=(by have h8:=hfl k1;simp only[List.length_cons,List.length_nil];omega)
   refine r_at (q_app tU8 S23 27 (Operand.tmp 25) (Operand.tmp 26) hF102 h109 hO105.rd (app_small hb119 (by decide)) (by omega) hz120 ?_)
   intro a111 s112 w113 v114 st115 hO116 hn117 hF118
   obtain⟨A123,m126,c124,rfl,hl125⟩:=hO116.formL
   have hS127:=hS104.and st115 (fun b e=>h109.ge e)
   have ne129:¬ Value.ownBlock (Value.slice A123 m126 c124)=some b6:=fun e=>ne26 (hn117 _ h110.lt e)
   refine q_run 1 [(3,(Value.slice A123 m126 c124))] hF118 fun a130 hF131=>?_
   refine q_end ?_
   refine q_seq ?_
   refine q_block 2 ?_
   have hB1:=hfl k1
   have h142:=(h110.step st115 (fun e=>ne26 e))
   refine q_loop (fun(k2:Nat) a132 w133=>∃(s134:Nat→Nat) (A137:Option Addr) (cp138:Nat) (m139:Nat),Fr a132 71 [(2,(Value.pointer (some ⟨b6,0,none⟩))),(3,(Value.slice A137 m139 cp138)),(6,(uv ((ofI ((m24:Nat):Int))*8)))]∧Stp noM σ w s134 w133∧Bx s134 w133 b6 ((List.replicate 32 (0:UInt8)).map bv) 80∧Own tU8 5 w.heap.size s134 w133 (Value.slice A137 m139 cp138) (((ps.take k1).flatten++[128])++List.replicate (k2) 0)∧k2≤padN ((ps.take k1).flatten).length∧¬ Value.ownBlock (Value.slice A137 m139 cp138)=some b6) (fun k2=>padN ((ps.take k1).flatten).length - k2) 0 ?_ ?_
   ·skip
    have hF143:=hF131.keep [2,3,6] [(2,(Value.pointer (some ⟨b6,0,none⟩))),(3,(Value.slice A123 m126 c124)),(6,(uv ((ofI ((m24:Nat):Int))*8)))] (by kernel_rfl)
    exact⟨s112,A123,c124,m126,hF143,hS127,h142,(hO116.cast (by first | rfl | omega | (simp only[List.length_append,List.length_cons,List.length_nil,List.length_map,outTo_len,List.length_set,List.length_replicate,eight_len,eightTo_len] at *;omega)) (by simp)),(Nat.zero_le _),ne129⟩
   ·rintro k2 a132 w133 ⟨s134,A137,cp138,m139,hF135,hS136,h144,hO145,hk2,ne141⟩
    have hln146:=hO145.ln
    have hlnX:=hO145.ln
    refine q_seq ?_
    refine q_seq ?_
    refine q_reg ?_
    refine q_run 2 [(29,(Value.int .i64 ((m139:Nat):Int))),(28,(Value.slice A137 m139 cp138))] hF135 fun a147 hF148=>?_
    refine q_one 30 (congrArg (Value.int .i64) (i64_remN m139 64)) hF148 fun a149 hF150=>?_
    refine q_one 31 (congrArg Value.bool (cmp_nat_neq (m139 % 64) (56))) hF150 fun a151 hF152=>?_
    refine q_end ?_
    refine q_cond 31 hF152 (!decide ((m139 % 64:Nat)=56)) (fun hc153=>?_) (fun hc153=>?_)
    ·skip
     have hc153:¬ ((m139 % 64:Nat)=56):=by simpa using hc153
     refine q_skip ?_
     refine q_block 3 ?_
     refine q_reg ?_
     refine q_run 1 [(32,(Value.slice A137 m139 cp138))] hF152 fun a154 hF155=>?_
     refine r_at (q_lit tU8 33 23 5 1 (#[(0,(Operand.const (Value.int IntKind.u8 0)))]) hF155 s134 [0] [(bv 0)] ⟨_,_,rfl,rfl,rfl⟩ (fun o e=>by simp only[execOp,e];kernel_rfl) ?_)
     intro a156 s157 w158 g159 hg160 st161 hO162 hF163
     have hz164:=hS136.size
     have hS165:=hS136.then st161
     have hO166:Own tU8 5 w.heap.size s157 w158 (Value.slice (some ⟨g159,0,none⟩) 1 1) [0]:=(hO162.le (by omega:w.heap.size≤_))
     have ne168:=hO162.gb (by have:=h144.lt;omega:b6<_)
     have ne169:=hO162.gg hO145 (by omega)
     have h170:=(hO145.step' st161)
     have h171:=(h144.step' st161)
     have hz181:=hS165.size
     have hb180:(((ps.take k1).flatten++[128])++List.replicate (k2) 0).length+([0]:List _).length≤1000000:=(by have h8:=padN_lt ((ps.take k1).flatten).length;have h7:=hfl k1;simp only[List.length_append,List.length_cons,List.length_nil,List.length_replicate,eightTo_len] at *;omega)
     refine r_at (q_app tU8 S23 34 (Operand.tmp 32) (Operand.tmp 33) hF163 h170 hO166.rd (app_small hb180 (by decide)) (by omega) hz181 ?_)
     intro a172 s173 w174 v175 st176 hO177 hn178 hF179
     obtain⟨A184,m187,c185,rfl,hl186⟩:=hO177.formL
     have hS188:=hS165.and st176 (fun b e=>h170.ge e)
     have ne190:¬ Value.ownBlock (Value.slice A184 m187 c185)=some b6:=fun e=>ne141 (hn178 _ h171.lt e)
     refine q_run 1 [(3,(Value.slice A184 m187 c185))] hF179 fun a191 hF192=>?_
     refine q_end ?_
     have h193:=(h171.step st176 (fun e=>ne141 e))
     have hF194:=hF192.keep [2,3,6] [(2,(Value.pointer (some ⟨b6,0,none⟩))),(3,(Value.slice A184 m187 c185)),(6,(uv ((ofI ((m24:Nat):Int))*8)))] (by kernel_rfl)
     exact⟨k2+1,⟨s173,A184,c185,m187,hF194,hS188,h193,(hO177.cast (by first | rfl | omega | (simp only[List.length_append,List.length_cons,List.length_nil,List.length_map,outTo_len,List.length_set,List.length_replicate,eight_len,eightTo_len] at *;omega)) (by exact(rep_step _ _))),(s2_lt hk2 hlnX hc153),ne190⟩,(by have:=s2_lt hk2 hlnX hc153;omega)⟩
    ·skip
     have hc153:((m139 % 64:Nat)=56):=by simpa using hc153
     refine q_exit 2 ?_
     refine q_seq ?_
     refine q_seq ?_
     refine q_reg ?_
     refine q_run 1 [(7,(Value.int .i64 ((56:Nat):Int)))] hF152 fun a195 hF196=>?_
     refine q_end ?_
     refine q_block 4 ?_
     refine q_loop (fun(k3:Nat) a197 w198=>∃(s199:Nat→Nat) (A202:Option Addr) (cp203:Nat) (m204:Nat),Fr a197 71 [(2,(Value.pointer (some ⟨b6,0,none⟩))),(3,(Value.slice A202 m204 cp203)),(6,(uv ((ofI ((m24:Nat):Int))*8))),(7,(Value.int .i64 (56 - 8*((k3:Nat):Int))))]∧Stp noM σ w s199 w198∧Bx s199 w198 b6 ((List.replicate 32 (0:UInt8)).map bv) 80∧Own tU8 5 w.heap.size s199 w198 (Value.slice A202 m204 cp203) ((((ps.take k1).flatten++[128])++List.replicate k2 0)++eightTo ((ofI ((m24:Nat):Int))*8) (k3))∧k3≤8∧¬ Value.ownBlock (Value.slice A202 m204 cp203)=some b6) (fun k3=>8 - k3) 0 ?_ ?_
     ·skip
      have hF207:=hF196.set 7 (Value.int .i64 ((56:Nat):Int)) (Value.int .i64 (56 - 8*((0:Nat):Int))) (by kernel_rfl) (congrArg (Value.int .i64) (by omega))
      have hF208:=hF207.keep [2,3,6,7] [(2,(Value.pointer (some ⟨b6,0,none⟩))),(3,(Value.slice A137 m139 cp138)),(6,(uv ((ofI ((m24:Nat):Int))*8))),(7,(Value.int .i64 (56 - 8*((0:Nat):Int))))] (by kernel_rfl)
      exact⟨s134,A137,cp138,m139,hF208,hS136,h144,(hO145.cast (by first | rfl | omega | (simp only[List.length_append,List.length_cons,List.length_nil,List.length_map,outTo_len,List.length_set,List.length_replicate,eight_len,eightTo_len] at *;omega)) (by simp[eightTo])),(by omega),ne141⟩
     ·rintro k3 a197 w198 ⟨s199,A202,cp203,m204,hF200,hS201,h209,hO210,hk3,ne206⟩
      have hln211:=hO210.ln
      refine q_seq ?_
      refine q_seq ?_
      refine q_reg ?_
      refine q_run 1 [(35,(Value.int .i64 (56 - 8*((k3:Nat):Int))))] hF200 fun a212 hF213=>?_
      refine q_one 36 (congrArg Value.bool (cmp_int_geq ((56 - 8*((k3:Nat):Int):Int)) (((0:Nat):Int)))) hF213 fun a214 hF215=>?_
      refine q_end ?_
      refine q_cond 36 hF215 (decide ((56 - 8*((k3:Nat):Int):Int)≥((0:Nat):Int))) (fun hc216=>?_) (fun hc216=>?_)
      ·skip
       have hc216:=of_decide_eq_true hc216
       refine q_skip ?_
       refine q_seq ?_
       refine q_block 5 ?_
       refine q_reg ?_
       refine q_run 3 [(41,(Value.int .i64 (56 - 8*((k3:Nat):Int)))),(40,(uv ((ofI ((m24:Nat):Int))*8))),(39,(Value.slice A202 m204 cp203))] hF215 fun a217 hF218=>?_
       refine r_at (q_val 42 (Op.binOp BinOp.shr 53 (Operand.tmp 40) (Operand.tmp 41) 3) hF218 (uv (((ofI ((m24:Nat):Int))*8) >>> (56 - 8*(k3)).toUInt64)) (exec_shr (n:=(ofI ((m24:Nat):Int))*8) (k:=.i64) (s:=(56 - 8*((k3:Nat):Int):Int)) (by kernel_rfl) (by kernel_rfl) (by omega) (by omega) (56 - 8*(k3)) (by omega)) ?_)
       intro a219 hF220
       refine q_one 43 (congrArg (Value.int .u8) (u64_u8 (((ofI ((m24:Nat):Int))*8) >>> (56 - 8*(k3)).toUInt64))) hF220 fun a221 hF222=>?_
       refine r_at (q_lit tU8 44 23 5 1 (#[(0,(Operand.tmp 43))]) hF222 s199 [(((ofI ((m24:Nat):Int))*8) >>> (56 - 8*(k3)).toUInt64).toUInt8] [(bv ((((ofI ((m24:Nat):Int))*8) >>> (56 - 8*(k3)).toUInt64).toUInt8))] ⟨_,_,rfl,rfl,rfl⟩ (fun o e=>by simp only[execOp,e];kernel_rfl) ?_)
       intro a223 s224 w225 g226 hg227 st228 hO229 hF230
       have hz231:=hS201.size
       have hS232:=hS201.then st228
       have hO233:Own tU8 5 w.heap.size s224 w225 (Value.slice (some ⟨g226,0,none⟩) 1 1) [(((ofI ((m24:Nat):Int))*8) >>> (56 - 8*(k3)).toUInt64).toUInt8]:=(hO229.le (by omega:w.heap.size≤_))
       have ne235:=hO229.gb (by have:=h209.lt;omega:b6<_)
       have ne236:=hO229.gg hO210 (by omega)
       have h237:=(hO210.step' st228)
       have h238:=(h209.step' st228)
       have hz248:=hS232.size
       have hb247:((((ps.take k1).flatten++[128])++List.replicate k2 0)++eightTo ((ofI ((m24:Nat):Int))*8) (k3)).length+([(((ofI ((m24:Nat):Int))*8) >>> (56 - 8*(k3)).toUInt64).toUInt8]:List _).length≤1000000:=(by have h8:=padN_lt ((ps.take k1).flatten).length;have h7:=hfl k1;simp only[List.length_append,List.length_cons,List.length_nil,List.length_replicate,eightTo_len] at *;omega)
       refine r_at (q_app tU8 S23 45 (Operand.tmp 39) (Operand.tmp 44) hF230 h237 hO233.rd (app_small hb247 (by decide)) (by omega) hz248 ?_)
       intro a239 s240 w241 v242 st243 hO244 hn245 hF246
       obtain⟨A251,m254,c252,rfl,hl253⟩:=hO244.formL
       have hS255:=hS232.and st243 (fun b e=>h237.ge e)
       have ne257:¬ Value.ownBlock (Value.slice A251 m254 c252)=some b6:=fun e=>ne206 (hn245 _ h238.lt e)
       refine q_run 1 [(3,(Value.slice A251 m254 c252))] hF246 fun a258 hF259=>?_
       refine q_end ?_
       refine q_reg ?_
       refine q_run 1 [(37,(Value.int .i64 (56 - 8*((k3:Nat):Int))))] hF259 fun a260 hF261=>?_
       refine q_one 38 (v0:=(Value.int .i64 (IntKind.i64.wrap ((56 - 8*((k3:Nat):Int):Int) - ((8:Nat):Int))))) (v:=(Value.int .i64 ((56 - 8*((k3:Nat):Int):Int) - ((8:Nat):Int)))) (congrArg (Value.int .i64) (i64_eq (by omega) (by omega) (by omega))) hF261 fun a262 hF263=>?_
       refine q_run 1 [(7,(Value.int .i64 ((56 - 8*((k3:Nat):Int):Int) - ((8:Nat):Int))))] hF263 fun a264 hF265=>?_
       refine q_end ?_
       have h266:=(h238.step st243 (fun e=>ne206 e))
       have hF267:=hF265.set 7 (Value.int .i64 ((56 - 8*((k3:Nat):Int):Int) - ((8:Nat):Int))) (Value.int .i64 (56 - 8*((k3+1:Nat):Int))) (by kernel_rfl) (congrArg (Value.int .i64) (by omega))
       have hF268:=hF267.keep [2,3,6,7] [(2,(Value.pointer (some ⟨b6,0,none⟩))),(3,(Value.slice A251 m254 c252)),(6,(uv ((ofI ((m24:Nat):Int))*8))),(7,(Value.int .i64 (56 - 8*((k3+1:Nat):Int))))] (by kernel_rfl)
       exact⟨k3+1,⟨s240,A251,c252,m254,hF268,hS255,h266,(hO244.cast (by first | rfl | omega | (simp only[List.length_append,List.length_cons,List.length_nil,List.length_map,outTo_len,List.length_set,List.length_replicate,eight_len,eightTo_len] at *;omega)) (by exact(e3_step (((ps.take k1).flatten++[128])++List.replicate k2 0) ((ofI ((m24:Nat):Int))*8) k3))),(by omega),ne257⟩,by omega⟩
      ·skip
       have hc216:=of_decide_eq_false hc216
       refine q_exit 4 ?_
       refine q_seq ?_
       refine q_reg ?_
       refine q_run 1 [(46,(Value.agg (([1779033703,3144134277,1013904242,2773480762,1359893119,2600822924,528734635,1541459225]:List UInt32).map wv).toArray))] hF215 fun a269 hF270=>?_
       refine r_at (q_new 8 (Op.alloc 138) hF270 s199 (([0,0,0,0,0,0,0,0]:List UInt32).map wv) 138 (exec_alloc (([0,0,0,0,0,0,0,0]:List UInt32).map wv) (fun _=>.inl (by kernel_rfl))) ?_)
       intro a271 s272 w273 b274 hb275 st276 hB277 hF278
       have hz279:=hS201.size
       have ne280:=h209.nl hb275
       have ne281:=hO210.nb hb275
       have hS282:=hS201.then st276
       refine r_at (q_store (Operand.tmp 8) (Operand.tmp 46) hF278 hB277 0 (([1779033703,3144134277,1013904242,2773480762,1359893119,2600822924,528734635,1541459225]:List UInt32).map wv) 8 L138 ?_)
       intro a283 w284 st285 hB286 hF287
       have hS288:=hS282.and st285 (fun b e=>by subst e;omega)
       refine q_end ?_
       refine q_seq ?_
       refine q_block 6 ?_
       have hk3e:k3=8:=by omega
       have hk2e:=s2_eq hk2 hlnX (by simpa using hc153)
       have h289:=((hO210.step' st276).step st285 (fun g hg e=>ne281 (by subst e;exact hg)))
       obtain⟨Mg,hMg⟩:∃ Mg:List UInt8,Mg=((((ps.take k1).flatten++[128])++List.replicate k2 0)++eightTo ((ofI ((m24:Nat):Int))*8) k3):=⟨_,rfl⟩
       have hoM:=h289.rd
       rw[← hMg] at hoM
       have hlnM:=hoM.ln
       have hmod:Mg.length % 64=0:=by rw[hMg,List.length_append,s2_len,eightTo_len];have:=pad_end ((ps.take k1).flatten).length;rw[← hk2e] at this;omega
       have h295:=((h209.step' st276).step st285 (fun e=>absurd e (by omega)))
       refine q_loop (fun(k4:Nat) a290 w291=>∃(s292:Nat→Nat) (A9:Option Addr) (c9:Nat) (n9:Nat),Fr a290 71 [(2,(Value.pointer (some ⟨b6,0,none⟩))),(3,(Value.slice A9 n9 c9)),(8,(Value.pointer (some ⟨b274,0,none⟩)))]∧Stp noM σ w s292 w291∧Bx s292 w291 b6 ((List.replicate 32 (0:UInt8)).map bv) 80∧Rd tU8 s292 w291 (Value.slice A9 n9 c9) (Mg.drop (64*(k4)))∧Bx s292 w291 b274 (([(blocksTo Mg (k4)).a,(blocksTo Mg (k4)).b,(blocksTo Mg (k4)).c,(blocksTo Mg (k4)).d,(blocksTo Mg (k4)).e,(blocksTo Mg (k4)).f,(blocksTo Mg (k4)).g,(blocksTo Mg (k4)).h]:List UInt32).map wv) 138∧n9=Mg.length - 64*(k4)∧64*(k4)≤Mg.length) (fun k4=>Mg.length - 64*k4) 0 ?_ ?_
       ·skip
        have hF296:=hF287.keep [2,3,8] [(2,(Value.pointer (some ⟨b6,0,none⟩))),(3,(Value.slice A202 m204 cp203)),(8,(Value.pointer (some ⟨b274,0,none⟩)))] (by kernel_rfl)
        exact⟨s272,A202,cp203,m204,hF296,hS288,h295,(by rw[Nat.mul_zero,List.drop_zero];exact hoM),hB286,(by omega),(by omega)⟩
       ·rintro k4 a290 w291 ⟨s292,A9,c9,n9,hF293,hS294,h297,h298,h299,hn9,hk4⟩
        refine q_seq ?_
        refine q_seq ?_
        refine q_reg ?_
        refine q_run 2 [(48,(Value.int .i64 ((n9:Nat):Int))),(47,(Value.slice A9 n9 c9))] hF293 fun a300 hF301=>?_
        refine q_one 49 (congrArg Value.bool (cmp_nat_gtr (n9) (0))) hF301 fun a302 hF303=>?_
        refine q_end ?_
        refine q_cond 49 hF303 (decide ((n9:Nat)>0)) (fun hc304=>?_) (fun hc304=>?_)
        ·skip
         have hc304:=of_decide_eq_true hc304
         refine q_skip ?_
         refine q_seq ?_
         refine q_block 7 ?_
         refine q_reg ?_
         refine q_run 1 [(52,(Value.slice A9 n9 c9))] hF303 fun a305 hF306=>?_
         have h307:=hg.step hS294
         refine r_at (q_call (some 53) (#[(Operand.tmp 8),(Operand.tmp 52)]) (#[140,23]) hF306 C69 [(Value.pointer (some ⟨b274,0,none⟩)),(Value.slice A9 n9 c9)] (block_calls s292 w291  (s:=(blocksTo Mg (k4))) h299 h298 (by rw[List.length_drop];omega) h307) ?_)
         intro a308 s309 w310 v311 st312 hP313 hF314
         have hz315:=hS294.size
         have hS316:=hS294.and st312 (fun b e=>by subst e;omega)
         obtain⟨_,hB317⟩:=hP313
         refine q_end ?_
         refine q_reg ?_
         refine q_run 1 [(50,(Value.slice A9 n9 c9))] hF314 fun a318 hF319=>?_
         have h320:=(h298.step st312)
         have hpq321:64≤((Mg.drop (64*(k4))).length):=(by have hq:=h320.ln;first | omega | (simp only[List.length_append,List.length_cons,List.length_nil,List.length_map,outTo_len,List.length_set,List.length_replicate,eight_len,eightTo_len] at *;omega))
         have hq322:((Mg.drop (64*(k4))).length)≤(Mg.drop (64*(k4))).length:=(by have hq:=h320.ln;first | omega | (simp only[List.length_append,List.length_cons,List.length_nil,List.length_map,outTo_len,List.length_set,List.length_replicate,eight_len,eightTo_len] at *;omega))
         have hr323:=Rd.cut h320 64 ((Mg.drop (64*(k4))).length) hpq321 hq322 c9 (by have:=h320.form;obtain⟨_,_,e,h⟩:=this;injection e with _ _ e;omega) (Nat.le_refl _)
         obtain⟨A324,hA326⟩:∃ A,A=(if c9=64 then A9 else A9.map (·.add (64*1))):=⟨_,rfl⟩
         obtain⟨c325,hc327⟩:∃ c,c=c9 - 64:=⟨_,rfl⟩
         have hr323:Rd tU8 s309 w310 (Value.slice A324 (((Mg.drop (64*(k4))).length) - 64) c325) (((Mg.drop (64*(k4))).take ((Mg.drop (64*(k4))).length)).drop 64):=by rw[hA326,hc327];exact hr323
         refine r_at (q_val 51 (Op.slice 23 (Operand.tmp 50) (some (Operand.const (Value.int IntKind.i64 64))) none none) hF319 (Value.slice A324 (((Mg.drop (64*(k4))).length) - 64) c325) (by rw[hA326,hc327];exact exec_slice (T:=tU8) h320 (by kernel_rfl) U23 L5.s 64 ((Mg.drop (64*(k4))).length) (.inl rfl) (.inr ⟨rfl,rfl⟩) hpq321 hq322) ?_)
         intro a328 hF329
         refine q_run 1 [(3,(Value.slice A324 (((Mg.drop (64*(k4))).length) - 64) c325))] hF329 fun a330 hF331=>?_
         refine q_end ?_
         have h332:=(h297.step st312 (fun e=>absurd e (by omega)))
         have hF333:=hF331.keep [2,3,8] [(2,(Value.pointer (some ⟨b6,0,none⟩))),(3,(Value.slice A324 (((Mg.drop (64*(k4))).length) - 64) c325)),(8,(Value.pointer (some ⟨b274,0,none⟩)))] (by kernel_rfl)
         exact⟨k4+1,⟨s309,A324,c325,((Mg.drop (64*(k4))).length) - 64,hF333,hS316,h332,(by rw[← drop_step _ k4 _ (List.length_drop ..)];exact hr323),hB317,(by rw[List.length_drop];omega),(by omega)⟩,(by omega)⟩
        ·skip
         have hc304:=of_decide_eq_false hc304
         refine q_exit 6 ?_
         refine q_seq ?_
         refine q_reg ?_
         refine r_at (q_new 9 (Op.alloc 80) hF303 s292 ((List.replicate 32 (0:UInt8)).map bv) 80 (exec_alloc ((List.replicate 32 (0:UInt8)).map bv) (fun _=>.inl (by kernel_rfl))) ?_)
         intro a334 s335 w336 b337 hb338 st339 hB340 hF341
         have hz342:=hS294.size
         have ne343:=h297.nl hb338
         have ne344:=h299.nl hb338
         have hS345:=hS294.then st339
         refine q_end ?_
         refine q_seq ?_
         refine q_seq ?_
         refine q_reg ?_
         refine q_run 1 [(54,(Value.int .i64 ((0:Nat):Int)))] hF341 fun a346 hF347=>?_
         refine q_end ?_
         refine q_block 8 ?_
         have h353:=(h297.step' st339)
         have h354:=(h299.step' st339)
         refine q_loop (fun(k5:Nat) a348 w349=>∃(s350:Nat→Nat),Fr a348 71 [(2,(Value.pointer (some ⟨b6,0,none⟩))),(8,(Value.pointer (some ⟨b274,0,none⟩))),(9,(Value.pointer (some ⟨b337,0,none⟩))),(54,(Value.int .i64 ((k5:Nat):Int)))]∧Stp noM σ w s350 w349∧Bx s350 w349 b6 ((List.replicate 32 (0:UInt8)).map bv) 80∧Bx s350 w349 b274 (([(blocksTo Mg (k4)).a,(blocksTo Mg (k4)).b,(blocksTo Mg (k4)).c,(blocksTo Mg (k4)).d,(blocksTo Mg (k4)).e,(blocksTo Mg (k4)).f,(blocksTo Mg (k4)).g,(blocksTo Mg (k4)).h]:List UInt32).map wv) 138∧Bx s350 w349 b337 ((outTo ([(blocksTo Mg k4).a,(blocksTo Mg k4).b,(blocksTo Mg k4).c,(blocksTo Mg k4).d,(blocksTo Mg k4).e,(blocksTo Mg k4).f,(blocksTo Mg k4).g,(blocksTo Mg k4).h]:List UInt32) (k5)).map bv) 80∧k5≤32) (fun k5=>32 - k5) 0 ?_ ?_
         ·skip
          have hF355:=hF347.keep [2,8,9,54] [(2,(Value.pointer (some ⟨b6,0,none⟩))),(8,(Value.pointer (some ⟨b274,0,none⟩))),(9,(Value.pointer (some ⟨b337,0,none⟩))),(54,(Value.int .i64 ((0:Nat):Int)))] (by kernel_rfl)
          exact⟨s335,hF355,hS345,h353,h354,hB340,(by omega)⟩
         ·rintro k5 a348 w349 ⟨s350,hF351,hS352,h356,h357,h358,hk5⟩
          refine q_seq ?_
          refine q_reg ?_
          refine q_one 55 (congrArg Value.bool (cmp_nat_lss (k5) (32))) hF351 fun a359 hF360=>?_
          refine q_end ?_
          refine q_seq ?_
          refine q_cond 55 hF360 (decide ((k5:Nat)<32)) (fun hc361=>?_) (fun hc361=>?_)
          ·skip
           have hc361:=of_decide_eq_true hc361
           refine q_skip ?_
           refine q_seq ?_
           refine q_block 9 ?_
           refine q_seq ?_
           refine q_reg ?_
           refine q_run 2 [(10,(Value.int .i64 ((k5:Nat):Int))),(56,(Value.int .i64 ((k5:Nat):Int)))] hF360 fun a362 hF363=>?_
           refine q_end ?_
           refine q_reg ?_
           refine q_run 2 [(58,(Value.int .i64 ((k5:Nat):Int))),(57,(Value.int .i64 ((k5:Nat):Int)))] hF363 fun a364 hF365=>?_
           refine q_one 59 (congrArg (Value.int .i64) (i64_quoN k5 4 (by omega))) hF365 fun a366 hF367=>?_
           refine r_at (q_val 60 (Op.indexAddr 138 (Operand.tmp 8) (Operand.tmp 59)) hF367 (Value.pointer (some ⟨b274,k5 / 4,none⟩)) (exec_indexP1 (N:=8) (by kernel_rfl) (kd:=.i64) (k5 / 4) (by kernel_rfl) (by omega) U138 L137.s) ?_)
           intro a368 hF369
           have hj370:k5 / 4<(([(blocksTo Mg (k4)).a,(blocksTo Mg (k4)).b,(blocksTo Mg (k4)).c,(blocksTo Mg (k4)).d,(blocksTo Mg (k4)).e,(blocksTo Mg (k4)).f,(blocksTo Mg (k4)).g,(blocksTo Mg (k4)).h]:List UInt32)).length:=(by first | omega | (simp only[List.length_append,List.length_cons,List.length_nil,List.length_map,outTo_len,List.length_set,List.length_replicate,eight_len,eightTo_len];omega) | simp)
           refine r_at (q_val 61 (Op.load 137 (Operand.tmp 60)) hF369 (wv (([(blocksTo Mg (k4)).a,(blocksTo Mg (k4)).b,(blocksTo Mg (k4)).c,(blocksTo Mg (k4)).d,(blocksTo Mg (k4)).e,(blocksTo Mg (k4)).f,(blocksTo Mg (k4)).g,(blocksTo Mg (k4)).h]:List UInt32).getD (k5 / 4) 0)) (exec_load (cs:=[wv (([(blocksTo Mg (k4)).a,(blocksTo Mg (k4)).b,(blocksTo Mg (k4)).c,(blocksTo Mg (k4)).d,(blocksTo Mg (k4)).e,(blocksTo Mg (k4)).f,(blocksTo Mg (k4)).g,(blocksTo Mg (k4)).h]:List UInt32).getD (k5 / 4) 0)]) L137 (.inr rfl) (by kernel_rfl) (Bx.elemG h357 (0:UInt32) (k5 / 4) hj370)) ?_)
           intro a371 hF372
           refine q_run 1 [(62,(Value.int .i64 ((k5:Nat):Int)))] hF372 fun a373 hF374=>?_
           refine q_one 63 (congrArg (Value.int .i64) (i64_remN k5 4)) hF374 fun a375 hF376=>?_
           refine q_one 64 (v0:=(Value.int .i64 (IntKind.i64.wrap (((k5 % 4:Nat):Int)*((8:Nat):Int))))) (v:=(Value.int .i64 (((k5 % 4)*8:Nat):Int))) (congrArg (Value.int .i64) (i64_eq (by omega) (by omega) (by omega))) hF376 fun a377 hF378=>?_
           refine q_one 65 (v0:=(Value.int .i64 (IntKind.i64.wrap (((24:Nat):Int) - (((k5 % 4)*8:Nat):Int))))) (v:=(Value.int .i64 ((24 - ((k5 % 4)*8):Nat):Int))) (congrArg (Value.int .i64) (i64_eq (by omega) (by omega) (by omega))) hF378 fun a379 hF380=>?_
           refine r_at (q_val 66 (Op.binOp BinOp.shr 137 (Operand.tmp 61) (Operand.tmp 65) 3) hF380 (wv ((([(blocksTo Mg (k4)).a,(blocksTo Mg (k4)).b,(blocksTo Mg (k4)).c,(blocksTo Mg (k4)).d,(blocksTo Mg (k4)).e,(blocksTo Mg (k4)).f,(blocksTo Mg (k4)).g,(blocksTo Mg (k4)).h]:List UInt32).getD (k5 / 4) 0) >>> (24 - ((k5 % 4)*8)).toUInt32)) (exec_shr32 (n:=([(blocksTo Mg (k4)).a,(blocksTo Mg (k4)).b,(blocksTo Mg (k4)).c,(blocksTo Mg (k4)).d,(blocksTo Mg (k4)).e,(blocksTo Mg (k4)).f,(blocksTo Mg (k4)).g,(blocksTo Mg (k4)).h]:List UInt32).getD (k5 / 4) 0) (k:=.i64) (s:=((24 - ((k5 % 4)*8):Nat):Int)) (by kernel_rfl) (by kernel_rfl) (by omega) (by omega) (24 - ((k5 % 4)*8)) rfl) ?_)
           intro a381 hF382
           refine q_one 67 (congrArg (Value.int .u8) (u32_u8 ((([(blocksTo Mg (k4)).a,(blocksTo Mg (k4)).b,(blocksTo Mg (k4)).c,(blocksTo Mg (k4)).d,(blocksTo Mg (k4)).e,(blocksTo Mg (k4)).f,(blocksTo Mg (k4)).g,(blocksTo Mg (k4)).h]:List UInt32).getD (k5 / 4) 0) >>> (24 - ((k5 % 4)*8)).toUInt32))) hF382 fun a383 hF384=>?_
           refine r_at (q_val 68 (Op.indexAddr 80 (Operand.tmp 9) (Operand.tmp 57)) hF384 (Value.pointer (some ⟨b337,k5,none⟩)) (exec_indexP1 (N:=32) (by kernel_rfl) (kd:=.i64) k5 (by kernel_rfl) (by omega) U80 L5.s) ?_)
           intro a385 hF386
           have hj392:k5<(outTo ([(blocksTo Mg k4).a,(blocksTo Mg k4).b,(blocksTo Mg k4).c,(blocksTo Mg k4).d,(blocksTo Mg k4).e,(blocksTo Mg k4).f,(blocksTo Mg k4).g,(blocksTo Mg k4).h]:List UInt32) (k5)).length:=(by first | omega | (simp only[List.length_append,List.length_cons,List.length_nil,List.length_map,outTo_len,List.length_set,List.length_replicate,eight_len,eightTo_len];omega) | simp)
           refine r_at (q_storeA bv (Operand.tmp 68) (Operand.tmp 67) hF386 h358 k5 hj392 (((([(blocksTo Mg (k4)).a,(blocksTo Mg (k4)).b,(blocksTo Mg (k4)).c,(blocksTo Mg (k4)).d,(blocksTo Mg (k4)).e,(blocksTo Mg (k4)).f,(blocksTo Mg (k4)).g,(blocksTo Mg (k4)).h]:List UInt32).getD (k5 / 4) 0) >>> (24 - ((k5 % 4)*8)).toUInt32).toUInt8) L5 ?_)
           intro a387 w388 st389 hB390 hF391
           have hS393:=hS352.and st389 (fun b e=>by subst e;omega)
           refine q_end ?_
           refine q_reg ?_
           refine q_one 69 (v0:=(Value.int .i64 (IntKind.i64.wrap (((k5:Nat):Int)+((1:Nat):Int))))) (v:=(Value.int .i64 ((k5+1:Nat):Int))) (congrArg (Value.int .i64) (i64_eq (by omega) (by omega) (by omega))) hF391 fun a394 hF395=>?_
           refine q_run 1 [(54,(Value.int .i64 ((k5+1:Nat):Int)))] hF395 fun a396 hF397=>?_
           refine q_end ?_
           have h398:=(h356.step st389 (fun e=>absurd e (by omega)))
           have h399:=(h357.step st389 (fun e=>absurd e (by omega)))
           have hF400:=hF397.keep [2,8,9,54] [(2,(Value.pointer (some ⟨b6,0,none⟩))),(8,(Value.pointer (some ⟨b274,0,none⟩))),(9,(Value.pointer (some ⟨b337,0,none⟩))),(54,(Value.int .i64 ((k5+1:Nat):Int)))] (by kernel_rfl)
           exact⟨k5+1,⟨s350,hF400,hS393,h398,h399,hB390,(by omega)⟩,by omega⟩
          ·skip
           have hc361:=of_decide_eq_false hc361
           refine q_exit 8 ?_
           refine q_seq ?_
           refine q_reg ?_
           refine r_at (q_val 70 (Op.load 80 (Operand.tmp 9)) hF360 (Value.agg ((outTo ([(blocksTo Mg k4).a,(blocksTo Mg k4).b,(blocksTo Mg k4).c,(blocksTo Mg k4).d,(blocksTo Mg k4).e,(blocksTo Mg k4).f,(blocksTo Mg k4).g,(blocksTo Mg k4).h]:List UInt32) (k5)).map bv).toArray) (exec_loadAll bv L80 h358 (by first | rfl | simp only[List.length_append,List.length_cons,List.length_nil,List.length_map,outTo_len,List.length_set,List.length_replicate,eight_len,eightTo_len]) (by kernel_rfl)) ?_)
           intro a401 hF402
           refine r_at (q_storeAll bv (Operand.tmp 2) (Operand.tmp 70) hF402 h356 (outTo ([(blocksTo Mg k4).a,(blocksTo Mg k4).b,(blocksTo Mg k4).c,(blocksTo Mg k4).d,(blocksTo Mg k4).e,(blocksTo Mg k4).f,(blocksTo Mg k4).g,(blocksTo Mg k4).h]:List UInt32) (k5)) 32 L80 (by simp only[List.length_append,List.length_cons,List.length_nil,List.length_map,outTo_len,List.length_set,List.length_replicate,eight_len,eightTo_len]) (by simp) (fun _=>rfl) ?_)
           intro a403 w404 st405 hB406 hF407
           have hS408:=hS352.and st405 (fun b e=>by subst e;omega)
           refine q_end ?_
           refine q_ret ?_
           try dsimp only[Exit.then,Exit.inBlock]
           refine f_ret hF407 [.cell 2 80] (by kernel_rfl) [.agg ((outTo ([(blocksTo Mg k4).a,(blocksTo Mg k4).b,(blocksTo Mg k4).c,(blocksTo Mg k4).d,(blocksTo Mg k4).e,(blocksTo Mg k4).f,(blocksTo Mg k4).g,(blocksTo Mg k4).h]:List UInt32) (k5)).map bv).toArray] (.cell (hF407.h 2 _ (by kernel_rfl)) (run_loadVar_cs (cs:=(outTo ([(blocksTo Mg k4).a,(blocksTo Mg k4).b,(blocksTo Mg k4).c,(blocksTo Mg k4).d,(blocksTo Mg k4).e,(blocksTo Mg k4).f,(blocksTo Mg k4).g,(blocksTo Mg k4).h]:List UInt32) (k5)).map bv) (by rw[List.length_map,outTo_len];exact L80) (.inl rfl) (fun j v hv=>by rw[Nat.zero_add,hB406.cell];exact hv)) .nil) _ rfl s350 hS408 ?_
           subst hMg
           have hN:(ofI ((m24:Nat):Int))*8=UInt64.ofNat ((ps.take k1).flatten).length*8:=by rw[ofI_nat _ (by omega)];congr 2;omega
           have e9:=sum_end hk2e hk3e hN (k4:=k4) (k5:=k5) (by omega) (by omega) (by omega) _ rfl
           have e1:k1=ps.length:=by omega
           rw[e9]
           subst e1
           rw[List.take_length]
           rfl
end Go.Proofs.YtkpnjjacbhicgaaDoor.E
set_option linter.unusedVariables false
set_option linter.unusedSimpArgs false
set_option maxRecDepth 100000
set_option maxHeartbeats 2000000
namespace Go.Proofs.YtkpnjjacbhicgaaDoor.E
open Go Go.RowKit
open Go.Proofs
theorem bytesEq_calls (σ:Nat→Nat) (w:World) {v0 v1:Value} {la lb:List UInt8} (h0:Rd tU8 σ w v0 la) (h1:Rd tU8 σ w v1 lb) :
  Ctr Tryd.prog 28 [v0,v1] noM σ w (fun σ' w' v=>v=.bool (decide (la=lb))):=by
 obtain⟨A0,c0,rfl,hl0⟩:=h0.form
 obtain⟨A1,c1,rfl,hl1⟩:=h1.form
 refine ctr_enter Tryd.func28 c28 (by kernel_rfl) 10 (by kernel_rfl) (Nat.le_of_ble_eq_true (by kernel_rfl)) [(0,(Value.slice A0 la.length c0)),(1,(Value.slice A1 lb.length c1))] (by kernel_rfl) ?_
 intro a hF1
 have hS2:=Stp.refl noM σ w
 refine q_seq ?_
 refine q_reg ?_
 refine q_run 1 [(4,(Value.bool false))] hF1 fun a3 hF4=>?_
 refine q_end ?_
 refine q_seq ?_
 refine q_reg ?_
 refine q_run 1 [(5,(Value.slice A0 la.length c0))] hF4 fun a5 hF6=>?_
 refine r_at (q_val 6 (Op.convert 23 9 (Operand.tmp 5)) hF6 (sv la) (exec_b2s U23 U5 U9 (by kernel_rfl) h0) ?_)
 intro a7 hF8
 refine q_run 1 [(7,(Value.slice A1 lb.length c1))] hF8 fun a9 hF10=>?_
 refine r_at (q_val 8 (Op.convert 23 9 (Operand.tmp 7)) hF10 (sv lb) (exec_b2s U23 U5 U9 (by kernel_rfl) h1) ?_)
 intro a11 hF12
 refine q_one 9 (v0:=(Value.bool ((⟨(la).toArray⟩:ByteArray).toList == (⟨(lb).toArray⟩:ByteArray).toList))) (v:=(Value.bool (decide (la=lb)))) (congrArg Value.bool (str_eql _ _)) hF12 fun a13 hF14=>?_
 refine q_run 1 [(4,(Value.bool (decide (la=lb))))] hF14 fun a15 hF16=>?_
 refine q_end ?_
 refine q_ret ?_
 try dsimp only[Exit.then,Exit.inBlock]
 refine f_ret1 hF16 4 (by kernel_rfl) (Value.bool (decide (la=lb))) (by kernel_rfl) σ hS2 ?_
 rfl
theorem rd_none {α:Type} {T:Ty α} {σ:Nat→Nat} {w:World} {xs:List α} {n c:Nat} (h:Rd T σ w (.slice none n c) xs):xs=[]:=by
  obtain⟨a,cap,e,_,_,h⟩:=h
  injection e with e1 _ _
  subst e1
  rcases h with h | ⟨b,o,cs,e2,_⟩
  · exact h
  · cases e2
theorem cloneN_calls (σ:Nat→Nat) (w:World) {la:List UInt8} {c0:Nat} (h0:Rd tU8 σ w (Value.slice none la.length c0) la) (hl:la.length≤1000000) :
  Ctr Tryd.prog 62 [(Value.slice none la.length c0)] noM σ w (fun σ' w' v=>Own tU8 5 w.heap.size σ' w' v la):=by
 refine ctr_enter Tryd.func62 c62 (by kernel_rfl) 8 (by kernel_rfl) (Nat.le_of_ble_eq_true (by kernel_rfl)) [(0,(Value.slice none la.length c0))] (by kernel_rfl) ?_
 intro a hF1
 have hS2:=Stp.refl noM σ w
 refine q_seq ?_
 refine q_reg ?_
 refine q_run 1 [(2,(Value.slice none 0 0))] hF1 fun a3 hF4=>?_
 refine q_end ?_
 refine q_seq ?_
 refine q_seq ?_
 refine q_reg ?_
 refine q_run 2 [(4,(Value.bool true)),(3,(Value.slice none la.length c0))] hF4 fun a5 hF6=>?_
 refine q_end ?_
 refine q_true 4 hF6 ?_
 refine q_seq ?_
 refine q_reg ?_
 refine q_run 1 [(2,(Value.slice none 0 0))] hF6 fun a7 hF8=>?_
 refine q_end ?_
 refine q_ret ?_
 try dsimp only[Exit.then,Exit.inBlock]
 refine f_ret1 hF8 2 (by kernel_rfl) (Value.slice none 0 0) (by kernel_rfl) σ hS2 ?_
 rw[rd_none h0]
 exact Own.nil _ _ _ _ _
theorem cloneS_calls (σ:Nat→Nat) (w:World) {ad:Addr} {la:List UInt8} {c0:Nat} (h0:Rd tU8 σ w (Value.slice (some ad) la.length c0) la) (hl:la.length≤1000000) :
  Ctr Tryd.prog 62 [(Value.slice (some ad) la.length c0)] noM σ w (fun σ' w' v=>Own tU8 5 w.heap.size σ' w' v la):=by
 refine ctr_enter Tryd.func62 c62 (by kernel_rfl) 8 (by kernel_rfl) (Nat.le_of_ble_eq_true (by kernel_rfl)) [(0,(Value.slice (some ad) la.length c0))] (by kernel_rfl) ?_
 intro a hF1
 have hS2:=Stp.refl noM σ w
 refine q_seq ?_
 refine q_reg ?_
 refine q_run 1 [(2,(Value.slice none 0 0))] hF1 fun a3 hF4=>?_
 refine q_end ?_
 refine q_seq ?_
 refine q_seq ?_
 refine q_reg ?_
 refine q_run 2 [(4,(Value.bool false)),(3,(Value.slice (some ad) la.length c0))] hF4 fun a5 hF6=>?_
 refine q_end ?_
 refine q_false 4 hF6 ?_
 refine q_skip ?_
 refine q_seq ?_
 refine q_reg ?_
 refine r_at (q_lit tU8 5 23 5 0 (#[]) hF6 σ [] [] rfl (fun o e=>by simp only[execOp,e];kernel_rfl) ?_)
 intro a7 s8 w9 g10 hg11 st12 hO13 hF14
 have hz15:=hS2.size
 have hS16:=hS2.then st12
 have hO17:Own tU8 5 w.heap.size s8 w9 (Value.slice (some ⟨g10,0,none⟩) 0 0) ([]:List UInt8):=(hO13.le (by omega:w.heap.size≤_))
 refine q_run 1 [(6,(Value.slice (some ad) la.length c0))] hF14 fun a19 hF20=>?_
 have h21:=h0.step hS16
 have hz31:=hS16.size
 have hb30:(([]:List UInt8)).length+(la:List _).length≤1000000:=(by simpa using hl)
 refine r_at (q_app tU8 S23 7 (Operand.tmp 5) (Operand.tmp 6) hF20 hO17 h21 (app_small hb30 (by decide)) (by omega) hz31 ?_)
 intro a22 s23 w24 v25 st26 hO27 hn28 hF29
 obtain⟨A34,m37,c35,rfl,hl36⟩:=hO27.formL
 have hS38:=hS16.and st26 (fun b e=>hO17.ge e)
 refine q_run 1 [(2,(Value.slice A34 m37 c35))] hF29 fun a40 hF41=>?_
 refine q_end ?_
 refine q_ret ?_
 try dsimp only[Exit.then,Exit.inBlock]
 refine f_ret1 hF41 2 (by kernel_rfl) (Value.slice A34 m37 c35) (by kernel_rfl) s23 hS38 ?_
 have h9:=hO27
 simpa using h9
theorem clone_calls (σ:Nat→Nat) (w:World) {v0:Value} {la:List UInt8} (h0:Rd tU8 σ w v0 la) (hl:la.length≤1000000):Ctr Tryd.prog 62 [v0] noM σ w (fun σ' w' v=>Own tU8 5 w.heap.size σ' w' v la):=by
  obtain⟨A0,c0,rfl,_⟩:=h0.form
  cases A0 with
  | none=>exact cloneN_calls σ w h0 hl
  | some ad=>exact cloneS_calls σ w h0 hl
theorem bytesCmp_calls (σ:Nat→Nat) (w:World) {v0 v1:Value} {la lb:List UInt8} (h0:Rd tU8 σ w v0 la) (h1:Rd tU8 σ w v1 lb) :
  Ctr Tryd.prog 27 [v0,v1] noM σ w (fun σ' w' v=>v=iv (Lib.compareBytes la lb)):=by
 obtain⟨A0,c0,rfl,hl0⟩:=h0.form
 obtain⟨A1,c1,rfl,hl1⟩:=h1.form
 refine ctr_enter Tryd.func27 c27 (by kernel_rfl) 8 (by kernel_rfl) (Nat.le_of_ble_eq_true (by kernel_rfl)) [(0,(Value.slice A0 la.length c0)),(1,(Value.slice A1 lb.length c1))] (by kernel_rfl) ?_
 intro a hF1
 have hS2:=Stp.refl noM σ w
 refine q_seq ?_
 refine q_reg ?_
 refine q_run 1 [(4,(Value.int .i64 ((0:Nat):Int)))] hF1 fun a3 hF4=>?_
 refine q_end ?_
 refine q_seq ?_
 refine q_reg ?_
 refine q_run 2 [(6,(Value.slice A1 lb.length c1)),(5,(Value.slice A0 la.length c0))] hF4 fun a5 hF6=>?_
 refine r_at (q_val 7 (Op.call (Call.mk (Callee.value (Operand.func 44)) #[(Operand.tmp 5),(Operand.tmp 6)] #[23,23])) hF6 (Value.int .i64 (Lib.compareBytes la lb)) (exec_ext [(Value.slice A0 la.length c0),(Value.slice A1 lb.length c1)] (by kernel_rfl) (run_ext (e:=Extern.BytealgCompare.compare) Tryd.func44 (by kernel_rfl) (by kernel_rfl) (by kernel_rfl) (by kernel_rfl) (run_compareB h0 h1))) ?_)
 intro a7 hF8
 refine q_run 1 [(4,(Value.int .i64 (Lib.compareBytes la lb)))] hF8 fun a9 hF10=>?_
 refine q_end ?_
 refine q_ret ?_
 try dsimp only[Exit.then,Exit.inBlock]
 refine f_ret1 hF10 4 (by kernel_rfl) (Value.int .i64 (Lib.compareBytes la lb)) (by kernel_rfl) σ hS2 ?_
 rfl
end Go.Proofs.YtkpnjjacbhicgaaDoor.E
set_option linter.unusedVariables false
set_option linter.unusedSimpArgs false
set_option maxRecDepth 100000
namespace Go.Proofs.YtkpnjjacbhicgaaDoor.X
open Go Go.RowKit Go.Proofs Go.Proofs.YtkpnjjacbhicgaaDoor.E
theorem hk_of {l:List UInt8} (h:l.length=32):hk 32 l=l.map bv:=by
  unfold hk
  refine List.ext_getElem (by simp[h]) fun i h1 h2=>?_
  simp at h1 h2
  simp[List.getD_eq_getElem?_getD,h2]
theorem sum_ok (ps:List (List UInt8)) (hl:ps.flatten.length≤100000):FOk EN 63 ⟨[.pr wordsP,.rd 23 ps],[.n 1],Unit,fun _=>([.pr wordsP,.rd 23 ps],.a [.h 32 (sum256 ps.flatten)]),fun _=>True⟩:=by
  refine fok_val (by kernel_rfl) rfl fun ν F σ w S=>?_
  refine(sum_calls σ w (S.ent 1 _ rfl) hl (S.ent 0 _ rfl)).mono (fun _ _ h=>h) fun σ' w' v _ h=>?_
  rw[h]
  simp only[den,denC,List.append_nil,hk_of (sum256_len _)]
theorem beq_ok (a b:List UInt8):FOk EN 28 ⟨[.rd 5 a,.rd 5 b],[.n 0,.n 1],Unit,fun _=>([.rd 5 a,.rd 5 b],.b (decide (a=b))),fun _=>True⟩:=by
  refine fok_val (by kernel_rfl) rfl fun ν F σ w S=>?_
  exact(bytesEq_calls σ w (S.ent 0 _ rfl) (S.ent 1 _ rfl))
theorem bcmp_ok (a b:List UInt8):FOk EN 27 ⟨[.rd 5 a,.rd 5 b],[.n 0,.n 1],Unit,fun _=>([.rd 5 a,.rd 5 b],.i (Lib.compareBytes a b)),fun _=>True⟩:=by
  refine fok_val (by kernel_rfl) rfl fun ν F σ w S=>?_
  exact(bytesCmp_calls σ w (S.ent 0 _ rfl) (S.ent 1 _ rfl))
theorem clone_ok (a:List UInt8) (hl:a.length≤1000000):FOk EN 62 ⟨[.rd 5 a],[.n 0],Unit,fun _=>([.rd 5 a,.ow 5 a],.n 1),fun _=>True⟩ :=
  fok_own (by kernel_rfl) fun ν F σ w S=>clone_calls σ w (S.ent 0 _ rfl) hl
noncomputable def c31:Code:=(Tryd.f31.body).getD .skip
def numStep (n:UInt64) (out:List UInt8) (i:Int):List UInt8:=if(n >>> ((8*i).toNat.toUInt64)).toUInt8≠0∨0<out.length then out++[(n >>> ((8*i).toNat.toUInt64)).toUInt8] else out
def numTo (n:UInt64):Nat→List UInt8
  | 0=>[]
  | k+1=>numStep n (numTo n k) (7 - (k:Int))
theorem numTo_len (n:UInt64):∀ k,(numTo n k).length≤k
  | 0=>Nat.le_refl _
  | k+1=>by unfold numTo numStep;have:=numTo_len n k;split <;> simp <;> omega
theorem num_ok (n:UInt64):FOk EN 31 ⟨[],[.u n],Unit,fun _=>([.ow 5 (numTo n 8)],.n 0),fun _=>True⟩:=by
 refine v_fun Tryd.f31 c31 MX (fun ν F σ w=>?_) Tryd.func31
 refine v_nl ?_
 refine v_loop (fun k:Nat=>([(3,.n 1),(4,.i (7 - (k:Int)))],[.ow 5 (numTo n k)])) (fun k=>k≤8) (fun k=>8 - k) 0 [0] (((7:Int)=(7:Int) - (↑(0:Nat):Int))∧([]=numTo n 0)) ⟨rfl,rfl⟩ (by decide) (fun k hk1=>?_)
 have hl:=numTo_len n k
 refine v_if (decide (0≤7 - (↑k:Int))) True trivial (fun h2=>?_) (fun h2=>?_)
 ·have h2:=of_decide_eq_true h2
  refine v_guard 17 (decide ((n >>> (8*(7 - (↑k:Int))).toNat.toUInt64).toUInt8≠0)) ((I64 (8*(7 - ↑k)))∧(0≤8*(7 - (↑k:Int))∧8*(7 - (↑k:Int))<64)) ⟨(by(unfold I64;omega)),(by omega)⟩ (fun h3=>?_) (fun h3=>?_)
  ·have h3:=of_decide_eq_true h3
   exact v_back (k+1) [3] (((numTo n k).length+1≤1000000)∧(I64 (7 - ↑k - 1))∧(7 - (↑k:Int) - 1=7 - (↑(k+1):Int))∧(numTo n k++[(n >>> (8*(7 - (↑k:Int))).toNat.toUInt64).toUInt8]=numTo n (k+1))) ⟨(by omega),(by(unfold I64;omega)),(by omega),(by(simp only[numTo,numStep];rw[if_pos (.inl ‹_›)]))⟩ (show k+1≤8∧8 - (k+1)<8 - k from(by omega))
  ·have h3:=of_decide_eq_false h3
   refine v_if (decide (0<(↑(numTo n k).length:Int))) True trivial (fun h4=>?_) (fun h4=>?_)
   ·have h4:=of_decide_eq_true h4
    exact v_back (k+1) [3] (((numTo n k).length+1≤1000000)∧(I64 (7 - ↑k - 1))∧(7 - (↑k:Int) - 1=7 - (↑(k+1):Int))∧(numTo n k++[(n >>> (8*(7 - (↑k:Int))).toNat.toUInt64).toUInt8]=numTo n (k+1))) ⟨(by omega),(by(unfold I64;omega)),(by omega),(by(simp only[numTo,numStep];rw[if_pos (.inr (by omega))]))⟩ (show k+1≤8∧8 - (k+1)<8 - k from(by omega))
   ·have h4:=of_decide_eq_false h4
    exact v_back (k+1) [1] ((I64 (7 - ↑k - 1))∧(7 - (↑k:Int) - 1=7 - (↑(k+1):Int))∧(numTo n k=numTo n (k+1))) ⟨(by(unfold I64;omega)),(by omega),(by(simp only[numTo,numStep];rw[if_neg (by rintro (q | q);contradiction;omega)]))⟩ (show k+1≤8∧8 - (k+1)<8 - k from(by omega))
 ·have h2:=of_decide_eq_false h2
  refine v_leave (.ex 0) True trivial ?_
  exact v_ret () [1] ((numTo n k=numTo n 8)) (by(congr 1;omega)) trivial
noncomputable def c30:Code:=(Tryd.f30.body).getD .skip
def hi (n:Nat):UInt8:=ofI8 ((n:Int) / 256)
def lo (n:Nat):UInt8:=ofI8 (n:Int)
def putE (v:List UInt8):Int:=if 65535<v.length then 3 else 0
def putF (b:List UInt8) (tag:UInt8) (v:List UInt8):List UInt8:=if 65535<v.length then[] else if v.length=0 then b else b++[tag,hi v.length,lo v.length]++v
theorem put_ok (b:List UInt8) (tag:UInt8) (v:List UInt8) (h:b.length+v.length≤900000):FOk EN 30 ⟨[.rd 5 b,.rd 5 v],[.n 0,.c tag,.n 1],Unit,fun _=>([.rd 5 b,.rd 5 v,.ow 5 (putF b tag v)],.t [.n 2,.i (putE v)]),fun _=>True⟩:=by
 refine v_fun Tryd.f30 c30 MX (fun ν F σ w=>?_) Tryd.func30
 refine v_nl ?_
 refine v_if (decide (65535<(↑v.length:Int))) ((0+b.length≤1000000)) (by omega) (fun h1=>?_) (fun h1=>?_)
 ·have h1:=of_decide_eq_true h1
  exact v_ret () [2] ((3=putE v)∧(b=b)∧(v=v)∧([]=putF b tag v)) ⟨(by(simp only[putE,putF,hi,lo];(repeat first | rw[if_pos (by omega)] | rw[if_neg (by omega)]);done)),rfl,rfl,(by(simp only[putE,putF,hi,lo];(repeat first | rw[if_pos (by omega)] | rw[if_neg (by omega)]);done))⟩ trivial
 ·have h1:=of_decide_eq_false h1
  refine v_if (decide ((↑v.length:Int)=0)) True trivial (fun h2=>?_) (fun h2=>?_)
  ·have h2:=of_decide_eq_true h2
   exact v_ret () [4] ((0=putE v)∧(b=b)∧(v=v)∧([]++b=putF b tag v)) ⟨(by(simp only[putE,putF,hi,lo];(repeat first | rw[if_pos (by omega)] | rw[if_neg (by omega)]);done)),rfl,rfl,(by(simp only[putE,putF,hi,lo];(repeat first | rw[if_pos (by omega)] | rw[if_neg (by omega)]);first | rfl | omega | (simp;done) | (simp;omega)))⟩ trivial
  ·have h2:=of_decide_eq_false h2
   exact v_ret () [7] ((0≤(↑v.length:Int))∧((8:UInt64)<(64:UInt64))∧(([]++b).length+3≤1000000)∧(([]++b++[tag,ofI8 ((↑v.length:Int) / 256),ofI8 (↑v.length:Int)]).length+v.length≤1000000)∧(0=putE v)∧(b=b)∧(v=v)∧([]++b++[tag,ofI8 (↑v.length / 256),ofI8 ↑v.length]++v=putF b tag v)) ⟨(by omega),(by decide),(by(simp;omega)),(by(simp;omega)),(by(simp only[putE,putF,hi,lo];(repeat first | rw[if_pos (by omega)] | rw[if_neg (by omega)]);done)),rfl,rfl,(by(simp only[putE,putF,hi,lo];(repeat first | rw[if_pos (by omega)] | rw[if_neg (by omega)]);first | rfl | omega | (simp;done) | (simp;omega)))⟩ trivial
def pcE (b:List UInt8):Int:=if b.length<2+((b.getD 0 0).toNat*256+(b.getD 1 0).toNat) then 4 else 0
def pcV (b:List UInt8):List UInt8:=if b.length<2+((b.getD 0 0).toNat*256+(b.getD 1 0).toNat) then[] else(b.drop 2).take ((b.getD 0 0).toNat*256+(b.getD 1 0).toNat)
def pcR (b:List UInt8):List UInt8:=if b.length<2+((b.getD 0 0).toNat*256+(b.getD 1 0).toNat) then[] else(b.drop 2).drop ((b.getD 0 0).toNat*256+(b.getD 1 0).toNat)
def eightTo (n:UInt64):Nat→List UInt8
  | 0=>[]
  | k+1=>eightTo n k++[(n >>> (56 - 8*(k:Int)).toNat.toUInt64).toUInt8]
theorem eightTo_len (n:UInt64):∀ k,(eightTo n k).length=k
  | 0=>rfl
  | k+1=>by unfold eightTo;have:=eightTo_len n k;simp;omega
def dropZ:List UInt8→List UInt8
  | []=>[]
  | x::l=>if x=0 then dropZ l else x::l
def putR (b:List UInt8) (tag:UInt8) (v:List UInt8):List UInt8:=if v.length=0 then b else b++[tag,ofI8 ((v.length:Int) / 256),ofI8 ((v.length:Int) % 256)]++v
def valE (b:List UInt8):Int:=if 8<b.length then 7 else if 0<b.length∧b.getD 0 0=0 then 7 else 0
def valTo (b:List UInt8):Nat→UInt64
  | 0=>0
  | k+1=>valTo b k <<< 8 ||| (b.getD k 0).toUInt64
def valV (b:List UInt8):UInt64:=if 8<b.length then 0 else if 0<b.length∧b.getD 0 0=0 then 0 else valTo b b.length
def valRTo (b:List UInt8):Nat→UInt64
  | 0=>0
  | k+1=>valRTo b k*256+(b.getD k 0).toUInt64
def valRV (b:List UInt8):UInt64:=if 8<b.length then 0 else if 0<b.length∧b.getD 0 0=0 then 0 else valRTo b b.length
def valB (b:List UInt8):Bool:=if 8<b.length then false else if 0<b.length∧b.getD 0 0=0 then false else true
theorem pcR_len (b:List UInt8):(pcR b).length≤b.length:=by unfold pcR;split <;> simp
theorem pcVR_len (b:List UInt8):(pcV b).length+(pcR b).length≤b.length:=by unfold pcR pcV;split <;> simp;omega
theorem drop1_lt {b:List UInt8} (h:¬ b.length=0):(b.drop 1).length<b.length:=by simp;omega
def parse (out:List Field) (b:List UInt8):List Field × Int :=
  if h:b.length=0 then(out,0)
  else if pcE (b.drop 1)≠0 then([],pcE (b.drop 1))
  else if(pcV (b.drop 1)).length=0 then([],6)
  else if 0<out.length∧b.getD 0 0≤(out.getD ((out.length:Int) - 1).toNat ⟨0,[]⟩).tag then([],5)
  else parse (out++[⟨b.getD 0 0,pcV (b.drop 1)⟩]) (pcR (b.drop 1))
termination_by b.length
decreasing_by exact Nat.lt_of_le_of_lt (pcR_len _) (drop1_lt h)
inductive Tr where
  | leaf (k v:List UInt8)
  | node (l r:Tr)
def z32:List UInt8:=List.replicate 32 0
def nsum (h:Int) (s:UInt64) (k v l r:List UInt8):List UInt8 :=
  if h=0 then sum256 ([0,ofI8 (k.length:Int)]++k++sum256 v) else sum256 ([1,ofI8 h]++eightTo s 8++l++r)
namespace Tr
def height:Tr→Int
  | leaf _ _=>0
  | node l r=>1+max l.height r.height
def size:Tr→UInt64
  | leaf _ _=>1
  | node l r=>l.size+r.size
def least:Tr→List UInt8
  | leaf k _=>k
  | node l _=>l.least
def key:Tr→List UInt8
  | leaf k _=>k
  | node _ r=>r.least
def hash:Tr→List UInt8
  | leaf k v=>nsum 0 1 k v z32 z32
  | node l r=>nsum (1+max l.height r.height) (l.size+r.size) r.least [] l.hash r.hash
end Tr
def lfC (k v:List UInt8) (b:Nat):List SV:=[.n b,.n (b+1),.i 0,.u 1,.h 32 z32,.h 32 z32,.h 32 (Tr.leaf k v).hash,.v (.pointer none),.v (.pointer none)]
def ndC (l r:Tr) (b:Nat):List SV:=[.n b,.v (.slice none 0 0),.i (Tr.node l r).height,.u (Tr.node l r).size,.h 32 l.hash,.h 32 r.hash,.h 32 (Tr.node l r).hash,.p (b+1) 0,.p (b+2) 0]
def ns3 (x y z:Value):NV:=fun n=>match n with | 0=>x | 1=>y | 2=>z | _=>.bool false
def At (σ:Nat→Nat) (w:World):Tr→Value→Prop
  | .leaf k v,x=>∃ b o kv vv,x=.pointer (some ⟨b,o,none⟩)∧Rd tU8 σ w kv k∧Rd tU8 σ w vv v∧Seg σ w b o (denC (ns3 kv vv (.bool false)) (lfC k v 0))
  | .node l r,x=>∃ b o kv lv rv,x=.pointer (some ⟨b,o,none⟩)∧Rd tU8 σ w kv (Tr.node l r).key∧At σ w l lv∧At σ w r rv∧Seg σ w b o (denC (ns3 kv lv rv) (ndC l r 0))
theorem At.ptr {σ:Nat→Nat} {w:World} {t:Tr} {x:Value} (h:At σ w t x):∃ b o,x=.pointer (some ⟨b,o,none⟩):=by
  cases t with
  | leaf k v=>obtain⟨b,o,_,_,e,_⟩:=h;exact⟨b,o,e⟩
  | node l r=>obtain⟨b,o,_,_,_,e,_⟩:=h;exact⟨b,o,e⟩
theorem At.step {M:Nat→Prop} {σ σ':Nat→Nat} {w w':World} (st:Stp M σ w σ' w'):∀ {t:Tr} {x:Value},At σ w t x→At σ' w' t x
  | .leaf _ _,_,⟨b,o,kv,vv,e,h1,h2,h3⟩=>⟨b,o,kv,vv,e,h1.step st,h2.step st,h3.step st⟩
  | .node l r,_,⟨b,o,kv,lv,rv,e,h1,h2,h3,h4⟩=>⟨b,o,kv,lv,rv,e,h1.step st,At.step st h2,At.step st h3,h4.step st⟩
def PT (t:Tr):PP:=⟨fun σ w v=>At σ w t v,fun st h=>h.step st⟩
theorem rd_one {σ:Nat→Nat} {w:World} {v:Value} {xs:List UInt8} (h:Rd tU8 σ w v xs):v.oneCell'=true:=by obtain⟨a,c,e,_⟩:=h.form;subst e;rfl
theorem ns3_one {x y z:Value} (hx:x.oneCell'=true) (hy:y.oneCell'=true) (hz:z.oneCell'=true):∀ n,(ns3 x y z n).oneCell'=true
  | 0=>hx
  | 1=>hy
  | 2=>hz
  | _+3=>rfl
theorem open_leaf (k v:List UInt8):Opens (G:=GT) (PT (.leaf k v)) (fun _=>[.rd 5 k,.rd 5 v]) (lfC k v):=by
  rintro base σ w x ⟨b,o,kv,vv,e,h1,h2,h3⟩
  refine⟨ns3 kv vv (.bool false),ns3_one (rd_one h1) (rd_one h2) rfl,fun ν hν=>⟨fun i en hi=>?_,b,o,e,?_⟩⟩
  · match i, hi with
    | 0,hi=>simp only[List.getElem?_cons_zero,Option.some.injEq] at hi;subst hi;exact h1
    | 1,hi=>simp only[List.getElem?_cons_succ,List.getElem?_cons_zero,Option.some.injEq] at hi;subst hi;exact h2
    | i+2,hi=>simp at hi
  · have e0 := hν 0 (by simp)
    have e1:=hν 1 (by simp)
    simp only[Nat.add_zero] at e0
    simpa [lfC,denC,den,e0,e1] using h3
theorem open_node (l r:Tr):Opens (G:=GT) (PT (.node l r)) (fun _=>[.rd 5 (Tr.node l r).key,.pn (PT l) false false,.pn (PT r) false false]) (ndC l r):=by
  rintro base σ w x ⟨b,o,kv,lv,rv,e,h1,h2,h3,h4⟩
  obtain⟨lb,lo,le⟩:=h2.ptr
  obtain⟨rb,ro,re⟩:=h3.ptr
  refine⟨ns3 kv lv rv,ns3_one (rd_one h1) (by rw[le];rfl) (by rw[re];rfl),fun ν hν=>⟨fun i en hi=>?_,b,o,e,?_⟩⟩
  · match i, hi with
    | 0,hi=>simp only[List.getElem?_cons_zero,Option.some.injEq] at hi;subst hi;exact h1
    | 1,hi=>simp only[List.getElem?_cons_succ,List.getElem?_cons_zero,Option.some.injEq] at hi;subst hi;exact⟨h2,by simp,fun _=>⟨lb,lo,le⟩⟩
    | 2,hi=>simp only[List.getElem?_cons_succ,List.getElem?_cons_zero,Option.some.injEq] at hi;subst hi;exact⟨h3,by simp,fun _=>⟨rb,ro,re⟩⟩
    | i+3,hi=>simp at hi
  · have e0 := hν 0 (by simp)
    have e1:=hν 1 (by simp)
    have e2:=hν 2 (by simp)
    simp only[Nat.add_zero] at e0
    simpa [ndC,denC,den,e0,e1,e2,Tr.key] using h4
theorem close_leaf (k v:List UInt8):Closes (G:=GT) (PT (.leaf k v)) [.rd 5 k,.rd 5 v] (lfC k v 0):=by
  intro ν σ w x b hE e hS
  refine⟨b,0,ν 0,ν 1,e,hE 0 _ rfl,hE 1 _ rfl,?_⟩
  simpa [lfC,denC,den,ns3] using hS
theorem close_node (l r:Tr):Closes (G:=GT) (PT (.node l r)) [.rd 5 (Tr.node l r).key,.pn (PT l) false false,.pn (PT r) false false] (ndC l r 0):=by
  intro ν σ w x b hE e hS
  refine⟨b,0,ν 0,ν 1,ν 2,e,hE 0 _ rfl,(hE 1 _ rfl).1,(hE 2 _ rfl).1,?_⟩
  simpa [ndC,denC,den,ns3] using hS
noncomputable def c64:Code:=(Tryd.f64.body).getD .skip
theorem eightTo_set (n:UInt64) (k:Nat) (h:k<8):((eightTo n k++List.replicate (8 - k) 0).set k (n >>> (56 - 8*(k:Int)).toNat.toUInt64).toUInt8)=eightTo n (k+1)++List.replicate (8 - (k+1)) 0:=by
  have hl:=eightTo_len n k
  rw[List.set_append_right _ _ (by omega),hl,Nat.sub_self,show 8 - k=(8 - (k+1))+1 by omega,List.replicate_succ,List.set_cons_zero,eightTo,List.append_assoc]
  rfl
theorem size_ok (n:UInt64):FOk EN 64 ⟨[],[.u n],Unit,fun _=>([.rd 5 (eightTo n 8)],.n 0),fun _=>True⟩:=by
 refine v_fun Tryd.f64 c64 MX (fun ν F σ w=>?_) Tryd.func64
 refine v_nl ?_
 refine v_loop (fun k:Nat=>([(3,.p 2 0),(5,.i k)],[.bx 141 [.h 8 (eightTo n k++List.replicate (8 - k) 0)]])) (fun k=>k≤8) (fun k=>8 - k) 0 [1] (((0:Int)=(↑(0:Nat):Int))∧(List.replicate 8 0=eightTo n 0++List.replicate (8 - 0) 0)) ⟨rfl,rfl⟩ (by decide) (fun k hk1=>?_)
 have hl:=eightTo_len n k
 refine v_if (decide ((↑k:Int)<8)) True trivial (fun h2=>?_) (fun h2=>?_)
 ·have h2:=of_decide_eq_true h2
  exact v_back (k+1) [2] ((I64 (8 * ↑k))∧(I64 (56 - 8 * ↑k))∧(0≤56 - 8*(↑k:Int)∧56 - 8*(↑k:Int)<64)∧((0:Int)≤(↑k:Int)∧(↑k:Int)<(↑(8:Nat):Int))∧(0+(↑k:Int).toNat<8)∧(0+(↑k:Int).toNat<(eightTo n k++List.replicate (8 - k) 0).length)∧(I64 (↑k+1))∧((↑k:Int)+1=(↑(k+1):Int))∧((eightTo n k++List.replicate (8 - k) 0).set (0+(↑k:Int).toNat) (n >>> (56 - 8*(↑k:Int)).toNat.toUInt64).toUInt8=eightTo n (k+1)++List.replicate (8 - (k+1)) 0)) ⟨(by(unfold I64;omega)),(by(unfold I64;omega)),(by omega),(by omega),(by omega),(by(simp;omega)),(by(unfold I64;omega)),rfl,(by(simpa using eightTo_set n k (by omega)))⟩ (show k+1≤8∧8 - (k+1)<8 - k from(by omega))
 ·have h2:=of_decide_eq_false h2
  refine v_leave (.ex 0) True trivial ?_
  exact v_ret () [3] (((eightTo n k++List.replicate (8 - k) 0).length=8∧8≤1000000)∧(eightTo n k++List.replicate (8 - k) 0=eightTo n 8)) ⟨(by(simp;omega)),(by(obtain rfl:k=8:=(by omega);simp))⟩ trivial
noncomputable def c46:Code:=(Tryd.f46.body).getD .skip
theorem thash_ok (h:Int) (s:UInt64) (k v l r:List UInt8) (h0:0≤h∧h<1000) (hk:k.length≤1000) (hv:v.length≤1000) (hl:l.length=32) (hr:r.length=32) :
  FOk EN 46 ⟨[.pr wordsP,.rd 5 k,.rd 5 v],[.a [.n 1,.n 2,.i h,.u s,.h 32 l,.h 32 r]],Unit,fun _=>([.pr wordsP,.rd 5 k,.rd 5 v],.a [.h 32 (nsum h s k v l r)]),fun _=>True⟩:=by
 refine v_fun Tryd.f46 c46 MX (fun ν F σ w=>?_) Tryd.func46
 refine v_nl ?_
 refine v_if (decide (h=0)) True trivial (fun h1=>?_) (fun h1=>?_)
 ·have h1:=of_decide_eq_true h1
  refine v_call _ [0,6] (sum_ok ([v]) (by(simp;omega))) ((wordsP=wordsP)∧([v]=[v])) ⟨rfl,rfl⟩ (fun g2 p3=>?_)
  have p3:True:=p3
  refine v_close 7 [] (close_top [] ([SV.h 32 (sum256 [v].flatten)])) ((sum256 [v].flatten=sum256 [v].flatten)) rfl ?_
  refine v_plan (.fs [0,1,2,3,5,6,7] (.o 4 (.o 8 (.o 9 (.o 10 .e))))) [4,6] True trivial ?_
  refine v_call _ [0,10] (sum_ok ([[0,ofI8 ↑k.length],k,sum256 [v].flatten]) (by(simp[sum256_len,eightTo_len];omega))) (((sum256 [v].flatten).length=32∧32≤1000000)∧(wordsP=wordsP)∧([[0,ofI8 ↑k.length],k,sum256 [v].flatten]=[[0,ofI8 ↑k.length],k,sum256 [v].flatten])) ⟨(by(simp[sum256_len,eightTo_len];done)),rfl,rfl⟩ (fun g4 p5=>?_)
  have p5:True:=p5
  exact v_ret () [] ((sum256 [[0,ofI8 ↑k.length],k,sum256 [v].flatten].flatten=nsum h s k v l r)∧(wordsP=wordsP)∧(k=k)∧(v=v)) ⟨(by(simp only[nsum];(repeat first | rw[if_pos (by omega)] | rw[if_neg (by omega)]);first | rfl | omega | (simp;done) | (simp;omega))),rfl,rfl,rfl⟩ trivial
 ·have h1:=of_decide_eq_false h1
  refine v_close 4 [1,2] (close_top [.no,.no] ([SV.n 0,SV.n 1,SV.i h,SV.u s,SV.h 32 l,SV.h 32 r])) ((h=h)∧(s=s)∧(l=l)∧(r=r)) ⟨rfl,rfl,rfl,rfl⟩ ?_
  refine v_join [21,22,23,24,25,26,27,28,29,30,31,32,33,2] [5] (fun _:Unit=>([(2,SV.p 6 0)],[Ent.bx 80 [SV.h 32 (sum256 [[1,ofI8 h],eightTo s 8,l,r].flatten)]])) (fun _=>True) ?_ (fun _ _=>?_) True trivial
  ·skip
   refine v_plan (.fs [0,1,2,4,5,7,8,9,10] (.c 3 (.o 6 (.o 11 (.o 12 (.o 13 .e)))) (.o 6 (.o 3 (.o 11 (.o 12 (.o 13 .e))))))) [] True trivial ?_
   refine v_pick ((l.length=32∧32≤1000000)∧(r.length=32∧32≤1000000)) ⟨(by omega),(by omega)⟩ ?_ ?_
   ·skip
    refine v_call _ [] (size_ok (s)) ((s=s)) rfl (fun g6 p7=>?_)
    have p7:True:=p7
    refine v_call _ [0,10] (sum_ok ([[1,ofI8 h],eightTo s 8,l,r]) (by(simp[sum256_len,eightTo_len];omega))) ((wordsP=wordsP)∧([[1,ofI8 h],eightTo s 8,l,r]=[[1,ofI8 h],eightTo s 8,l,r])) ⟨rfl,rfl⟩ (fun g8 p9=>?_)
    have p9:True:=p9
    exact v_back (()) [5] ((sum256 [[1,ofI8 h],eightTo s 8,l,r].flatten=sum256 [[1,ofI8 h],eightTo s 8,l,r].flatten)) rfl (show True from trivial)
   ·skip
    refine v_call _ [] (size_ok (s)) ((s=s)) rfl (fun g10 p11=>?_)
    have p11:True:=p11
    refine v_call _ [0,10] (sum_ok ([[1,ofI8 h],eightTo s 8,l,r]) (by(simp[sum256_len,eightTo_len];omega))) ((wordsP=wordsP)∧([[1,ofI8 h],eightTo s 8,l,r]=[[1,ofI8 h],eightTo s 8,l,r])) ⟨rfl,rfl⟩ (fun g12 p13=>?_)
    have p13:True:=p13
    exact v_back (()) [5] ((sum256 [[1,ofI8 h],eightTo s 8,l,r].flatten=sum256 [[1,ofI8 h],eightTo s 8,l,r].flatten)) rfl (show True from trivial)
  ·skip
   exact v_ret () [] ((sum256 [[1,ofI8 h],eightTo s 8,l,r].flatten=nsum h s k v l r)∧(wordsP=wordsP)∧(k=k)∧(v=v)) ⟨(by(simp[nsum, *])),rfl,rfl,rfl⟩ trivial
noncomputable def c58:Code:=(Tryd.f58.body).getD .skip
theorem leaf_ok (k v:List UInt8) (hk:k.length≤1000) (hv:v.length≤1000):FOk EN 58 ⟨[.pr wordsP,.rd 5 k,.rd 5 v],[.n 1,.n 2],Unit,fun _=>([.pr wordsP,.rd 5 k,.rd 5 v,.pn (PT (.leaf k v)) false false],.p 3 0),fun _=>True⟩:=by
 refine v_fun Tryd.f58 c58 MX (fun ν F σ w=>?_) Tryd.func58
 refine v_nl ?_
 refine v_call _ [1] (clone_ok (k) (by omega)) ((k=k)) rfl (fun g1 p2=>?_)
 have p2:True:=p2
 refine v_call _ [2] (clone_ok (v) (by omega)) ((v=v)) rfl (fun g3 p4=>?_)
 have p4:True:=p4
 refine v_call _ [0,4,5] (thash_ok (0) (1) (k) (v) (List.replicate 32 0) (List.replicate 32 0) (by decide) ‹_› ‹_› rfl rfl) (((0:Int)=(0:Int))∧((1:UInt64)=(1:UInt64))∧(List.replicate (32:Nat) (0:UInt8)=List.replicate (32:Nat) (0:UInt8))∧(List.replicate (32:Nat) (0:UInt8)=List.replicate (32:Nat) (0:UInt8))∧(wordsP=wordsP)∧(k=k)∧(v=v)) ⟨rfl,rfl,rfl,rfl,rfl,rfl,rfl⟩ (fun g5 p6=>?_)
 have p6:True:=p6
 refine v_close 6 [4,5] (close_leaf (k) (v)) (((0:Int)=(0:Int))∧((1:UInt64)=(1:UInt64))∧(List.replicate 32 0=z32)∧(List.replicate 32 0=z32)∧(nsum 0 1 k v (List.replicate 32 0) (List.replicate 32 0)=(Tr.leaf k v).hash)∧(Value.pointer none=Value.pointer none)∧(Value.pointer none=Value.pointer none)∧(k=k)∧(v=v)) ⟨rfl,rfl,rfl,rfl,rfl,rfl,rfl,rfl,rfl⟩ ?_
 exact v_ret () [6] ((wordsP=wordsP)∧(k=k)∧(v=v)∧(PLe (PT (Tr.leaf k v)) (PT (Tr.leaf k v)))∧(false=false)) ⟨rfl,rfl,rfl,fun _ _ _ h=>h,rfl⟩ trivial
def Tr.next:Tr→Tr
  | .leaf a b=>.leaf a b
  | .node l _=>l
def Tr.depth:Tr→Nat
  | .leaf _ _=>0
  | .node l r=>l.depth+r.depth+1
noncomputable def c68:Code:=(Tryd.f68.body).getD .skip
theorem least_ok (t:Tr):FOk EN 68 ⟨[.pn (PT t) false false],[.p 0 0],Unit,fun _=>([.pn (PT t) false false,.rd 5 t.least],.n 1),fun _=>True⟩:=by
 refine v_fun Tryd.f68 c68 MX (fun ν F σ w=>?_) Tryd.func68
 refine v_nl ?_
 refine v_loop (fun k:Tr=>([(0,.p 2 0)],[.pn (PT k) false false])) (fun k=>t.least=k.least) (fun k=>k.depth) t [0] ((PT t=PT t)∧(false=false)) ⟨rfl,rfl⟩ rfl (fun k hk1=>?_)
 cases k with
 | leaf a b =>
  refine v_open 2 (open_leaf (a) (b)) ((false=false)∧(PT (Tr.leaf a b)=PT (Tr.leaf a b))) ⟨rfl,rfl⟩ ?_
  refine v_leave (.ex 0) True trivial ?_
  exact v_ret () [3] ((PT t=PT t)∧(false=false)∧(a=t.least)) ⟨rfl,rfl,(by exact hk1.symm)⟩ trivial
 | node l r =>
  refine v_open 2 (open_node (l) (r)) ((false=false)∧(PT (l.node r)=PT (l.node r))) ⟨rfl,rfl⟩ ?_
  refine v_if (!false) True trivial (fun h2=>?_) (fun h2=>?_)
  ·have h2:=(nt h2)
   exact v_back ((l.node r).next) [4] ((PT l=PT (l.node r).next)∧(false=false)) ⟨rfl,rfl⟩ (show t.least=(l.node r).next.least∧(l.node r).next.depth<(l.node r).depth from(by exact⟨hk1,by simp only[Tr.next,Tr.depth];omega⟩))
  ·have h2:=(nf h2)
   contradiction
namespace Tr
def value:Tr→List UInt8
  | leaf _ v=>v
  | node _ _=>[]
def lh:Tr→List UInt8
  | leaf _ _=>z32
  | node l _=>l.hash
def rh:Tr→List UInt8
  | leaf _ _=>z32
  | node _ r=>r.hash
end Tr
def anyC (t:Tr) (b:Nat):List SV:=[.n b,.n (b+1),.i t.height,.u t.size,.h 32 t.lh,.h 32 t.rh,.h 32 t.hash,.p (b+2) 0,.p (b+3) 0]
def ns4 (x y z u:Value):NV:=fun n=>match n with | 0=>x | 1=>y | 2=>z | 3=>u | _=>.bool false
theorem ns4_one {x y z u:Value} (hx:x.oneCell'=true) (hy:y.oneCell'=true) (hz:z.oneCell'=true) (hu:u.oneCell'=true):∀ n,(ns4 x y z u n).oneCell'=true
  | 0=>hx
  | 1=>hy
  | 2=>hz
  | 3=>hu
  | _+4=>rfl
theorem open_any (t:Tr):Opens (G:=GT) (PT t) (fun _=>[.rd 5 t.key,.rd 5 t.value,.no,.no]) (anyC t):=by
  rintro base σ w x h
  have main:∀(kv vv lv rv:Value) (b o:Nat),x=.pointer (some ⟨b,o,none⟩)→Rd tU8 σ w kv t.key→Rd tU8 σ w vv t.value→lv.oneCell'=true→rv.oneCell'=true→Seg σ w b o (denC (ns4 kv vv lv rv) (anyC t 0)) →
      ∃ f:NV,(∀ n,(f n).oneCell'=true)∧∀ ν:NV,(∀ i,i<4→ν (base+i)=f i)→(∀(i:Nat) (en:Ent GT),[Ent.rd 5 t.key,.rd 5 t.value,.no,.no][i]? = some en→en.holds ν (fun _=>False) σ w (f i))∧∃ b o,x=.pointer (some ⟨b,o,none⟩)∧Seg σ w b o (denC ν (anyC t base)):=by
    intro kv vv lv rv b o e h1 h2 h3 h4 h5
    refine⟨ns4 kv vv lv rv,ns4_one (rd_one h1) (rd_one h2) h3 h4,fun ν hν=>⟨fun i en hi=>?_,b,o,e,?_⟩⟩
    · match i, hi with
      | 0,hi=>simp only[List.getElem?_cons_zero,Option.some.injEq] at hi;subst hi;exact h1
      | 1,hi=>simp only[List.getElem?_cons_succ,List.getElem?_cons_zero,Option.some.injEq] at hi;subst hi;exact h2
      | 2,hi=>simp only[List.getElem?_cons_succ,List.getElem?_cons_zero,Option.some.injEq] at hi;subst hi;trivial
      | 3,hi=>simp only[List.getElem?_cons_succ,List.getElem?_cons_zero,Option.some.injEq] at hi;subst hi;trivial
      | i+4,hi=>simp at hi
    · have e0 := hν 0 (by simp)
      have e1:=hν 1 (by simp)
      have e2:=hν 2 (by simp)
      have e3:=hν 3 (by simp)
      simp only[Nat.add_zero] at e0
      simpa [anyC,denC,den,e0,e1,e2,e3] using h5
  cases t with
  | leaf k v =>
    obtain⟨b,o,kv,vv,e,h1,h2,h3⟩:=h
    refine main kv vv (.pointer none) (.pointer none) b o e h1 h2 rfl rfl ?_
    simpa [lfC,anyC,denC,den,ns3,ns4,Tr.height,Tr.size,Tr.lh,Tr.rh,padd] using h3
  | node l r =>
    obtain⟨b,o,kv,lv,rv,e,h1,h2,h3,h4⟩:=h
    obtain⟨lb,lo,le⟩:=h2.ptr
    obtain⟨rb,ro,re⟩:=h3.ptr
    refine main kv (.slice none 0 0) lv rv b o e h1 ⟨none,0,rfl,Nat.le_refl _,Nat.zero_le _,.inl rfl⟩ (by rw[le];rfl) (by rw[re];rfl) ?_
    simpa [ndC,anyC,denC,den,ns3,ns4,Tr.lh,Tr.rh] using h4
/-- What the trees here keep to. -/
def Tr.Ok (t:Tr):Prop:=0≤t.height∧t.height<900∧t.least.length≤1000∧t.hash.length=32
noncomputable def c60:Code:=(Tryd.f60.body).getD .skip
theorem inner_ok (l r:Tr) (hl:l.Ok) (hr:r.Ok):FOk EN 60 ⟨[.pr wordsP,.pn (PT l) false false,.pn (PT r) false false],[.p 1 0,.p 2 0],Unit,fun _=>([.pr wordsP,.pn (PT l) false false,.pn (PT r) false false,.pn (PT (.node l r)) false false],.p 3 0),fun _=>True⟩:=by
 refine v_fun Tryd.f60 c60 MX (fun ν F σ w=>?_) Tryd.func60
 refine v_nl ?_
 refine v_open 1 (open_any (l)) ((PT l=PT l)) rfl ?_
 refine v_open 2 (open_any (r)) ((PT r=PT r)) rfl ?_
 refine v_plan (.fs [0,1,3,4,5,6,7,8,9,10,11,12,13,14,15,16,17,18,19,20,21,22,23,24,25,26,27,28,29,30,31,32,33] (.o 2 (.fs [34,35,36] (.o 37 .e)))) [] True trivial ?_
 refine v_call _ [2] (least_ok (r)) ((I64 (1+if l.height<r.height then r.height else l.height))∧(PLe (PT r) (PT r))∧(false=false)) ⟨(by(have h1:=hl;have h2:=hr;unfold Tr.Ok at h1 h2;unfold I64;omega)),fun _ _ _ h=>h,rfl⟩ (fun g1 p2=>?_)
 have p2:True:=p2
 refine v_call _ [0,13,3] (thash_ok (1+if l.height<r.height then r.height else l.height) (l.size+r.size) (r.least) ([]) (l.hash) (r.hash) (by(have h1:=hl;have h2:=hr;unfold Tr.Ok at h1 h2;omega)) (by(have h1:=hl;have h2:=hr;unfold Tr.Ok at h1 h2;omega)) (by decide) (by(have h1:=hl;have h2:=hr;unfold Tr.Ok at h1 h2;omega)) (by(have h1:=hl;have h2:=hr;unfold Tr.Ok at h1 h2;omega))) (((1+if l.height<r.height then r.height else l.height)=1+if l.height<r.height then r.height else l.height)∧(l.size+r.size=l.size+r.size)∧(l.hash=l.hash)∧(r.hash=r.hash)∧(wordsP=wordsP)∧(r.least=r.least)∧(Eq (α:=List UInt8) [] [])) ⟨rfl,rfl,rfl,rfl,rfl,rfl,rfl⟩ (fun g3 p4=>?_)
 have p4:True:=p4
 refine v_close 4 [13,1,2] (close_node (l) (r)) ((Value.slice none 0 0=Value.slice none 0 0)∧((1+if l.height<r.height then r.height else l.height)=(l.node r).height)∧(l.size+r.size=(l.node r).size)∧(l.hash=l.hash)∧(r.hash=r.hash)∧(nsum (1+if l.height<r.height then r.height else l.height) (l.size+r.size) r.least [] l.hash r.hash=(l.node r).hash)∧(r.least=(l.node r).key)∧(PLe (PT l) (PT l))∧(false=false)∧(PLe (PT r) (PT r))∧(false=false)) ⟨rfl,(by(congr 1;omega)),rfl,rfl,rfl,(by(congr 1;omega)),rfl,fun _ _ _ h=>h,rfl,fun _ _ _ h=>h,rfl⟩ ?_
 exact v_ret () [4] ((wordsP=wordsP)∧(PLe (PT l) (PT l))∧(false=false)∧(PLe (PT r) (PT r))∧(false=false)∧(PLe (PT (l.node r)) (PT (l.node r)))∧(false=false)) ⟨rfl,fun _ _ _ h=>h,rfl,fun _ _ _ h=>h,rfl,fun _ _ _ h=>h,rfl⟩ trivial
namespace Tr
/-- Keys and values are short. -/
def Ks:Tr→Prop
  | leaf k v=>k.length≤1000∧v.length≤1000
  | node l r=>l.Ks∧r.Ks
theorem height_nn:∀ t:Tr,0≤t.height
  | leaf _ _=>Int.le_refl _
  | node l r=>by have:=height_nn l;simp only[height];omega
theorem nsum_len (h:Int) (s:UInt64) (k v l r:List UInt8):(nsum h s k v l r).length=32:=by unfold nsum;split <;> exact sum256_len _
theorem hash_len:∀ t:Tr,t.hash.length=32
  | leaf _ _=>nsum_len ..
  | node _ _=>nsum_len ..
theorem least_le:∀ {t:Tr},t.Ks→t.least.length≤1000
  | leaf _ _,h=>h.1
  | node l _,h=>least_le (t:=l) h.1
theorem ok {t:Tr} (h:t.Ks) (hh:t.height<900):t.Ok:=⟨t.height_nn,hh,least_le h,t.hash_len⟩
theorem node_lt {l r:Tr} {n:Int} (h1:l.height<n) (h2:r.height<n):(node l r).height<n+1:=by simp only[height];omega
end Tr
noncomputable def c59:Code:=(Tryd.f59.body).getD .skip
theorem bal0_aux (l r:Tr) (hl:l.Ok) (hr:r.Ok) (h1:¬ l.height>r.height+1) (h2:¬ r.height>l.height+1):FOk EN 59 ⟨[.pr wordsP,.pn (PT l) false false,.pn (PT r) false false],[.p 1 0,.p 2 0],Unit,fun _=>([.pr wordsP,.pn (PT l) false false,.pn (PT r) false false,.pn (PT (.node l r)) false false],.p 3 0),fun _=>True⟩:=by
 refine v_fun Tryd.f59 c59 MX (fun ν F σ w=>?_) Tryd.func59
 refine v_nl ?_
 refine v_open 1 (open_any (l)) ((PT l=PT l)) rfl ?_
 refine v_open 2 (open_any (r)) ((PT r=PT r)) rfl ?_
 refine v_plan (.fs [0,1,2,3,4,5,6,7,8,9,10,11,12] .e) [] True trivial ?_
 refine v_if (decide (r.height+1<l.height)) ((I64 (r.height+1))) (by(have h1:=hl;have h2:=hr;unfold Tr.Ok at h1 h2;unfold I64;omega)) (fun h1=>?_) (fun h1=>?_)
 ·have h1:=of_decide_eq_true h1
  omega
 ·have h1:=of_decide_eq_false h1
  refine v_plan (.fs [0,1,2,3,4,5,6,7,8,9,10,11,12] .e) [] True trivial ?_
  refine v_if (decide (l.height+1<r.height)) ((I64 (l.height+1))) (by(have h1:=hl;have h2:=hr;unfold Tr.Ok at h1 h2;unfold I64;omega)) (fun h2=>?_) (fun h2=>?_)
  ·have h2:=of_decide_eq_true h2
   omega
  ·have h2:=of_decide_eq_false h2
   refine v_call _ [0,1,2] (inner_ok (l) (r) ‹_› ‹_›) ((wordsP=wordsP)∧(PLe (PT l) (PT l))∧(false=false)∧(PLe (PT r) (PT r))∧(false=false)) ⟨rfl,fun _ _ _ h=>h,rfl,fun _ _ _ h=>h,rfl⟩ (fun g3 p4=>?_)
   have p4:True:=p4
   exact v_ret () [12] ((wordsP=wordsP)∧(PLe (PT l) (PT l))∧(false=false)∧(PLe (PT r) (PT r))∧(false=false)∧(PT (l.node r)=PT (l.node r))∧(false=false)) ⟨rfl,fun _ _ _ h=>h,rfl,fun _ _ _ h=>h,rfl,rfl,rfl⟩ trivial
theorem bal1_aux (a b r:Tr) (hl:(Tr.node a b).Ok) (ha:a.Ok) (hb:b.Ok) (hbr:(Tr.node b r).Ok) (hr:r.Ok) (h1:(Tr.node a b).height>r.height+1) (h2:¬ a.height<b.height):FOk EN 59 ⟨[.pr wordsP,.pn (PT (.node a b)) false false,.pn (PT r) false false],[.p 1 0,.p 2 0],Unit,fun _=>([.pr wordsP,.pn (PT (.node a b)) false false,.pn (PT r) false false,.pn (PT (.node a (.node b r))) false false],.p 3 0),fun _=>True⟩:=by
 refine v_fun Tryd.f59 c59 MX (fun ν F σ w=>?_) Tryd.func59
 refine v_nl ?_
 refine v_open 1 (open_node (a) (b)) ((PT (a.node b)=PT (a.node b))) rfl ?_
 refine v_open 2 (open_any (r)) ((PT r=PT r)) rfl ?_
 refine v_plan (.fs [0,1,2,3,4,5,6,7,8,9,10,11,12] .e) [] True trivial ?_
 refine v_if (decide (r.height+1<(a.node b).height)) ((I64 (r.height+1))) (by(have h1:=hl;have h2:=hr;unfold Tr.Ok at h1 h2;unfold I64;omega)) (fun h1=>?_) (fun h1=>?_)
 ·have h1:=of_decide_eq_true h1
  refine v_open 5 (open_any (a)) ((PT a=PT a)) rfl ?_
  refine v_open 6 (open_any (b)) ((PT b=PT b)) rfl ?_
  refine v_plan (.fs [0,1,2,3,4,5,6,7,8,9,10,11,12,13,14,15,16] .e) [] True trivial ?_
  refine v_if (decide (a.height<b.height)) True trivial (fun h2=>?_) (fun h2=>?_)
  ·have h2:=of_decide_eq_true h2
   omega
  ·have h2:=of_decide_eq_false h2
   refine v_plan (.fs [0,1,2,3,4,5,6,7,8] (.o 9 (.o 10 (.fs [11] .e)))) [] True trivial ?_
   refine v_call _ [0,6,2] (inner_ok (b) (r) ‹_› ‹_›) ((wordsP=wordsP)∧(PLe (PT b) (PT b))∧(false=false)∧(PLe (PT r) (PT r))∧(false=false)) ⟨rfl,fun _ _ _ h=>h,rfl,fun _ _ _ h=>h,rfl⟩ (fun g3 p4=>?_)
   have p4:True:=p4
   refine v_call _ [0,5,19] (inner_ok (a) (b.node r) ‹_› ‹_›) ((wordsP=wordsP)∧(PLe (PT a) (PT a))∧(false=false)∧(PT (b.node r)=PT (b.node r))∧(false=false)) ⟨rfl,fun _ _ _ h=>h,rfl,rfl,rfl⟩ (fun g5 p6=>?_)
   have p6:True:=p6
   exact v_ret () [20] ((wordsP=wordsP)∧(PLe (PT (a.node b)) (PT (a.node b)))∧(false=false)∧(PLe (PT r) (PT r))∧(false=false)∧(PT (a.node (b.node r))=PT (a.node (b.node r)))∧(false=false)) ⟨rfl,fun _ _ _ h=>h,rfl,fun _ _ _ h=>h,rfl,rfl,rfl⟩ trivial
 ·have h1:=of_decide_eq_false h1
  omega
theorem bal2_aux (a c d r:Tr) (hl:(Tr.node a (.node c d)).Ok) (ha:a.Ok) (hb:(Tr.node c d).Ok) (hc:c.Ok) (hd:d.Ok) (hac:(Tr.node a c).Ok) (hdr:(Tr.node d r).Ok) (hr:r.Ok) (h1:(Tr.node a (.node c d)).height>r.height+1) (h2:a.height<(Tr.node c d).height):FOk EN 59 ⟨[.pr wordsP,.pn (PT (.node a (.node c d))) false false,.pn (PT r) false false],[.p 1 0,.p 2 0],Unit,fun _=>([.pr wordsP,.pn (PT (.node a (.node c d))) false false,.pn (PT r) false false,.pn (PT (.node (.node a c) (.node d r))) false false],.p 3 0),fun _=>True⟩:=by
 refine v_fun Tryd.f59 c59 MX (fun ν F σ w=>?_) Tryd.func59
 refine v_nl ?_
 refine v_open 1 (open_node (a) (c.node d)) ((PT (a.node (c.node d))=PT (a.node (c.node d)))) rfl ?_
 refine v_open 2 (open_any (r)) ((PT r=PT r)) rfl ?_
 refine v_plan (.fs [0,1,2,3,4,5,6,7,8,9,10,11,12] .e) [] True trivial ?_
 refine v_if (decide (r.height+1<(a.node (c.node d)).height)) ((I64 (r.height+1))) (by(have h1:=hl;have h2:=hr;unfold Tr.Ok at h1 h2;unfold I64;omega)) (fun h1=>?_) (fun h1=>?_)
 ·have h1:=of_decide_eq_true h1
  refine v_open 5 (open_any (a)) ((PT a=PT a)) rfl ?_
  refine v_open 6 (open_node (c) (d)) ((PT (c.node d)=PT (c.node d))) rfl ?_
  refine v_plan (.fs [0,1,2,3,4,5,6,7,8,9,10,11,12,13,14,15,16] .e) [] True trivial ?_
  refine v_if (decide (a.height<(c.node d).height)) True trivial (fun h2=>?_) (fun h2=>?_)
  ·have h2:=of_decide_eq_true h2
   refine v_plan (.fs [0,1,2,3,4,5,6,7,8,9,10,12,13,14,15,16,17,18,19] (.o 11 (.o 20 (.o 21 (.fs [22] .e))))) [] True trivial ?_
   refine v_call _ [0,5,16] (inner_ok (a) (c) ‹_› ‹_›) ((wordsP=wordsP)∧(PLe (PT a) (PT a))∧(false=false)∧(PT c=PT c)∧(false=false)) ⟨rfl,fun _ _ _ h=>h,rfl,rfl,rfl⟩ (fun g3 p4=>?_)
   have p4:True:=p4
   refine v_call _ [0,17,2] (inner_ok (d) (r) ‹_› ‹_›) ((wordsP=wordsP)∧(PT d=PT d)∧(false=false)∧(PLe (PT r) (PT r))∧(false=false)) ⟨rfl,rfl,rfl,fun _ _ _ h=>h,rfl⟩ (fun g5 p6=>?_)
   have p6:True:=p6
   refine v_call _ [0,18,19] (inner_ok (a.node c) (d.node r) ‹_› ‹_›) ((wordsP=wordsP)∧(PT (a.node c)=PT (a.node c))∧(false=false)∧(PT (d.node r)=PT (d.node r))∧(false=false)) ⟨rfl,rfl,rfl,rfl,rfl⟩ (fun g7 p8=>?_)
   have p8:True:=p8
   exact v_ret () [20] ((wordsP=wordsP)∧(PLe (PT (a.node (c.node d))) (PT (a.node (c.node d))))∧(false=false)∧(PLe (PT r) (PT r))∧(false=false)∧(PT ((a.node c).node (d.node r))=PT ((a.node c).node (d.node r)))∧(false=false)) ⟨rfl,fun _ _ _ h=>h,rfl,fun _ _ _ h=>h,rfl,rfl,rfl⟩ trivial
  ·have h2:=of_decide_eq_false h2
   omega
 ·have h1:=of_decide_eq_false h1
  omega
theorem bal3_aux (l a b:Tr) (hr:(Tr.node a b).Ok) (ha:a.Ok) (hb:b.Ok) (hla:(Tr.node l a).Ok) (hl:l.Ok) (h0:¬ l.height>(Tr.node a b).height+1) (h1:(Tr.node a b).height>l.height+1) (h2:¬ b.height<a.height):FOk EN 59 ⟨[.pr wordsP,.pn (PT l) false false,.pn (PT (.node a b)) false false],[.p 1 0,.p 2 0],Unit,fun _=>([.pr wordsP,.pn (PT l) false false,.pn (PT (.node a b)) false false,.pn (PT (.node (.node l a) b)) false false],.p 3 0),fun _=>True⟩:=by
 refine v_fun Tryd.f59 c59 MX (fun ν F σ w=>?_) Tryd.func59
 refine v_nl ?_
 refine v_open 1 (open_any (l)) ((PT l=PT l)) rfl ?_
 refine v_open 2 (open_node (a) (b)) ((PT (a.node b)=PT (a.node b))) rfl ?_
 refine v_plan (.fs [0,1,2,3,4,5,6,7,8,9,10,11,12] .e) [] True trivial ?_
 refine v_if (decide ((a.node b).height+1<l.height)) ((I64 ((a.node b).height+1))) (by(have h1:=hl;have h2:=hr;unfold Tr.Ok at h1 h2;unfold I64;omega)) (fun h1=>?_) (fun h1=>?_)
 ·have h1:=of_decide_eq_true h1
  omega
 ·have h1:=of_decide_eq_false h1
  refine v_plan (.fs [0,1,2,3,4,5,6,7,8,9,10,11,12] .e) [] True trivial ?_
  refine v_if (decide (l.height+1<(a.node b).height)) ((I64 (l.height+1))) (by(have h1:=hl;have h2:=hr;unfold Tr.Ok at h1 h2;unfold I64;omega)) (fun h2=>?_) (fun h2=>?_)
  ·have h2:=of_decide_eq_true h2
   refine v_open 10 (open_any (b)) ((PT b=PT b)) rfl ?_
   refine v_open 9 (open_any (a)) ((PT a=PT a)) rfl ?_
   refine v_plan (.fs [0,1,2,3,4,5,6,7,8,9,10,11,12,13,14,15,16] .e) [] True trivial ?_
   refine v_if (decide (b.height<a.height)) True trivial (fun h3=>?_) (fun h3=>?_)
   ·have h3:=of_decide_eq_true h3
    omega
   ·have h3:=of_decide_eq_false h3
    refine v_plan (.fs [0,1,2,3,4,6,7,8,9] (.o 5 (.o 10 (.fs [11] .e)))) [] True trivial ?_
    refine v_call _ [0,1,9] (inner_ok (l) (a) ‹_› ‹_›) ((wordsP=wordsP)∧(PLe (PT l) (PT l))∧(false=false)∧(PLe (PT a) (PT a))∧(false=false)) ⟨rfl,fun _ _ _ h=>h,rfl,fun _ _ _ h=>h,rfl⟩ (fun g4 p5=>?_)
    have p5:True:=p5
    refine v_call _ [0,19,10] (inner_ok (l.node a) (b) ‹_› ‹_›) ((wordsP=wordsP)∧(PT (l.node a)=PT (l.node a))∧(false=false)∧(PLe (PT b) (PT b))∧(false=false)) ⟨rfl,rfl,rfl,fun _ _ _ h=>h,rfl⟩ (fun g6 p7=>?_)
    have p7:True:=p7
    exact v_ret () [20] ((wordsP=wordsP)∧(PLe (PT l) (PT l))∧(false=false)∧(PLe (PT (a.node b)) (PT (a.node b)))∧(false=false)∧(PT ((l.node a).node b)=PT ((l.node a).node b))∧(false=false)) ⟨rfl,fun _ _ _ h=>h,rfl,fun _ _ _ h=>h,rfl,rfl,rfl⟩ trivial
  ·have h2:=of_decide_eq_false h2
   omega
theorem bal4_aux (l c d b:Tr) (hr:(Tr.node (.node c d) b).Ok) (ha:(Tr.node c d).Ok) (hb:b.Ok) (hc:c.Ok) (hd:d.Ok) (hlc:(Tr.node l c).Ok) (hdb:(Tr.node d b).Ok) (hl:l.Ok) (h0:¬ l.height>(Tr.node (.node c d) b).height+1) (h1:(Tr.node (.node c d) b).height>l.height+1) (h2:b.height<(Tr.node c d).height):FOk EN 59 ⟨[.pr wordsP,.pn (PT l) false false,.pn (PT (.node (.node c d) b)) false false],[.p 1 0,.p 2 0],Unit,fun _=>([.pr wordsP,.pn (PT l) false false,.pn (PT (.node (.node c d) b)) false false,.pn (PT (.node (.node l c) (.node d b))) false false],.p 3 0),fun _=>True⟩:=by
 refine v_fun Tryd.f59 c59 MX (fun ν F σ w=>?_) Tryd.func59
 refine v_nl ?_
 refine v_open 1 (open_any (l)) ((PT l=PT l)) rfl ?_
 refine v_open 2 (open_node (c.node d) (b)) ((PT ((c.node d).node b)=PT ((c.node d).node b))) rfl ?_
 refine v_plan (.fs [0,1,2,3,4,5,6,7,8,9,10,11,12] .e) [] True trivial ?_
 refine v_if (decide (((c.node d).node b).height+1<l.height)) ((I64 (((c.node d).node b).height+1))) (by(have h1:=hl;have h2:=hr;unfold Tr.Ok at h1 h2;unfold I64;omega)) (fun h1=>?_) (fun h1=>?_)
 ·have h1:=of_decide_eq_true h1
  omega
 ·have h1:=of_decide_eq_false h1
  refine v_plan (.fs [0,1,2,3,4,5,6,7,8,9,10,11,12] .e) [] True trivial ?_
  refine v_if (decide (l.height+1<((c.node d).node b).height)) ((I64 (l.height+1))) (by(have h1:=hl;have h2:=hr;unfold Tr.Ok at h1 h2;unfold I64;omega)) (fun h2=>?_) (fun h2=>?_)
  ·have h2:=of_decide_eq_true h2
   refine v_open 10 (open_any (b)) ((PT b=PT b)) rfl ?_
   refine v_open 9 (open_node (c) (d)) ((PT (c.node d)=PT (c.node d))) rfl ?_
   refine v_plan (.fs [0,1,2,3,4,5,6,7,8,9,10,11,12,13,14,15,16] .e) [] True trivial ?_
   refine v_if (decide (b.height<(c.node d).height)) True trivial (fun h3=>?_) (fun h3=>?_)
   ·have h3:=of_decide_eq_true h3
    refine v_plan (.fs [0,1,2,3,4,5,6,7,9,10,11,12,13,14,15,16,17,18,19] (.o 8 (.o 20 (.o 21 (.fs [22] .e))))) [] True trivial ?_
    refine v_call _ [0,1,16] (inner_ok (l) (c) ‹_› ‹_›) ((wordsP=wordsP)∧(PLe (PT l) (PT l))∧(false=false)∧(PT c=PT c)∧(false=false)) ⟨rfl,fun _ _ _ h=>h,rfl,rfl,rfl⟩ (fun g4 p5=>?_)
    have p5:True:=p5
    refine v_call _ [0,17,10] (inner_ok (d) (b) ‹_› ‹_›) ((wordsP=wordsP)∧(PT d=PT d)∧(false=false)∧(PLe (PT b) (PT b))∧(false=false)) ⟨rfl,rfl,rfl,fun _ _ _ h=>h,rfl⟩ (fun g6 p7=>?_)
    have p7:True:=p7
    refine v_call _ [0,18,19] (inner_ok (l.node c) (d.node b) ‹_› ‹_›) ((wordsP=wordsP)∧(PT (l.node c)=PT (l.node c))∧(false=false)∧(PT (d.node b)=PT (d.node b))∧(false=false)) ⟨rfl,rfl,rfl,rfl,rfl⟩ (fun g8 p9=>?_)
    have p9:True:=p9
    exact v_ret () [20] ((wordsP=wordsP)∧(PLe (PT l) (PT l))∧(false=false)∧(PLe (PT ((c.node d).node b)) (PT ((c.node d).node b)))∧(false=false)∧(PT ((l.node c).node (d.node b))=PT ((l.node c).node (d.node b)))∧(false=false)) ⟨rfl,fun _ _ _ h=>h,rfl,fun _ _ _ h=>h,rfl,rfl,rfl⟩ trivial
   ·have h3:=of_decide_eq_false h3
    omega
  ·have h2:=of_decide_eq_false h2
   omega
namespace Tr
def bal (l r:Tr):Tr :=
  if l.height>r.height+1 then match l with
    | leaf _ _=>node l r
    | node a b => if a.height < b.height then match b with
      | leaf _ _=>node l r
      | node c d=>node (node a c) (node d r)
      else node a (node b r)
  else if r.height>l.height+1 then match r with
    | leaf _ _=>node l r
    | node a b => if b.height < a.height then match a with
      | leaf _ _=>node l r
      | node c d=>node (node l c) (node d b)
      else node (node l a) b
  else node l r
end Tr
theorem bal_ok (l r:Tr) (hl:l.Ks) (hr:r.Ks) (hl9:l.height<800) (hr9:r.height<800):FOk EN 59 ⟨[.pr wordsP,.pn (PT l) false false,.pn (PT r) false false],[.p 1 0,.p 2 0],Unit,fun _=>([.pr wordsP,.pn (PT l) false false,.pn (PT r) false false,.pn (PT (l.bal r)) false false],.p 3 0),fun _=>True⟩:=by
  have nn:=Tr.height_nn
  unfold Tr.bal
  by_cases h1:l.height>r.height+1
  · rw [if_pos h1]
    cases l with
    | leaf k v=>have:=nn r;simp only[Tr.height] at h1;omega
    | node a b =>
      have ea:a.height<800:=by simp only[Tr.height] at hl9;omega
      have eb:b.height<800:=by simp only[Tr.height] at hl9;omega
      have oa:=Tr.ok hl.1 (by omega)
      have ob:=Tr.ok hl.2 (by omega)
      have ol:=Tr.ok hl (by omega)
      have orr:=Tr.ok hr (by omega)
      by_cases h2:a.height<b.height
      · simp only [if_pos h2]
        cases b with
        | leaf k v=>have:=nn a;simp only[Tr.height] at h2;omega
        | node c d =>
          have ec:c.height<800:=by simp only[Tr.height] at eb;omega
          have ed:d.height<800:=by simp only[Tr.height] at eb;omega
          have hb:=hl.2
          exact bal2_aux a c d r ol oa ob (Tr.ok hb.1 (by omega)) (Tr.ok hb.2 (by omega)) (Tr.ok ⟨hl.1,hb.1⟩ (Int.lt_trans (Tr.node_lt ea ec) (by decide))) (Tr.ok ⟨hb.2,hr⟩ (Int.lt_trans (Tr.node_lt ed hr9) (by decide))) orr h1 h2
      · simp only [if_neg h2]
        exact bal1_aux a b r ol oa ob (Tr.ok ⟨hl.2,hr⟩ (Int.lt_trans (Tr.node_lt eb hr9) (by decide))) orr h1 h2
  · rw [if_neg h1]
    by_cases h3:r.height>l.height+1
    · rw [if_pos h3]
      cases r with
      | leaf k v=>have:=nn l;simp only[Tr.height] at h3;omega
      | node a b =>
        have ea:a.height<800:=by simp only[Tr.height] at hr9;omega
        have eb:b.height<800:=by simp only[Tr.height] at hr9;omega
        have oa:=Tr.ok hr.1 (by omega)
        have ob:=Tr.ok hr.2 (by omega)
        have ol:=Tr.ok hl (by omega)
        have orr:=Tr.ok hr (by omega)
        by_cases h2:b.height<a.height
        · simp only [if_pos h2]
          cases a with
          | leaf k v=>have:=nn b;simp only[Tr.height] at h2;omega
          | node c d =>
            have ec:c.height<800:=by simp only[Tr.height] at ea;omega
            have ed:d.height<800:=by simp only[Tr.height] at ea;omega
            have hb:=hr.1
            exact bal4_aux l c d b orr oa ob (Tr.ok hb.1 (by omega)) (Tr.ok hb.2 (by omega)) (Tr.ok ⟨hl,hb.1⟩ (Int.lt_trans (Tr.node_lt hl9 ec) (by decide))) (Tr.ok ⟨hb.2,hr.2⟩ (Int.lt_trans (Tr.node_lt ed eb) (by decide))) ol h1 h3 h2
        · simp only [if_neg h2]
          exact bal3_aux l a b orr oa ob (Tr.ok ⟨hl,hr.1⟩ (Int.lt_trans (Tr.node_lt hl9 ea) (by decide))) ol h1 h3 h2
    · rw [if_neg h3]
      exact bal0_aux l r (Tr.ok hl (by omega)) (Tr.ok hr (by omega)) h1 h3
end Go.Proofs.YtkpnjjacbhicgaaDoor.X
