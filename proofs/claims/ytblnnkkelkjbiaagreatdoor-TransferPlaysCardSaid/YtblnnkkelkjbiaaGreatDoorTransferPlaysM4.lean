/- What the law TransferPlays needs: the engine, the walks of what it reaches, plain laws; part 4. -/
import Derived.Test.YtblnnkkelkjbiaaGreatDoorTransferPlaysM3
import Derived.OpenShut
set_option linter.unnecessarySimpa false
set_option linter.deprecated false
set_option linter.unusedVariables false
set_option linter.unusedSimpArgs false
set_option maxRecDepth 100000
namespace Go.Proofs.YtblnnkkelkjbiaaGreatDoor.X
open Go Go.RowKit Go.Proofs Go.Proofs.YtblnnkkelkjbiaaGreatDoor.E
def tQ (p:Packet) (o v:Option Er):Prop:=(mayE p=0→v.isNone=o.isNone∧codeO v=codeO o∧depO v≤depO o+1)∧(¬ mayE p=0→v.isNone=false∧codeO v=mayE p∧depO v≤2)
def tB (p:Packet) (B B':BK):BK:=if mayE p=0 then B' else B
def sdE (B:BK) (p:Packet):Option Er:=if bkB p.channel p.denom=true then taE B p.from_ p.denom p.amount else moE B p.from_ (esc p.channel) p.denom p.amount
def sdB (B:BK) (p:Packet):BK:=if bkB p.channel p.denom=true then taB B p.from_ p.denom p.amount else moB B p.from_ (esc p.channel) p.denom p.amount
def rcE (B:BK) (p:Packet):Option Er:=if bkB p.channel p.denom=true then moE B (esc p.channel) p.to (thS p.channel p.denom) p.amount else giE B p.to (thS p.channel p.denom) p.amount
def rcB (B:BK) (p:Packet):BK:=if bkB p.channel p.denom=true then moB B (esc p.channel) p.to (thS p.channel p.denom) p.amount else giB B p.to (thS p.channel p.denom) p.amount
def rfE (B:BK) (p:Packet):Option Er:=if bkB p.channel p.denom=true then giE B p.from_ p.denom p.amount else moE B (esc p.channel) p.from_ p.denom p.amount
def rfB (B:BK) (p:Packet):BK:=if bkB p.channel p.denom=true then giB B p.from_ p.denom p.amount else moB B (esc p.channel) p.from_ p.denom p.amount
section
variable {p:Packet} {B B':BK} {o v:Option Er} {wh:List UInt8} {n:Int}
theorem cq_f (h:ckQ p v) (hv:v.isNone=false):¬ mayE p=0:=fun q=>by have:=h.1;rw[hv,q] at this;exact absurd this (by decide)
theorem cq_t (h:ckQ p v) (hv:v.isNone=true):mayE p=0:=by have:=h.1;rw[hv] at this;exact of_decide_eq_true this.symm
theorem may_c (h:mayE p=0):0≤p.channel∧p.channel<4:=by
  by_cases h1:thE p.channel p.denom=0
  · by_cases h2 : p.channel < 0
    · rw[th1 h2] at h1;cases h1
    · by_cases h3 : 4 ≤ p.channel
      · rw[th2 h3] at h1;cases h1
      · omega
  · unfold mayE at h;rw[if_pos h1] at h;exact absurd h h1
theorem cq_c (h:ckQ p v) (hv:v.isNone=true):0≤p.channel∧p.channel<4:=may_c (cq_t h hv)
theorem tB_f (h:ckQ p v) (hv:v.isNone=false):B=tB p B B':=by unfold tB;rw[if_neg (cq_f h hv)]
theorem tB_t {B'':BK} (h:ckQ p v) (hv:v.isNone=true) (e:B=B'):B=tB p B'' B':=by unfold tB;rw[if_pos (cq_t h hv)];exact e
theorem tQ_f (h:ckQ p v) (hv:v.isNone=false):tQ p o v:=⟨fun q=>absurd q (cq_f h hv),fun _=>⟨hv,h.2.1,h.2.2⟩⟩
theorem tQ_t (h:ckQ p v) (hv:v.isNone=true) {o':Option Er} (e:o'=o):tQ p o (o'.map (Er.step wh n)):=by
  subst e
  refine⟨fun _=>⟨(mapN _).symm,?_,?_⟩,fun q=>absurd (cq_t h hv) q⟩
  · cases o' <;> rfl
  · cases o' with
    | none=>exact Nat.zero_le _
    | some e=>exact Nat.le_refl _
theorem sdE1 (h:bkB p.channel p.denom=true):taE B p.from_ p.denom p.amount=sdE B p:=by unfold sdE;rw[if_pos h]
theorem sdE2 (h:bkB p.channel p.denom=false):moE B p.from_ (esc p.channel) p.denom p.amount=sdE B p:=by unfold sdE;rw[if_neg (by rw[h];decide)]
theorem sdB1 (h:bkB p.channel p.denom=true):taB B p.from_ p.denom p.amount=sdB B p:=by unfold sdB;rw[if_pos h]
theorem sdB2 (h:bkB p.channel p.denom=false):moB B p.from_ (esc p.channel) p.denom p.amount=sdB B p:=by unfold sdB;rw[if_neg (by rw[h];decide)]
theorem rcE1 (h:bkB p.channel p.denom=true):moE B (esc p.channel) p.to (thS p.channel p.denom) p.amount=rcE B p:=by unfold rcE;rw[if_pos h]
theorem rcE2 (h:bkB p.channel p.denom=false):giE B p.to (thS p.channel p.denom) p.amount=rcE B p:=by unfold rcE;rw[if_neg (by rw[h];decide)]
theorem rcB1 (h:bkB p.channel p.denom=true):moB B (esc p.channel) p.to (thS p.channel p.denom) p.amount=rcB B p:=by unfold rcB;rw[if_pos h]
theorem rcB2 (h:bkB p.channel p.denom=false):giB B p.to (thS p.channel p.denom) p.amount=rcB B p:=by unfold rcB;rw[if_neg (by rw[h];decide)]
theorem rfE1 (h:bkB p.channel p.denom=true):giE B p.from_ p.denom p.amount=rfE B p:=by unfold rfE;rw[if_pos h]
theorem rfE2 (h:bkB p.channel p.denom=false):moE B (esc p.channel) p.from_ p.denom p.amount=rfE B p:=by unfold rfE;rw[if_neg (by rw[h];decide)]
theorem rfB1 (h:bkB p.channel p.denom=true):giB B p.from_ p.denom p.amount=rfB B p:=by unfold rfB;rw[if_pos h]
theorem rfB2 (h:bkB p.channel p.denom=false):moB B (esc p.channel) p.from_ p.denom p.amount=rfB B p:=by unfold rfB;rw[if_neg (by rw[h];decide)]
end
noncomputable def ccTF3_14:Code:=(Tryz.f14.body).getD .skip
theorem TSend_aux (B:BK) (p:Packet) (h1:p.denom.length≤140737488351232) (h2:p.from_.length≤140737488351232) (h3:p.to.length≤140737488351232):FOk EN 14 ⟨[.mp 52 B,.bx 54 [.n 0]],[.p 1 0,pkS p],Option Er,fun v=>([.mp 52 (tB p B (sdB B p)),.bx 54 [.n 0],.pn (PE v) true v.isNone],.n 2),fun v=>tQ p (sdE B p) v⟩:=by
 refine v_fun Tryz.f14 ccTF3_14 MX (fun ν F σ w=>?_) Tryz.func14
 refine v_nl ?_
 refine v_call _ [] (Tcheck_ok (p) ‹_› ‹_› ‹_›) ((p.channel=p.channel)∧(p.seq=p.seq)∧(p.timeout=p.timeout)∧(p.denom=p.denom)∧(p.amount=p.amount)∧(p.from_=p.from_)∧(p.to=p.to)) ⟨rfl,rfl,rfl,rfl,rfl,rfl,rfl⟩ (fun g1 p2=>?_)
 have p2:ckQ p g1:=p2
 refine v_if (!g1.isNone) True trivial (fun h3=>?_) (fun h3=>?_)
 ·have h3:=(nt h3)
  exact v_ret (g1) [4] ((@Eq (List (Prod (Prod (List UInt8) (List UInt8)) UInt64)) B (tB p B (sdB B p)))∧(PE g1=PE g1)∧(g1.isNone=g1.isNone)) ⟨(by with_reducible exact tB_f ‹ckQ p _› ‹_›),rfl,rfl⟩ (by exact tQ_f ‹ckQ p _› ‹_›)
 ·have h3:=(nf h3)
  refine v_call _ [] (Back_ok (p.channel) (p.denom)) ((p.channel=p.channel)∧(p.denom=p.denom)) ⟨rfl,rfl⟩ (fun g4 p5=>?_)
  have p5:True:=p5
  refine v_if (bkB p.channel p.denom) True trivial (fun h6=>?_) (fun h6=>?_)
  ·skip
   refine v_call _ [0,1] (Take_ok (B) (p.from_) (p.denom) (p.amount)) ((p.from_=p.from_)∧(p.denom=p.denom)∧(p.amount=p.amount)∧(@Eq (List (Prod (Prod (List UInt8) (List UInt8)) UInt64)) B B)) ⟨rfl,rfl,rfl,rfl⟩ (fun g7 p8=>?_)
   have p8:True:=p8
   refine v_call _ [5] (faultAtO_ok (#[98,117,114,110].toList) (0) (taE B p.from_ p.denom p.amount)) ((#[(98:UInt8),(117:UInt8),(114:UInt8),(110:UInt8)].toList=#[(98:UInt8),(117:UInt8),(114:UInt8),(110:UInt8)].toList)∧((0:Int)=(0:Int))∧(PE (taE B p.from_ p.denom p.amount)=PE (taE B p.from_ p.denom p.amount))∧((taE B p.from_ p.denom p.amount).isNone=(taE B p.from_ p.denom p.amount).isNone)) ⟨rfl,rfl,rfl,rfl⟩ (fun g9 p10=>?_)
   have p10:True:=p10
   exact v_ret (Option.map (Er.step #[98,117,114,110].toList 0) (taE B p.from_ p.denom p.amount)) [6] ((@Eq (List (Prod (Prod (List UInt8) (List UInt8)) UInt64)) (taB B p.from_ p.denom p.amount) (tB p B (sdB B p)))∧(PE (Option.map (Er.step #[98,117,114,110].toList 0) (taE B p.from_ p.denom p.amount))=PE (Option.map (Er.step #[98,117,114,110].toList 0) (taE B p.from_ p.denom p.amount)))∧((taE B p.from_ p.denom p.amount).isNone=(Option.map (Er.step #[98,117,114,110].toList 0) (taE B p.from_ p.denom p.amount)).isNone)) ⟨(by with_reducible exact tB_t ‹ckQ p _› ‹_› (sdB1 ‹_›)),rfl,(by exact mapN _)⟩ (by exact tQ_t ‹ckQ p _› ‹_› (sdE1 ‹_›))
  ·skip
   refine v_plan (.fs [0,1,2,3,4,6,7,8,9] (.o 5 (.o 10 (.o 11 (.fs [12] .e))))) [3] True trivial ?_
   refine v_call _ [] (Escrow_ok (p.channel) (by with_reducible exact cq_c ‹ckQ p _› ‹_›)) ((p.channel=p.channel)) rfl (fun g11 p12=>?_)
   have p12:True:=p12
   refine v_call _ [0,1] (Move_ok (B) (p.from_) (esc p.channel) (p.denom) (p.amount)) ((p.from_=p.from_)∧(esc p.channel=esc p.channel)∧(p.denom=p.denom)∧(p.amount=p.amount)∧(@Eq (List (Prod (Prod (List UInt8) (List UInt8)) UInt64)) B B)) ⟨rfl,rfl,rfl,rfl,rfl⟩ (fun g13 p14=>?_)
   have p14:True:=p14
   refine v_call _ [5] (faultAtO_ok (#[101,115,99,114,111,119].toList) (0) (moE B p.from_ (esc p.channel) p.denom p.amount)) ((#[(101:UInt8),(115:UInt8),(99:UInt8),(114:UInt8),(111:UInt8),(119:UInt8)].toList=#[(101:UInt8),(115:UInt8),(99:UInt8),(114:UInt8),(111:UInt8),(119:UInt8)].toList)∧((0:Int)=(0:Int))∧(PE (moE B p.from_ (esc p.channel) p.denom p.amount)=PE (moE B p.from_ (esc p.channel) p.denom p.amount))∧((moE B p.from_ (esc p.channel) p.denom p.amount).isNone=(moE B p.from_ (esc p.channel) p.denom p.amount).isNone)) ⟨rfl,rfl,rfl,rfl⟩ (fun g15 p16=>?_)
   have p16:True:=p16
   exact v_ret (Option.map (Er.step #[101,115,99,114,111,119].toList 0) (moE B p.from_ (esc p.channel) p.denom p.amount)) [6] ((@Eq (List (Prod (Prod (List UInt8) (List UInt8)) UInt64)) (moB B p.from_ (esc p.channel) p.denom p.amount) (tB p B (sdB B p)))∧(PE (Option.map (Er.step #[101,115,99,114,111,119].toList 0) (moE B p.from_ (esc p.channel) p.denom p.amount))=PE (Option.map (Er.step #[101,115,99,114,111,119].toList 0) (moE B p.from_ (esc p.channel) p.denom p.amount)))∧((moE B p.from_ (esc p.channel) p.denom p.amount).isNone=(Option.map (Er.step #[101,115,99,114,111,119].toList 0) (moE B p.from_ (esc p.channel) p.denom p.amount)).isNone)) ⟨(by with_reducible exact tB_t ‹ckQ p _› ‹_› (sdB2 ‹_›)),rfl,(by exact mapN _)⟩ (by exact tQ_t ‹ckQ p _› ‹_› (sdE2 ‹_›))
noncomputable def ccTF3_10:Code:=(Tryz.f10.body).getD .skip
theorem TReceive_aux (B:BK) (p:Packet) (h1:p.denom.length≤140737488351232) (h2:p.from_.length≤140737488351232) (h3:p.to.length≤140737488351232):FOk EN 10 ⟨[.mp 52 B,.bx 54 [.n 0]],[.p 1 0,pkS p],Option Er,fun v=>([.mp 52 (tB p B (rcB B p)),.bx 54 [.n 0],.pn (PE v) true v.isNone],.n 2),fun v=>tQ p (rcE B p) v⟩:=by
 refine v_fun Tryz.f10 ccTF3_10 MX (fun ν F σ w=>?_) Tryz.func10
 refine v_nl ?_
 refine v_call _ [] (Tcheck_ok (p) ‹_› ‹_› ‹_›) ((p.channel=p.channel)∧(p.seq=p.seq)∧(p.timeout=p.timeout)∧(p.denom=p.denom)∧(p.amount=p.amount)∧(p.from_=p.from_)∧(p.to=p.to)) ⟨rfl,rfl,rfl,rfl,rfl,rfl,rfl⟩ (fun g1 p2=>?_)
 have p2:ckQ p g1:=p2
 refine v_if (!g1.isNone) True trivial (fun h3=>?_) (fun h3=>?_)
 ·have h3:=(nt h3)
  exact v_ret (g1) [4] ((@Eq (List (Prod (Prod (List UInt8) (List UInt8)) UInt64)) B (tB p B (rcB B p)))∧(PE g1=PE g1)∧(g1.isNone=g1.isNone)) ⟨(by with_reducible exact tB_f ‹ckQ p _› ‹_›),rfl,rfl⟩ (by exact tQ_f ‹ckQ p _› ‹_›)
 ·have h3:=(nf h3)
  refine v_call _ [] (There_ok (p.channel) (p.denom) ‹_›) ((p.channel=p.channel)∧(p.denom=p.denom)) ⟨rfl,rfl⟩ (fun g4 p5=>?_)
  have p5:True:=p5
  refine v_call _ [] (Back_ok (p.channel) (p.denom)) ((p.channel=p.channel)∧(p.denom=p.denom)) ⟨rfl,rfl⟩ (fun g6 p7=>?_)
  have p7:True:=p7
  refine v_if (bkB p.channel p.denom) True trivial (fun h8=>?_) (fun h8=>?_)
  ·skip
   refine v_plan (.fs [0,1,2,4,5,6,7,8] (.o 3 (.o 9 (.o 10 (.fs [11] .e))))) [3] True trivial ?_
   refine v_call _ [] (Escrow_ok (p.channel) (by with_reducible exact cq_c ‹ckQ p _› ‹_›)) ((p.channel=p.channel)) rfl (fun g9 p10=>?_)
   have p10:True:=p10
   refine v_call _ [0,1] (Move_ok (B) (esc p.channel) (p.to) (thS p.channel p.denom) (p.amount)) ((esc p.channel=esc p.channel)∧(p.to=p.to)∧(thS p.channel p.denom=thS p.channel p.denom)∧(p.amount=p.amount)∧(@Eq (List (Prod (Prod (List UInt8) (List UInt8)) UInt64)) B B)) ⟨rfl,rfl,rfl,rfl,rfl⟩ (fun g11 p12=>?_)
   have p12:True:=p12
   refine v_call _ [5] (faultAtO_ok (#[101,115,99,114,111,119].toList) (1) (moE B (esc p.channel) p.to (thS p.channel p.denom) p.amount)) ((#[(101:UInt8),(115:UInt8),(99:UInt8),(114:UInt8),(111:UInt8),(119:UInt8)].toList=#[(101:UInt8),(115:UInt8),(99:UInt8),(114:UInt8),(111:UInt8),(119:UInt8)].toList)∧((1:Int)=(1:Int))∧(PE (moE B (esc p.channel) p.to (thS p.channel p.denom) p.amount)=PE (moE B (esc p.channel) p.to (thS p.channel p.denom) p.amount))∧((moE B (esc p.channel) p.to (thS p.channel p.denom) p.amount).isNone=(moE B (esc p.channel) p.to (thS p.channel p.denom) p.amount).isNone)) ⟨rfl,rfl,rfl,rfl⟩ (fun g13 p14=>?_)
   have p14:True:=p14
   exact v_ret (Option.map (Er.step #[101,115,99,114,111,119].toList 1) (moE B (esc p.channel) p.to (thS p.channel p.denom) p.amount)) [6] ((@Eq (List (Prod (Prod (List UInt8) (List UInt8)) UInt64)) (moB B (esc p.channel) p.to (thS p.channel p.denom) p.amount) (tB p B (rcB B p)))∧(PE (Option.map (Er.step #[101,115,99,114,111,119].toList 1) (moE B (esc p.channel) p.to (thS p.channel p.denom) p.amount))=PE (Option.map (Er.step #[101,115,99,114,111,119].toList 1) (moE B (esc p.channel) p.to (thS p.channel p.denom) p.amount)))∧((moE B (esc p.channel) p.to (thS p.channel p.denom) p.amount).isNone=(Option.map (Er.step #[101,115,99,114,111,119].toList 1) (moE B (esc p.channel) p.to (thS p.channel p.denom) p.amount)).isNone)) ⟨(by with_reducible exact tB_t ‹ckQ p _› ‹_› (rcB1 ‹_›)),rfl,(by exact mapN _)⟩ (by exact tQ_t ‹ckQ p _› ‹_› (rcE1 ‹_›))
  ·skip
   refine v_call _ [0,1] (Give_ok (B) (p.to) (thS p.channel p.denom) (p.amount)) ((p.to=p.to)∧(thS p.channel p.denom=thS p.channel p.denom)∧(p.amount=p.amount)∧(@Eq (List (Prod (Prod (List UInt8) (List UInt8)) UInt64)) B B)) ⟨rfl,rfl,rfl,rfl⟩ (fun g15 p16=>?_)
   have p16:True:=p16
   refine v_call _ [5] (faultAtO_ok (#[109,105,110,116].toList) (0) (giE B p.to (thS p.channel p.denom) p.amount)) ((#[(109:UInt8),(105:UInt8),(110:UInt8),(116:UInt8)].toList=#[(109:UInt8),(105:UInt8),(110:UInt8),(116:UInt8)].toList)∧((0:Int)=(0:Int))∧(PE (giE B p.to (thS p.channel p.denom) p.amount)=PE (giE B p.to (thS p.channel p.denom) p.amount))∧((giE B p.to (thS p.channel p.denom) p.amount).isNone=(giE B p.to (thS p.channel p.denom) p.amount).isNone)) ⟨rfl,rfl,rfl,rfl⟩ (fun g17 p18=>?_)
   have p18:True:=p18
   exact v_ret (Option.map (Er.step #[109,105,110,116].toList 0) (giE B p.to (thS p.channel p.denom) p.amount)) [6] ((@Eq (List (Prod (Prod (List UInt8) (List UInt8)) UInt64)) (giB B p.to (thS p.channel p.denom) p.amount) (tB p B (rcB B p)))∧(PE (Option.map (Er.step #[109,105,110,116].toList 0) (giE B p.to (thS p.channel p.denom) p.amount))=PE (Option.map (Er.step #[109,105,110,116].toList 0) (giE B p.to (thS p.channel p.denom) p.amount)))∧((giE B p.to (thS p.channel p.denom) p.amount).isNone=(Option.map (Er.step #[109,105,110,116].toList 0) (giE B p.to (thS p.channel p.denom) p.amount)).isNone)) ⟨(by with_reducible exact tB_t ‹ckQ p _› ‹_› (rcB2 ‹_›)),rfl,(by exact mapN _)⟩ (by exact tQ_t ‹ckQ p _› ‹_› (rcE2 ‹_›))
noncomputable def ccTF3_12:Code:=(Tryz.f12.body).getD .skip
theorem TRefund_aux (B:BK) (p:Packet) (h1:p.denom.length≤140737488351232) (h2:p.from_.length≤140737488351232) (h3:p.to.length≤140737488351232):FOk EN 12 ⟨[.mp 52 B,.bx 54 [.n 0]],[.p 1 0,pkS p],Option Er,fun v=>([.mp 52 (tB p B (rfB B p)),.bx 54 [.n 0],.pn (PE v) true v.isNone],.n 2),fun v=>tQ p (rfE B p) v⟩:=by
 refine v_fun Tryz.f12 ccTF3_12 MX (fun ν F σ w=>?_) Tryz.func12
 refine v_nl ?_
 refine v_call _ [] (Tcheck_ok (p) ‹_› ‹_› ‹_›) ((p.channel=p.channel)∧(p.seq=p.seq)∧(p.timeout=p.timeout)∧(p.denom=p.denom)∧(p.amount=p.amount)∧(p.from_=p.from_)∧(p.to=p.to)) ⟨rfl,rfl,rfl,rfl,rfl,rfl,rfl⟩ (fun g1 p2=>?_)
 have p2:ckQ p g1:=p2
 refine v_if (!g1.isNone) True trivial (fun h3=>?_) (fun h3=>?_)
 ·have h3:=(nt h3)
  exact v_ret (g1) [4] ((@Eq (List (Prod (Prod (List UInt8) (List UInt8)) UInt64)) B (tB p B (rfB B p)))∧(PE g1=PE g1)∧(g1.isNone=g1.isNone)) ⟨(by with_reducible exact tB_f ‹ckQ p _› ‹_›),rfl,rfl⟩ (by exact tQ_f ‹ckQ p _› ‹_›)
 ·have h3:=(nf h3)
  refine v_call _ [] (Back_ok (p.channel) (p.denom)) ((p.channel=p.channel)∧(p.denom=p.denom)) ⟨rfl,rfl⟩ (fun g4 p5=>?_)
  have p5:True:=p5
  refine v_if (bkB p.channel p.denom) True trivial (fun h6=>?_) (fun h6=>?_)
  ·skip
   refine v_call _ [0,1] (Give_ok (B) (p.from_) (p.denom) (p.amount)) ((p.from_=p.from_)∧(p.denom=p.denom)∧(p.amount=p.amount)∧(@Eq (List (Prod (Prod (List UInt8) (List UInt8)) UInt64)) B B)) ⟨rfl,rfl,rfl,rfl⟩ (fun g7 p8=>?_)
   have p8:True:=p8
   refine v_call _ [5] (faultAtO_ok (#[109,105,110,116].toList) (1) (giE B p.from_ p.denom p.amount)) ((#[(109:UInt8),(105:UInt8),(110:UInt8),(116:UInt8)].toList=#[(109:UInt8),(105:UInt8),(110:UInt8),(116:UInt8)].toList)∧((1:Int)=(1:Int))∧(PE (giE B p.from_ p.denom p.amount)=PE (giE B p.from_ p.denom p.amount))∧((giE B p.from_ p.denom p.amount).isNone=(giE B p.from_ p.denom p.amount).isNone)) ⟨rfl,rfl,rfl,rfl⟩ (fun g9 p10=>?_)
   have p10:True:=p10
   exact v_ret (Option.map (Er.step #[109,105,110,116].toList 1) (giE B p.from_ p.denom p.amount)) [6] ((@Eq (List (Prod (Prod (List UInt8) (List UInt8)) UInt64)) (giB B p.from_ p.denom p.amount) (tB p B (rfB B p)))∧(PE (Option.map (Er.step #[109,105,110,116].toList 1) (giE B p.from_ p.denom p.amount))=PE (Option.map (Er.step #[109,105,110,116].toList 1) (giE B p.from_ p.denom p.amount)))∧((giE B p.from_ p.denom p.amount).isNone=(Option.map (Er.step #[109,105,110,116].toList 1) (giE B p.from_ p.denom p.amount)).isNone)) ⟨(by with_reducible exact tB_t ‹ckQ p _› ‹_› (rfB1 ‹_›)),rfl,(by exact mapN _)⟩ (by exact tQ_t ‹ckQ p _› ‹_› (rfE1 ‹_›))
  ·skip
   refine v_plan (.fs [0,1,2,4,5,6,7,8,9] (.o 3 (.o 10 (.o 11 (.fs [12] .e))))) [3] True trivial ?_
   refine v_call _ [] (Escrow_ok (p.channel) (by with_reducible exact cq_c ‹ckQ p _› ‹_›)) ((p.channel=p.channel)) rfl (fun g11 p12=>?_)
   have p12:True:=p12
   refine v_call _ [0,1] (Move_ok (B) (esc p.channel) (p.from_) (p.denom) (p.amount)) ((esc p.channel=esc p.channel)∧(p.from_=p.from_)∧(p.denom=p.denom)∧(p.amount=p.amount)∧(@Eq (List (Prod (Prod (List UInt8) (List UInt8)) UInt64)) B B)) ⟨rfl,rfl,rfl,rfl,rfl⟩ (fun g13 p14=>?_)
   have p14:True:=p14
   refine v_call _ [5] (faultAtO_ok (#[101,115,99,114,111,119].toList) (2) (moE B (esc p.channel) p.from_ p.denom p.amount)) ((#[(101:UInt8),(115:UInt8),(99:UInt8),(114:UInt8),(111:UInt8),(119:UInt8)].toList=#[(101:UInt8),(115:UInt8),(99:UInt8),(114:UInt8),(111:UInt8),(119:UInt8)].toList)∧((2:Int)=(2:Int))∧(PE (moE B (esc p.channel) p.from_ p.denom p.amount)=PE (moE B (esc p.channel) p.from_ p.denom p.amount))∧((moE B (esc p.channel) p.from_ p.denom p.amount).isNone=(moE B (esc p.channel) p.from_ p.denom p.amount).isNone)) ⟨rfl,rfl,rfl,rfl⟩ (fun g15 p16=>?_)
   have p16:True:=p16
   exact v_ret (Option.map (Er.step #[101,115,99,114,111,119].toList 2) (moE B (esc p.channel) p.from_ p.denom p.amount)) [6] ((@Eq (List (Prod (Prod (List UInt8) (List UInt8)) UInt64)) (moB B (esc p.channel) p.from_ p.denom p.amount) (tB p B (rfB B p)))∧(PE (Option.map (Er.step #[101,115,99,114,111,119].toList 2) (moE B (esc p.channel) p.from_ p.denom p.amount))=PE (Option.map (Er.step #[101,115,99,114,111,119].toList 2) (moE B (esc p.channel) p.from_ p.denom p.amount)))∧((moE B (esc p.channel) p.from_ p.denom p.amount).isNone=(Option.map (Er.step #[101,115,99,114,111,119].toList 2) (moE B (esc p.channel) p.from_ p.denom p.amount)).isNone)) ⟨(by with_reducible exact tB_t ‹ckQ p _› ‹_› (rfB2 ‹_›)),rfl,(by exact mapN _)⟩ (by exact tQ_t ‹ckQ p _› ‹_› (rfE2 ‹_›))
theorem TSend_ok (B:BK) (ch:Int) (sq tm:UInt64) (dn:List UInt8) (am:UInt64) (fr to:List UInt8) (h1:dn.length≤140737488351232) (h2:fr.length≤140737488351232) (h3:to.length≤140737488351232):FOk EN 14 ⟨[.mp 52 B,.bx 54 [.n 0]],[.p 1 0,.a [.i ch,.u sq,.u tm,.s dn,.u am,.s fr,.s to]],Option Er,fun v=>([.mp 52 (tB ⟨ch,sq,tm,dn,am,fr,to⟩ B (sdB B ⟨ch,sq,tm,dn,am,fr,to⟩)),.bx 54 [.n 0],.pn (PE v) true v.isNone],.n 2),fun v=>tQ ⟨ch,sq,tm,dn,am,fr,to⟩ (sdE B ⟨ch,sq,tm,dn,am,fr,to⟩) v⟩:=TSend_aux B ⟨ch,sq,tm,dn,am,fr,to⟩ h1 h2 h3
theorem TReceive_ok (B:BK) (ch:Int) (sq tm:UInt64) (dn:List UInt8) (am:UInt64) (fr to:List UInt8) (h1:dn.length≤140737488351232) (h2:fr.length≤140737488351232) (h3:to.length≤140737488351232):FOk EN 10 ⟨[.mp 52 B,.bx 54 [.n 0]],[.p 1 0,.a [.i ch,.u sq,.u tm,.s dn,.u am,.s fr,.s to]],Option Er,fun v=>([.mp 52 (tB ⟨ch,sq,tm,dn,am,fr,to⟩ B (rcB B ⟨ch,sq,tm,dn,am,fr,to⟩)),.bx 54 [.n 0],.pn (PE v) true v.isNone],.n 2),fun v=>tQ ⟨ch,sq,tm,dn,am,fr,to⟩ (rcE B ⟨ch,sq,tm,dn,am,fr,to⟩) v⟩:=TReceive_aux B ⟨ch,sq,tm,dn,am,fr,to⟩ h1 h2 h3
theorem TRefund_ok (B:BK) (ch:Int) (sq tm:UInt64) (dn:List UInt8) (am:UInt64) (fr to:List UInt8) (h1:dn.length≤140737488351232) (h2:fr.length≤140737488351232) (h3:to.length≤140737488351232):FOk EN 12 ⟨[.mp 52 B,.bx 54 [.n 0]],[.p 1 0,.a [.i ch,.u sq,.u tm,.s dn,.u am,.s fr,.s to]],Option Er,fun v=>([.mp 52 (tB ⟨ch,sq,tm,dn,am,fr,to⟩ B (rfB B ⟨ch,sq,tm,dn,am,fr,to⟩)),.bx 54 [.n 0],.pn (PE v) true v.isNone],.n 2),fun v=>tQ ⟨ch,sq,tm,dn,am,fr,to⟩ (rfE B ⟨ch,sq,tm,dn,am,fr,to⟩) v⟩:=TRefund_aux B ⟨ch,sq,tm,dn,am,fr,to⟩ h1 h2 h3
section
variable {p:Packet} {o v:Option Er}
theorem tq_n (m:mayE p=0) (e:o.isNone=true) (h:tQ p o v) (hv:v.isNone=false):False:=by rw[(h.1 m).1,e] at hv;cases hv
end
abbrev awP:Packet:=⟨0,0,0,(#[97,116,111,109]:Array UInt8).toList,5,(#[97]:Array UInt8).toList,(#[98]:Array UInt8).toList⟩
abbrev awX:BK:=giB [] ((#[97]:Array UInt8).toList) ((#[97,116,111,109]:Array UInt8).toList) 9
noncomputable def ccTF4_4:Code:=(Tryz.f4.body).getD .skip
theorem Awake14_aux (m:mayE awP=0) (e1:(sdE awX awP).isNone=true) (e2:(rcE [] awP).isNone=true) (v1:bget (tB awP awX (sdB awX awP)) ((#[101,115,99,114,111,119,45,48]:Array UInt8).toList) ((#[97,116,111,109]:Array UInt8).toList)=5) (v2:bget (tB awP [] (rcB [] awP)) ((#[98]:Array UInt8).toList) ((#[99,104,48,47,97,116,111,109]:Array UInt8).toList)=5):FOk EN 4 ⟨[],[],Unit,fun _=>([],.b true),fun _=>True⟩:=by
 refine v_fun Tryz.f4 ccTF4_4 MX (fun ν F σ w=>?_) Tryz.func4
 refine v_nl ?_
 refine v_call _ [] (New_ok) True trivial (fun g1 p2=>?_)
 have p2:True:=p2
 refine v_call _ [] (New_ok) True trivial (fun g3 p4=>?_)
 have p4:True:=p4
 refine v_call _ [1,2] (Give_ok ([]) (#[97].toList) (#[97,116,111,109].toList) (9)) ((#[(97:UInt8)].toList=#[(97:UInt8)].toList)∧(#[(97:UInt8),(116:UInt8),(111:UInt8),(109:UInt8)].toList=#[(97:UInt8),(116:UInt8),(111:UInt8),(109:UInt8)].toList)∧((9:UInt64)=(9:UInt64))∧(Eq (α:=List ((List UInt8 × List UInt8) × UInt64)) [] [])) ⟨rfl,rfl,rfl,rfl⟩ (fun g5 p6=>?_)
 have p6:True:=p6
 refine v_plan (.fs [0,1,3,4] (.o 2 (.o 5 (.fs [6,7] .e)))) [6] True trivial ?_
 refine v_call _ [1,2] (TSend_ok (giB [] #[97].toList #[97,116,111,109].toList 9) (0) (0) (0) (#[97,116,111,109].toList) (5) (#[97].toList) (#[98].toList) (by decide) (by decide) (by decide)) (((0:Int)=(0:Int))∧((0:UInt64)=(0:UInt64))∧((0:UInt64)=(0:UInt64))∧(#[(97:UInt8),(116:UInt8),(111:UInt8),(109:UInt8)].toList=#[(97:UInt8),(116:UInt8),(111:UInt8),(109:UInt8)].toList)∧((5:UInt64)=(5:UInt64))∧(#[(97:UInt8)].toList=#[(97:UInt8)].toList)∧(#[(98:UInt8)].toList=#[(98:UInt8)].toList)∧(giB [] #[(97:UInt8)].toList #[(97:UInt8),(116:UInt8),(111:UInt8),(109:UInt8)].toList (9:UInt64)=giB [] #[(97:UInt8)].toList #[(97:UInt8),(116:UInt8),(111:UInt8),(109:UInt8)].toList (9:UInt64))) ⟨rfl,rfl,rfl,rfl,rfl,rfl,rfl,rfl⟩ (fun g7 p8=>?_)
 have p8:tQ (Packet.mk 0 0 0 #[97,116,111,109].toList 5 #[97].toList #[98].toList) (sdE (giB [] #[97].toList #[97,116,111,109].toList 9) (Packet.mk 0 0 0 #[97,116,111,109].toList 5 #[97].toList #[98].toList)) g7:=p8
 refine v_call _ [3,4] (TReceive_ok ([]) (0) (0) (0) (#[97,116,111,109].toList) (5) (#[97].toList) (#[98].toList) (by decide) (by decide) (by decide)) (((0:Int)=(0:Int))∧((0:UInt64)=(0:UInt64))∧((0:UInt64)=(0:UInt64))∧(#[(97:UInt8),(116:UInt8),(111:UInt8),(109:UInt8)].toList=#[(97:UInt8),(116:UInt8),(111:UInt8),(109:UInt8)].toList)∧((5:UInt64)=(5:UInt64))∧(#[(97:UInt8)].toList=#[(97:UInt8)].toList)∧(#[(98:UInt8)].toList=#[(98:UInt8)].toList)∧(Eq (α:=List ((List UInt8 × List UInt8) × UInt64)) [] [])) ⟨rfl,rfl,rfl,rfl,rfl,rfl,rfl,rfl⟩ (fun g9 p10=>?_)
 have p10:tQ (Packet.mk 0 0 0 #[97,116,111,109].toList 5 #[97].toList #[98].toList) (rcE [] (Packet.mk 0 0 0 #[97,116,111,109].toList 5 #[97].toList #[98].toList)) g9:=p10
 refine v_guard 19 (g7.isNone) True trivial (fun h11=>?_) (fun h11=>?_)
 ·skip
  refine v_guard 23 (g9.isNone) True trivial (fun h12=>?_) (fun h12=>?_)
  ·skip
   refine v_call _ [1,2] (Has_ok (tB (Packet.mk 0 0 0 #[97,116,111,109].toList 5 #[97].toList #[98].toList) (giB [] #[97].toList #[97,116,111,109].toList 9) (sdB (giB [] #[97].toList #[97,116,111,109].toList 9) (Packet.mk 0 0 0 #[97,116,111,109].toList 5 #[97].toList #[98].toList))) (#[101,115,99,114,111,119,45,48].toList) (#[97,116,111,109].toList)) ((#[(101:UInt8),(115:UInt8),(99:UInt8),(114:UInt8),(111:UInt8),(119:UInt8),(45:UInt8),(48:UInt8)].toList=#[(101:UInt8),(115:UInt8),(99:UInt8),(114:UInt8),(111:UInt8),(119:UInt8),(45:UInt8),(48:UInt8)].toList)∧(#[(97:UInt8),(116:UInt8),(111:UInt8),(109:UInt8)].toList=#[(97:UInt8),(116:UInt8),(111:UInt8),(109:UInt8)].toList)∧(tB (Packet.mk (0:Int) (0:UInt64) (0:UInt64) #[(97:UInt8),(116:UInt8),(111:UInt8),(109:UInt8)].toList (5:UInt64) #[(97:UInt8)].toList #[(98:UInt8)].toList) (giB [] #[(97:UInt8)].toList #[(97:UInt8),(116:UInt8),(111:UInt8),(109:UInt8)].toList (9:UInt64)) (sdB (giB [] #[(97:UInt8)].toList #[(97:UInt8),(116:UInt8),(111:UInt8),(109:UInt8)].toList (9:UInt64)) (Packet.mk (0:Int) (0:UInt64) (0:UInt64) #[(97:UInt8),(116:UInt8),(111:UInt8),(109:UInt8)].toList (5:UInt64) #[(97:UInt8)].toList #[(98:UInt8)].toList))=tB (Packet.mk (0:Int) (0:UInt64) (0:UInt64) #[(97:UInt8),(116:UInt8),(111:UInt8),(109:UInt8)].toList (5:UInt64) #[(97:UInt8)].toList #[(98:UInt8)].toList) (giB [] #[(97:UInt8)].toList #[(97:UInt8),(116:UInt8),(111:UInt8),(109:UInt8)].toList (9:UInt64)) (sdB (giB [] #[(97:UInt8)].toList #[(97:UInt8),(116:UInt8),(111:UInt8),(109:UInt8)].toList (9:UInt64)) (Packet.mk (0:Int) (0:UInt64) (0:UInt64) #[(97:UInt8),(116:UInt8),(111:UInt8),(109:UInt8)].toList (5:UInt64) #[(97:UInt8)].toList #[(98:UInt8)].toList)))) ⟨rfl,rfl,rfl⟩ (fun g13 p14=>?_)
   have p14:True:=p14
   refine v_guard 28 (decide (bget (tB (Packet.mk 0 0 0 #[97,116,111,109].toList 5 #[97].toList #[98].toList) (giB [] #[97].toList #[97,116,111,109].toList 9) (sdB (giB [] #[97].toList #[97,116,111,109].toList 9) (Packet.mk 0 0 0 #[97,116,111,109].toList 5 #[97].toList #[98].toList))) #[101,115,99,114,111,119,45,48].toList #[97,116,111,109].toList=5)) True trivial (fun h15=>?_) (fun h15=>?_)
   ·have h15:=of_decide_eq_true h15
    refine v_call _ [3,4] (Has_ok (tB (Packet.mk 0 0 0 #[97,116,111,109].toList 5 #[97].toList #[98].toList) [] (rcB [] (Packet.mk 0 0 0 #[97,116,111,109].toList 5 #[97].toList #[98].toList))) (#[98].toList) (#[99,104,48,47,97,116,111,109].toList)) ((#[(98:UInt8)].toList=#[(98:UInt8)].toList)∧(#[(99:UInt8),(104:UInt8),(48:UInt8),(47:UInt8),(97:UInt8),(116:UInt8),(111:UInt8),(109:UInt8)].toList=#[(99:UInt8),(104:UInt8),(48:UInt8),(47:UInt8),(97:UInt8),(116:UInt8),(111:UInt8),(109:UInt8)].toList)∧(tB (Packet.mk (0:Int) (0:UInt64) (0:UInt64) #[(97:UInt8),(116:UInt8),(111:UInt8),(109:UInt8)].toList (5:UInt64) #[(97:UInt8)].toList #[(98:UInt8)].toList) [] (rcB [] (Packet.mk (0:Int) (0:UInt64) (0:UInt64) #[(97:UInt8),(116:UInt8),(111:UInt8),(109:UInt8)].toList (5:UInt64) #[(97:UInt8)].toList #[(98:UInt8)].toList))=tB (Packet.mk (0:Int) (0:UInt64) (0:UInt64) #[(97:UInt8),(116:UInt8),(111:UInt8),(109:UInt8)].toList (5:UInt64) #[(97:UInt8)].toList #[(98:UInt8)].toList) [] (rcB [] (Packet.mk (0:Int) (0:UInt64) (0:UInt64) #[(97:UInt8),(116:UInt8),(111:UInt8),(109:UInt8)].toList (5:UInt64) #[(97:UInt8)].toList #[(98:UInt8)].toList)))) ⟨rfl,rfl,rfl⟩ (fun g16 p17=>?_)
    have p17:True:=p17
    exact v_ret () [] ((decide (bget (tB (Packet.mk 0 0 0 #[97,116,111,109].toList 5 #[97].toList #[98].toList) [] (rcB [] (Packet.mk 0 0 0 #[97,116,111,109].toList 5 #[97].toList #[98].toList))) #[98].toList #[99,104,48,47,97,116,111,109].toList=5)=true)) rfl trivial
   ·have h15:=of_decide_eq_false h15
    contradiction
  ·skip
   exfalso;with_reducible exact(tq_n m e2 ‹_› ‹_›).elim
 ·skip
  exfalso;with_reducible exact(tq_n m e1 ‹_› ‹_›).elim
theorem Awake14_ok:FOk EN 4 ⟨[],[],Unit,fun _=>([],.b true),fun _=>True⟩:=Awake14_aux (by decide) (by decide) (by decide) (by decide) (by decide)
def lgS (p:Packet):Bool:=decide (1000<(p.denom.length:Int)+(p.from_.length:Int)+(p.to.length:Int))
noncomputable def ccTF4_9:Code:=(Tryz.f9.body).getD .skip
theorem long_ok (p:Packet) (h1:p.denom.length≤140737488351232) (h2:p.from_.length≤140737488351232) (h3:p.to.length≤140737488351232):FOk EN 9 ⟨[],[pkS p],Unit,fun _=>([],.b (lgS p)),fun _=>True⟩:=by
 refine v_fun Tryz.f9 ccTF4_9 MX (fun ν F σ w=>?_) Tryz.func9
 refine v_nl ?_
 exact v_ret () [] ((I64 (↑p.denom.length + ↑p.from_.length))∧(I64 (↑p.denom.length + ↑p.from_.length + ↑p.to.length))∧(decide (1000<(↑p.denom.length:Int)+(↑p.from_.length:Int)+(↑p.to.length:Int))=lgS p)) ⟨(by(unfold I64;omega)),(by(unfold I64;omega)),rfl⟩ trivial
abbrev taS (a:TAct):SV:=.a [.c a.kind,.c a.channel,.c a.d,.c a.a,.c a.b,.i a.raw.channel,.u a.raw.seq,.u a.raw.timeout,.s a.raw.denom,.u a.raw.amount,.s a.raw.from_,.s a.raw.to,.u a.n]
abbrev pkV (p:Packet):SV:=.a [.i p.channel,.u p.seq,.u p.timeout,.s p.denom,.u p.amount,.s p.from_,.s p.to]
def dn4 (k:UInt8):List UInt8:=[(#[97,116,111,109]:Array UInt8).toList,(#[99,104,48,47,97,116,111,109]:Array UInt8).toList,(#[99,104,49,47,99,104,48,47,97,116,111,109]:Array UInt8).toList,(#[99,104,49,47,120]:Array UInt8).toList].getD (k % 4).toNat []
def pkA (a:TAct):Packet:=if a.d % 16=15 then a.raw else⟨((a.channel % 4).toNat:Int),0,0,if a.d % 16=12 then a.raw.denom else dn4 a.d,a.n,if a.d % 16=14 then a.raw.from_ else[97+a.a % 3],if a.d % 16=13 then a.raw.to else[97+a.b % 3]⟩
section
variable {a:TAct} {x:UInt8}
theorem pkA_1 (h:a.d % 16=15):pkA a=a.raw:=by unfold pkA;rw[if_pos h]
theorem pkA_e (h:¬ a.d % 16=15):pkA a=⟨((a.channel % 4).toNat:Int),0,0,if a.d % 16=12 then a.raw.denom else dn4 a.d,a.n,if a.d % 16=14 then a.raw.from_ else[97+a.a % 3],if a.d % 16=13 then a.raw.to else[97+a.b % 3]⟩:=by unfold pkA;rw[if_neg h]
theorem dk1 (h:x=14) (h2:x=13):False:=by rw[h] at h2;exact absurd h2 (by decide)
theorem dk2 (h:x=14) (h2:x=12):False:=by rw[h] at h2;exact absurd h2 (by decide)
theorem dk3 (h:x=13) (h2:x=12):False:=by rw[h] at h2;exact absurd h2 (by decide)
end
noncomputable def ccTF5_8:Code:=(Tryz.f8.body).getD .skip
theorem Packet_ok (a:TAct):FOk EN 8 ⟨[],[taS a],Unit,fun _=>([],pkV (pkA a)),fun _=>True⟩:=by
 refine v_fun Tryz.f8 ccTF5_8 MX (fun ν F σ w=>?_) Tryz.func8
 refine v_nl ?_
 refine v_if (decide (a.d % 16=15)) (((16:UInt8)≠(0:UInt8))) (by decide) (fun h1=>?_) (fun h1=>?_)
 ·have h1:=of_decide_eq_true h1
  exact v_ret () [] ((a.raw.channel=(pkA a).channel)∧(a.raw.seq=(pkA a).seq)∧(a.raw.timeout=(pkA a).timeout)∧(a.raw.denom=(pkA a).denom)∧(a.raw.amount=(pkA a).amount)∧(a.raw.from_=(pkA a).from_)∧(a.raw.to=(pkA a).to)) ⟨(by(rw[pkA_1 ‹_›];done)),(by(rw[pkA_1 ‹_›];done)),(by(rw[pkA_1 ‹_›];done)),(by(rw[pkA_1 ‹_›];done)),(by(rw[pkA_1 ‹_›];done)),(by(rw[pkA_1 ‹_›];done)),(by(rw[pkA_1 ‹_›];done))⟩ trivial
 ·have h1:=of_decide_eq_false h1
  refine v_join [10,11,12,13,14,15,16,17,18,19,20,21,22,23,24,25,26,27,28,29,30,31,32,33,34,3] [] (fun _:Unit=>([(3,SV.p 3 0)],[Ent.bx 39 [SV.i (↑(a.channel % 4).toNat:Int),SV.u 0,SV.u 0,SV.s ([#[97,116,111,109].toList,#[99,104,48,47,97,116,111,109].toList,#[99,104,49,47,99,104,48,47,97,116,111,109].toList,#[99,104,49,47,120].toList].getD (↑(a.d % 4).toNat:Int).toNat []),SV.u a.n,SV.s [97+a.a % 3],SV.s [97+a.b % 3]]])) (fun _=>True) ?_ (fun _ _=>?_) True trivial
  ·skip
   refine v_plan (.fs [0,1,2,3,5,6,7,10,11,12,13,14,15,18,19,20,21] (.c 4 (.fs [8,9] (.c 16 (.fs [17] (.c 22 (.fs [23,24] (.o 25 (.o 26 .e))) (.o 25 (.o 22 (.fs [23,24] (.o 26 .e)))))) (.c 22 (.fs [23] (.c 16 (.fs [17,24] (.o 25 (.o 26 .e))) (.o 25 (.o 16 (.fs [17,24] (.o 26 .e)))))) (.o 25 (.c 16 (.fs [17] (.o 22 (.fs [23,24] (.o 26 .e)))) (.o 22 (.fs [23] (.o 16 (.fs [17,24] (.o 26 .e)))))))))) (.c 16 (.fs [17] (.c 4 (.fs [8,9] (.c 22 (.fs [23,24] (.o 25 (.o 26 .e))) (.o 25 (.o 22 (.fs [23,24] (.o 26 .e)))))) (.c 22 (.fs [23] (.c 4 (.fs [8,9,24] (.o 25 (.o 26 .e))) (.o 25 (.o 4 (.fs [8,9,24] (.o 26 .e)))))) (.o 25 (.c 4 (.fs [8,9] (.o 22 (.fs [23,24] (.o 26 .e)))) (.o 22 (.fs [23] (.o 4 (.fs [8,9,24] (.o 26 .e)))))))))) (.c 22 (.fs [23] (.c 4 (.fs [8,9] (.c 16 (.fs [17,24] (.o 25 (.o 26 .e))) (.o 25 (.o 16 (.fs [17,24] (.o 26 .e)))))) (.c 16 (.fs [17] (.c 4 (.fs [8,9,24] (.o 25 (.o 26 .e))) (.o 25 (.o 4 (.fs [8,9,24] (.o 26 .e)))))) (.o 25 (.c 4 (.fs [8,9] (.o 16 (.fs [17,24] (.o 26 .e)))) (.o 16 (.fs [17] (.o 4 (.fs [8,9,24] (.o 26 .e)))))))))) (.o 25 (.c 4 (.fs [8,9] (.c 16 (.fs [17] (.o 22 (.fs [23,24] (.o 26 .e)))) (.o 22 (.fs [23] (.o 16 (.fs [17,24] (.o 26 .e))))))) (.c 16 (.fs [17] (.c 4 (.fs [8,9] (.o 22 (.fs [23,24] (.o 26 .e)))) (.o 22 (.fs [23] (.o 4 (.fs [8,9,24] (.o 26 .e))))))) (.o 22 (.fs [23] (.c 4 (.fs [8,9] (.o 16 (.fs [17,24] (.o 26 .e)))) (.o 16 (.fs [17] (.o 4 (.fs [8,9,24] (.o 26 .e))))))))))))))) [1,2] True trivial ?_
   refine v_pick (((4:UInt8)≠(0:UInt8))∧((4:UInt8)≠(0:UInt8))∧((3:UInt8)≠(0:UInt8))∧((3:UInt8)≠(0:UInt8))) ⟨(by decide),(by decide),(by decide),(by decide)⟩ ?_ ?_
   ·skip
    refine v_pick (((0:Int)≤(↑(a.d % (4:UInt8)).toNat:Int)∧(↑(a.d % (4:UInt8)).toNat:Int)<(↑(4:Nat):Int))) (by(simp;omega)) ?_ ?_
    ·skip
     refine v_pick True trivial ?_ ?_
     ·skip
      exact v_back (()) [7] (((↑(a.channel % 4).toNat:Int)=(↑(a.channel % 4).toNat:Int))∧((0:UInt64)=(0:UInt64))∧((0:UInt64)=(0:UInt64))∧([#[(97:UInt8),(116:UInt8),(111:UInt8),(109:UInt8)].toList,#[(99:UInt8),(104:UInt8),(48:UInt8),(47:UInt8),(97:UInt8),(116:UInt8),(111:UInt8),(109:UInt8)].toList,#[(99:UInt8),(104:UInt8),(49:UInt8),(47:UInt8),(99:UInt8),(104:UInt8),(48:UInt8),(47:UInt8),(97:UInt8),(116:UInt8),(111:UInt8),(109:UInt8)].toList,#[(99:UInt8),(104:UInt8),(49:UInt8),(47:UInt8),(120:UInt8)].toList].getD (↑(a.d % (4:UInt8)).toNat:Int).toNat []=[#[(97:UInt8),(116:UInt8),(111:UInt8),(109:UInt8)].toList,#[(99:UInt8),(104:UInt8),(48:UInt8),(47:UInt8),(97:UInt8),(116:UInt8),(111:UInt8),(109:UInt8)].toList,#[(99:UInt8),(104:UInt8),(49:UInt8),(47:UInt8),(99:UInt8),(104:UInt8),(48:UInt8),(47:UInt8),(97:UInt8),(116:UInt8),(111:UInt8),(109:UInt8)].toList,#[(99:UInt8),(104:UInt8),(49:UInt8),(47:UInt8),(120:UInt8)].toList].getD (↑(a.d % (4:UInt8)).toNat:Int).toNat [])∧(a.n=a.n)∧([97+a.a % 3]=[97+a.a % 3])∧([97+a.b % 3]=[97+a.b % 3])) ⟨rfl,rfl,rfl,rfl,rfl,rfl,rfl⟩ (show True from trivial)
     ·skip
      exact v_back (()) [6] (((↑(a.channel % 4).toNat:Int)=(↑(a.channel % 4).toNat:Int))∧((0:UInt64)=(0:UInt64))∧((0:UInt64)=(0:UInt64))∧([#[(97:UInt8),(116:UInt8),(111:UInt8),(109:UInt8)].toList,#[(99:UInt8),(104:UInt8),(48:UInt8),(47:UInt8),(97:UInt8),(116:UInt8),(111:UInt8),(109:UInt8)].toList,#[(99:UInt8),(104:UInt8),(49:UInt8),(47:UInt8),(99:UInt8),(104:UInt8),(48:UInt8),(47:UInt8),(97:UInt8),(116:UInt8),(111:UInt8),(109:UInt8)].toList,#[(99:UInt8),(104:UInt8),(49:UInt8),(47:UInt8),(120:UInt8)].toList].getD (↑(a.d % (4:UInt8)).toNat:Int).toNat []=[#[(97:UInt8),(116:UInt8),(111:UInt8),(109:UInt8)].toList,#[(99:UInt8),(104:UInt8),(48:UInt8),(47:UInt8),(97:UInt8),(116:UInt8),(111:UInt8),(109:UInt8)].toList,#[(99:UInt8),(104:UInt8),(49:UInt8),(47:UInt8),(99:UInt8),(104:UInt8),(48:UInt8),(47:UInt8),(97:UInt8),(116:UInt8),(111:UInt8),(109:UInt8)].toList,#[(99:UInt8),(104:UInt8),(49:UInt8),(47:UInt8),(120:UInt8)].toList].getD (↑(a.d % (4:UInt8)).toNat:Int).toNat [])∧(a.n=a.n)∧([97+a.a % 3]=[97+a.a % 3])∧([97+a.b % 3]=[97+a.b % 3])) ⟨rfl,rfl,rfl,rfl,rfl,rfl,rfl⟩ (show True from trivial)
    ·skip
     refine v_pick True trivial ?_ ?_
     ·skip
      refine v_pick True trivial ?_ ?_
      ·skip
       exact v_back (()) [7] (((↑(a.channel % 4).toNat:Int)=(↑(a.channel % 4).toNat:Int))∧((0:UInt64)=(0:UInt64))∧((0:UInt64)=(0:UInt64))∧([#[(97:UInt8),(116:UInt8),(111:UInt8),(109:UInt8)].toList,#[(99:UInt8),(104:UInt8),(48:UInt8),(47:UInt8),(97:UInt8),(116:UInt8),(111:UInt8),(109:UInt8)].toList,#[(99:UInt8),(104:UInt8),(49:UInt8),(47:UInt8),(99:UInt8),(104:UInt8),(48:UInt8),(47:UInt8),(97:UInt8),(116:UInt8),(111:UInt8),(109:UInt8)].toList,#[(99:UInt8),(104:UInt8),(49:UInt8),(47:UInt8),(120:UInt8)].toList].getD (↑(a.d % (4:UInt8)).toNat:Int).toNat []=[#[(97:UInt8),(116:UInt8),(111:UInt8),(109:UInt8)].toList,#[(99:UInt8),(104:UInt8),(48:UInt8),(47:UInt8),(97:UInt8),(116:UInt8),(111:UInt8),(109:UInt8)].toList,#[(99:UInt8),(104:UInt8),(49:UInt8),(47:UInt8),(99:UInt8),(104:UInt8),(48:UInt8),(47:UInt8),(97:UInt8),(116:UInt8),(111:UInt8),(109:UInt8)].toList,#[(99:UInt8),(104:UInt8),(49:UInt8),(47:UInt8),(120:UInt8)].toList].getD (↑(a.d % (4:UInt8)).toNat:Int).toNat [])∧(a.n=a.n)∧([97+a.a % 3]=[97+a.a % 3])∧([97+a.b % 3]=[97+a.b % 3])) ⟨rfl,rfl,rfl,rfl,rfl,rfl,rfl⟩ (show True from trivial)
      ·skip
       exact v_back (()) [6] (((↑(a.channel % 4).toNat:Int)=(↑(a.channel % 4).toNat:Int))∧((0:UInt64)=(0:UInt64))∧((0:UInt64)=(0:UInt64))∧([#[(97:UInt8),(116:UInt8),(111:UInt8),(109:UInt8)].toList,#[(99:UInt8),(104:UInt8),(48:UInt8),(47:UInt8),(97:UInt8),(116:UInt8),(111:UInt8),(109:UInt8)].toList,#[(99:UInt8),(104:UInt8),(49:UInt8),(47:UInt8),(99:UInt8),(104:UInt8),(48:UInt8),(47:UInt8),(97:UInt8),(116:UInt8),(111:UInt8),(109:UInt8)].toList,#[(99:UInt8),(104:UInt8),(49:UInt8),(47:UInt8),(120:UInt8)].toList].getD (↑(a.d % (4:UInt8)).toNat:Int).toNat []=[#[(97:UInt8),(116:UInt8),(111:UInt8),(109:UInt8)].toList,#[(99:UInt8),(104:UInt8),(48:UInt8),(47:UInt8),(97:UInt8),(116:UInt8),(111:UInt8),(109:UInt8)].toList,#[(99:UInt8),(104:UInt8),(49:UInt8),(47:UInt8),(99:UInt8),(104:UInt8),(48:UInt8),(47:UInt8),(97:UInt8),(116:UInt8),(111:UInt8),(109:UInt8)].toList,#[(99:UInt8),(104:UInt8),(49:UInt8),(47:UInt8),(120:UInt8)].toList].getD (↑(a.d % (4:UInt8)).toNat:Int).toNat [])∧(a.n=a.n)∧([97+a.a % 3]=[97+a.a % 3])∧([97+a.b % 3]=[97+a.b % 3])) ⟨rfl,rfl,rfl,rfl,rfl,rfl,rfl⟩ (show True from trivial)
     ·skip
      refine v_pick True trivial ?_ ?_
      ·skip
       exact v_back (()) [5] (((↑(a.channel % 4).toNat:Int)=(↑(a.channel % 4).toNat:Int))∧((0:UInt64)=(0:UInt64))∧((0:UInt64)=(0:UInt64))∧([#[(97:UInt8),(116:UInt8),(111:UInt8),(109:UInt8)].toList,#[(99:UInt8),(104:UInt8),(48:UInt8),(47:UInt8),(97:UInt8),(116:UInt8),(111:UInt8),(109:UInt8)].toList,#[(99:UInt8),(104:UInt8),(49:UInt8),(47:UInt8),(99:UInt8),(104:UInt8),(48:UInt8),(47:UInt8),(97:UInt8),(116:UInt8),(111:UInt8),(109:UInt8)].toList,#[(99:UInt8),(104:UInt8),(49:UInt8),(47:UInt8),(120:UInt8)].toList].getD (↑(a.d % (4:UInt8)).toNat:Int).toNat []=[#[(97:UInt8),(116:UInt8),(111:UInt8),(109:UInt8)].toList,#[(99:UInt8),(104:UInt8),(48:UInt8),(47:UInt8),(97:UInt8),(116:UInt8),(111:UInt8),(109:UInt8)].toList,#[(99:UInt8),(104:UInt8),(49:UInt8),(47:UInt8),(99:UInt8),(104:UInt8),(48:UInt8),(47:UInt8),(97:UInt8),(116:UInt8),(111:UInt8),(109:UInt8)].toList,#[(99:UInt8),(104:UInt8),(49:UInt8),(47:UInt8),(120:UInt8)].toList].getD (↑(a.d % (4:UInt8)).toNat:Int).toNat [])∧(a.n=a.n)∧([97+a.a % 3]=[97+a.a % 3])∧([97+a.b % 3]=[97+a.b % 3])) ⟨rfl,rfl,rfl,rfl,rfl,rfl,rfl⟩ (show True from trivial)
      ·skip
       exact v_back (()) [5] (((↑(a.channel % 4).toNat:Int)=(↑(a.channel % 4).toNat:Int))∧((0:UInt64)=(0:UInt64))∧((0:UInt64)=(0:UInt64))∧([#[(97:UInt8),(116:UInt8),(111:UInt8),(109:UInt8)].toList,#[(99:UInt8),(104:UInt8),(48:UInt8),(47:UInt8),(97:UInt8),(116:UInt8),(111:UInt8),(109:UInt8)].toList,#[(99:UInt8),(104:UInt8),(49:UInt8),(47:UInt8),(99:UInt8),(104:UInt8),(48:UInt8),(47:UInt8),(97:UInt8),(116:UInt8),(111:UInt8),(109:UInt8)].toList,#[(99:UInt8),(104:UInt8),(49:UInt8),(47:UInt8),(120:UInt8)].toList].getD (↑(a.d % (4:UInt8)).toNat:Int).toNat []=[#[(97:UInt8),(116:UInt8),(111:UInt8),(109:UInt8)].toList,#[(99:UInt8),(104:UInt8),(48:UInt8),(47:UInt8),(97:UInt8),(116:UInt8),(111:UInt8),(109:UInt8)].toList,#[(99:UInt8),(104:UInt8),(49:UInt8),(47:UInt8),(99:UInt8),(104:UInt8),(48:UInt8),(47:UInt8),(97:UInt8),(116:UInt8),(111:UInt8),(109:UInt8)].toList,#[(99:UInt8),(104:UInt8),(49:UInt8),(47:UInt8),(120:UInt8)].toList].getD (↑(a.d % (4:UInt8)).toNat:Int).toNat [])∧(a.n=a.n)∧([97+a.a % 3]=[97+a.a % 3])∧([97+a.b % 3]=[97+a.b % 3])) ⟨rfl,rfl,rfl,rfl,rfl,rfl,rfl⟩ (show True from trivial)
   ·skip
    refine v_pick True trivial ?_ ?_
    ·skip
     refine v_pick True trivial ?_ ?_
     ·skip
      refine v_pick (((0:Int)≤(↑(a.d % (4:UInt8)).toNat:Int)∧(↑(a.d % (4:UInt8)).toNat:Int)<(↑(4:Nat):Int))) (by(simp;omega)) ?_ ?_
      ·skip
       exact v_back (()) [7] (((↑(a.channel % 4).toNat:Int)=(↑(a.channel % 4).toNat:Int))∧((0:UInt64)=(0:UInt64))∧((0:UInt64)=(0:UInt64))∧([#[(97:UInt8),(116:UInt8),(111:UInt8),(109:UInt8)].toList,#[(99:UInt8),(104:UInt8),(48:UInt8),(47:UInt8),(97:UInt8),(116:UInt8),(111:UInt8),(109:UInt8)].toList,#[(99:UInt8),(104:UInt8),(49:UInt8),(47:UInt8),(99:UInt8),(104:UInt8),(48:UInt8),(47:UInt8),(97:UInt8),(116:UInt8),(111:UInt8),(109:UInt8)].toList,#[(99:UInt8),(104:UInt8),(49:UInt8),(47:UInt8),(120:UInt8)].toList].getD (↑(a.d % (4:UInt8)).toNat:Int).toNat []=[#[(97:UInt8),(116:UInt8),(111:UInt8),(109:UInt8)].toList,#[(99:UInt8),(104:UInt8),(48:UInt8),(47:UInt8),(97:UInt8),(116:UInt8),(111:UInt8),(109:UInt8)].toList,#[(99:UInt8),(104:UInt8),(49:UInt8),(47:UInt8),(99:UInt8),(104:UInt8),(48:UInt8),(47:UInt8),(97:UInt8),(116:UInt8),(111:UInt8),(109:UInt8)].toList,#[(99:UInt8),(104:UInt8),(49:UInt8),(47:UInt8),(120:UInt8)].toList].getD (↑(a.d % (4:UInt8)).toNat:Int).toNat [])∧(a.n=a.n)∧([97+a.a % 3]=[97+a.a % 3])∧([97+a.b % 3]=[97+a.b % 3])) ⟨rfl,rfl,rfl,rfl,rfl,rfl,rfl⟩ (show True from trivial)
      ·skip
       exact v_back (()) [6] (((↑(a.channel % 4).toNat:Int)=(↑(a.channel % 4).toNat:Int))∧((0:UInt64)=(0:UInt64))∧((0:UInt64)=(0:UInt64))∧([#[(97:UInt8),(116:UInt8),(111:UInt8),(109:UInt8)].toList,#[(99:UInt8),(104:UInt8),(48:UInt8),(47:UInt8),(97:UInt8),(116:UInt8),(111:UInt8),(109:UInt8)].toList,#[(99:UInt8),(104:UInt8),(49:UInt8),(47:UInt8),(99:UInt8),(104:UInt8),(48:UInt8),(47:UInt8),(97:UInt8),(116:UInt8),(111:UInt8),(109:UInt8)].toList,#[(99:UInt8),(104:UInt8),(49:UInt8),(47:UInt8),(120:UInt8)].toList].getD (↑(a.d % (4:UInt8)).toNat:Int).toNat []=[#[(97:UInt8),(116:UInt8),(111:UInt8),(109:UInt8)].toList,#[(99:UInt8),(104:UInt8),(48:UInt8),(47:UInt8),(97:UInt8),(116:UInt8),(111:UInt8),(109:UInt8)].toList,#[(99:UInt8),(104:UInt8),(49:UInt8),(47:UInt8),(99:UInt8),(104:UInt8),(48:UInt8),(47:UInt8),(97:UInt8),(116:UInt8),(111:UInt8),(109:UInt8)].toList,#[(99:UInt8),(104:UInt8),(49:UInt8),(47:UInt8),(120:UInt8)].toList].getD (↑(a.d % (4:UInt8)).toNat:Int).toNat [])∧(a.n=a.n)∧([97+a.a % 3]=[97+a.a % 3])∧([97+a.b % 3]=[97+a.b % 3])) ⟨rfl,rfl,rfl,rfl,rfl,rfl,rfl⟩ (show True from trivial)
     ·skip
      refine v_pick True trivial ?_ ?_
      ·skip
       refine v_pick True trivial ?_ ?_
       ·skip
        exact v_back (()) [7] (((0:Int)≤(↑(a.d % (4:UInt8)).toNat:Int)∧(↑(a.d % (4:UInt8)).toNat:Int)<(↑(4:Nat):Int))∧((↑(a.channel % 4).toNat:Int)=(↑(a.channel % 4).toNat:Int))∧((0:UInt64)=(0:UInt64))∧((0:UInt64)=(0:UInt64))∧([#[(97:UInt8),(116:UInt8),(111:UInt8),(109:UInt8)].toList,#[(99:UInt8),(104:UInt8),(48:UInt8),(47:UInt8),(97:UInt8),(116:UInt8),(111:UInt8),(109:UInt8)].toList,#[(99:UInt8),(104:UInt8),(49:UInt8),(47:UInt8),(99:UInt8),(104:UInt8),(48:UInt8),(47:UInt8),(97:UInt8),(116:UInt8),(111:UInt8),(109:UInt8)].toList,#[(99:UInt8),(104:UInt8),(49:UInt8),(47:UInt8),(120:UInt8)].toList].getD (↑(a.d % (4:UInt8)).toNat:Int).toNat []=[#[(97:UInt8),(116:UInt8),(111:UInt8),(109:UInt8)].toList,#[(99:UInt8),(104:UInt8),(48:UInt8),(47:UInt8),(97:UInt8),(116:UInt8),(111:UInt8),(109:UInt8)].toList,#[(99:UInt8),(104:UInt8),(49:UInt8),(47:UInt8),(99:UInt8),(104:UInt8),(48:UInt8),(47:UInt8),(97:UInt8),(116:UInt8),(111:UInt8),(109:UInt8)].toList,#[(99:UInt8),(104:UInt8),(49:UInt8),(47:UInt8),(120:UInt8)].toList].getD (↑(a.d % (4:UInt8)).toNat:Int).toNat [])∧(a.n=a.n)∧([97+a.a % 3]=[97+a.a % 3])∧([97+a.b % 3]=[97+a.b % 3])) ⟨(by(simp;omega)),rfl,rfl,rfl,rfl,rfl,rfl,rfl⟩ (show True from trivial)
       ·skip
        exact v_back (()) [5] (((0:Int)≤(↑(a.d % (4:UInt8)).toNat:Int)∧(↑(a.d % (4:UInt8)).toNat:Int)<(↑(4:Nat):Int))∧((↑(a.channel % 4).toNat:Int)=(↑(a.channel % 4).toNat:Int))∧((0:UInt64)=(0:UInt64))∧((0:UInt64)=(0:UInt64))∧([#[(97:UInt8),(116:UInt8),(111:UInt8),(109:UInt8)].toList,#[(99:UInt8),(104:UInt8),(48:UInt8),(47:UInt8),(97:UInt8),(116:UInt8),(111:UInt8),(109:UInt8)].toList,#[(99:UInt8),(104:UInt8),(49:UInt8),(47:UInt8),(99:UInt8),(104:UInt8),(48:UInt8),(47:UInt8),(97:UInt8),(116:UInt8),(111:UInt8),(109:UInt8)].toList,#[(99:UInt8),(104:UInt8),(49:UInt8),(47:UInt8),(120:UInt8)].toList].getD (↑(a.d % (4:UInt8)).toNat:Int).toNat []=[#[(97:UInt8),(116:UInt8),(111:UInt8),(109:UInt8)].toList,#[(99:UInt8),(104:UInt8),(48:UInt8),(47:UInt8),(97:UInt8),(116:UInt8),(111:UInt8),(109:UInt8)].toList,#[(99:UInt8),(104:UInt8),(49:UInt8),(47:UInt8),(99:UInt8),(104:UInt8),(48:UInt8),(47:UInt8),(97:UInt8),(116:UInt8),(111:UInt8),(109:UInt8)].toList,#[(99:UInt8),(104:UInt8),(49:UInt8),(47:UInt8),(120:UInt8)].toList].getD (↑(a.d % (4:UInt8)).toNat:Int).toNat [])∧(a.n=a.n)∧([97+a.a % 3]=[97+a.a % 3])∧([97+a.b % 3]=[97+a.b % 3])) ⟨(by(simp;omega)),rfl,rfl,rfl,rfl,rfl,rfl,rfl⟩ (show True from trivial)
      ·skip
       refine v_pick True trivial ?_ ?_
       ·skip
        exact v_back (()) [4] (((0:Int)≤(↑(a.d % (4:UInt8)).toNat:Int)∧(↑(a.d % (4:UInt8)).toNat:Int)<(↑(4:Nat):Int))∧((↑(a.channel % 4).toNat:Int)=(↑(a.channel % 4).toNat:Int))∧((0:UInt64)=(0:UInt64))∧((0:UInt64)=(0:UInt64))∧([#[(97:UInt8),(116:UInt8),(111:UInt8),(109:UInt8)].toList,#[(99:UInt8),(104:UInt8),(48:UInt8),(47:UInt8),(97:UInt8),(116:UInt8),(111:UInt8),(109:UInt8)].toList,#[(99:UInt8),(104:UInt8),(49:UInt8),(47:UInt8),(99:UInt8),(104:UInt8),(48:UInt8),(47:UInt8),(97:UInt8),(116:UInt8),(111:UInt8),(109:UInt8)].toList,#[(99:UInt8),(104:UInt8),(49:UInt8),(47:UInt8),(120:UInt8)].toList].getD (↑(a.d % (4:UInt8)).toNat:Int).toNat []=[#[(97:UInt8),(116:UInt8),(111:UInt8),(109:UInt8)].toList,#[(99:UInt8),(104:UInt8),(48:UInt8),(47:UInt8),(97:UInt8),(116:UInt8),(111:UInt8),(109:UInt8)].toList,#[(99:UInt8),(104:UInt8),(49:UInt8),(47:UInt8),(99:UInt8),(104:UInt8),(48:UInt8),(47:UInt8),(97:UInt8),(116:UInt8),(111:UInt8),(109:UInt8)].toList,#[(99:UInt8),(104:UInt8),(49:UInt8),(47:UInt8),(120:UInt8)].toList].getD (↑(a.d % (4:UInt8)).toNat:Int).toNat [])∧(a.n=a.n)∧([97+a.a % 3]=[97+a.a % 3])∧([97+a.b % 3]=[97+a.b % 3])) ⟨(by(simp;omega)),rfl,rfl,rfl,rfl,rfl,rfl,rfl⟩ (show True from trivial)
       ·skip
        exact v_back (()) [4] (((0:Int)≤(↑(a.d % (4:UInt8)).toNat:Int)∧(↑(a.d % (4:UInt8)).toNat:Int)<(↑(4:Nat):Int))∧((↑(a.channel % 4).toNat:Int)=(↑(a.channel % 4).toNat:Int))∧((0:UInt64)=(0:UInt64))∧((0:UInt64)=(0:UInt64))∧([#[(97:UInt8),(116:UInt8),(111:UInt8),(109:UInt8)].toList,#[(99:UInt8),(104:UInt8),(48:UInt8),(47:UInt8),(97:UInt8),(116:UInt8),(111:UInt8),(109:UInt8)].toList,#[(99:UInt8),(104:UInt8),(49:UInt8),(47:UInt8),(99:UInt8),(104:UInt8),(48:UInt8),(47:UInt8),(97:UInt8),(116:UInt8),(111:UInt8),(109:UInt8)].toList,#[(99:UInt8),(104:UInt8),(49:UInt8),(47:UInt8),(120:UInt8)].toList].getD (↑(a.d % (4:UInt8)).toNat:Int).toNat []=[#[(97:UInt8),(116:UInt8),(111:UInt8),(109:UInt8)].toList,#[(99:UInt8),(104:UInt8),(48:UInt8),(47:UInt8),(97:UInt8),(116:UInt8),(111:UInt8),(109:UInt8)].toList,#[(99:UInt8),(104:UInt8),(49:UInt8),(47:UInt8),(99:UInt8),(104:UInt8),(48:UInt8),(47:UInt8),(97:UInt8),(116:UInt8),(111:UInt8),(109:UInt8)].toList,#[(99:UInt8),(104:UInt8),(49:UInt8),(47:UInt8),(120:UInt8)].toList].getD (↑(a.d % (4:UInt8)).toNat:Int).toNat [])∧(a.n=a.n)∧([97+a.a % 3]=[97+a.a % 3])∧([97+a.b % 3]=[97+a.b % 3])) ⟨(by(simp;omega)),rfl,rfl,rfl,rfl,rfl,rfl,rfl⟩ (show True from trivial)
    ·skip
     refine v_pick True trivial ?_ ?_
     ·skip
      refine v_pick True trivial ?_ ?_
      ·skip
       refine v_pick (((0:Int)≤(↑(a.d % (4:UInt8)).toNat:Int)∧(↑(a.d % (4:UInt8)).toNat:Int)<(↑(4:Nat):Int))) (by(simp;omega)) ?_ ?_
       ·skip
        exact v_back (()) [7] (((↑(a.channel % 4).toNat:Int)=(↑(a.channel % 4).toNat:Int))∧((0:UInt64)=(0:UInt64))∧((0:UInt64)=(0:UInt64))∧([#[(97:UInt8),(116:UInt8),(111:UInt8),(109:UInt8)].toList,#[(99:UInt8),(104:UInt8),(48:UInt8),(47:UInt8),(97:UInt8),(116:UInt8),(111:UInt8),(109:UInt8)].toList,#[(99:UInt8),(104:UInt8),(49:UInt8),(47:UInt8),(99:UInt8),(104:UInt8),(48:UInt8),(47:UInt8),(97:UInt8),(116:UInt8),(111:UInt8),(109:UInt8)].toList,#[(99:UInt8),(104:UInt8),(49:UInt8),(47:UInt8),(120:UInt8)].toList].getD (↑(a.d % (4:UInt8)).toNat:Int).toNat []=[#[(97:UInt8),(116:UInt8),(111:UInt8),(109:UInt8)].toList,#[(99:UInt8),(104:UInt8),(48:UInt8),(47:UInt8),(97:UInt8),(116:UInt8),(111:UInt8),(109:UInt8)].toList,#[(99:UInt8),(104:UInt8),(49:UInt8),(47:UInt8),(99:UInt8),(104:UInt8),(48:UInt8),(47:UInt8),(97:UInt8),(116:UInt8),(111:UInt8),(109:UInt8)].toList,#[(99:UInt8),(104:UInt8),(49:UInt8),(47:UInt8),(120:UInt8)].toList].getD (↑(a.d % (4:UInt8)).toNat:Int).toNat [])∧(a.n=a.n)∧([97+a.a % 3]=[97+a.a % 3])∧([97+a.b % 3]=[97+a.b % 3])) ⟨rfl,rfl,rfl,rfl,rfl,rfl,rfl⟩ (show True from trivial)
       ·skip
        exact v_back (()) [6] (((↑(a.channel % 4).toNat:Int)=(↑(a.channel % 4).toNat:Int))∧((0:UInt64)=(0:UInt64))∧((0:UInt64)=(0:UInt64))∧([#[(97:UInt8),(116:UInt8),(111:UInt8),(109:UInt8)].toList,#[(99:UInt8),(104:UInt8),(48:UInt8),(47:UInt8),(97:UInt8),(116:UInt8),(111:UInt8),(109:UInt8)].toList,#[(99:UInt8),(104:UInt8),(49:UInt8),(47:UInt8),(99:UInt8),(104:UInt8),(48:UInt8),(47:UInt8),(97:UInt8),(116:UInt8),(111:UInt8),(109:UInt8)].toList,#[(99:UInt8),(104:UInt8),(49:UInt8),(47:UInt8),(120:UInt8)].toList].getD (↑(a.d % (4:UInt8)).toNat:Int).toNat []=[#[(97:UInt8),(116:UInt8),(111:UInt8),(109:UInt8)].toList,#[(99:UInt8),(104:UInt8),(48:UInt8),(47:UInt8),(97:UInt8),(116:UInt8),(111:UInt8),(109:UInt8)].toList,#[(99:UInt8),(104:UInt8),(49:UInt8),(47:UInt8),(99:UInt8),(104:UInt8),(48:UInt8),(47:UInt8),(97:UInt8),(116:UInt8),(111:UInt8),(109:UInt8)].toList,#[(99:UInt8),(104:UInt8),(49:UInt8),(47:UInt8),(120:UInt8)].toList].getD (↑(a.d % (4:UInt8)).toNat:Int).toNat [])∧(a.n=a.n)∧([97+a.a % 3]=[97+a.a % 3])∧([97+a.b % 3]=[97+a.b % 3])) ⟨rfl,rfl,rfl,rfl,rfl,rfl,rfl⟩ (show True from trivial)
      ·skip
       refine v_pick True trivial ?_ ?_
       ·skip
        refine v_pick True trivial ?_ ?_
        ·skip
         exact v_back (()) [7] (((0:Int)≤(↑(a.d % (4:UInt8)).toNat:Int)∧(↑(a.d % (4:UInt8)).toNat:Int)<(↑(4:Nat):Int))∧((↑(a.channel % 4).toNat:Int)=(↑(a.channel % 4).toNat:Int))∧((0:UInt64)=(0:UInt64))∧((0:UInt64)=(0:UInt64))∧([#[(97:UInt8),(116:UInt8),(111:UInt8),(109:UInt8)].toList,#[(99:UInt8),(104:UInt8),(48:UInt8),(47:UInt8),(97:UInt8),(116:UInt8),(111:UInt8),(109:UInt8)].toList,#[(99:UInt8),(104:UInt8),(49:UInt8),(47:UInt8),(99:UInt8),(104:UInt8),(48:UInt8),(47:UInt8),(97:UInt8),(116:UInt8),(111:UInt8),(109:UInt8)].toList,#[(99:UInt8),(104:UInt8),(49:UInt8),(47:UInt8),(120:UInt8)].toList].getD (↑(a.d % (4:UInt8)).toNat:Int).toNat []=[#[(97:UInt8),(116:UInt8),(111:UInt8),(109:UInt8)].toList,#[(99:UInt8),(104:UInt8),(48:UInt8),(47:UInt8),(97:UInt8),(116:UInt8),(111:UInt8),(109:UInt8)].toList,#[(99:UInt8),(104:UInt8),(49:UInt8),(47:UInt8),(99:UInt8),(104:UInt8),(48:UInt8),(47:UInt8),(97:UInt8),(116:UInt8),(111:UInt8),(109:UInt8)].toList,#[(99:UInt8),(104:UInt8),(49:UInt8),(47:UInt8),(120:UInt8)].toList].getD (↑(a.d % (4:UInt8)).toNat:Int).toNat [])∧(a.n=a.n)∧([97+a.a % 3]=[97+a.a % 3])∧([97+a.b % 3]=[97+a.b % 3])) ⟨(by(simp;omega)),rfl,rfl,rfl,rfl,rfl,rfl,rfl⟩ (show True from trivial)
        ·skip
         exact v_back (()) [5] (((0:Int)≤(↑(a.d % (4:UInt8)).toNat:Int)∧(↑(a.d % (4:UInt8)).toNat:Int)<(↑(4:Nat):Int))∧((↑(a.channel % 4).toNat:Int)=(↑(a.channel % 4).toNat:Int))∧((0:UInt64)=(0:UInt64))∧((0:UInt64)=(0:UInt64))∧([#[(97:UInt8),(116:UInt8),(111:UInt8),(109:UInt8)].toList,#[(99:UInt8),(104:UInt8),(48:UInt8),(47:UInt8),(97:UInt8),(116:UInt8),(111:UInt8),(109:UInt8)].toList,#[(99:UInt8),(104:UInt8),(49:UInt8),(47:UInt8),(99:UInt8),(104:UInt8),(48:UInt8),(47:UInt8),(97:UInt8),(116:UInt8),(111:UInt8),(109:UInt8)].toList,#[(99:UInt8),(104:UInt8),(49:UInt8),(47:UInt8),(120:UInt8)].toList].getD (↑(a.d % (4:UInt8)).toNat:Int).toNat []=[#[(97:UInt8),(116:UInt8),(111:UInt8),(109:UInt8)].toList,#[(99:UInt8),(104:UInt8),(48:UInt8),(47:UInt8),(97:UInt8),(116:UInt8),(111:UInt8),(109:UInt8)].toList,#[(99:UInt8),(104:UInt8),(49:UInt8),(47:UInt8),(99:UInt8),(104:UInt8),(48:UInt8),(47:UInt8),(97:UInt8),(116:UInt8),(111:UInt8),(109:UInt8)].toList,#[(99:UInt8),(104:UInt8),(49:UInt8),(47:UInt8),(120:UInt8)].toList].getD (↑(a.d % (4:UInt8)).toNat:Int).toNat [])∧(a.n=a.n)∧([97+a.a % 3]=[97+a.a % 3])∧([97+a.b % 3]=[97+a.b % 3])) ⟨(by(simp;omega)),rfl,rfl,rfl,rfl,rfl,rfl,rfl⟩ (show True from trivial)
       ·skip
        refine v_pick True trivial ?_ ?_
        ·skip
         exact v_back (()) [4] (((0:Int)≤(↑(a.d % (4:UInt8)).toNat:Int)∧(↑(a.d % (4:UInt8)).toNat:Int)<(↑(4:Nat):Int))∧((↑(a.channel % 4).toNat:Int)=(↑(a.channel % 4).toNat:Int))∧((0:UInt64)=(0:UInt64))∧((0:UInt64)=(0:UInt64))∧([#[(97:UInt8),(116:UInt8),(111:UInt8),(109:UInt8)].toList,#[(99:UInt8),(104:UInt8),(48:UInt8),(47:UInt8),(97:UInt8),(116:UInt8),(111:UInt8),(109:UInt8)].toList,#[(99:UInt8),(104:UInt8),(49:UInt8),(47:UInt8),(99:UInt8),(104:UInt8),(48:UInt8),(47:UInt8),(97:UInt8),(116:UInt8),(111:UInt8),(109:UInt8)].toList,#[(99:UInt8),(104:UInt8),(49:UInt8),(47:UInt8),(120:UInt8)].toList].getD (↑(a.d % (4:UInt8)).toNat:Int).toNat []=[#[(97:UInt8),(116:UInt8),(111:UInt8),(109:UInt8)].toList,#[(99:UInt8),(104:UInt8),(48:UInt8),(47:UInt8),(97:UInt8),(116:UInt8),(111:UInt8),(109:UInt8)].toList,#[(99:UInt8),(104:UInt8),(49:UInt8),(47:UInt8),(99:UInt8),(104:UInt8),(48:UInt8),(47:UInt8),(97:UInt8),(116:UInt8),(111:UInt8),(109:UInt8)].toList,#[(99:UInt8),(104:UInt8),(49:UInt8),(47:UInt8),(120:UInt8)].toList].getD (↑(a.d % (4:UInt8)).toNat:Int).toNat [])∧(a.n=a.n)∧([97+a.a % 3]=[97+a.a % 3])∧([97+a.b % 3]=[97+a.b % 3])) ⟨(by(simp;omega)),rfl,rfl,rfl,rfl,rfl,rfl,rfl⟩ (show True from trivial)
        ·skip
         exact v_back (()) [4] (((0:Int)≤(↑(a.d % (4:UInt8)).toNat:Int)∧(↑(a.d % (4:UInt8)).toNat:Int)<(↑(4:Nat):Int))∧((↑(a.channel % 4).toNat:Int)=(↑(a.channel % 4).toNat:Int))∧((0:UInt64)=(0:UInt64))∧((0:UInt64)=(0:UInt64))∧([#[(97:UInt8),(116:UInt8),(111:UInt8),(109:UInt8)].toList,#[(99:UInt8),(104:UInt8),(48:UInt8),(47:UInt8),(97:UInt8),(116:UInt8),(111:UInt8),(109:UInt8)].toList,#[(99:UInt8),(104:UInt8),(49:UInt8),(47:UInt8),(99:UInt8),(104:UInt8),(48:UInt8),(47:UInt8),(97:UInt8),(116:UInt8),(111:UInt8),(109:UInt8)].toList,#[(99:UInt8),(104:UInt8),(49:UInt8),(47:UInt8),(120:UInt8)].toList].getD (↑(a.d % (4:UInt8)).toNat:Int).toNat []=[#[(97:UInt8),(116:UInt8),(111:UInt8),(109:UInt8)].toList,#[(99:UInt8),(104:UInt8),(48:UInt8),(47:UInt8),(97:UInt8),(116:UInt8),(111:UInt8),(109:UInt8)].toList,#[(99:UInt8),(104:UInt8),(49:UInt8),(47:UInt8),(99:UInt8),(104:UInt8),(48:UInt8),(47:UInt8),(97:UInt8),(116:UInt8),(111:UInt8),(109:UInt8)].toList,#[(99:UInt8),(104:UInt8),(49:UInt8),(47:UInt8),(120:UInt8)].toList].getD (↑(a.d % (4:UInt8)).toNat:Int).toNat [])∧(a.n=a.n)∧([97+a.a % 3]=[97+a.a % 3])∧([97+a.b % 3]=[97+a.b % 3])) ⟨(by(simp;omega)),rfl,rfl,rfl,rfl,rfl,rfl,rfl⟩ (show True from trivial)
     ·skip
      refine v_pick True trivial ?_ ?_
      ·skip
       refine v_pick (((0:Int)≤(↑(a.d % (4:UInt8)).toNat:Int)∧(↑(a.d % (4:UInt8)).toNat:Int)<(↑(4:Nat):Int))) (by(simp;omega)) ?_ ?_
       ·skip
        exact v_back (()) [3] (((↑(a.channel % 4).toNat:Int)=(↑(a.channel % 4).toNat:Int))∧((0:UInt64)=(0:UInt64))∧((0:UInt64)=(0:UInt64))∧([#[(97:UInt8),(116:UInt8),(111:UInt8),(109:UInt8)].toList,#[(99:UInt8),(104:UInt8),(48:UInt8),(47:UInt8),(97:UInt8),(116:UInt8),(111:UInt8),(109:UInt8)].toList,#[(99:UInt8),(104:UInt8),(49:UInt8),(47:UInt8),(99:UInt8),(104:UInt8),(48:UInt8),(47:UInt8),(97:UInt8),(116:UInt8),(111:UInt8),(109:UInt8)].toList,#[(99:UInt8),(104:UInt8),(49:UInt8),(47:UInt8),(120:UInt8)].toList].getD (↑(a.d % (4:UInt8)).toNat:Int).toNat []=[#[(97:UInt8),(116:UInt8),(111:UInt8),(109:UInt8)].toList,#[(99:UInt8),(104:UInt8),(48:UInt8),(47:UInt8),(97:UInt8),(116:UInt8),(111:UInt8),(109:UInt8)].toList,#[(99:UInt8),(104:UInt8),(49:UInt8),(47:UInt8),(99:UInt8),(104:UInt8),(48:UInt8),(47:UInt8),(97:UInt8),(116:UInt8),(111:UInt8),(109:UInt8)].toList,#[(99:UInt8),(104:UInt8),(49:UInt8),(47:UInt8),(120:UInt8)].toList].getD (↑(a.d % (4:UInt8)).toNat:Int).toNat [])∧(a.n=a.n)∧([97+a.a % 3]=[97+a.a % 3])∧([97+a.b % 3]=[97+a.b % 3])) ⟨rfl,rfl,rfl,rfl,rfl,rfl,rfl⟩ (show True from trivial)
       ·skip
        exact v_back (()) [3] (((↑(a.channel % 4).toNat:Int)=(↑(a.channel % 4).toNat:Int))∧((0:UInt64)=(0:UInt64))∧((0:UInt64)=(0:UInt64))∧([#[(97:UInt8),(116:UInt8),(111:UInt8),(109:UInt8)].toList,#[(99:UInt8),(104:UInt8),(48:UInt8),(47:UInt8),(97:UInt8),(116:UInt8),(111:UInt8),(109:UInt8)].toList,#[(99:UInt8),(104:UInt8),(49:UInt8),(47:UInt8),(99:UInt8),(104:UInt8),(48:UInt8),(47:UInt8),(97:UInt8),(116:UInt8),(111:UInt8),(109:UInt8)].toList,#[(99:UInt8),(104:UInt8),(49:UInt8),(47:UInt8),(120:UInt8)].toList].getD (↑(a.d % (4:UInt8)).toNat:Int).toNat []=[#[(97:UInt8),(116:UInt8),(111:UInt8),(109:UInt8)].toList,#[(99:UInt8),(104:UInt8),(48:UInt8),(47:UInt8),(97:UInt8),(116:UInt8),(111:UInt8),(109:UInt8)].toList,#[(99:UInt8),(104:UInt8),(49:UInt8),(47:UInt8),(99:UInt8),(104:UInt8),(48:UInt8),(47:UInt8),(97:UInt8),(116:UInt8),(111:UInt8),(109:UInt8)].toList,#[(99:UInt8),(104:UInt8),(49:UInt8),(47:UInt8),(120:UInt8)].toList].getD (↑(a.d % (4:UInt8)).toNat:Int).toNat [])∧(a.n=a.n)∧([97+a.a % 3]=[97+a.a % 3])∧([97+a.b % 3]=[97+a.b % 3])) ⟨rfl,rfl,rfl,rfl,rfl,rfl,rfl⟩ (show True from trivial)
      ·skip
       refine v_pick True trivial ?_ ?_
       ·skip
        refine v_pick True trivial ?_ ?_
        ·skip
         exact v_back (()) [3] (((0:Int)≤(↑(a.d % (4:UInt8)).toNat:Int)∧(↑(a.d % (4:UInt8)).toNat:Int)<(↑(4:Nat):Int))∧((↑(a.channel % 4).toNat:Int)=(↑(a.channel % 4).toNat:Int))∧((0:UInt64)=(0:UInt64))∧((0:UInt64)=(0:UInt64))∧([#[(97:UInt8),(116:UInt8),(111:UInt8),(109:UInt8)].toList,#[(99:UInt8),(104:UInt8),(48:UInt8),(47:UInt8),(97:UInt8),(116:UInt8),(111:UInt8),(109:UInt8)].toList,#[(99:UInt8),(104:UInt8),(49:UInt8),(47:UInt8),(99:UInt8),(104:UInt8),(48:UInt8),(47:UInt8),(97:UInt8),(116:UInt8),(111:UInt8),(109:UInt8)].toList,#[(99:UInt8),(104:UInt8),(49:UInt8),(47:UInt8),(120:UInt8)].toList].getD (↑(a.d % (4:UInt8)).toNat:Int).toNat []=[#[(97:UInt8),(116:UInt8),(111:UInt8),(109:UInt8)].toList,#[(99:UInt8),(104:UInt8),(48:UInt8),(47:UInt8),(97:UInt8),(116:UInt8),(111:UInt8),(109:UInt8)].toList,#[(99:UInt8),(104:UInt8),(49:UInt8),(47:UInt8),(99:UInt8),(104:UInt8),(48:UInt8),(47:UInt8),(97:UInt8),(116:UInt8),(111:UInt8),(109:UInt8)].toList,#[(99:UInt8),(104:UInt8),(49:UInt8),(47:UInt8),(120:UInt8)].toList].getD (↑(a.d % (4:UInt8)).toNat:Int).toNat [])∧(a.n=a.n)∧([97+a.a % 3]=[97+a.a % 3])∧([97+a.b % 3]=[97+a.b % 3])) ⟨(by(simp;omega)),rfl,rfl,rfl,rfl,rfl,rfl,rfl⟩ (show True from trivial)
        ·skip
         exact v_back (()) [3] (((0:Int)≤(↑(a.d % (4:UInt8)).toNat:Int)∧(↑(a.d % (4:UInt8)).toNat:Int)<(↑(4:Nat):Int))∧((↑(a.channel % 4).toNat:Int)=(↑(a.channel % 4).toNat:Int))∧((0:UInt64)=(0:UInt64))∧((0:UInt64)=(0:UInt64))∧([#[(97:UInt8),(116:UInt8),(111:UInt8),(109:UInt8)].toList,#[(99:UInt8),(104:UInt8),(48:UInt8),(47:UInt8),(97:UInt8),(116:UInt8),(111:UInt8),(109:UInt8)].toList,#[(99:UInt8),(104:UInt8),(49:UInt8),(47:UInt8),(99:UInt8),(104:UInt8),(48:UInt8),(47:UInt8),(97:UInt8),(116:UInt8),(111:UInt8),(109:UInt8)].toList,#[(99:UInt8),(104:UInt8),(49:UInt8),(47:UInt8),(120:UInt8)].toList].getD (↑(a.d % (4:UInt8)).toNat:Int).toNat []=[#[(97:UInt8),(116:UInt8),(111:UInt8),(109:UInt8)].toList,#[(99:UInt8),(104:UInt8),(48:UInt8),(47:UInt8),(97:UInt8),(116:UInt8),(111:UInt8),(109:UInt8)].toList,#[(99:UInt8),(104:UInt8),(49:UInt8),(47:UInt8),(99:UInt8),(104:UInt8),(48:UInt8),(47:UInt8),(97:UInt8),(116:UInt8),(111:UInt8),(109:UInt8)].toList,#[(99:UInt8),(104:UInt8),(49:UInt8),(47:UInt8),(120:UInt8)].toList].getD (↑(a.d % (4:UInt8)).toNat:Int).toNat [])∧(a.n=a.n)∧([97+a.a % 3]=[97+a.a % 3])∧([97+a.b % 3]=[97+a.b % 3])) ⟨(by(simp;omega)),rfl,rfl,rfl,rfl,rfl,rfl,rfl⟩ (show True from trivial)
       ·skip
        refine v_pick True trivial ?_ ?_
        ·skip
         exact v_back (()) [3] (((0:Int)≤(↑(a.d % (4:UInt8)).toNat:Int)∧(↑(a.d % (4:UInt8)).toNat:Int)<(↑(4:Nat):Int))∧((↑(a.channel % 4).toNat:Int)=(↑(a.channel % 4).toNat:Int))∧((0:UInt64)=(0:UInt64))∧((0:UInt64)=(0:UInt64))∧([#[(97:UInt8),(116:UInt8),(111:UInt8),(109:UInt8)].toList,#[(99:UInt8),(104:UInt8),(48:UInt8),(47:UInt8),(97:UInt8),(116:UInt8),(111:UInt8),(109:UInt8)].toList,#[(99:UInt8),(104:UInt8),(49:UInt8),(47:UInt8),(99:UInt8),(104:UInt8),(48:UInt8),(47:UInt8),(97:UInt8),(116:UInt8),(111:UInt8),(109:UInt8)].toList,#[(99:UInt8),(104:UInt8),(49:UInt8),(47:UInt8),(120:UInt8)].toList].getD (↑(a.d % (4:UInt8)).toNat:Int).toNat []=[#[(97:UInt8),(116:UInt8),(111:UInt8),(109:UInt8)].toList,#[(99:UInt8),(104:UInt8),(48:UInt8),(47:UInt8),(97:UInt8),(116:UInt8),(111:UInt8),(109:UInt8)].toList,#[(99:UInt8),(104:UInt8),(49:UInt8),(47:UInt8),(99:UInt8),(104:UInt8),(48:UInt8),(47:UInt8),(97:UInt8),(116:UInt8),(111:UInt8),(109:UInt8)].toList,#[(99:UInt8),(104:UInt8),(49:UInt8),(47:UInt8),(120:UInt8)].toList].getD (↑(a.d % (4:UInt8)).toNat:Int).toNat [])∧(a.n=a.n)∧([97+a.a % 3]=[97+a.a % 3])∧([97+a.b % 3]=[97+a.b % 3])) ⟨(by(simp;omega)),rfl,rfl,rfl,rfl,rfl,rfl,rfl⟩ (show True from trivial)
        ·skip
         exact v_back (()) [3] (((0:Int)≤(↑(a.d % (4:UInt8)).toNat:Int)∧(↑(a.d % (4:UInt8)).toNat:Int)<(↑(4:Nat):Int))∧((↑(a.channel % 4).toNat:Int)=(↑(a.channel % 4).toNat:Int))∧((0:UInt64)=(0:UInt64))∧((0:UInt64)=(0:UInt64))∧([#[(97:UInt8),(116:UInt8),(111:UInt8),(109:UInt8)].toList,#[(99:UInt8),(104:UInt8),(48:UInt8),(47:UInt8),(97:UInt8),(116:UInt8),(111:UInt8),(109:UInt8)].toList,#[(99:UInt8),(104:UInt8),(49:UInt8),(47:UInt8),(99:UInt8),(104:UInt8),(48:UInt8),(47:UInt8),(97:UInt8),(116:UInt8),(111:UInt8),(109:UInt8)].toList,#[(99:UInt8),(104:UInt8),(49:UInt8),(47:UInt8),(120:UInt8)].toList].getD (↑(a.d % (4:UInt8)).toNat:Int).toNat []=[#[(97:UInt8),(116:UInt8),(111:UInt8),(109:UInt8)].toList,#[(99:UInt8),(104:UInt8),(48:UInt8),(47:UInt8),(97:UInt8),(116:UInt8),(111:UInt8),(109:UInt8)].toList,#[(99:UInt8),(104:UInt8),(49:UInt8),(47:UInt8),(99:UInt8),(104:UInt8),(48:UInt8),(47:UInt8),(97:UInt8),(116:UInt8),(111:UInt8),(109:UInt8)].toList,#[(99:UInt8),(104:UInt8),(49:UInt8),(47:UInt8),(120:UInt8)].toList].getD (↑(a.d % (4:UInt8)).toNat:Int).toNat [])∧(a.n=a.n)∧([97+a.a % 3]=[97+a.a % 3])∧([97+a.b % 3]=[97+a.b % 3])) ⟨(by(simp;omega)),rfl,rfl,rfl,rfl,rfl,rfl,rfl⟩ (show True from trivial)
  ·skip
   refine v_if (decide (a.d % 16=14)) (((16:UInt8)≠(0:UInt8))) (by decide) (fun h2=>?_) (fun h2=>?_)
   ·have h2:=of_decide_eq_true h2
    refine v_if (decide (a.d % 16=13)) (((16:UInt8)≠(0:UInt8))) (by decide) (fun h3=>?_) (fun h3=>?_)
    ·have h3:=of_decide_eq_true h3
     exfalso;with_reducible exact(dk1 ‹_› ‹_›).elim
    ·have h3:=of_decide_eq_false h3
     refine v_if (decide (a.d % 16=12)) (((16:UInt8)≠(0:UInt8))) (by decide) (fun h4=>?_) (fun h4=>?_)
     ·have h4:=of_decide_eq_true h4
      exfalso;with_reducible exact(dk2 ‹_› ‹_›).elim
     ·have h4:=of_decide_eq_false h4
      exact v_ret () [] ((↑(a.channel % 4).toNat=(pkA a).channel)∧(0=(pkA a).seq)∧(0=(pkA a).timeout)∧([#[97,116,111,109].toList,#[99,104,48,47,97,116,111,109].toList,#[99,104,49,47,99,104,48,47,97,116,111,109].toList,#[99,104,49,47,120].toList].getD (↑(a.d % 4).toNat:Int).toNat []=(pkA a).denom)∧(a.n=(pkA a).amount)∧(a.raw.from_=(pkA a).from_)∧([97+a.b % 3]=(pkA a).to)) ⟨(by(rw[pkA_e ‹_›];done)),(by(rw[pkA_e ‹_›];done)),(by(rw[pkA_e ‹_›];done)),(by(rw[pkA_e ‹_›];exact(if_neg ‹_›).symm)),(by(rw[pkA_e ‹_›];done)),(by(rw[pkA_e ‹_›];exact(if_pos ‹_›).symm)),(by(rw[pkA_e ‹_›];exact(if_neg ‹_›).symm))⟩ trivial
   ·have h2:=of_decide_eq_false h2
    refine v_if (decide (a.d % 16=13)) (((16:UInt8)≠(0:UInt8))) (by decide) (fun h5=>?_) (fun h5=>?_)
    ·have h5:=of_decide_eq_true h5
     refine v_if (decide (a.d % 16=12)) (((16:UInt8)≠(0:UInt8))) (by decide) (fun h6=>?_) (fun h6=>?_)
     ·have h6:=of_decide_eq_true h6
      exfalso;with_reducible exact(dk3 ‹_› ‹_›).elim
     ·have h6:=of_decide_eq_false h6
      exact v_ret () [] ((↑(a.channel % 4).toNat=(pkA a).channel)∧(0=(pkA a).seq)∧(0=(pkA a).timeout)∧([#[97,116,111,109].toList,#[99,104,48,47,97,116,111,109].toList,#[99,104,49,47,99,104,48,47,97,116,111,109].toList,#[99,104,49,47,120].toList].getD (↑(a.d % 4).toNat:Int).toNat []=(pkA a).denom)∧(a.n=(pkA a).amount)∧([97+a.a % 3]=(pkA a).from_)∧(a.raw.to=(pkA a).to)) ⟨(by(rw[pkA_e ‹_›];done)),(by(rw[pkA_e ‹_›];done)),(by(rw[pkA_e ‹_›];done)),(by(rw[pkA_e ‹_›];exact(if_neg ‹_›).symm)),(by(rw[pkA_e ‹_›];done)),(by(rw[pkA_e ‹_›];exact(if_neg ‹_›).symm)),(by(rw[pkA_e ‹_›];exact(if_pos ‹_›).symm))⟩ trivial
    ·have h5:=of_decide_eq_false h5
     refine v_if (decide (a.d % 16=12)) (((16:UInt8)≠(0:UInt8))) (by decide) (fun h7=>?_) (fun h7=>?_)
     ·have h7:=of_decide_eq_true h7
      exact v_ret () [] ((↑(a.channel % 4).toNat=(pkA a).channel)∧(0=(pkA a).seq)∧(0=(pkA a).timeout)∧(a.raw.denom=(pkA a).denom)∧(a.n=(pkA a).amount)∧([97+a.a % 3]=(pkA a).from_)∧([97+a.b % 3]=(pkA a).to)) ⟨(by(rw[pkA_e ‹_›];done)),(by(rw[pkA_e ‹_›];done)),(by(rw[pkA_e ‹_›];done)),(by(rw[pkA_e ‹_›];exact(if_pos ‹_›).symm)),(by(rw[pkA_e ‹_›];done)),(by(rw[pkA_e ‹_›];exact(if_neg ‹_›).symm)),(by(rw[pkA_e ‹_›];exact(if_neg ‹_›).symm))⟩ trivial
     ·have h7:=of_decide_eq_false h7
      exact v_ret () [] ((↑(a.channel % 4).toNat=(pkA a).channel)∧(0=(pkA a).seq)∧(0=(pkA a).timeout)∧([#[97,116,111,109].toList,#[99,104,48,47,97,116,111,109].toList,#[99,104,49,47,99,104,48,47,97,116,111,109].toList,#[99,104,49,47,120].toList].getD (↑(a.d % 4).toNat:Int).toNat []=(pkA a).denom)∧(a.n=(pkA a).amount)∧([97+a.a % 3]=(pkA a).from_)∧([97+a.b % 3]=(pkA a).to)) ⟨(by(rw[pkA_e ‹_›];done)),(by(rw[pkA_e ‹_›];done)),(by(rw[pkA_e ‹_›];done)),(by(rw[pkA_e ‹_›];exact(if_neg ‹_›).symm)),(by(rw[pkA_e ‹_›];done)),(by(rw[pkA_e ‹_›];exact(if_neg ‹_›).symm)),(by(rw[pkA_e ‹_›];exact(if_neg ‹_›).symm))⟩ trivial
section
variable {B B':BK} {a c d:List UInt8} {n:UInt64} {p:Packet} {v o:Option Er}
theorem tb0 {b:Bool} (h:¬ b=true):b=false:=by cases b <;> simp_all
theorem tB_len (h':B'.length≤B.length+2):(tB p B B').length≤B.length+2:=by unfold tB;split;exact h';omega
theorem tsd_len:(tB p B (sdB B p)).length≤B.length+2:=tB_len (by unfold sdB;split;exact Nat.le_trans taB_len (by omega);exact moB_len)
theorem trc_len:(tB p B (rcB B p)).length≤B.length+2:=tB_len (by unfold rcB;split;exact moB_len;exact Nat.le_trans giB_len (by omega))
theorem trf_len:(tB p B (rfB B p)).length≤B.length+2:=tB_len (by unfold rfB;split;exact Nat.le_trans giB_len (by omega);exact moB_len)
variable {coins:List Coin} {i:Nat} {t:TAct}
abbrev lnC (c:Coin):Int:=(c.account.length:Int)+(c.denom.length:Int)
theorem i64_2 (h1:a.length≤140737488351232) (h2:c.length≤140737488351232):I64 ((a.length:Int)+(c.length:Int)):=by unfold I64;omega
theorem pkA_ln (h1:t.raw.denom.length≤140737488351232) (h2:t.raw.from_.length≤140737488351232) (h3:t.raw.to.length≤140737488351232):(pkA t).denom.length≤140737488351232∧(pkA t).from_.length≤140737488351232∧(pkA t).to.length≤140737488351232:=by
  by_cases e:t.d % 16=15
  · rw[pkA_1 e];exact⟨h1,h2,h3⟩
  · rw [pkA_e e]
    refine⟨?_,?_,?_⟩
    · show (if t.d % 16 = 12 then t.raw.denom else dn4 t.d).length ≤ _
      split
      · exact h1
      · have k:∀ n,([(#[97,116,111,109]:Array UInt8).toList,(#[99,104,48,47,97,116,111,109]:Array UInt8).toList,(#[99,104,49,47,99,104,48,47,97,116,111,109]:Array UInt8).toList,(#[99,104,49,47,120]:Array UInt8).toList].getD n []).length≤12:=fun n=>by
          rcases n with _ | _ | _ | _ | n <;> exact Nat.le_of_ble_eq_true rfl
        exact Nat.le_trans (k _) (by decide)
    · show (if t.d % 16 = 14 then t.raw.from_ else [97 + t.a % 3]).length ≤ _
      split
      · exact h2
      · exact Nat.le_of_ble_eq_true rfl
    · show (if t.d % 16 = 13 then t.raw.to else [97 + t.b % 3]).length ≤ _
      split
      · exact h3
      · exact Nat.le_of_ble_eq_true rfl
end
abbrev ltP (c:UInt8):Prop:=(97≤c∧c≤122)∨(48≤c∧c≤57)
def ltr (c:UInt8):Bool:=decide (ltP c)
section
variable {c:UInt8}
theorem lr1 (h:97≤c) (h2:c≤122):true=ltr c:=(decide_eq_true (.inl ⟨h,h2⟩)).symm
theorem lr3 (h:¬ 97≤c) (h2:¬ 48≤c):false=ltr c:=(decide_eq_false (fun q=>q.elim (fun z=>h z.1) (fun z=>h2 z.1))).symm
theorem lr5 (h:¬ c≤122) (h2:¬ 48≤c):false=ltr c:=(decide_eq_false (fun q=>q.elim (fun z=>h z.2) (fun z=>h2 z.1))).symm
theorem lr7 (h:¬ 97≤c) (h2:48≤c):decide (c≤57)=ltr c:=decide_eq_decide.2 ⟨fun z=>.inr ⟨h2,z⟩,fun q=>q.elim (fun z=>absurd z.1 h) (·.2)⟩
theorem lr8 (h:¬ c≤122) (h2:48≤c):decide (c≤57)=ltr c:=decide_eq_decide.2 ⟨fun z=>.inr ⟨h2,z⟩,fun q=>q.elim (fun z=>absurd z.2 h) (·.2)⟩
end
noncomputable def ccZ1_62:Code:=(Tryz.f62.body).getD .skip
theorem Letter_ok (c:UInt8):FOk EN 62 ⟨[],[.c c],Unit,fun _=>([],.b (ltr c)),fun _=>True⟩:=by
 refine v_fun Tryz.f62 ccZ1_62 MX (fun ν F σ w=>?_) Tryz.func62
 refine v_nl ?_
 refine v_guard 5 (decide (97≤c)) True trivial (fun h1=>?_) (fun h1=>?_)
 ·have h1:=of_decide_eq_true h1
  refine v_guard 9 (decide (c≤122)) True trivial (fun h2=>?_) (fun h2=>?_)
  ·have h2:=of_decide_eq_true h2
   exact v_ret () [] ((true=ltr c)) (by exact lr1 ‹_› ‹_›) trivial
  ·have h2:=of_decide_eq_false h2
   refine v_guard 12 (decide (48≤c)) True trivial (fun h3=>?_) (fun h3=>?_)
   ·have h3:=of_decide_eq_true h3
    exact v_ret () [] ((decide (c≤57)=ltr c)) (by exact lr8 ‹_› ‹_›) trivial
   ·have h3:=of_decide_eq_false h3
    exact v_ret () [] ((false=ltr c)) (by exact lr5 ‹_› ‹_›) trivial
 ·have h1:=of_decide_eq_false h1
  refine v_guard 12 (decide (48≤c)) True trivial (fun h4=>?_) (fun h4=>?_)
  ·have h4:=of_decide_eq_true h4
   exact v_ret () [] ((decide (c≤57)=ltr c)) (by exact lr7 ‹_› ‹_›) trivial
  ·have h4:=of_decide_eq_false h4
   exact v_ret () [] ((false=ltr c)) (by exact lr3 ‹_› ‹_›) trivial
section
variable {s:List UInt8} {i:Nat} {c:Int}
theorem zd1 (h:(s.length:Int)<1):false=ckS s:=ck1 (by omega)
theorem zd2 (h:40<(s.length:Int)):false=ckS s:=ck2 h
theorem zd3 (h1:¬ (s.length:Int)<1) (h2:¬ 40<(s.length:Int)) (h:s.getD 0 0=47):false=ckS s :=
  ck3 (i:=0) (by omega) h2 (by omega) fun q=>by
    rcases q with⟨q,_⟩ | ⟨q,_⟩ | ⟨_,q,_⟩
    · rw[h] at q;exact absurd q (by decide)
    · rw[h] at q;exact absurd q (by decide)
    · omega
theorem zd4 (h1:¬ (s.length:Int)<1) (h2:¬ 40<(s.length:Int)) (h:s.getD ((s.length:Int) - 1).toNat 0=47):false=ckS s :=
  ck3 (i:=((s.length:Int) - 1).toNat) (by omega) h2 (by omega) fun q=>by
    rcases q with⟨q,_⟩ | ⟨q,_⟩ | ⟨_,_,q,_⟩
    · rw[h] at q;exact absurd q (by decide)
    · rw[h] at q;exact absurd q (by decide)
    · omega
theorem zd5 (h1:¬ (s.length:Int)<1) (h2:¬ 40<(s.length:Int)) (hi:(i:Int)<s.length) (h:ltr (s.getD i 0)=false) (h3:¬ s.getD i 0=47):false=ckS s :=
  ck3 (i:=i) (by omega) h2 hi fun q=>by
    have:=of_decide_eq_false h
    rcases q with q | q | q
    · exact this (.inl q)
    · exact this (.inr q)
    · exact h3 q.1
theorem zd6 (h1:¬ (s.length:Int)<1) (h2:¬ 40<(s.length:Int)) (hi:(i:Int)<s.length) (h:s.getD i 0=47) (h3:s.getD ((i:Int) - 1).toNat 0=47):false=ckS s :=
  ck3 (i:=i) (by omega) h2 hi fun q=>by
    rcases q with⟨q,_⟩ | ⟨q,_⟩ | ⟨_,_,_,q⟩
    · rw[h] at q;exact absurd q (by decide)
    · rw[h] at q;exact absurd q (by decide)
    · exact q h3
theorem zdi (h0:¬ s.getD 0 0=47) (h:s.getD i 0=47):0<i:=by
  cases i with
  | zero=>exact absurd h h0
  | succ i=>exact Nat.succ_pos _
theorem zdb (h0:¬ s.getD 0 0=47) (hi:(i:Int)<s.length) (h:s.getD i 0=47):0≤(i:Int) - 1∧(i:Int) - 1<s.length:=by have:=zdi h0 h;omega
theorem zd7 (hk:ckN s i=true∧i≤s.length) (hi:(i:Int)<s.length) (h:ltr (s.getD i 0)=true):(ckN s (i+1)=true∧i+1≤s.length)∧s.length - (i+1)<s.length - i :=
  ck5 hk hi ((of_decide_eq_true h).elim .inl (fun q=>.inr (.inl q)))
theorem zd8 (h0:¬ s.getD 0 0=47) (h1:¬ s.getD ((s.length:Int) - 1).toNat 0=47) (hk:ckN s i=true∧i≤s.length) (hi:(i:Int)<s.length) (h:s.getD i 0=47) (h3:¬ s.getD ((i:Int) - 1).toNat 0=47):(ckN s (i+1)=true∧i+1≤s.length)∧s.length - (i+1)<s.length - i:=by
  refine ck5 hk hi (.inr (.inr ⟨h,by have:=zdi h0 h;omega,?_,h3⟩))
  by_cases e:i=((s.length:Int) - 1).toNat
  · rw[← e] at h1;exact absurd h h1
  · omega
theorem zd9 (h1:¬ (s.length:Int)<1) (h2:¬ 40<(s.length:Int)) (hk:ckN s i=true∧i≤s.length) (hi:¬ (i:Int)<s.length):true=ckS s:=ck4 (by omega) h2 hk hi
end
noncomputable def ccZ1_50:Code:=(Tryz.f50.body).getD .skip
theorem Denom_ok (s:List UInt8):FOk EN 50 ⟨[],[.s s],Unit,fun _=>([],.b (ckS s)),fun _=>True⟩:=by
 refine v_fun Tryz.f50 ccZ1_50 MX (fun ν F σ w=>?_) Tryz.func50
 refine v_nl ?_
 refine v_guard 7 (decide ((↑s.length:Int)<1)) True trivial (fun h1=>?_) (fun h1=>?_)
 ·have h1:=of_decide_eq_true h1
  exact v_ret () [] ((false=ckS s)) (by exact zd1 ‹_›) trivial
 ·have h1:=of_decide_eq_false h1
  refine v_guard 12 (decide (40<(↑s.length:Int))) True trivial (fun h2=>?_) (fun h2=>?_)
  ·have h2:=of_decide_eq_true h2
   exact v_ret () [] ((false=ckS s)) (by exact zd2 ‹_›) trivial
  ·have h2:=of_decide_eq_false h2
   refine v_guard 17 (decide (s.getD 0 0=47)) (((0:Int)≤(0:Int)∧(0:Int)<(↑s.length:Int))) (by omega) (fun h3=>?_) (fun h3=>?_)
   ·have h3:=of_decide_eq_true h3
    exact v_ret () [] ((false=ckS s)) (by exact zd3 ‹_› ‹_› ‹_›) trivial
   ·have h3:=of_decide_eq_false h3
    refine v_if (decide (s.getD ((↑s.length:Int) - 1).toNat 0=47)) ((I64 (↑s.length - 1))∧(0≤(↑s.length:Int) - 1∧(↑s.length:Int) - 1<(↑s.length:Int))) ⟨(by(unfold I64;omega)),(by omega)⟩ (fun h4=>?_) (fun h4=>?_)
    ·have h4:=of_decide_eq_true h4
     exact v_ret () [] ((false=ckS s)) (by exact zd4 ‹_› ‹_› ‹_›) trivial
    ·have h4:=of_decide_eq_false h4
     refine v_loop (fun i:Nat=>([(3,.i i)],[])) (fun i=>ckN s i=true∧i≤s.length) (fun i=>s.length - i) 0 [] (((0:Int)=(↑(0:Nat):Int))) rfl (by exact⟨rfl,Nat.zero_le _⟩) (fun i hk5=>?_)
     refine v_if (decide ((↑i:Int)<(↑s.length:Int))) True trivial (fun h6=>?_) (fun h6=>?_)
     ·have h6:=of_decide_eq_true h6
      refine v_call _ [] (Letter_ok (s.getD (↑i:Int).toNat 0)) ((0≤(↑i:Int)∧(↑i:Int)<(↑s.length:Int))∧(s.getD (↑i:Int).toNat 0=s.getD (↑i:Int).toNat 0)) ⟨(by omega),rfl⟩ (fun g7 p8=>?_)
      have p8:True:=p8
      refine v_guard 36 (!ltr (s.getD (↑i:Int).toNat 0)) True trivial (fun h9=>?_) (fun h9=>?_)
      ·have h9:=(nt h9)
       refine v_guard 42 (decide (s.getD (↑i:Int).toNat 0≠47)) ((0≤(↑i:Int)∧(↑i:Int)<(↑s.length:Int))) (by omega) (fun h10=>?_) (fun h10=>?_)
       ·have h10:=of_decide_eq_true h10
        refine v_leave .rt True trivial ?_
        exact v_ret () [] ((false=ckS s)) (by exact zd5 ‹_› ‹_› ‹_› ‹_› ‹_›) trivial
       ·have h10:=of_decide_eq_false h10
        refine v_guard 47 (decide (s.getD (↑i:Int).toNat 0=47)) ((0≤(↑i:Int)∧(↑i:Int)<(↑s.length:Int))) (by omega) (fun h11=>?_) (fun h11=>?_)
        ·have h11:=of_decide_eq_true h11
         refine v_if (decide (s.getD ((↑i:Int) - 1).toNat 0=47)) ((I64 (↑i - 1))∧(0≤(↑i:Int) - 1∧(↑i:Int) - 1<(↑s.length:Int))) ⟨(by(unfold I64;omega)),(by exact zdb ‹_› ‹_› ‹_›)⟩ (fun h12=>?_) (fun h12=>?_)
         ·have h12:=of_decide_eq_true h12
          refine v_leave .rt True trivial ?_
          exact v_ret () [] ((false=ckS s)) (by exact zd6 (i:=i) ‹_› ‹_› ‹_› ‹_› ‹_›) trivial
         ·have h12:=of_decide_eq_false h12
          exact v_back (i+1) [] ((I64 (↑i+1))∧((↑i:Int)+1=(↑(i+1):Int))) ⟨(by(unfold I64;omega)),rfl⟩ (show(ckN s (i+1)=true∧i+1≤s.length)∧s.length - (i+1)<s.length - i from(by exact zd8 ‹_› ‹_› ‹_› ‹_› ‹_› ‹_›))
        ·have h11:=of_decide_eq_false h11
         contradiction
      ·have h9:=(nf h9)
       refine v_guard 47 (decide (s.getD (↑i:Int).toNat 0=47)) ((0≤(↑i:Int)∧(↑i:Int)<(↑s.length:Int))) (by omega) (fun h13=>?_) (fun h13=>?_)
       ·have h13:=of_decide_eq_true h13
        refine v_if (decide (s.getD ((↑i:Int) - 1).toNat 0=47)) ((I64 (↑i - 1))∧(0≤(↑i:Int) - 1∧(↑i:Int) - 1<(↑s.length:Int))) ⟨(by(unfold I64;omega)),(by exact zdb ‹_› ‹_› ‹_›)⟩ (fun h14=>?_) (fun h14=>?_)
        ·have h14:=of_decide_eq_true h14
         refine v_leave .rt True trivial ?_
         exact v_ret () [] ((false=ckS s)) (by exact zd6 (i:=i) ‹_› ‹_› ‹_› ‹_› ‹_›) trivial
        ·have h14:=of_decide_eq_false h14
         exact v_back (i+1) [] ((I64 (↑i+1))∧((↑i:Int)+1=(↑(i+1):Int))) ⟨(by(unfold I64;omega)),rfl⟩ (show(ckN s (i+1)=true∧i+1≤s.length)∧s.length - (i+1)<s.length - i from(by exact zd7 ‹_› ‹_› ‹_›))
       ·have h13:=of_decide_eq_false h13
        exact v_back (i+1) [] ((I64 (↑i+1))∧((↑i:Int)+1=(↑(i+1):Int))) ⟨(by(unfold I64;omega)),rfl⟩ (show(ckN s (i+1)=true∧i+1≤s.length)∧s.length - (i+1)<s.length - i from(by exact zd7 ‹_› ‹_› ‹_›))
     ·have h6:=of_decide_eq_false h6
      refine v_leave (.ex 0) True trivial ?_
      exact v_ret () [] ((true=ckS s)) (by exact zd9 ‹_› ‹_› ‹_› ‹_›) trivial
theorem i4 {c:Int} (h:0≤c∧c<4):c=0∨c=1∨c=2∨c=3:=by omega
theorem ah_e {c:Int} (h:0≤c∧c<4):[(#[99,104,48,47]:Array UInt8).toList,(#[99,104,49,47]:Array UInt8).toList,(#[99,104,50,47]:Array UInt8).toList,(#[99,104,51,47]:Array UInt8).toList].getD c.toNat []=pre c:=by
  rcases i4 h with rfl | rfl | rfl | rfl <;> decide
noncomputable def ccZ1_51:Code:=(Tryz.f51.body).getD .skip
theorem ahead_ok (c:Int) (h:0≤c∧c<4):FOk EN 51 ⟨[],[.i c],Unit,fun _=>([],.s (pre c)),fun _=>True⟩:=by
 refine v_fun Tryz.f51 ccZ1_51 MX (fun ν F σ w=>?_) Tryz.func51
 refine v_nl ?_
 exact v_ret () [] (((0:Int)≤c∧c<(↑(4:Nat):Int))∧([#[99,104,48,47].toList,#[99,104,49,47].toList,#[99,104,50,47].toList,#[99,104,51,47].toList].getD c.toNat []=pre c)) ⟨‹_›,(by exact ah_e h)⟩ trivial
theorem es_e {c:Int} (h:0≤c∧c<4):[(#[101,115,99,114,111,119,45,48]:Array UInt8).toList,(#[101,115,99,114,111,119,45,49]:Array UInt8).toList,(#[101,115,99,114,111,119,45,50]:Array UInt8).toList,(#[101,115,99,114,111,119,45,51]:Array UInt8).toList].getD c.toNat []=esc c:=by
  rcases i4 h with rfl | rfl | rfl | rfl <;> decide
noncomputable def ccZ1_35:Code:=(Tryz.f35.body).getD .skip
theorem REscrow_ok (c:Int) (h:0≤c∧c<4):FOk EN 35 ⟨[],[.i c],Unit,fun _=>([],.s (esc c)),fun _=>True⟩:=by
 refine v_fun Tryz.f35 ccZ1_35 MX (fun ν F σ w=>?_) Tryz.func35
 refine v_nl ?_
 exact v_ret () [] (((0:Int)≤c∧c<(↑(4:Nat):Int))∧([#[101,115,99,114,111,119,45,48].toList,#[101,115,99,114,111,119,45,49].toList,#[101,115,99,114,111,119,45,50].toList,#[101,115,99,114,111,119,45,51].toList].getD c.toNat []=esc c)) ⟨‹_›,(by exact es_e h)⟩ trivial
section
variable {s:List UInt8} {i:Nat} {c:Int}
theorem zc (h1:¬ c<0) (h2:¬ 3<c):0≤c∧c<4:=by omega
theorem zk1 (h:c<0):false=bkB c s:=bk_1 h
theorem zk2 (h:3<c):false=bkB c s:=bk_2 (by omega)
theorem zk3 (h:(s.length:Int)<4):false=bkB c s:=by
  have:hp s (pre c)=false:=by unfold hp;rw[decide_eq_false (show ¬ (pre c).length≤s.length by show ¬ 4≤s.length;omega)];rfl
  unfold bkB;rw[this,Bool.and_false]
theorem zk4 (h1:¬ c<0) (h2:¬ 3<c) (h:¬ (s.length:Int)<4) (h3:¬ s.take 4=pre c):false=bkB c s:=by
  have:hp s (pre c)=false:=by unfold hp;rw[decide_eq_false (show ¬ s.take (pre c).length=pre c from h3),Bool.and_false]
  unfold bkB;rw[this,Bool.and_false]
theorem zk5 (h1:¬ c<0) (h2:¬ 3<c) (h:¬ (s.length:Int)<4) (h3':¬ s.take 4≠pre c):true=bkB c s:=by
  have h3:=Decidable.not_not.1 h3'
  have:hp s (pre c)=true:=by unfold hp;rw[decide_eq_true (show s.take (pre c).length=pre c from h3),decide_eq_true (show(pre c).length≤s.length by show 4≤s.length;omega)];rfl
  unfold bkB;rw[this,decide_eq_true (zc h1 h2)];rfl
theorem zks (h:true=bkB c s):s.drop 4=bkS c s:=by unfold bkS;rw[← h];rfl
end
noncomputable def ccZ1_33:Code:=(Tryz.f33.body).getD .skip
theorem RBack_ok (c:Int) (s:List UInt8):FOk EN 33 ⟨[],[.i c,.s s],Unit,fun _=>([],.t [.s (bkS c s),.b (bkB c s)]),fun _=>True⟩:=by
 refine v_fun Tryz.f33 ccZ1_33 MX (fun ν F σ w=>?_) Tryz.func33
 refine v_nl ?_
 refine v_plan (.fs [0,1,2,3,4,5,6,7,8,9,10,11,12,13,14] (.o 15 (.fs [16,17] .e))) [] True trivial ?_
 refine v_guard 8 (decide (c<0)) True trivial (fun h1=>?_) (fun h1=>?_)
 ·have h1:=of_decide_eq_true h1
  exact v_ret () [] ((#[].toList=bkS c s)∧(false=bkB c s)) ⟨(by exact bk_s (zk1 ‹_›) rfl),(by exact zk1 ‹_›)⟩ trivial
 ·have h1:=of_decide_eq_false h1
  refine v_guard 12 (decide (3<c)) True trivial (fun h2=>?_) (fun h2=>?_)
  ·have h2:=of_decide_eq_true h2
   exact v_ret () [] ((#[].toList=bkS c s)∧(false=bkB c s)) ⟨(by exact bk_s (zk2 ‹_›) rfl),(by exact zk2 ‹_›)⟩ trivial
  ·have h2:=of_decide_eq_false h2
   refine v_guard 17 (decide ((↑s.length:Int)<4)) True trivial (fun h3=>?_) (fun h3=>?_)
   ·have h3:=of_decide_eq_true h3
    exact v_ret () [] ((#[].toList=bkS c s)∧(false=bkB c s)) ⟨(by exact bk_s (zk3 ‹_›) rfl),(by exact zk3 ‹_›)⟩ trivial
   ·have h3:=of_decide_eq_false h3
    refine v_call _ [] (ahead_ok (c) (by omega)) (((0:Int)≤(4:Int)∧(4:Int)≤(↑s.length:Int))∧(c=c)) ⟨(by omega),rfl⟩ (fun g4 p5=>?_)
    have p5:True:=p5
    refine v_if (decide (List.take 4 s≠pre c)) True trivial (fun h6=>?_) (fun h6=>?_)
    ·have h6:=of_decide_eq_true h6
     exact v_ret () [] ((#[].toList=bkS c s)∧(false=bkB c s)) ⟨(by exact bk_s (zk4 ‹_› ‹_› ‹_› ‹_›) rfl),(by exact zk4 ‹_› ‹_› ‹_› ‹_›)⟩ trivial
    ·have h6:=of_decide_eq_false h6
     exact v_ret () [] (((0:Int)≤(4:Int)∧(4:Int)≤(↑s.length:Int))∧(List.drop 4 s=bkS c s)∧(true=bkB c s)) ⟨(by omega),(by exact zks (zk5 ‹_› ‹_› ‹_› ‹_›)),(by exact zk5 ‹_› ‹_› ‹_› ‹_›)⟩ trivial
section
variable {s:List UInt8} {c:Int}
theorem zt2 (h:3<c):thE c s=2:=th2 (by omega)
theorem zg {c:Int} (h:¬ 3<c):¬ 4≤c:=by omega
end
noncomputable def ccZ1_32:Code:=(Tryz.f32.body).getD .skip
theorem RThere_ok (c:Int) (s:List UInt8) (hs:s.length≤140737488351232):FOk EN 32 ⟨[],[.i c,.s s],Unit,fun _=>([],.t [.s (thS c s),.i (thE c s)]),fun _=>True⟩:=by
 refine v_fun Tryz.f32 ccZ1_32 MX (fun ν F σ w=>?_) Tryz.func32
 refine v_nl ?_
 refine v_guard 10 (decide (c<0)) True trivial (fun h1=>?_) (fun h1=>?_)
 ·have h1:=of_decide_eq_true h1
  exact v_ret () [] ((#[].toList=thS c s)∧(2=thE c s)) ⟨(by exact thx (th1 ‹_›) (by decide)),(by exact(th1 ‹_›).symm)⟩ trivial
 ·have h1:=of_decide_eq_false h1
  refine v_if (decide (3<c)) True trivial (fun h2=>?_) (fun h2=>?_)
  ·have h2:=of_decide_eq_true h2
   exact v_ret () [] ((#[].toList=thS c s)∧(2=thE c s)) ⟨(by exact thx (zt2 ‹_›) (by decide)),(by exact(zt2 ‹_›).symm)⟩ trivial
  ·have h2:=of_decide_eq_false h2
   refine v_call _ [] (Denom_ok (s)) ((s=s)) rfl (fun g3 p4=>?_)
   have p4:True:=p4
   refine v_if (!ckS s) True trivial (fun h5=>?_) (fun h5=>?_)
   ·have h5:=(nt h5)
    exact v_ret () [] ((#[].toList=thS c s)∧(43=thE c s)) ⟨(by exact thx (th3 ‹_› (zg ‹_›) ‹_›) (by decide)),(by exact(th3 ‹_› (zg ‹_›) ‹_›).symm)⟩ trivial
   ·have h5:=(nf h5)
    refine v_call _ [] (RBack_ok (c) (s)) ((c=c)∧(s=s)) ⟨rfl,rfl⟩ (fun g6 p7=>?_)
    have p7:True:=p7
    refine v_if (bkB c s) True trivial (fun h8=>?_) (fun h8=>?_)
    ·skip
     exact v_ret () [] ((bkS c s=thS c s)∧(0=thE c s)) ⟨(by exact thy (th4 ‹_› (zg ‹_›) ‹_› ‹_›) ‹_›),(by exact(th4 ‹_› (zg ‹_›) ‹_› ‹_›).symm)⟩ trivial
    ·skip
     refine v_if (decide (36<(↑s.length:Int))) True trivial (fun h9=>?_) (fun h9=>?_)
     ·have h9:=of_decide_eq_true h9
      exact v_ret () [] ((#[].toList=thS c s)∧(43=thE c s)) ⟨(by exact thx (th5 ‹_› (zg ‹_›) ‹_› ‹_› ‹_›) (by decide)),(by exact(th5 ‹_› (zg ‹_›) ‹_› ‹_› ‹_›).symm)⟩ trivial
     ·have h9:=of_decide_eq_false h9
      refine v_call _ [] (ahead_ok (c) (by omega)) ((c=c)) rfl (fun g10 p11=>?_)
      have p11:True:=p11
      exact v_ret () [] (((pre c).length+s.length≤9000000000000000000)∧(pre c++s=thS c s)∧(0=thE c s)) ⟨(by(simp;omega)),(by exact thw (th6 ‹_› (zg ‹_›) ‹_› ‹_› ‹_›) ‹_›),(by exact(th6 ‹_› (zg ‹_›) ‹_› ‹_› ‹_›).symm)⟩ trivial
section
variable {s:List UInt8} {i:Nat}
theorem znP (h:ltr (s.getD i 0)=true):nmP s i:=by
  have:=of_decide_eq_true h
  rintro ⟨q1,q2⟩
  rcases this with⟨a,b⟩ | ⟨a,b⟩
  · rcases q1 with q | q
    · exact absurd a (UInt8.not_le.2 q)
    · exact absurd b (UInt8.not_le.2 q)
  · rcases q2 with q | q
    · exact absurd a (UInt8.not_le.2 q)
    · exact absurd b (UInt8.not_le.2 q)
theorem znF (h:ltr (s.getD i 0)=false):(s.getD i 0<97∨122<s.getD i 0)∧(s.getD i 0<48∨57<s.getD i 0):=by
  have q:=of_decide_eq_false h
  constructor
  · by_cases a : 97 ≤ s.getD i 0
    · exact .inr (UInt8.not_le.1 fun b=>q (.inl ⟨a,b⟩))
    · exact .inl (UInt8.not_le.1 a)
  · by_cases a : 48 ≤ s.getD i 0
    · exact .inr (UInt8.not_le.1 fun b=>q (.inr ⟨a,b⟩))
    · exact .inl (UInt8.not_le.1 a)
theorem zn1 (hi:(i:Int)<s.length) (h:ltr (s.getD i 0)=false):false=nmS s:=by
  by_cases h1:(s.length:Int)=0
  · exact(nm_1 h1).symm
  · by_cases h2 : 16 < (s.length : Int)
    · exact(nm_2 h2).symm
    · exact(nm_3 (i:=i) h1 h2 hi (znF h)).symm
theorem zn2 (hk:nmN s i=true∧i≤s.length) (hi:(i:Int)<s.length) (h:ltr (s.getD i 0)=true):(nmN s (i+1)=true∧i+1≤s.length)∧s.length - (i+1)<s.length - i:=nm_5 hk hi (znP h)
theorem zn3 (h:¬ 1≤(s.length:Int)):false=nmS s:=(nm_1 (by omega)).symm
theorem zn4 (h:1≤(s.length:Int)) (hk:nmN s i=true∧i≤s.length) (hi:¬ (i:Int)<s.length):decide ((s.length:Int)≤16)=nmS s:=by
  by_cases h2:(s.length:Int)≤16
  · rw[decide_eq_true h2];exact(nm_4 (i:=i) (by omega) (by omega) hk hi).symm
  · rw[decide_eq_false h2];exact(nm_2 (by omega)).symm
end
noncomputable def ccZ2_49:Code:=(Tryz.f49.body).getD .skip
theorem Rname_ok (s:List UInt8) (hs:s.length≤140737488351232):FOk EN 49 ⟨[],[.s s],Unit,fun _=>([],.b (nmS s)),fun _=>True⟩:=by
 refine v_fun Tryz.f49 ccZ2_49 MX (fun ν F σ w=>?_) Tryz.func49
 refine v_nl ?_
 refine v_loop (fun i:Nat=>([(3,.i i)],[])) (fun i=>nmN s i=true∧i≤s.length) (fun i=>s.length - i) 0 [] (((0:Int)=(↑(0:Nat):Int))) rfl (by exact⟨rfl,Nat.zero_le _⟩) (fun i hk1=>?_)
 refine v_if (decide ((↑i:Int)<(↑s.length:Int))) True trivial (fun h2=>?_) (fun h2=>?_)
 ·have h2:=of_decide_eq_true h2
  refine v_call _ [] (Letter_ok (s.getD (↑i:Int).toNat 0)) ((0≤(↑i:Int)∧(↑i:Int)<(↑s.length:Int))∧(s.getD (↑i:Int).toNat 0=s.getD (↑i:Int).toNat 0)) ⟨(by omega),rfl⟩ (fun g3 p4=>?_)
  have p4:True:=p4
  refine v_if (!ltr (s.getD (↑i:Int).toNat 0)) True trivial (fun h5=>?_) (fun h5=>?_)
  ·have h5:=(nt h5)
   refine v_leave .rt True trivial ?_
   exact v_ret () [] ((false=nmS s)) (by exact zn1 (i:=i) ‹_› ‹_›) trivial
  ·have h5:=(nf h5)
   exact v_back (i+1) [] ((I64 (↑i+1))∧((↑i:Int)+1=(↑(i+1):Int))) ⟨(by(unfold I64;omega)),rfl⟩ (show(nmN s (i+1)=true∧i+1≤s.length)∧s.length - (i+1)<s.length - i from(by exact zn2 ‹_› ‹_› ‹_›))
 ·have h2:=of_decide_eq_false h2
  refine v_leave (.ex 0) True trivial ?_
  refine v_guard 18 (decide (1≤(↑s.length:Int))) True trivial (fun h6=>?_) (fun h6=>?_)
  ·have h6:=of_decide_eq_true h6
   exact v_ret () [] ((decide ((↑s.length:Int)≤16)=nmS s)) (by exact zn4 ‹_› ‹_› ‹_›) trivial
  ·have h6:=of_decide_eq_false h6
   exact v_ret () [] ((false=nmS s)) (by exact zn3 ‹_›) trivial
noncomputable def ccZ2_31:Code:=(Tryz.f31.body).getD .skip
theorem RMay_aux (p:Packet) (h1:p.denom.length≤140737488351232) (h2:p.from_.length≤140737488351232) (h3:p.to.length≤140737488351232):FOk EN 31 ⟨[],[pkS p],Unit,fun _=>([],.i (mayE p)),fun _=>True⟩:=by
 refine v_fun Tryz.f31 ccZ2_31 MX (fun ν F σ w=>?_) Tryz.func31
 refine v_nl ?_
 refine v_call _ [] (RThere_ok (p.channel) (p.denom) ‹_›) ((p.channel=p.channel)∧(p.denom=p.denom)) ⟨rfl,rfl⟩ (fun g1 p2=>?_)
 have p2:True:=p2
 refine v_if (decide (thE p.channel p.denom≠0)) True trivial (fun h3=>?_) (fun h3=>?_)
 ·have h3:=of_decide_eq_true h3
  exact v_ret () [] ((thE p.channel p.denom=mayE p)) (by exact(may_1 ‹_›).symm) trivial
 ·have h3:=of_decide_eq_false h3
  refine v_call _ [] (Rname_ok (p.from_) ‹_›) ((p.from_=p.from_)) rfl (fun g4 p5=>?_)
  have p5:True:=p5
  refine v_guard 20 (!nmS p.from_) True trivial (fun h6=>?_) (fun h6=>?_)
  ·have h6:=(nt h6)
   exact v_ret () [] ((42=mayE p)) (by exact(may_2 ‹_› ‹_›).symm) trivial
  ·have h6:=(nf h6)
   refine v_call _ [] (Rname_ok (p.to) ‹_›) ((p.to=p.to)) rfl (fun g7 p8=>?_)
   have p8:True:=p8
   refine v_if (!nmS p.to) True trivial (fun h9=>?_) (fun h9=>?_)
   ·have h9:=(nt h9)
    exact v_ret () [] ((42=mayE p)) (by exact(may_3 ‹_› ‹_›).symm) trivial
   ·have h9:=(nf h9)
    refine v_if (decide (p.amount=0)) True trivial (fun h10=>?_) (fun h10=>?_)
    ·have h10:=of_decide_eq_true h10
     exact v_ret () [] ((44=mayE p)) (by exact(may_4 ‹_› ‹_› ‹_› ‹_›).symm) trivial
    ·have h10:=of_decide_eq_false h10
     exact v_ret () [] ((0=mayE p)) (by exact(may_5 ‹_› ‹_› ‹_› ‹_›).symm) trivial
theorem RMay_ok (ch:Int) (sq tm:UInt64) (dn:List UInt8) (am:UInt64) (fr to:List UInt8) (h1:dn.length≤140737488351232) (h2:fr.length≤140737488351232) (h3:to.length≤140737488351232):FOk EN 31 ⟨[],[.a [.i ch,.u sq,.u tm,.s dn,.u am,.s fr,.s to]],Unit,fun _=>([],.i (mayE ⟨ch,sq,tm,dn,am,fr,to⟩)),fun _=>True⟩:=RMay_aux ⟨ch,sq,tm,dn,am,fr,to⟩ h1 h2 h3
def lsdE (L:List Coin) (p:Packet):Int:=if ¬ mayE p=0 then mayE p else if bkB p.channel p.denom=true then ltaE L p.from_ p.denom p.amount else lmoE L p.from_ (esc p.channel) p.denom p.amount
def lsdL (L:List Coin) (p:Packet):List Coin:=if ¬ mayE p=0 then L else if bkB p.channel p.denom=true then ltaL L p.from_ p.denom p.amount else lmoL L p.from_ (esc p.channel) p.denom p.amount
def lrcE (L:List Coin) (p:Packet):Int:=if ¬ mayE p=0 then mayE p else if bkB p.channel p.denom=true then lmoE L (esc p.channel) p.to (thS p.channel p.denom) p.amount else lgiE L p.to (thS p.channel p.denom) p.amount
def lrcL (L:List Coin) (p:Packet):List Coin:=if ¬ mayE p=0 then L else if bkB p.channel p.denom=true then lmoL L (esc p.channel) p.to (thS p.channel p.denom) p.amount else lgiL L p.to (thS p.channel p.denom) p.amount
def lrfE (L:List Coin) (p:Packet):Int:=if ¬ mayE p=0 then mayE p else if bkB p.channel p.denom=true then lgiE L p.from_ p.denom p.amount else lmoE L (esc p.channel) p.from_ p.denom p.amount
def lrfL (L:List Coin) (p:Packet):List Coin:=if ¬ mayE p=0 then L else if bkB p.channel p.denom=true then lgiL L p.from_ p.denom p.amount else lmoL L (esc p.channel) p.from_ p.denom p.amount
section
variable {L:List Coin} {p:Packet}
theorem mz_c (h:¬ mayE p≠0):0≤p.channel∧p.channel<4:=by
  have h:=Decidable.not_not.1 h
  by_cases h1:thE p.channel p.denom=0
  · by_cases h2 : p.channel < 0
    · rw[th1 h2] at h1;cases h1
    · by_cases h3 : 4 ≤ p.channel
      · rw[th2 h3] at h1;cases h1
      · omega
  · unfold mayE at h;rw[if_pos h1] at h;exact absurd h h1
theorem zsdE1 (h:mayE p≠0):mayE p=lsdE L p:=by unfold lsdE;rw[if_pos h]
theorem zsdE2 (h:¬ mayE p≠0) (h2:bkB p.channel p.denom=true):ltaE L p.from_ p.denom p.amount=lsdE L p:=by unfold lsdE;rw[if_neg h,if_pos h2]
theorem zsdE3 (h:¬ mayE p≠0) (h2:bkB p.channel p.denom=false):lmoE L p.from_ (esc p.channel) p.denom p.amount=lsdE L p:=by unfold lsdE;rw[if_neg h,if_neg (by rw[h2];decide)]
theorem zsdL1 (h:mayE p≠0):L=lsdL L p:=by unfold lsdL;rw[if_pos h]
theorem zsdL2 (h:¬ mayE p≠0) (h2:bkB p.channel p.denom=true):ltaL L p.from_ p.denom p.amount=lsdL L p:=by unfold lsdL;rw[if_neg h,if_pos h2]
theorem zsdL3 (h:¬ mayE p≠0) (h2:bkB p.channel p.denom=false):lmoL L p.from_ (esc p.channel) p.denom p.amount=lsdL L p:=by unfold lsdL;rw[if_neg h,if_neg (by rw[h2];decide)]
theorem zrcE1 (h:mayE p≠0):mayE p=lrcE L p:=by unfold lrcE;rw[if_pos h]
theorem zrcE2 (h:¬ mayE p≠0) (h2:bkB p.channel p.denom=true):lmoE L (esc p.channel) p.to (thS p.channel p.denom) p.amount=lrcE L p:=by unfold lrcE;rw[if_neg h,if_pos h2]
theorem zrcE3 (h:¬ mayE p≠0) (h2:bkB p.channel p.denom=false):lgiE L p.to (thS p.channel p.denom) p.amount=lrcE L p:=by unfold lrcE;rw[if_neg h,if_neg (by rw[h2];decide)]
theorem zrcL1 (h:mayE p≠0):L=lrcL L p:=by unfold lrcL;rw[if_pos h]
theorem zrcL2 (h:¬ mayE p≠0) (h2:bkB p.channel p.denom=true):lmoL L (esc p.channel) p.to (thS p.channel p.denom) p.amount=lrcL L p:=by unfold lrcL;rw[if_neg h,if_pos h2]
theorem zrcL3 (h:¬ mayE p≠0) (h2:bkB p.channel p.denom=false):lgiL L p.to (thS p.channel p.denom) p.amount=lrcL L p:=by unfold lrcL;rw[if_neg h,if_neg (by rw[h2];decide)]
theorem zrfE1 (h:mayE p≠0):mayE p=lrfE L p:=by unfold lrfE;rw[if_pos h]
theorem zrfE2 (h:¬ mayE p≠0) (h2:bkB p.channel p.denom=true):lgiE L p.from_ p.denom p.amount=lrfE L p:=by unfold lrfE;rw[if_neg h,if_pos h2]
theorem zrfE3 (h:¬ mayE p≠0) (h2:bkB p.channel p.denom=false):lmoE L (esc p.channel) p.from_ p.denom p.amount=lrfE L p:=by unfold lrfE;rw[if_neg h,if_neg (by rw[h2];decide)]
theorem zrfL1 (h:mayE p≠0):L=lrfL L p:=by unfold lrfL;rw[if_pos h]
theorem zrfL2 (h:¬ mayE p≠0) (h2:bkB p.channel p.denom=true):lgiL L p.from_ p.denom p.amount=lrfL L p:=by unfold lrfL;rw[if_neg h,if_pos h2]
theorem zrfL3 (h:¬ mayE p≠0) (h2:bkB p.channel p.denom=false):lmoL L (esc p.channel) p.from_ p.denom p.amount=lrfL L p:=by unfold lrfL;rw[if_neg h,if_neg (by rw[h2];decide)]
end
noncomputable def ccZ3_15:Code:=(Tryz.f15.body).getD .skip
theorem RSend_aux (L:List Coin) (p:Packet) (h1:p.denom.length≤140737488351232) (h2:p.from_.length≤140737488351232) (h3:p.to.length≤140737488351232) (hl:L.length≤90000):FOk EN 15 ⟨[.rd 32 L,.bx 29 [.n 0]],[.p 1 0,pkS p],Unit,fun _=>([.rd 32 L,.bx 29 [.n 2],.rd 32 (lsdL L p)],.i (lsdE L p)),fun _=>True⟩:=by
 refine v_fun Tryz.f15 ccZ3_15 MX (fun ν F σ w=>?_) Tryz.func15
 refine v_nl ?_
 refine v_call _ [] (RMay_ok (p.channel) (p.seq) (p.timeout) (p.denom) (p.amount) (p.from_) (p.to) ‹_› ‹_› ‹_›) ((p.channel=p.channel)∧(p.seq=p.seq)∧(p.timeout=p.timeout)∧(p.denom=p.denom)∧(p.amount=p.amount)∧(p.from_=p.from_)∧(p.to=p.to)) ⟨rfl,rfl,rfl,rfl,rfl,rfl,rfl⟩ (fun g1 p2=>?_)
 have p2:True:=p2
 refine v_if (decide (mayE (Packet.mk p.channel p.seq p.timeout p.denom p.amount p.from_ p.to)≠0)) True trivial (fun h3=>?_) (fun h3=>?_)
 ·have h3:=of_decide_eq_true h3
  exact v_ret () [0] ((mayE (Packet.mk p.channel p.seq p.timeout p.denom p.amount p.from_ p.to)=lsdE L p)∧(L=L)∧(L=lsdL L p)) ⟨(by with_reducible exact zsdE1 ‹_›),rfl,(by with_reducible exact zsdL1 ‹_›)⟩ trivial
 ·have h3:=of_decide_eq_false h3
  refine v_call _ [] (RBack_ok (p.channel) (p.denom)) ((p.channel=p.channel)∧(p.denom=p.denom)) ⟨rfl,rfl⟩ (fun g4 p5=>?_)
  have p5:True:=p5
  refine v_if (bkB p.channel p.denom) True trivial (fun h6=>?_) (fun h6=>?_)
  ·skip
   refine v_call _ [0,1] (RTake_ok (L) (p.from_) (p.denom) (p.amount) (by omega)) ((p.from_=p.from_)∧(p.denom=p.denom)∧(p.amount=p.amount)∧(L=L)) ⟨rfl,rfl,rfl,rfl⟩ (fun g7 p8=>?_)
   have p8:True:=p8
   exact v_ret () [4] ((ltaE L p.from_ p.denom p.amount=lsdE L p)∧(L=L)∧(ltaL L p.from_ p.denom p.amount=lsdL L p)) ⟨(by with_reducible exact zsdE2 ‹_› ‹_›),rfl,(by with_reducible exact zsdL2 ‹_› ‹_›)⟩ trivial
  ·skip
   refine v_plan (.fs [0,1,2,3,4,6,7,8,9] (.o 5 (.o 10 (.fs [11] .e)))) [3] True trivial ?_
   refine v_call _ [] (REscrow_ok (p.channel) (by with_reducible exact mz_c ‹_›)) ((p.channel=p.channel)) rfl (fun g9 p10=>?_)
   have p10:True:=p10
   refine v_call _ [0,1] (RMove_ok (L) (p.from_) (esc p.channel) (p.denom) (p.amount) ‹_›) ((p.from_=p.from_)∧(esc p.channel=esc p.channel)∧(p.denom=p.denom)∧(p.amount=p.amount)∧(L=L)) ⟨rfl,rfl,rfl,rfl,rfl⟩ (fun g11 p12=>?_)
   have p12:True:=p12
   exact v_ret () [4] ((lmoE L p.from_ (esc p.channel) p.denom p.amount=lsdE L p)∧(L=L)∧(lmoL L p.from_ (esc p.channel) p.denom p.amount=lsdL L p)) ⟨(by with_reducible exact zsdE3 ‹_› ‹_›),rfl,(by with_reducible exact zsdL3 ‹_› ‹_›)⟩ trivial
noncomputable def ccZ3_11:Code:=(Tryz.f11.body).getD .skip
theorem RReceive_aux (L:List Coin) (p:Packet) (h1:p.denom.length≤140737488351232) (h2:p.from_.length≤140737488351232) (h3:p.to.length≤140737488351232) (hl:L.length≤90000):FOk EN 11 ⟨[.rd 32 L,.bx 29 [.n 0]],[.p 1 0,pkS p],Unit,fun _=>([.rd 32 L,.bx 29 [.n 2],.rd 32 (lrcL L p)],.i (lrcE L p)),fun _=>True⟩:=by
 refine v_fun Tryz.f11 ccZ3_11 MX (fun ν F σ w=>?_) Tryz.func11
 refine v_nl ?_
 refine v_call _ [] (RMay_ok (p.channel) (p.seq) (p.timeout) (p.denom) (p.amount) (p.from_) (p.to) ‹_› ‹_› ‹_›) ((p.channel=p.channel)∧(p.seq=p.seq)∧(p.timeout=p.timeout)∧(p.denom=p.denom)∧(p.amount=p.amount)∧(p.from_=p.from_)∧(p.to=p.to)) ⟨rfl,rfl,rfl,rfl,rfl,rfl,rfl⟩ (fun g1 p2=>?_)
 have p2:True:=p2
 refine v_if (decide (mayE (Packet.mk p.channel p.seq p.timeout p.denom p.amount p.from_ p.to)≠0)) True trivial (fun h3=>?_) (fun h3=>?_)
 ·have h3:=of_decide_eq_true h3
  exact v_ret () [0] ((mayE (Packet.mk p.channel p.seq p.timeout p.denom p.amount p.from_ p.to)=lrcE L p)∧(L=L)∧(L=lrcL L p)) ⟨(by with_reducible exact zrcE1 ‹_›),rfl,(by with_reducible exact zrcL1 ‹_›)⟩ trivial
 ·have h3:=of_decide_eq_false h3
  refine v_call _ [] (RThere_ok (p.channel) (p.denom) ‹_›) ((p.channel=p.channel)∧(p.denom=p.denom)) ⟨rfl,rfl⟩ (fun g4 p5=>?_)
  have p5:True:=p5
  refine v_call _ [] (RBack_ok (p.channel) (p.denom)) ((p.channel=p.channel)∧(p.denom=p.denom)) ⟨rfl,rfl⟩ (fun g6 p7=>?_)
  have p7:True:=p7
  refine v_if (bkB p.channel p.denom) True trivial (fun h8=>?_) (fun h8=>?_)
  ·skip
   refine v_plan (.fs [0,1,2,4,5,6,7,8] (.o 3 (.o 9 (.fs [10] .e)))) [3] True trivial ?_
   refine v_call _ [] (REscrow_ok (p.channel) (by with_reducible exact mz_c ‹_›)) ((p.channel=p.channel)) rfl (fun g9 p10=>?_)
   have p10:True:=p10
   refine v_call _ [0,1] (RMove_ok (L) (esc p.channel) (p.to) (thS p.channel p.denom) (p.amount) ‹_›) ((esc p.channel=esc p.channel)∧(p.to=p.to)∧(thS p.channel p.denom=thS p.channel p.denom)∧(p.amount=p.amount)∧(L=L)) ⟨rfl,rfl,rfl,rfl,rfl⟩ (fun g11 p12=>?_)
   have p12:True:=p12
   exact v_ret () [4] ((lmoE L (esc p.channel) p.to (thS p.channel p.denom) p.amount=lrcE L p)∧(L=L)∧(lmoL L (esc p.channel) p.to (thS p.channel p.denom) p.amount=lrcL L p)) ⟨(by with_reducible exact zrcE2 ‹_› ‹_›),rfl,(by with_reducible exact zrcL2 ‹_› ‹_›)⟩ trivial
  ·skip
   refine v_call _ [0,1] (RGive_ok (L) (p.to) (thS p.channel p.denom) (p.amount) (by omega)) ((p.to=p.to)∧(thS p.channel p.denom=thS p.channel p.denom)∧(p.amount=p.amount)∧(L=L)) ⟨rfl,rfl,rfl,rfl⟩ (fun g13 p14=>?_)
   have p14:True:=p14
   exact v_ret () [4] ((lgiE L p.to (thS p.channel p.denom) p.amount=lrcE L p)∧(L=L)∧(lgiL L p.to (thS p.channel p.denom) p.amount=lrcL L p)) ⟨(by with_reducible exact zrcE3 ‹_› ‹_›),rfl,(by with_reducible exact zrcL3 ‹_› ‹_›)⟩ trivial
noncomputable def ccZ3_13:Code:=(Tryz.f13.body).getD .skip
theorem RRefund_aux (L:List Coin) (p:Packet) (h1:p.denom.length≤140737488351232) (h2:p.from_.length≤140737488351232) (h3:p.to.length≤140737488351232) (hl:L.length≤90000):FOk EN 13 ⟨[.rd 32 L,.bx 29 [.n 0]],[.p 1 0,pkS p],Unit,fun _=>([.rd 32 L,.bx 29 [.n 2],.rd 32 (lrfL L p)],.i (lrfE L p)),fun _=>True⟩:=by
 refine v_fun Tryz.f13 ccZ3_13 MX (fun ν F σ w=>?_) Tryz.func13
 refine v_nl ?_
 refine v_call _ [] (RMay_ok (p.channel) (p.seq) (p.timeout) (p.denom) (p.amount) (p.from_) (p.to) ‹_› ‹_› ‹_›) ((p.channel=p.channel)∧(p.seq=p.seq)∧(p.timeout=p.timeout)∧(p.denom=p.denom)∧(p.amount=p.amount)∧(p.from_=p.from_)∧(p.to=p.to)) ⟨rfl,rfl,rfl,rfl,rfl,rfl,rfl⟩ (fun g1 p2=>?_)
 have p2:True:=p2
 refine v_if (decide (mayE (Packet.mk p.channel p.seq p.timeout p.denom p.amount p.from_ p.to)≠0)) True trivial (fun h3=>?_) (fun h3=>?_)
 ·have h3:=of_decide_eq_true h3
  exact v_ret () [0] ((mayE (Packet.mk p.channel p.seq p.timeout p.denom p.amount p.from_ p.to)=lrfE L p)∧(L=L)∧(L=lrfL L p)) ⟨(by with_reducible exact zrfE1 ‹_›),rfl,(by with_reducible exact zrfL1 ‹_›)⟩ trivial
 ·have h3:=of_decide_eq_false h3
  refine v_call _ [] (RBack_ok (p.channel) (p.denom)) ((p.channel=p.channel)∧(p.denom=p.denom)) ⟨rfl,rfl⟩ (fun g4 p5=>?_)
  have p5:True:=p5
  refine v_if (bkB p.channel p.denom) True trivial (fun h6=>?_) (fun h6=>?_)
  ·skip
   refine v_call _ [0,1] (RGive_ok (L) (p.from_) (p.denom) (p.amount) (by omega)) ((p.from_=p.from_)∧(p.denom=p.denom)∧(p.amount=p.amount)∧(L=L)) ⟨rfl,rfl,rfl,rfl⟩ (fun g7 p8=>?_)
   have p8:True:=p8
   exact v_ret () [4] ((lgiE L p.from_ p.denom p.amount=lrfE L p)∧(L=L)∧(lgiL L p.from_ p.denom p.amount=lrfL L p)) ⟨(by with_reducible exact zrfE2 ‹_› ‹_›),rfl,(by with_reducible exact zrfL2 ‹_› ‹_›)⟩ trivial
  ·skip
   refine v_plan (.fs [0,1,2,4,5,6,7,8,9] (.o 3 (.o 10 (.fs [11] .e)))) [3] True trivial ?_
   refine v_call _ [] (REscrow_ok (p.channel) (by with_reducible exact mz_c ‹_›)) ((p.channel=p.channel)) rfl (fun g9 p10=>?_)
   have p10:True:=p10
   refine v_call _ [0,1] (RMove_ok (L) (esc p.channel) (p.from_) (p.denom) (p.amount) ‹_›) ((esc p.channel=esc p.channel)∧(p.from_=p.from_)∧(p.denom=p.denom)∧(p.amount=p.amount)∧(L=L)) ⟨rfl,rfl,rfl,rfl,rfl⟩ (fun g11 p12=>?_)
   have p12:True:=p12
   exact v_ret () [4] ((lmoE L (esc p.channel) p.from_ p.denom p.amount=lrfE L p)∧(L=L)∧(lmoL L (esc p.channel) p.from_ p.denom p.amount=lrfL L p)) ⟨(by with_reducible exact zrfE3 ‹_› ‹_›),rfl,(by with_reducible exact zrfL3 ‹_› ‹_›)⟩ trivial
theorem RSend_ok (L:List Coin) (ch:Int) (sq tm:UInt64) (dn:List UInt8) (am:UInt64) (fr to:List UInt8) (h1:dn.length≤140737488351232) (h2:fr.length≤140737488351232) (h3:to.length≤140737488351232) (hl:L.length≤90000):FOk EN 15 ⟨[.rd 32 L,.bx 29 [.n 0]],[.p 1 0,.a [.i ch,.u sq,.u tm,.s dn,.u am,.s fr,.s to]],Unit,fun _=>([.rd 32 L,.bx 29 [.n 2],.rd 32 (lsdL L ⟨ch,sq,tm,dn,am,fr,to⟩)],.i (lsdE L ⟨ch,sq,tm,dn,am,fr,to⟩)),fun _=>True⟩:=RSend_aux L ⟨ch,sq,tm,dn,am,fr,to⟩ h1 h2 h3 hl
theorem RReceive_ok (L:List Coin) (ch:Int) (sq tm:UInt64) (dn:List UInt8) (am:UInt64) (fr to:List UInt8) (h1:dn.length≤140737488351232) (h2:fr.length≤140737488351232) (h3:to.length≤140737488351232) (hl:L.length≤90000):FOk EN 11 ⟨[.rd 32 L,.bx 29 [.n 0]],[.p 1 0,.a [.i ch,.u sq,.u tm,.s dn,.u am,.s fr,.s to]],Unit,fun _=>([.rd 32 L,.bx 29 [.n 2],.rd 32 (lrcL L ⟨ch,sq,tm,dn,am,fr,to⟩)],.i (lrcE L ⟨ch,sq,tm,dn,am,fr,to⟩)),fun _=>True⟩:=RReceive_aux L ⟨ch,sq,tm,dn,am,fr,to⟩ h1 h2 h3 hl
theorem RRefund_ok (L:List Coin) (ch:Int) (sq tm:UInt64) (dn:List UInt8) (am:UInt64) (fr to:List UInt8) (h1:dn.length≤140737488351232) (h2:fr.length≤140737488351232) (h3:to.length≤140737488351232) (hl:L.length≤90000):FOk EN 13 ⟨[.rd 32 L,.bx 29 [.n 0]],[.p 1 0,.a [.i ch,.u sq,.u tm,.s dn,.u am,.s fr,.s to]],Unit,fun _=>([.rd 32 L,.bx 29 [.n 2],.rd 32 (lrfL L ⟨ch,sq,tm,dn,am,fr,to⟩)],.i (lrfE L ⟨ch,sq,tm,dn,am,fr,to⟩)),fun _=>True⟩:=RRefund_aux L ⟨ch,sq,tm,dn,am,fr,to⟩ h1 h2 h3 hl
section
variable {B:BK} {L:List Coin} {p:Packet} {v:Option Er} {a c d:List UInt8} {n:UInt64}
theorem mz {p:Packet} (h:mayE p=0):¬ ¬ mayE p=0:=fun q=>q h
theorem tB_0 {B':BK} (h:mayE p=0):tB p B B'=B':=if_pos h
theorem tB_1 {B':BK} (h:¬ mayE p=0):tB p B B'=B:=if_neg h
theorem tq_cod {o:Option Er} {x:Int} (q:tQ p o v) (k:mayE p=0→codeO o=x) (k2:¬ mayE p=0→mayE p=x):codeO v=x:=by
  by_cases m:mayE p=0
  · rw[(q.1 m).2.1];exact k m
  · rw[(q.2 m).2.1];exact k2 m
theorem tq_dep {o:Option Er} (q:tQ p o v) (k:depO o≤2):depO v≤3:=by
  by_cases m:mayE p=0
  · exact Nat.le_trans (q.1 m).2.2 (Nat.succ_le_succ k)
  · exact Nat.le_trans (q.2 m).2.2 (by decide)
theorem dep_of (a d:List UInt8) (n:UInt64):depO (ofE a d n)≤1:=by unfold ofE;split;exact Nat.le_refl _;split;exact Nat.le_refl _;split;exact Nat.le_refl _;exact Nat.zero_le _
theorem dep_G (B:BK) (a d:List UInt8) (n:UInt64):depO (giE B a d n)≤1:=by unfold giE;split;exact dep_of ..;split;exact Nat.le_refl _;exact Nat.zero_le _
theorem dep_T (B:BK) (a d:List UInt8) (n:UInt64):depO (taE B a d n)≤1:=by unfold taE;split;exact dep_of ..;split;exact Nat.le_refl _;exact Nat.zero_le _
theorem dep_M (B:BK) (f t d:List UInt8) (n:UInt64):depO (moE B f t d n)≤2:=by
  unfold moE;split
  · exact Nat.le_trans (dep_T ..) (by decide)
  · split
    · rename_i h
      have:=dep_G (taB B f d n) t d n
      cases e:giE (taB B f d n) t d n with
      | none=>rw[e] at h;cases h
      | some q=>rw[e] at this;exact Nat.succ_le_succ this
    · exact Nat.zero_le _
theorem sd_rel (h:Rel B L):Rel (tB p B (sdB B p)) (lsdL L p):=by
  unfold lsdL
  by_cases m:mayE p=0
  · rw [tB_0 m, if_neg (mz m)]
    by_cases k:bkB p.channel p.denom=true
    · rw[if_pos k,← sdB1 k];exact h.take ..
    · rw[if_neg k,← sdB2 (tb0 k)];exact h.move ..
  · rw[tB_1 m,if_pos m];exact h
theorem sd_cod (h:Rel B L) (q:tQ p (sdE B p) v):codeO v=lsdE L p:=by
  refine tq_cod q (fun m=>?_) (fun m=>?_) <;> unfold lsdE
  · rw [if_neg (mz m)]
    by_cases k:bkB p.channel p.denom=true
    · rw[if_pos k,← sdE1 k];exact taE_code h ..
    · rw[if_neg k,← sdE2 (tb0 k)];exact moE_code h ..
  · rw[if_pos m]
theorem sd_dep (q:tQ p (sdE B p) v):depO v≤3:=by
  refine tq_dep q ?_
  by_cases k:bkB p.channel p.denom=true
  · rw[← sdE1 k];exact Nat.le_trans (dep_T ..) (by decide)
  · rw[← sdE2 (tb0 k)];exact Nat.le_trans (dep_M ..) (by decide)
theorem lsd_len:(lsdL L p).length≤L.length+2:=by
  unfold lsdL;split
  · omega
  · split
    · exact Nat.le_trans ltl_len (by omega)
    · exact Nat.le_trans lmo_len (by omega)
theorem rc_rel (h:Rel B L):Rel (tB p B (rcB B p)) (lrcL L p):=by
  unfold lrcL
  by_cases m:mayE p=0
  · rw [tB_0 m, if_neg (mz m)]
    by_cases k:bkB p.channel p.denom=true
    · rw[if_pos k,← rcB1 k];exact h.move ..
    · rw[if_neg k,← rcB2 (tb0 k)];exact h.give ..
  · rw[tB_1 m,if_pos m];exact h
theorem rc_cod (h:Rel B L) (q:tQ p (rcE B p) v):codeO v=lrcE L p:=by
  refine tq_cod q (fun m=>?_) (fun m=>?_) <;> unfold lrcE
  · rw [if_neg (mz m)]
    by_cases k:bkB p.channel p.denom=true
    · rw[if_pos k,← rcE1 k];exact moE_code h ..
    · rw[if_neg k,← rcE2 (tb0 k)];exact giE_code h ..
  · rw[if_pos m]
theorem rc_dep (q:tQ p (rcE B p) v):depO v≤3:=by
  refine tq_dep q ?_
  by_cases k:bkB p.channel p.denom=true
  · rw[← rcE1 k];exact Nat.le_trans (dep_M ..) (by decide)
  · rw[← rcE2 (tb0 k)];exact Nat.le_trans (dep_G ..) (by decide)
theorem lrc_len:(lrcL L p).length≤L.length+2:=by
  unfold lrcL;split
  · omega
  · split
    · exact Nat.le_trans lmo_len (by omega)
    · exact Nat.le_trans lgl_len (by omega)
theorem rf_rel (h:Rel B L):Rel (tB p B (rfB B p)) (lrfL L p):=by
  unfold lrfL
  by_cases m:mayE p=0
  · rw [tB_0 m, if_neg (mz m)]
    by_cases k:bkB p.channel p.denom=true
    · rw[if_pos k,← rfB1 k];exact h.give ..
    · rw[if_neg k,← rfB2 (tb0 k)];exact h.move ..
  · rw[tB_1 m,if_pos m];exact h
theorem rf_cod (h:Rel B L) (q:tQ p (rfE B p) v):codeO v=lrfE L p:=by
  refine tq_cod q (fun m=>?_) (fun m=>?_) <;> unfold lrfE
  · rw [if_neg (mz m)]
    by_cases k:bkB p.channel p.denom=true
    · rw[if_pos k,← rfE1 k];exact giE_code h ..
    · rw[if_neg k,← rfE2 (tb0 k)];exact moE_code h ..
  · rw[if_pos m]
theorem rf_dep (q:tQ p (rfE B p) v):depO v≤3:=by
  refine tq_dep q ?_
  by_cases k:bkB p.channel p.denom=true
  · rw[← rfE1 k];exact Nat.le_trans (dep_G ..) (by decide)
  · rw[← rfE2 (tb0 k)];exact Nat.le_trans (dep_M ..) (by decide)
theorem lrf_len:(lrfL L p).length≤L.length+2:=by
  unfold lrfL;split
  · omega
  · split
    · exact Nat.le_trans lgl_len (by omega)
    · exact Nat.le_trans lmo_len (by omega)
end
abbrev tD:TAct:=⟨0,0,0,0,0,⟨0,0,0,[],0,[],[]⟩,0⟩
def zcN (coins:List Coin):Nat→BK × List Coin
  | 0=>([],[])
  | i+1=>if i<10∧lnC (coins.getD i cD)<200 then(giB (zcN coins i).1 (coins.getD i cD).account (coins.getD i cD).denom (coins.getD i cD).amount,lgiL (zcN coins i).2 (coins.getD i cD).account (coins.getD i cD).denom (coins.getD i cD).amount) else zcN coins i
def dn3:List (List UInt8):=[(#[97,116,111,109]:Array UInt8).toList,(#[99,104,48,47,97,116,111,109]:Array UInt8).toList,(#[99,104,49,47,120]:Array UInt8).toList]
def zdN (s:BK × List Coin):Nat→BK × List Coin
  | 0=>s
  | i+1=>(giB (zdN s i).1 ((#[97]:Array UInt8).toList) (dn3.getD i []) 1000,lgiL (zdN s i).2 ((#[97]:Array UInt8).toList) (dn3.getD i []) 1000)
def zpS (s:BK × List Coin) (k:UInt8) (p:Packet):BK × List Coin :=
  if k % 5=2∨k % 5=3 then(tB p s.1 (rcB s.1 p),lrcL s.2 p)
  else if k % 5=4 then(tB p s.1 (rfB s.1 p),lrfL s.2 p)
  else(tB p s.1 (sdB s.1 p),lsdL s.2 p)
def zpN (s:BK × List Coin) (acts:List TAct):Nat→BK × List Coin
  | 0=>s
  | i+1=>zpS (zpN s acts i) (acts.getD i tD).kind (pkA (acts.getD i tD))
theorem zc_rel (coins:List Coin):∀ i,Rel (zcN coins i).1 (zcN coins i).2
  | 0=>.nil
  | i + 1 => by
    unfold zcN;split
    · exact(zc_rel coins i).give ..
    · exact zc_rel coins i
theorem zc_len (coins:List Coin):∀ i,((zcN coins i).1.length≤10∧(zcN coins i).1.length≤i)∧(zcN coins i).2.length≤10∧(zcN coins i).2.length≤i
  | 0=>⟨⟨Nat.zero_le _,Nat.zero_le _⟩,Nat.zero_le _,Nat.zero_le _⟩
  | i + 1 => by
    have h:=zc_len coins i
    unfold zcN;split
    · have := giB_len (B := (zcN coins i).1) (a := (coins.getD i cD).account) (d := (coins.getD i cD).denom) (n := (coins.getD i cD).amount)
      have:=lgl_len (L:=(zcN coins i).2) (a:=(coins.getD i cD).account) (d:=(coins.getD i cD).denom) (n:=(coins.getD i cD).amount)
      dsimp only;omega
    · omega
section
variable {s:BK × List Coin}
theorem zd_rel (h:Rel s.1 s.2):∀ i,Rel (zdN s i).1 (zdN s i).2
  | 0=>h
  | i+1=>(zd_rel h i).give ..
theorem zd_len:∀ i,(zdN s i).1.length≤s.1.length+i∧(zdN s i).2.length≤s.2.length+i
  | 0=>⟨Nat.le_refl _,Nat.le_refl _⟩
  | i + 1 => by
    have h:=zd_len i
    exact⟨Nat.le_trans giB_len (by omega),Nat.le_trans lgl_len (by omega)⟩
theorem zp_rel (h:Rel s.1 s.2) (acts:List TAct):∀ i,Rel (zpN s acts i).1 (zpN s acts i).2
  | 0=>h
  | i + 1 => by
    have h:=zp_rel h acts i
    show Rel (zpS (zpN s acts i) (acts.getD i tD).kind (pkA (acts.getD i tD))).1 (zpS (zpN s acts i) (acts.getD i tD).kind (pkA (acts.getD i tD))).2
    unfold zpS;split
    · exact rc_rel h
    · split
      · exact rf_rel h
      · exact sd_rel h
theorem zp_len (acts:List TAct):∀ i,(zpN s acts i).1.length≤s.1.length+2*i∧(zpN s acts i).2.length≤s.2.length+2*i
  | 0=>⟨Nat.le_refl _,Nat.le_refl _⟩
  | i + 1 => by
    have h:=zp_len acts i
    show(zpS (zpN s acts i) (acts.getD i tD).kind (pkA (acts.getD i tD))).1.length≤_∧(zpS (zpN s acts i) (acts.getD i tD).kind (pkA (acts.getD i tD))).2.length≤_
    unfold zpS;split
    · exact⟨Nat.le_trans trc_len (by omega),Nat.le_trans lrc_len (by omega)⟩
    · split
      · exact⟨Nat.le_trans trf_len (by omega),Nat.le_trans lrf_len (by omega)⟩
      · exact⟨Nat.le_trans tsd_len (by omega),Nat.le_trans lsd_len (by omega)⟩
end
abbrev zN (coins:List Coin) (i j:Nat) (acts:List TAct) (k:Nat):BK × List Coin:=zpN (zdN (zcN coins i) j) acts k
section
variable {coins:List Coin} {i j k m:Nat} {acts:List TAct} {p:Packet} {v:Option Er} {a d:List UInt8} {n:UInt64}
theorem zR:Rel (zN coins i j acts k).1 (zN coins i j acts k).2:=zp_rel (zd_rel (zc_rel coins i) j) acts k
theorem zc_n1 (h:(i:Int)<10) (h2:lnC (coins.getD i cD)<200):giB (zcN coins i).1 (coins.getD i cD).account (coins.getD i cD).denom (coins.getD i cD).amount=(zcN coins (i+1)).1:=by rw[zcN,if_pos ⟨by omega,h2⟩]
theorem zc_n2 (h:(i:Int)<10) (h2:lnC (coins.getD i cD)<200):lgiL (zcN coins i).2 (coins.getD i cD).account (coins.getD i cD).denom (coins.getD i cD).amount=(zcN coins (i+1)).2:=by rw[zcN,if_pos ⟨by omega,h2⟩]
theorem zc_s1 (h:¬ (i:Int)<10):(zcN coins i).1=(zcN coins (i+1)).1:=by rw[zcN,if_neg (fun q=>h (by omega))]
theorem zc_s2 (h:¬ (i:Int)<10):(zcN coins i).2=(zcN coins (i+1)).2:=by rw[zcN,if_neg (fun q=>h (by omega))]
theorem zc_t1 (h:¬ lnC (coins.getD i cD)<200):(zcN coins i).1=(zcN coins (i+1)).1:=by rw[zcN,if_neg (fun q=>h q.2)]
theorem zc_t2 (h:¬ lnC (coins.getD i cD)<200):(zcN coins i).2=(zcN coins (i+1)).2:=by rw[zcN,if_neg (fun q=>h q.2)]
theorem zl0:(zcN coins i).2.length≤100000:=Nat.le_trans (zc_len coins i).2.1 (by decide)
theorem zl1 (h:j≤3):(zdN (zcN coins i) j).2.length≤100000:=Nat.le_trans (zd_len j).2 (by have:=(zc_len coins i).2.1;omega)
theorem zlB (hj:j≤3) (hk:k≤m∧k≤61):(zN coins i j acts k).1.length≤1000:=Nat.le_trans (zp_len acts k).1 (by have:=(zd_len (s:=zcN coins i) j).1;have:=(zc_len coins i).1.1;omega)
theorem zlL (hj:j≤3) (hk:k≤m∧k≤61):(zN coins i j acts k).2.length≤1000:=Nat.le_trans (zp_len acts k).2 (by have:=(zd_len (s:=zcN coins i) j).2;have:=(zc_len coins i).2.1;omega)
theorem zll (hj:j≤3) (hk:k≤m∧k≤61):(zN coins i j acts k).2.length≤90000:=Nat.le_trans (zlL hj hk) (by decide)
theorem ksd1 (q:tQ p (sdE (zN coins i j acts k).1 p) v) (h:codeO v≠lsdE (zN coins i j acts k).2 p):False:=h (sd_cod zR q)
theorem ksd2 (h:¬ allL (coinsB (tB p (zN coins i j acts k).1 (sdB (zN coins i j acts k).1 p)))=allL (lsdL (zN coins i j acts k).2 p)):False:=h (sd_rel zR).all
theorem qsd0:((tB p (zN coins i j acts k).1 (sdB (zN coins i j acts k).1 p)).map (·.1)).Nodup:=(sd_rel zR).b.nd
theorem qsd1 (hj:j≤3) (hk:k≤m∧k≤61):(tB p (zN coins i j acts k).1 (sdB (zN coins i j acts k).1 p)).length≤100000:=Nat.le_trans tsd_len (by have:=zlB (coins:=coins) (i:=i) (acts:=acts) hj hk;omega)
theorem qsd2 (hj:j≤3) (hk:k≤m∧k≤61):(lsdL (zN coins i j acts k).2 p).length≤100000:=Nat.le_trans lsd_len (by have:=zlL (coins:=coins) (i:=i) (acts:=acts) hj hk;omega)
theorem qsd3 (hj:j≤3) (hk:k≤m∧k≤61):(allL (coinsB (tB p (zN coins i j acts k).1 (sdB (zN coins i j acts k).1 p)))).length≤100000:=by rw[all_len];exact qsd1 hj hk
theorem krc1 (q:tQ p (rcE (zN coins i j acts k).1 p) v) (h:codeO v≠lrcE (zN coins i j acts k).2 p):False:=h (rc_cod zR q)
theorem krc2 (h:¬ allL (coinsB (tB p (zN coins i j acts k).1 (rcB (zN coins i j acts k).1 p)))=allL (lrcL (zN coins i j acts k).2 p)):False:=h (rc_rel zR).all
theorem qrc0:((tB p (zN coins i j acts k).1 (rcB (zN coins i j acts k).1 p)).map (·.1)).Nodup:=(rc_rel zR).b.nd
theorem qrc1 (hj:j≤3) (hk:k≤m∧k≤61):(tB p (zN coins i j acts k).1 (rcB (zN coins i j acts k).1 p)).length≤100000:=Nat.le_trans trc_len (by have:=zlB (coins:=coins) (i:=i) (acts:=acts) hj hk;omega)
theorem qrc2 (hj:j≤3) (hk:k≤m∧k≤61):(lrcL (zN coins i j acts k).2 p).length≤100000:=Nat.le_trans lrc_len (by have:=zlL (coins:=coins) (i:=i) (acts:=acts) hj hk;omega)
theorem qrc3 (hj:j≤3) (hk:k≤m∧k≤61):(allL (coinsB (tB p (zN coins i j acts k).1 (rcB (zN coins i j acts k).1 p)))).length≤100000:=by rw[all_len];exact qrc1 hj hk
theorem krf1 (q:tQ p (rfE (zN coins i j acts k).1 p) v) (h:codeO v≠lrfE (zN coins i j acts k).2 p):False:=h (rf_cod zR q)
theorem krf2 (h:¬ allL (coinsB (tB p (zN coins i j acts k).1 (rfB (zN coins i j acts k).1 p)))=allL (lrfL (zN coins i j acts k).2 p)):False:=h (rf_rel zR).all
theorem qrf0:((tB p (zN coins i j acts k).1 (rfB (zN coins i j acts k).1 p)).map (·.1)).Nodup:=(rf_rel zR).b.nd
theorem qrf1 (hj:j≤3) (hk:k≤m∧k≤61):(tB p (zN coins i j acts k).1 (rfB (zN coins i j acts k).1 p)).length≤100000:=Nat.le_trans trf_len (by have:=zlB (coins:=coins) (i:=i) (acts:=acts) hj hk;omega)
theorem qrf2 (hj:j≤3) (hk:k≤m∧k≤61):(lrfL (zN coins i j acts k).2 p).length≤100000:=Nat.le_trans lrf_len (by have:=zlL (coins:=coins) (i:=i) (acts:=acts) hj hk;omega)
theorem qrf3 (hj:j≤3) (hk:k≤m∧k≤61):(allL (coinsB (tB p (zN coins i j acts k).1 (rfB (zN coins i j acts k).1 p)))).length≤100000:=by rw[all_len];exact qrf1 hj hk
theorem nA1 (h2:(acts.getD k tD).kind % 5=2):tB (pkA (acts.getD k tD)) (zN coins i j acts k).1 (rcB (zN coins i j acts k).1 (pkA (acts.getD k tD)))=(zN coins i j acts (k+1)).1:=by show _=(zpS (zN coins i j acts k) (acts.getD k tD).kind (pkA (acts.getD k tD))).1;unfold zpS;rw[if_pos (.inl h2)]
theorem nA2 (h2:(acts.getD k tD).kind % 5=2):lrcL (zN coins i j acts k).2 (pkA (acts.getD k tD))=(zN coins i j acts (k+1)).2:=by show _=(zpS (zN coins i j acts k) (acts.getD k tD).kind (pkA (acts.getD k tD))).2;unfold zpS;rw[if_pos (.inl h2)]
theorem nB1 (h2:(acts.getD k tD).kind % 5=3):tB (pkA (acts.getD k tD)) (zN coins i j acts k).1 (rcB (zN coins i j acts k).1 (pkA (acts.getD k tD)))=(zN coins i j acts (k+1)).1:=by show _=(zpS (zN coins i j acts k) (acts.getD k tD).kind (pkA (acts.getD k tD))).1;unfold zpS;rw[if_pos (.inr h2)]
theorem nB2 (h2:(acts.getD k tD).kind % 5=3):lrcL (zN coins i j acts k).2 (pkA (acts.getD k tD))=(zN coins i j acts (k+1)).2:=by show _=(zpS (zN coins i j acts k) (acts.getD k tD).kind (pkA (acts.getD k tD))).2;unfold zpS;rw[if_pos (.inr h2)]
theorem nC1 (h2:¬ (acts.getD k tD).kind % 5=2) (h3:¬ (acts.getD k tD).kind % 5=3) (h4:(acts.getD k tD).kind % 5=4):tB (pkA (acts.getD k tD)) (zN coins i j acts k).1 (rfB (zN coins i j acts k).1 (pkA (acts.getD k tD)))=(zN coins i j acts (k+1)).1:=by show _=(zpS (zN coins i j acts k) (acts.getD k tD).kind (pkA (acts.getD k tD))).1;unfold zpS;rw[if_neg (fun q=>q.elim h2 h3),if_pos h4]
theorem nC2 (h2:¬ (acts.getD k tD).kind % 5=2) (h3:¬ (acts.getD k tD).kind % 5=3) (h4:(acts.getD k tD).kind % 5=4):lrfL (zN coins i j acts k).2 (pkA (acts.getD k tD))=(zN coins i j acts (k+1)).2:=by show _=(zpS (zN coins i j acts k) (acts.getD k tD).kind (pkA (acts.getD k tD))).2;unfold zpS;rw[if_neg (fun q=>q.elim h2 h3),if_pos h4]
theorem nD1 (h2:¬ (acts.getD k tD).kind % 5=2) (h3:¬ (acts.getD k tD).kind % 5=3) (h4:¬ (acts.getD k tD).kind % 5=4):tB (pkA (acts.getD k tD)) (zN coins i j acts k).1 (sdB (zN coins i j acts k).1 (pkA (acts.getD k tD)))=(zN coins i j acts (k+1)).1:=by show _=(zpS (zN coins i j acts k) (acts.getD k tD).kind (pkA (acts.getD k tD))).1;unfold zpS;rw[if_neg (fun q=>q.elim h2 h3),if_neg h4]
theorem nD2 (h2:¬ (acts.getD k tD).kind % 5=2) (h3:¬ (acts.getD k tD).kind % 5=3) (h4:¬ (acts.getD k tD).kind % 5=4):lsdL (zN coins i j acts k).2 (pkA (acts.getD k tD))=(zN coins i j acts (k+1)).2:=by show _=(zpS (zN coins i j acts k) (acts.getD k tD).kind (pkA (acts.getD k tD))).2;unfold zpS;rw[if_neg (fun q=>q.elim h2 h3),if_neg h4]
end
set_option maxHeartbeats 4000000 in
noncomputable def ccZ5_3:Code:=(Tryz.f3.body).getD .skip
theorem TransferPlays_ok (coins:List Coin) (acts:List TAct) (hx:coins.length≤140737488355328) (hC:∀ i:Nat,(coins.getD i cD).account.length≤140737488351232∧(coins.getD i cD).denom.length≤140737488351232) (hy:acts.length≤140737488355328) (hA:∀ i:Nat,(pkA (acts.getD i tD)).denom.length≤140737488351232∧(pkA (acts.getD i tD)).from_.length≤140737488351232∧(pkA (acts.getD i tD)).to.length≤140737488351232):FOk EN 3 ⟨[.pr etP,.rd 32 coins,.rd 41 acts],[.n 1,.n 2],Unit,fun _=>([.pr etP,.rd 32 coins,.rd 41 acts],.b true),fun _=>True⟩:=by
 refine v_fun Tryz.f3 ccZ5_3 MX (fun ν F σ w=>?_) Tryz.func3
 refine v_nl ?_
 refine v_call _ [] (Awake14_ok) True trivial (fun g1 p2=>?_)
 have p2:True:=p2
 refine v_if (!true) True trivial (fun h3=>?_) (fun h3=>?_)
 ·have h3:=(nt h3)
  contradiction
 ·have h3:=(nf h3)
  refine v_call _ [] (New_ok) True trivial (fun g4 p5=>?_)
  have p5:True:=p5
  refine v_loop (fun i:Nat=>([(23,.i i),(5,.p 7 0),(6,.p 9 0)],[.bx 54 [.n 8],.mp 52 (zcN coins i).1,.bx 29 [.n 10],.rd 32 (zcN coins i).2])) (fun i=>i≤coins.length) (fun i=>coins.length - i) 0 [5,4,6,3] (((0:Int)=(↑(0:Nat):Int))∧([]=(zcN coins 0).fst)∧([]=(zcN coins 0).snd)) ⟨rfl,rfl,rfl⟩ (by omega) (fun i hk6=>?_)
  refine v_if (decide ((↑i:Int)<(↑coins.length:Int))) True trivial (fun h7=>?_) (fun h7=>?_)
  ·have h7:=of_decide_eq_true h7
   refine v_guard 30 (decide ((↑i:Int)<10)) ((0≤(↑i:Int)∧(↑i:Int)<(↑coins.length:Int))) (by omega) (fun h8=>?_) (fun h8=>?_)
   ·have h8:=of_decide_eq_true h8
    refine v_if (decide ((↑(coins.getD (↑i:Int).toNat (Coin.mk [] [] 0)).account.length:Int)+(↑(coins.getD (↑i:Int).toNat (Coin.mk [] [] 0)).denom.length:Int)<200)) ((I64 ((↑(coins.getD (↑i:Int).toNat (Coin.mk [] [] 0)).account.length:Int)+(↑(coins.getD (↑i:Int).toNat (Coin.mk [] [] 0)).denom.length:Int)))) (by exact i64_2 (hC _).1 (hC _).2) (fun h9=>?_) (fun h9=>?_)
    ·have h9:=of_decide_eq_true h9
     refine v_call _ [8,7] (Give_ok ((zcN coins i).fst) ((coins.getD (↑i:Int).toNat (Coin.mk [] [] 0)).account) ((coins.getD (↑i:Int).toNat (Coin.mk [] [] 0)).denom) ((coins.getD (↑i:Int).toNat (Coin.mk [] [] 0)).amount)) (((coins.getD (↑i:Int).toNat (Coin.mk [] [] 0)).account=(coins.getD (↑i:Int).toNat (Coin.mk [] [] 0)).account)∧((coins.getD (↑i:Int).toNat (Coin.mk [] [] 0)).denom=(coins.getD (↑i:Int).toNat (Coin.mk [] [] 0)).denom)∧((coins.getD (↑i:Int).toNat (Coin.mk [] [] 0)).amount=(coins.getD (↑i:Int).toNat (Coin.mk [] [] 0)).amount)∧(@Eq (List (Prod (Prod (List UInt8) (List UInt8)) UInt64)) (@Prod.fst BK (List Coin) (zcN coins i)) (@Prod.fst BK (List Coin) (zcN coins i)))) ⟨rfl,rfl,rfl,rfl⟩ (fun g10 p11=>?_)
     have p11:True:=p11
     refine v_call _ [10,9] (RGive_ok ((zcN coins i).snd) ((coins.getD (↑i:Int).toNat (Coin.mk [] [] 0)).account) ((coins.getD (↑i:Int).toNat (Coin.mk [] [] 0)).denom) ((coins.getD (↑i:Int).toNat (Coin.mk [] [] 0)).amount) (by with_reducible exact zl0)) (((coins.getD (↑i:Int).toNat (Coin.mk [] [] 0)).account=(coins.getD (↑i:Int).toNat (Coin.mk [] [] 0)).account)∧((coins.getD (↑i:Int).toNat (Coin.mk [] [] 0)).denom=(coins.getD (↑i:Int).toNat (Coin.mk [] [] 0)).denom)∧((coins.getD (↑i:Int).toNat (Coin.mk [] [] 0)).amount=(coins.getD (↑i:Int).toNat (Coin.mk [] [] 0)).amount)∧((zcN coins i).snd=(zcN coins i).snd)) ⟨rfl,rfl,rfl,rfl⟩ (fun g12 p13=>?_)
     have p13:True:=p13
     exact v_back (i+1) [7,8,9,14] ((I64 (↑i+1))∧((↑i:Int)+1=(↑(i+1):Int))∧(giB (zcN coins i).fst (coins.getD (↑i:Int).toNat (Coin.mk [] [] (0:UInt64))).account (coins.getD (↑i:Int).toNat (Coin.mk [] [] (0:UInt64))).denom (coins.getD (↑i:Int).toNat (Coin.mk [] [] (0:UInt64))).amount=(zcN coins (i+(1:Nat))).fst)∧(lgiL (zcN coins i).snd (coins.getD (↑i:Int).toNat (Coin.mk [] [] 0)).account (coins.getD (↑i:Int).toNat (Coin.mk [] [] 0)).denom (coins.getD (↑i:Int).toNat (Coin.mk [] [] 0)).amount=(zcN coins (i+1)).snd)) ⟨(by(unfold I64;omega)),rfl,(by exact zc_n1 (by omega) ‹_›),(by exact zc_n2 (by omega) ‹_›)⟩ (show i+1≤coins.length∧coins.length - (i+1)<coins.length - i from(by omega))
    ·have h9:=of_decide_eq_false h9
     exact v_back (i+1) [7,8,9,10] ((I64 (↑i+1))∧((↑i:Int)+1=(↑(i+1):Int))∧(@Eq (List (Prod (Prod (List UInt8) (List UInt8)) UInt64)) (@Prod.fst BK (List Coin) (zcN coins i)) (@Prod.fst BK (List Coin) (zcN coins (@HAdd.hAdd Nat Nat Nat (@instHAdd Nat instAddNat) i (@OfNat.ofNat Nat (nat_lit 1) (instOfNatNat (nat_lit 1)))))))∧((zcN coins i).snd=(zcN coins (i+1)).snd)) ⟨(by(unfold I64;omega)),rfl,(by exact zc_t1 ‹_›),(by exact zc_t2 ‹_›)⟩ (show i+1≤coins.length∧coins.length - (i+1)<coins.length - i from(by omega))
   ·have h8:=of_decide_eq_false h8
    exact v_back (i+1) [7,8,9,10] ((I64 (↑i+1))∧((↑i:Int)+1=(↑(i+1):Int))∧(@Eq (List (Prod (Prod (List UInt8) (List UInt8)) UInt64)) (@Prod.fst BK (List Coin) (zcN coins i)) (@Prod.fst BK (List Coin) (zcN coins (@HAdd.hAdd Nat Nat Nat (@instHAdd Nat instAddNat) i (@OfNat.ofNat Nat (nat_lit 1) (instOfNatNat (nat_lit 1)))))))∧((zcN coins i).snd=(zcN coins (i+1)).snd)) ⟨(by(unfold I64;omega)),rfl,(by with_reducible exact zc_s1 ‹_›),(by with_reducible exact zc_s2 ‹_›)⟩ (show i+1≤coins.length∧coins.length - (i+1)<coins.length - i from(by omega))
  ·have h7:=of_decide_eq_false h7
   refine v_leave (.ex 0) True trivial ?_
   refine v_loop (fun j:Nat=>([(59,.i j),(5,.p 12 0),(6,.p 14 0)],[.bx 54 [.n 13],.mp 52 (zdN (zcN coins i) j).1,.bx 29 [.n 15],.rd 32 (zdN (zcN coins i) j).2])) (fun j=>j≤3) (fun j=>3 - j) 0 [7,8,9,10] (((0:Int)=(↑(0:Nat):Int))∧(@Eq (List (Prod (Prod (List UInt8) (List UInt8)) UInt64)) (@Prod.fst BK (List Coin) (zcN coins i)) (@Prod.fst BK (List Coin) (zdN (zcN coins i) (@OfNat.ofNat Nat (nat_lit 0) (instOfNatNat (nat_lit 0))))))∧((zcN coins i).snd=(zdN (zcN coins i) 0).snd)) ⟨rfl,rfl,rfl⟩ (by decide) (fun j hk14=>?_)
   refine v_if (decide ((↑j:Int)<(↑(3:Nat):Int))) True trivial (fun h15=>?_) (fun h15=>?_)
   ·have h15:=of_decide_eq_true h15
    refine v_call _ [13,12] (Give_ok ((zdN (zcN coins i) j).fst) (#[97].toList) ([#[97,116,111,109].toList,#[99,104,48,47,97,116,111,109].toList,#[99,104,49,47,120].toList].getD (↑j:Int).toNat []) (1000)) (((0:Int)≤(↑j:Int)∧(↑j:Int)<(↑(3:Nat):Int))∧(#[(97:UInt8)].toList=#[(97:UInt8)].toList)∧([#[(97:UInt8),(116:UInt8),(111:UInt8),(109:UInt8)].toList,#[(99:UInt8),(104:UInt8),(48:UInt8),(47:UInt8),(97:UInt8),(116:UInt8),(111:UInt8),(109:UInt8)].toList,#[(99:UInt8),(104:UInt8),(49:UInt8),(47:UInt8),(120:UInt8)].toList].getD (↑j:Int).toNat []=[#[(97:UInt8),(116:UInt8),(111:UInt8),(109:UInt8)].toList,#[(99:UInt8),(104:UInt8),(48:UInt8),(47:UInt8),(97:UInt8),(116:UInt8),(111:UInt8),(109:UInt8)].toList,#[(99:UInt8),(104:UInt8),(49:UInt8),(47:UInt8),(120:UInt8)].toList].getD (↑j:Int).toNat [])∧((1000:UInt64)=(1000:UInt64))∧(@Eq (List (Prod (Prod (List UInt8) (List UInt8)) UInt64)) (@Prod.fst BK (List Coin) (zdN (zcN coins i) j)) (@Prod.fst BK (List Coin) (zdN (zcN coins i) j)))) ⟨(by omega),rfl,rfl,rfl,rfl⟩ (fun g16 p17=>?_)
    have p17:True:=p17
    refine v_call _ [15,14] (RGive_ok ((zdN (zcN coins i) j).snd) (#[97].toList) ([#[97,116,111,109].toList,#[99,104,48,47,97,116,111,109].toList,#[99,104,49,47,120].toList].getD (↑j:Int).toNat []) (1000) (by with_reducible exact zl1 ‹_›)) ((#[(97:UInt8)].toList=#[(97:UInt8)].toList)∧([#[(97:UInt8),(116:UInt8),(111:UInt8),(109:UInt8)].toList,#[(99:UInt8),(104:UInt8),(48:UInt8),(47:UInt8),(97:UInt8),(116:UInt8),(111:UInt8),(109:UInt8)].toList,#[(99:UInt8),(104:UInt8),(49:UInt8),(47:UInt8),(120:UInt8)].toList].getD (↑j:Int).toNat []=[#[(97:UInt8),(116:UInt8),(111:UInt8),(109:UInt8)].toList,#[(99:UInt8),(104:UInt8),(48:UInt8),(47:UInt8),(97:UInt8),(116:UInt8),(111:UInt8),(109:UInt8)].toList,#[(99:UInt8),(104:UInt8),(49:UInt8),(47:UInt8),(120:UInt8)].toList].getD (↑j:Int).toNat [])∧((1000:UInt64)=(1000:UInt64))∧((zdN (zcN coins i) j).snd=(zdN (zcN coins i) j).snd)) ⟨rfl,rfl,rfl,rfl⟩ (fun g18 p19=>?_)
    have p19:True:=p19
    exact v_back (j+1) [12,13,14,18] ((I64 (↑j+1))∧((↑j:Int)+1=(↑(j+1):Int))∧(giB (zdN (zcN coins i) j).fst #[(97:UInt8)].toList ([#[(97:UInt8),(116:UInt8),(111:UInt8),(109:UInt8)].toList,#[(99:UInt8),(104:UInt8),(48:UInt8),(47:UInt8),(97:UInt8),(116:UInt8),(111:UInt8),(109:UInt8)].toList,#[(99:UInt8),(104:UInt8),(49:UInt8),(47:UInt8),(120:UInt8)].toList].getD (↑j:Int).toNat []) (1000:UInt64)=(zdN (zcN coins i) (j+(1:Nat))).fst)∧(lgiL (zdN (zcN coins i) j).snd #[97].toList ([#[97,116,111,109].toList,#[99,104,48,47,97,116,111,109].toList,#[99,104,49,47,120].toList].getD (↑j:Int).toNat []) 1000=(zdN (zcN coins i) (j+1)).snd)) ⟨(by(unfold I64;omega)),rfl,rfl,rfl⟩ (show j+1≤3∧3 - (j+1)<3 - j from(by omega))
   ·have h15:=of_decide_eq_false h15
    refine v_leave (.ex 2) True trivial ?_
    refine v_loop (fun k:Nat=>([(72,.i k),(5,.p 16 0),(6,.p 18 0)],[.bx 54 [.n 17],.mp 52 (zN coins i j acts k).1,.bx 29 [.n 19],.rd 32 (zN coins i j acts k).2])) (fun k=>k≤acts.length∧k≤61) (fun k=>acts.length - k) 0 [12,13,14,15] (((0:Int)=(↑(0:Nat):Int))∧(@Eq (List (Prod (Prod (List UInt8) (List UInt8)) UInt64)) (@Prod.fst BK (List Coin) (zdN (zcN coins i) j)) (@Prod.fst BK (List Coin) (zN coins i j acts (@OfNat.ofNat Nat (nat_lit 0) (instOfNatNat (nat_lit 0))))))∧((zdN (zcN coins i) j).snd=(zN coins i j acts 0).snd)) ⟨rfl,rfl,rfl⟩ (by omega) (fun k hk20=>?_)
    refine v_if (decide ((↑k:Int)<(↑acts.length:Int))) True trivial (fun h21=>?_) (fun h21=>?_)
    ·have h21:=of_decide_eq_true h21
     refine v_call _ [] (Packet_ok (acts.getD (↑k:Int).toNat (TAct.mk 0 0 0 0 0 (Packet.mk 0 0 0 [] 0 [] []) 0))) ((0≤(↑k:Int)∧(↑k:Int)<(↑acts.length:Int))∧((acts.getD (↑k:Int).toNat (TAct.mk 0 0 0 0 0 (Packet.mk 0 0 0 [] 0 [] []) 0)).kind=(acts.getD (↑k:Int).toNat (TAct.mk 0 0 0 0 0 (Packet.mk 0 0 0 [] 0 [] []) 0)).kind)∧((acts.getD (↑k:Int).toNat (TAct.mk 0 0 0 0 0 (Packet.mk 0 0 0 [] 0 [] []) 0)).channel=(acts.getD (↑k:Int).toNat (TAct.mk 0 0 0 0 0 (Packet.mk 0 0 0 [] 0 [] []) 0)).channel)∧((acts.getD (↑k:Int).toNat (TAct.mk 0 0 0 0 0 (Packet.mk 0 0 0 [] 0 [] []) 0)).d=(acts.getD (↑k:Int).toNat (TAct.mk 0 0 0 0 0 (Packet.mk 0 0 0 [] 0 [] []) 0)).d)∧((acts.getD (↑k:Int).toNat (TAct.mk 0 0 0 0 0 (Packet.mk 0 0 0 [] 0 [] []) 0)).a=(acts.getD (↑k:Int).toNat (TAct.mk 0 0 0 0 0 (Packet.mk 0 0 0 [] 0 [] []) 0)).a)∧((acts.getD (↑k:Int).toNat (TAct.mk 0 0 0 0 0 (Packet.mk 0 0 0 [] 0 [] []) 0)).b=(acts.getD (↑k:Int).toNat (TAct.mk 0 0 0 0 0 (Packet.mk 0 0 0 [] 0 [] []) 0)).b)∧((acts.getD (↑k:Int).toNat (TAct.mk 0 0 0 0 0 (Packet.mk 0 0 0 [] 0 [] []) 0)).raw.channel=(acts.getD (↑k:Int).toNat (TAct.mk 0 0 0 0 0 (Packet.mk 0 0 0 [] 0 [] []) 0)).raw.channel)∧((acts.getD (↑k:Int).toNat (TAct.mk 0 0 0 0 0 (Packet.mk 0 0 0 [] 0 [] []) 0)).raw.seq=(acts.getD (↑k:Int).toNat (TAct.mk 0 0 0 0 0 (Packet.mk 0 0 0 [] 0 [] []) 0)).raw.seq)∧((acts.getD (↑k:Int).toNat (TAct.mk 0 0 0 0 0 (Packet.mk 0 0 0 [] 0 [] []) 0)).raw.timeout=(acts.getD (↑k:Int).toNat (TAct.mk 0 0 0 0 0 (Packet.mk 0 0 0 [] 0 [] []) 0)).raw.timeout)∧((acts.getD (↑k:Int).toNat (TAct.mk 0 0 0 0 0 (Packet.mk 0 0 0 [] 0 [] []) 0)).raw.denom=(acts.getD (↑k:Int).toNat (TAct.mk 0 0 0 0 0 (Packet.mk 0 0 0 [] 0 [] []) 0)).raw.denom)∧((acts.getD (↑k:Int).toNat (TAct.mk 0 0 0 0 0 (Packet.mk 0 0 0 [] 0 [] []) 0)).raw.amount=(acts.getD (↑k:Int).toNat (TAct.mk 0 0 0 0 0 (Packet.mk 0 0 0 [] 0 [] []) 0)).raw.amount)∧((acts.getD (↑k:Int).toNat (TAct.mk 0 0 0 0 0 (Packet.mk 0 0 0 [] 0 [] []) 0)).raw.from_=(acts.getD (↑k:Int).toNat (TAct.mk 0 0 0 0 0 (Packet.mk 0 0 0 [] 0 [] []) 0)).raw.from_)∧((acts.getD (↑k:Int).toNat (TAct.mk 0 0 0 0 0 (Packet.mk 0 0 0 [] 0 [] []) 0)).raw.to=(acts.getD (↑k:Int).toNat (TAct.mk 0 0 0 0 0 (Packet.mk 0 0 0 [] 0 [] []) 0)).raw.to)∧((acts.getD (↑k:Int).toNat (TAct.mk 0 0 0 0 0 (Packet.mk 0 0 0 [] 0 [] []) 0)).n=(acts.getD (↑k:Int).toNat (TAct.mk 0 0 0 0 0 (Packet.mk 0 0 0 [] 0 [] []) 0)).n)) ⟨(by omega),rfl,rfl,rfl,rfl,rfl,rfl,rfl,rfl,rfl,rfl,rfl,rfl,rfl⟩ (fun g22 p23=>?_)
     have p23:True:=p23
     refine v_guard 81 (decide (60<(↑k:Int))) True trivial (fun h24=>?_) (fun h24=>?_)
     ·have h24:=of_decide_eq_true h24
      refine v_leave (.ex 4) True trivial ?_
      exact v_ret () [] ((true=true)∧(etP=etP)∧(coins=coins)∧(acts=acts)) ⟨rfl,rfl,rfl,rfl⟩ trivial
     ·have h24:=of_decide_eq_false h24
      refine v_call _ [] (long_ok (pkA (acts.getD (↑k:Int).toNat (TAct.mk 0 0 0 0 0 (Packet.mk 0 0 0 [] 0 [] []) 0))) (by exact(hA _).1) (by exact(hA _).2.1) (by exact(hA _).2.2)) (((pkA (acts.getD (↑k:Int).toNat (TAct.mk 0 0 0 0 0 (Packet.mk 0 0 0 [] 0 [] []) 0))).channel=(pkA (acts.getD (↑k:Int).toNat (TAct.mk 0 0 0 0 0 (Packet.mk 0 0 0 [] 0 [] []) 0))).channel)∧((pkA (acts.getD (↑k:Int).toNat (TAct.mk 0 0 0 0 0 (Packet.mk 0 0 0 [] 0 [] []) 0))).seq=(pkA (acts.getD (↑k:Int).toNat (TAct.mk 0 0 0 0 0 (Packet.mk 0 0 0 [] 0 [] []) 0))).seq)∧((pkA (acts.getD (↑k:Int).toNat (TAct.mk 0 0 0 0 0 (Packet.mk 0 0 0 [] 0 [] []) 0))).timeout=(pkA (acts.getD (↑k:Int).toNat (TAct.mk 0 0 0 0 0 (Packet.mk 0 0 0 [] 0 [] []) 0))).timeout)∧((pkA (acts.getD (↑k:Int).toNat (TAct.mk 0 0 0 0 0 (Packet.mk 0 0 0 [] 0 [] []) 0))).denom=(pkA (acts.getD (↑k:Int).toNat (TAct.mk 0 0 0 0 0 (Packet.mk 0 0 0 [] 0 [] []) 0))).denom)∧((pkA (acts.getD (↑k:Int).toNat (TAct.mk 0 0 0 0 0 (Packet.mk 0 0 0 [] 0 [] []) 0))).amount=(pkA (acts.getD (↑k:Int).toNat (TAct.mk 0 0 0 0 0 (Packet.mk 0 0 0 [] 0 [] []) 0))).amount)∧((pkA (acts.getD (↑k:Int).toNat (TAct.mk 0 0 0 0 0 (Packet.mk 0 0 0 [] 0 [] []) 0))).from_=(pkA (acts.getD (↑k:Int).toNat (TAct.mk 0 0 0 0 0 (Packet.mk 0 0 0 [] 0 [] []) 0))).from_)∧((pkA (acts.getD (↑k:Int).toNat (TAct.mk 0 0 0 0 0 (Packet.mk 0 0 0 [] 0 [] []) 0))).to=(pkA (acts.getD (↑k:Int).toNat (TAct.mk 0 0 0 0 0 (Packet.mk 0 0 0 [] 0 [] []) 0))).to)) ⟨rfl,rfl,rfl,rfl,rfl,rfl,rfl⟩ (fun g25 p26=>?_)
      have p26:True:=p26
      refine v_if (lgS (pkA (acts.getD (↑k:Int).toNat (TAct.mk 0 0 0 0 0 (Packet.mk 0 0 0 [] 0 [] []) 0)))) True trivial (fun h27=>?_) (fun h27=>?_)
      ·skip
       refine v_leave (.ex 4) True trivial ?_
       exact v_ret () [] ((true=true)∧(etP=etP)∧(coins=coins)∧(acts=acts)) ⟨rfl,rfl,rfl,rfl⟩ trivial
      ·skip
       refine v_if (decide ((acts.getD (↑k:Int).toNat (TAct.mk 0 0 0 0 0 (Packet.mk 0 0 0 [] 0 [] []) 0)).kind % 5=2)) (((5:UInt8)≠(0:UInt8))) (by decide) (fun h28=>?_) (fun h28=>?_)
       ·have h28:=of_decide_eq_true h28
        refine v_if (decide ((acts.getD (↑k:Int).toNat (TAct.mk 0 0 0 0 0 (Packet.mk 0 0 0 [] 0 [] []) 0)).kind % 5=2)) True trivial (fun h29=>?_) (fun h29=>?_)
        ·have h29:=of_decide_eq_true h29
         refine v_plan (.fs [0,1,3,4] (.o 2 (.o 5 (.fs [6,7] .e)))) [11,21,22] True trivial ?_
         refine v_call _ [17,16] (TReceive_ok ((zN coins i j acts k).fst) ((pkA (acts.getD (↑k:Int).toNat (TAct.mk 0 0 0 0 0 (Packet.mk 0 0 0 [] 0 [] []) 0))).channel) ((pkA (acts.getD (↑k:Int).toNat (TAct.mk 0 0 0 0 0 (Packet.mk 0 0 0 [] 0 [] []) 0))).seq) ((pkA (acts.getD (↑k:Int).toNat (TAct.mk 0 0 0 0 0 (Packet.mk 0 0 0 [] 0 [] []) 0))).timeout) ((pkA (acts.getD (↑k:Int).toNat (TAct.mk 0 0 0 0 0 (Packet.mk 0 0 0 [] 0 [] []) 0))).denom) ((pkA (acts.getD (↑k:Int).toNat (TAct.mk 0 0 0 0 0 (Packet.mk 0 0 0 [] 0 [] []) 0))).amount) ((pkA (acts.getD (↑k:Int).toNat (TAct.mk 0 0 0 0 0 (Packet.mk 0 0 0 [] 0 [] []) 0))).from_) ((pkA (acts.getD (↑k:Int).toNat (TAct.mk 0 0 0 0 0 (Packet.mk 0 0 0 [] 0 [] []) 0))).to) (by exact(hA _).1) (by exact(hA _).2.1) (by exact(hA _).2.2)) (((pkA (acts.getD (↑k:Int).toNat (TAct.mk 0 0 0 0 0 (Packet.mk 0 0 0 [] 0 [] []) 0))).channel=(pkA (acts.getD (↑k:Int).toNat (TAct.mk 0 0 0 0 0 (Packet.mk 0 0 0 [] 0 [] []) 0))).channel)∧((pkA (acts.getD (↑k:Int).toNat (TAct.mk 0 0 0 0 0 (Packet.mk 0 0 0 [] 0 [] []) 0))).seq=(pkA (acts.getD (↑k:Int).toNat (TAct.mk 0 0 0 0 0 (Packet.mk 0 0 0 [] 0 [] []) 0))).seq)∧((pkA (acts.getD (↑k:Int).toNat (TAct.mk 0 0 0 0 0 (Packet.mk 0 0 0 [] 0 [] []) 0))).timeout=(pkA (acts.getD (↑k:Int).toNat (TAct.mk 0 0 0 0 0 (Packet.mk 0 0 0 [] 0 [] []) 0))).timeout)∧((pkA (acts.getD (↑k:Int).toNat (TAct.mk 0 0 0 0 0 (Packet.mk 0 0 0 [] 0 [] []) 0))).denom=(pkA (acts.getD (↑k:Int).toNat (TAct.mk 0 0 0 0 0 (Packet.mk 0 0 0 [] 0 [] []) 0))).denom)∧((pkA (acts.getD (↑k:Int).toNat (TAct.mk 0 0 0 0 0 (Packet.mk 0 0 0 [] 0 [] []) 0))).amount=(pkA (acts.getD (↑k:Int).toNat (TAct.mk 0 0 0 0 0 (Packet.mk 0 0 0 [] 0 [] []) 0))).amount)∧((pkA (acts.getD (↑k:Int).toNat (TAct.mk 0 0 0 0 0 (Packet.mk 0 0 0 [] 0 [] []) 0))).from_=(pkA (acts.getD (↑k:Int).toNat (TAct.mk 0 0 0 0 0 (Packet.mk 0 0 0 [] 0 [] []) 0))).from_)∧((pkA (acts.getD (↑k:Int).toNat (TAct.mk 0 0 0 0 0 (Packet.mk 0 0 0 [] 0 [] []) 0))).to=(pkA (acts.getD (↑k:Int).toNat (TAct.mk 0 0 0 0 0 (Packet.mk 0 0 0 [] 0 [] []) 0))).to)∧(@Eq (List (Prod (Prod (List UInt8) (List UInt8)) UInt64)) (@Prod.fst BK (List Coin) (zN coins i j acts k)) (@Prod.fst BK (List Coin) (zN coins i j acts k)))) ⟨rfl,rfl,rfl,rfl,rfl,rfl,rfl,rfl⟩ (fun g30 p31=>?_)
         have p31:tQ (Packet.mk (pkA (acts.getD (↑k:Int).toNat (TAct.mk 0 0 0 0 0 (Packet.mk 0 0 0 [] 0 [] []) 0))).channel (pkA (acts.getD (↑k:Int).toNat (TAct.mk 0 0 0 0 0 (Packet.mk 0 0 0 [] 0 [] []) 0))).seq (pkA (acts.getD (↑k:Int).toNat (TAct.mk 0 0 0 0 0 (Packet.mk 0 0 0 [] 0 [] []) 0))).timeout (pkA (acts.getD (↑k:Int).toNat (TAct.mk 0 0 0 0 0 (Packet.mk 0 0 0 [] 0 [] []) 0))).denom (pkA (acts.getD (↑k:Int).toNat (TAct.mk 0 0 0 0 0 (Packet.mk 0 0 0 [] 0 [] []) 0))).amount (pkA (acts.getD (↑k:Int).toNat (TAct.mk 0 0 0 0 0 (Packet.mk 0 0 0 [] 0 [] []) 0))).from_ (pkA (acts.getD (↑k:Int).toNat (TAct.mk 0 0 0 0 0 (Packet.mk 0 0 0 [] 0 [] []) 0))).to) (rcE (zN coins i j acts k).fst (Packet.mk (pkA (acts.getD (↑k:Int).toNat (TAct.mk 0 0 0 0 0 (Packet.mk 0 0 0 [] 0 [] []) 0))).channel (pkA (acts.getD (↑k:Int).toNat (TAct.mk 0 0 0 0 0 (Packet.mk 0 0 0 [] 0 [] []) 0))).seq (pkA (acts.getD (↑k:Int).toNat (TAct.mk 0 0 0 0 0 (Packet.mk 0 0 0 [] 0 [] []) 0))).timeout (pkA (acts.getD (↑k:Int).toNat (TAct.mk 0 0 0 0 0 (Packet.mk 0 0 0 [] 0 [] []) 0))).denom (pkA (acts.getD (↑k:Int).toNat (TAct.mk 0 0 0 0 0 (Packet.mk 0 0 0 [] 0 [] []) 0))).amount (pkA (acts.getD (↑k:Int).toNat (TAct.mk 0 0 0 0 0 (Packet.mk 0 0 0 [] 0 [] []) 0))).from_ (pkA (acts.getD (↑k:Int).toNat (TAct.mk 0 0 0 0 0 (Packet.mk 0 0 0 [] 0 [] []) 0))).to)) g30:=p31
         refine v_call _ [19,18] (RReceive_ok ((zN coins i j acts k).snd) ((pkA (acts.getD (↑k:Int).toNat (TAct.mk 0 0 0 0 0 (Packet.mk 0 0 0 [] 0 [] []) 0))).channel) ((pkA (acts.getD (↑k:Int).toNat (TAct.mk 0 0 0 0 0 (Packet.mk 0 0 0 [] 0 [] []) 0))).seq) ((pkA (acts.getD (↑k:Int).toNat (TAct.mk 0 0 0 0 0 (Packet.mk 0 0 0 [] 0 [] []) 0))).timeout) ((pkA (acts.getD (↑k:Int).toNat (TAct.mk 0 0 0 0 0 (Packet.mk 0 0 0 [] 0 [] []) 0))).denom) ((pkA (acts.getD (↑k:Int).toNat (TAct.mk 0 0 0 0 0 (Packet.mk 0 0 0 [] 0 [] []) 0))).amount) ((pkA (acts.getD (↑k:Int).toNat (TAct.mk 0 0 0 0 0 (Packet.mk 0 0 0 [] 0 [] []) 0))).from_) ((pkA (acts.getD (↑k:Int).toNat (TAct.mk 0 0 0 0 0 (Packet.mk 0 0 0 [] 0 [] []) 0))).to) (by exact(hA _).1) (by exact(hA _).2.1) (by exact(hA _).2.2) (by with_reducible exact zll ‹_› ‹_›)) (((pkA (acts.getD (↑k:Int).toNat (TAct.mk 0 0 0 0 0 (Packet.mk 0 0 0 [] 0 [] []) 0))).channel=(pkA (acts.getD (↑k:Int).toNat (TAct.mk 0 0 0 0 0 (Packet.mk 0 0 0 [] 0 [] []) 0))).channel)∧((pkA (acts.getD (↑k:Int).toNat (TAct.mk 0 0 0 0 0 (Packet.mk 0 0 0 [] 0 [] []) 0))).seq=(pkA (acts.getD (↑k:Int).toNat (TAct.mk 0 0 0 0 0 (Packet.mk 0 0 0 [] 0 [] []) 0))).seq)∧((pkA (acts.getD (↑k:Int).toNat (TAct.mk 0 0 0 0 0 (Packet.mk 0 0 0 [] 0 [] []) 0))).timeout=(pkA (acts.getD (↑k:Int).toNat (TAct.mk 0 0 0 0 0 (Packet.mk 0 0 0 [] 0 [] []) 0))).timeout)∧((pkA (acts.getD (↑k:Int).toNat (TAct.mk 0 0 0 0 0 (Packet.mk 0 0 0 [] 0 [] []) 0))).denom=(pkA (acts.getD (↑k:Int).toNat (TAct.mk 0 0 0 0 0 (Packet.mk 0 0 0 [] 0 [] []) 0))).denom)∧((pkA (acts.getD (↑k:Int).toNat (TAct.mk 0 0 0 0 0 (Packet.mk 0 0 0 [] 0 [] []) 0))).amount=(pkA (acts.getD (↑k:Int).toNat (TAct.mk 0 0 0 0 0 (Packet.mk 0 0 0 [] 0 [] []) 0))).amount)∧((pkA (acts.getD (↑k:Int).toNat (TAct.mk 0 0 0 0 0 (Packet.mk 0 0 0 [] 0 [] []) 0))).from_=(pkA (acts.getD (↑k:Int).toNat (TAct.mk 0 0 0 0 0 (Packet.mk 0 0 0 [] 0 [] []) 0))).from_)∧((pkA (acts.getD (↑k:Int).toNat (TAct.mk 0 0 0 0 0 (Packet.mk 0 0 0 [] 0 [] []) 0))).to=(pkA (acts.getD (↑k:Int).toNat (TAct.mk 0 0 0 0 0 (Packet.mk 0 0 0 [] 0 [] []) 0))).to)∧((zN coins i j acts k).snd=(zN coins i j acts k).snd)) ⟨rfl,rfl,rfl,rfl,rfl,rfl,rfl,rfl⟩ (fun g32 p33=>?_)
         have p33:True:=p33
         refine v_call _ [0,23] (Code_ok (g30) (by with_reducible exact rc_dep ‹_›)) ((etP=etP)∧(PE g30=PE g30)∧(g30.isNone=g30.isNone)) ⟨rfl,rfl,rfl⟩ (fun g34 p35=>?_)
         have p35:True:=p35
         refine v_guard 115 (decide (codeO g30≠lrcE (zN coins i j acts k).snd (Packet.mk (pkA (acts.getD (↑k:Int).toNat (TAct.mk 0 0 0 0 0 (Packet.mk 0 0 0 [] 0 [] []) 0))).channel (pkA (acts.getD (↑k:Int).toNat (TAct.mk 0 0 0 0 0 (Packet.mk 0 0 0 [] 0 [] []) 0))).seq (pkA (acts.getD (↑k:Int).toNat (TAct.mk 0 0 0 0 0 (Packet.mk 0 0 0 [] 0 [] []) 0))).timeout (pkA (acts.getD (↑k:Int).toNat (TAct.mk 0 0 0 0 0 (Packet.mk 0 0 0 [] 0 [] []) 0))).denom (pkA (acts.getD (↑k:Int).toNat (TAct.mk 0 0 0 0 0 (Packet.mk 0 0 0 [] 0 [] []) 0))).amount (pkA (acts.getD (↑k:Int).toNat (TAct.mk 0 0 0 0 0 (Packet.mk 0 0 0 [] 0 [] []) 0))).from_ (pkA (acts.getD (↑k:Int).toNat (TAct.mk 0 0 0 0 0 (Packet.mk 0 0 0 [] 0 [] []) 0))).to))) True trivial (fun h36=>?_) (fun h36=>?_)
         ·have h36:=of_decide_eq_true h36
          exfalso;with_reducible exact(krc1 ‹_› ‹_›).elim
         ·have h36:=of_decide_eq_false h36
          refine v_call _ [17,16] (All_ok (tB (Packet.mk (pkA (acts.getD (↑k:Int).toNat (TAct.mk 0 0 0 0 0 (Packet.mk 0 0 0 [] 0 [] []) 0))).channel (pkA (acts.getD (↑k:Int).toNat (TAct.mk 0 0 0 0 0 (Packet.mk 0 0 0 [] 0 [] []) 0))).seq (pkA (acts.getD (↑k:Int).toNat (TAct.mk 0 0 0 0 0 (Packet.mk 0 0 0 [] 0 [] []) 0))).timeout (pkA (acts.getD (↑k:Int).toNat (TAct.mk 0 0 0 0 0 (Packet.mk 0 0 0 [] 0 [] []) 0))).denom (pkA (acts.getD (↑k:Int).toNat (TAct.mk 0 0 0 0 0 (Packet.mk 0 0 0 [] 0 [] []) 0))).amount (pkA (acts.getD (↑k:Int).toNat (TAct.mk 0 0 0 0 0 (Packet.mk 0 0 0 [] 0 [] []) 0))).from_ (pkA (acts.getD (↑k:Int).toNat (TAct.mk 0 0 0 0 0 (Packet.mk 0 0 0 [] 0 [] []) 0))).to) (zN coins i j acts k).fst (rcB (zN coins i j acts k).fst (Packet.mk (pkA (acts.getD (↑k:Int).toNat (TAct.mk 0 0 0 0 0 (Packet.mk 0 0 0 [] 0 [] []) 0))).channel (pkA (acts.getD (↑k:Int).toNat (TAct.mk 0 0 0 0 0 (Packet.mk 0 0 0 [] 0 [] []) 0))).seq (pkA (acts.getD (↑k:Int).toNat (TAct.mk 0 0 0 0 0 (Packet.mk 0 0 0 [] 0 [] []) 0))).timeout (pkA (acts.getD (↑k:Int).toNat (TAct.mk 0 0 0 0 0 (Packet.mk 0 0 0 [] 0 [] []) 0))).denom (pkA (acts.getD (↑k:Int).toNat (TAct.mk 0 0 0 0 0 (Packet.mk 0 0 0 [] 0 [] []) 0))).amount (pkA (acts.getD (↑k:Int).toNat (TAct.mk 0 0 0 0 0 (Packet.mk 0 0 0 [] 0 [] []) 0))).from_ (pkA (acts.getD (↑k:Int).toNat (TAct.mk 0 0 0 0 0 (Packet.mk 0 0 0 [] 0 [] []) 0))).to))) (by with_reducible exact qrc1 ‹_› ‹_›) (by with_reducible exact qrc0)) ((tB (Packet.mk (pkA (acts.getD (↑k:Int).toNat (TAct.mk (0:UInt8) (0:UInt8) (0:UInt8) (0:UInt8) (0:UInt8) (Packet.mk (0:Int) (0:UInt64) (0:UInt64) [] (0:UInt64) [] []) (0:UInt64)))).channel (pkA (acts.getD (↑k:Int).toNat (TAct.mk (0:UInt8) (0:UInt8) (0:UInt8) (0:UInt8) (0:UInt8) (Packet.mk (0:Int) (0:UInt64) (0:UInt64) [] (0:UInt64) [] []) (0:UInt64)))).seq (pkA (acts.getD (↑k:Int).toNat (TAct.mk (0:UInt8) (0:UInt8) (0:UInt8) (0:UInt8) (0:UInt8) (Packet.mk (0:Int) (0:UInt64) (0:UInt64) [] (0:UInt64) [] []) (0:UInt64)))).timeout (pkA (acts.getD (↑k:Int).toNat (TAct.mk (0:UInt8) (0:UInt8) (0:UInt8) (0:UInt8) (0:UInt8) (Packet.mk (0:Int) (0:UInt64) (0:UInt64) [] (0:UInt64) [] []) (0:UInt64)))).denom (pkA (acts.getD (↑k:Int).toNat (TAct.mk (0:UInt8) (0:UInt8) (0:UInt8) (0:UInt8) (0:UInt8) (Packet.mk (0:Int) (0:UInt64) (0:UInt64) [] (0:UInt64) [] []) (0:UInt64)))).amount (pkA (acts.getD (↑k:Int).toNat (TAct.mk (0:UInt8) (0:UInt8) (0:UInt8) (0:UInt8) (0:UInt8) (Packet.mk (0:Int) (0:UInt64) (0:UInt64) [] (0:UInt64) [] []) (0:UInt64)))).from_ (pkA (acts.getD (↑k:Int).toNat (TAct.mk (0:UInt8) (0:UInt8) (0:UInt8) (0:UInt8) (0:UInt8) (Packet.mk (0:Int) (0:UInt64) (0:UInt64) [] (0:UInt64) [] []) (0:UInt64)))).to) (zN coins i j acts k).fst (rcB (zN coins i j acts k).fst (Packet.mk (pkA (acts.getD (↑k:Int).toNat (TAct.mk (0:UInt8) (0:UInt8) (0:UInt8) (0:UInt8) (0:UInt8) (Packet.mk (0:Int) (0:UInt64) (0:UInt64) [] (0:UInt64) [] []) (0:UInt64)))).channel (pkA (acts.getD (↑k:Int).toNat (TAct.mk (0:UInt8) (0:UInt8) (0:UInt8) (0:UInt8) (0:UInt8) (Packet.mk (0:Int) (0:UInt64) (0:UInt64) [] (0:UInt64) [] []) (0:UInt64)))).seq (pkA (acts.getD (↑k:Int).toNat (TAct.mk (0:UInt8) (0:UInt8) (0:UInt8) (0:UInt8) (0:UInt8) (Packet.mk (0:Int) (0:UInt64) (0:UInt64) [] (0:UInt64) [] []) (0:UInt64)))).timeout (pkA (acts.getD (↑k:Int).toNat (TAct.mk (0:UInt8) (0:UInt8) (0:UInt8) (0:UInt8) (0:UInt8) (Packet.mk (0:Int) (0:UInt64) (0:UInt64) [] (0:UInt64) [] []) (0:UInt64)))).denom (pkA (acts.getD (↑k:Int).toNat (TAct.mk (0:UInt8) (0:UInt8) (0:UInt8) (0:UInt8) (0:UInt8) (Packet.mk (0:Int) (0:UInt64) (0:UInt64) [] (0:UInt64) [] []) (0:UInt64)))).amount (pkA (acts.getD (↑k:Int).toNat (TAct.mk (0:UInt8) (0:UInt8) (0:UInt8) (0:UInt8) (0:UInt8) (Packet.mk (0:Int) (0:UInt64) (0:UInt64) [] (0:UInt64) [] []) (0:UInt64)))).from_ (pkA (acts.getD (↑k:Int).toNat (TAct.mk (0:UInt8) (0:UInt8) (0:UInt8) (0:UInt8) (0:UInt8) (Packet.mk (0:Int) (0:UInt64) (0:UInt64) [] (0:UInt64) [] []) (0:UInt64)))).to))=tB (Packet.mk (pkA (acts.getD (↑k:Int).toNat (TAct.mk (0:UInt8) (0:UInt8) (0:UInt8) (0:UInt8) (0:UInt8) (Packet.mk (0:Int) (0:UInt64) (0:UInt64) [] (0:UInt64) [] []) (0:UInt64)))).channel (pkA (acts.getD (↑k:Int).toNat (TAct.mk (0:UInt8) (0:UInt8) (0:UInt8) (0:UInt8) (0:UInt8) (Packet.mk (0:Int) (0:UInt64) (0:UInt64) [] (0:UInt64) [] []) (0:UInt64)))).seq (pkA (acts.getD (↑k:Int).toNat (TAct.mk (0:UInt8) (0:UInt8) (0:UInt8) (0:UInt8) (0:UInt8) (Packet.mk (0:Int) (0:UInt64) (0:UInt64) [] (0:UInt64) [] []) (0:UInt64)))).timeout (pkA (acts.getD (↑k:Int).toNat (TAct.mk (0:UInt8) (0:UInt8) (0:UInt8) (0:UInt8) (0:UInt8) (Packet.mk (0:Int) (0:UInt64) (0:UInt64) [] (0:UInt64) [] []) (0:UInt64)))).denom (pkA (acts.getD (↑k:Int).toNat (TAct.mk (0:UInt8) (0:UInt8) (0:UInt8) (0:UInt8) (0:UInt8) (Packet.mk (0:Int) (0:UInt64) (0:UInt64) [] (0:UInt64) [] []) (0:UInt64)))).amount (pkA (acts.getD (↑k:Int).toNat (TAct.mk (0:UInt8) (0:UInt8) (0:UInt8) (0:UInt8) (0:UInt8) (Packet.mk (0:Int) (0:UInt64) (0:UInt64) [] (0:UInt64) [] []) (0:UInt64)))).from_ (pkA (acts.getD (↑k:Int).toNat (TAct.mk (0:UInt8) (0:UInt8) (0:UInt8) (0:UInt8) (0:UInt8) (Packet.mk (0:Int) (0:UInt64) (0:UInt64) [] (0:UInt64) [] []) (0:UInt64)))).to) (zN coins i j acts k).fst (rcB (zN coins i j acts k).fst (Packet.mk (pkA (acts.getD (↑k:Int).toNat (TAct.mk (0:UInt8) (0:UInt8) (0:UInt8) (0:UInt8) (0:UInt8) (Packet.mk (0:Int) (0:UInt64) (0:UInt64) [] (0:UInt64) [] []) (0:UInt64)))).channel (pkA (acts.getD (↑k:Int).toNat (TAct.mk (0:UInt8) (0:UInt8) (0:UInt8) (0:UInt8) (0:UInt8) (Packet.mk (0:Int) (0:UInt64) (0:UInt64) [] (0:UInt64) [] []) (0:UInt64)))).seq (pkA (acts.getD (↑k:Int).toNat (TAct.mk (0:UInt8) (0:UInt8) (0:UInt8) (0:UInt8) (0:UInt8) (Packet.mk (0:Int) (0:UInt64) (0:UInt64) [] (0:UInt64) [] []) (0:UInt64)))).timeout (pkA (acts.getD (↑k:Int).toNat (TAct.mk (0:UInt8) (0:UInt8) (0:UInt8) (0:UInt8) (0:UInt8) (Packet.mk (0:Int) (0:UInt64) (0:UInt64) [] (0:UInt64) [] []) (0:UInt64)))).denom (pkA (acts.getD (↑k:Int).toNat (TAct.mk (0:UInt8) (0:UInt8) (0:UInt8) (0:UInt8) (0:UInt8) (Packet.mk (0:Int) (0:UInt64) (0:UInt64) [] (0:UInt64) [] []) (0:UInt64)))).amount (pkA (acts.getD (↑k:Int).toNat (TAct.mk (0:UInt8) (0:UInt8) (0:UInt8) (0:UInt8) (0:UInt8) (Packet.mk (0:Int) (0:UInt64) (0:UInt64) [] (0:UInt64) [] []) (0:UInt64)))).from_ (pkA (acts.getD (↑k:Int).toNat (TAct.mk (0:UInt8) (0:UInt8) (0:UInt8) (0:UInt8) (0:UInt8) (Packet.mk (0:Int) (0:UInt64) (0:UInt64) [] (0:UInt64) [] []) (0:UInt64)))).to)))) rfl (fun g37 p38=>?_)
          have p38:True:=p38
          refine v_call _ [24,18] (RAll_ok (lrcL (zN coins i j acts k).snd (Packet.mk (pkA (acts.getD (↑k:Int).toNat (TAct.mk 0 0 0 0 0 (Packet.mk 0 0 0 [] 0 [] []) 0))).channel (pkA (acts.getD (↑k:Int).toNat (TAct.mk 0 0 0 0 0 (Packet.mk 0 0 0 [] 0 [] []) 0))).seq (pkA (acts.getD (↑k:Int).toNat (TAct.mk 0 0 0 0 0 (Packet.mk 0 0 0 [] 0 [] []) 0))).timeout (pkA (acts.getD (↑k:Int).toNat (TAct.mk 0 0 0 0 0 (Packet.mk 0 0 0 [] 0 [] []) 0))).denom (pkA (acts.getD (↑k:Int).toNat (TAct.mk 0 0 0 0 0 (Packet.mk 0 0 0 [] 0 [] []) 0))).amount (pkA (acts.getD (↑k:Int).toNat (TAct.mk 0 0 0 0 0 (Packet.mk 0 0 0 [] 0 [] []) 0))).from_ (pkA (acts.getD (↑k:Int).toNat (TAct.mk 0 0 0 0 0 (Packet.mk 0 0 0 [] 0 [] []) 0))).to)) (by with_reducible exact qrc2 ‹_› ‹_›)) ((lrcL (zN coins i j acts k).snd (Packet.mk (pkA (acts.getD (↑k:Int).toNat (TAct.mk 0 0 0 0 0 (Packet.mk 0 0 0 [] 0 [] []) 0))).channel (pkA (acts.getD (↑k:Int).toNat (TAct.mk 0 0 0 0 0 (Packet.mk 0 0 0 [] 0 [] []) 0))).seq (pkA (acts.getD (↑k:Int).toNat (TAct.mk 0 0 0 0 0 (Packet.mk 0 0 0 [] 0 [] []) 0))).timeout (pkA (acts.getD (↑k:Int).toNat (TAct.mk 0 0 0 0 0 (Packet.mk 0 0 0 [] 0 [] []) 0))).denom (pkA (acts.getD (↑k:Int).toNat (TAct.mk 0 0 0 0 0 (Packet.mk 0 0 0 [] 0 [] []) 0))).amount (pkA (acts.getD (↑k:Int).toNat (TAct.mk 0 0 0 0 0 (Packet.mk 0 0 0 [] 0 [] []) 0))).from_ (pkA (acts.getD (↑k:Int).toNat (TAct.mk 0 0 0 0 0 (Packet.mk 0 0 0 [] 0 [] []) 0))).to)=lrcL (zN coins i j acts k).snd (Packet.mk (pkA (acts.getD (↑k:Int).toNat (TAct.mk 0 0 0 0 0 (Packet.mk 0 0 0 [] 0 [] []) 0))).channel (pkA (acts.getD (↑k:Int).toNat (TAct.mk 0 0 0 0 0 (Packet.mk 0 0 0 [] 0 [] []) 0))).seq (pkA (acts.getD (↑k:Int).toNat (TAct.mk 0 0 0 0 0 (Packet.mk 0 0 0 [] 0 [] []) 0))).timeout (pkA (acts.getD (↑k:Int).toNat (TAct.mk 0 0 0 0 0 (Packet.mk 0 0 0 [] 0 [] []) 0))).denom (pkA (acts.getD (↑k:Int).toNat (TAct.mk 0 0 0 0 0 (Packet.mk 0 0 0 [] 0 [] []) 0))).amount (pkA (acts.getD (↑k:Int).toNat (TAct.mk 0 0 0 0 0 (Packet.mk 0 0 0 [] 0 [] []) 0))).from_ (pkA (acts.getD (↑k:Int).toNat (TAct.mk 0 0 0 0 0 (Packet.mk 0 0 0 [] 0 [] []) 0))).to))) rfl (fun g39 p40=>?_)
          have p40:True:=p40
          refine v_call _ [25,26] (Same_ok (allL (coinsB (tB (Packet.mk (pkA (acts.getD (↑k:Int).toNat (TAct.mk 0 0 0 0 0 (Packet.mk 0 0 0 [] 0 [] []) 0))).channel (pkA (acts.getD (↑k:Int).toNat (TAct.mk 0 0 0 0 0 (Packet.mk 0 0 0 [] 0 [] []) 0))).seq (pkA (acts.getD (↑k:Int).toNat (TAct.mk 0 0 0 0 0 (Packet.mk 0 0 0 [] 0 [] []) 0))).timeout (pkA (acts.getD (↑k:Int).toNat (TAct.mk 0 0 0 0 0 (Packet.mk 0 0 0 [] 0 [] []) 0))).denom (pkA (acts.getD (↑k:Int).toNat (TAct.mk 0 0 0 0 0 (Packet.mk 0 0 0 [] 0 [] []) 0))).amount (pkA (acts.getD (↑k:Int).toNat (TAct.mk 0 0 0 0 0 (Packet.mk 0 0 0 [] 0 [] []) 0))).from_ (pkA (acts.getD (↑k:Int).toNat (TAct.mk 0 0 0 0 0 (Packet.mk 0 0 0 [] 0 [] []) 0))).to) (zN coins i j acts k).fst (rcB (zN coins i j acts k).fst (Packet.mk (pkA (acts.getD (↑k:Int).toNat (TAct.mk 0 0 0 0 0 (Packet.mk 0 0 0 [] 0 [] []) 0))).channel (pkA (acts.getD (↑k:Int).toNat (TAct.mk 0 0 0 0 0 (Packet.mk 0 0 0 [] 0 [] []) 0))).seq (pkA (acts.getD (↑k:Int).toNat (TAct.mk 0 0 0 0 0 (Packet.mk 0 0 0 [] 0 [] []) 0))).timeout (pkA (acts.getD (↑k:Int).toNat (TAct.mk 0 0 0 0 0 (Packet.mk 0 0 0 [] 0 [] []) 0))).denom (pkA (acts.getD (↑k:Int).toNat (TAct.mk 0 0 0 0 0 (Packet.mk 0 0 0 [] 0 [] []) 0))).amount (pkA (acts.getD (↑k:Int).toNat (TAct.mk 0 0 0 0 0 (Packet.mk 0 0 0 [] 0 [] []) 0))).from_ (pkA (acts.getD (↑k:Int).toNat (TAct.mk 0 0 0 0 0 (Packet.mk 0 0 0 [] 0 [] []) 0))).to))))) (allL (lrcL (zN coins i j acts k).snd (Packet.mk (pkA (acts.getD (↑k:Int).toNat (TAct.mk 0 0 0 0 0 (Packet.mk 0 0 0 [] 0 [] []) 0))).channel (pkA (acts.getD (↑k:Int).toNat (TAct.mk 0 0 0 0 0 (Packet.mk 0 0 0 [] 0 [] []) 0))).seq (pkA (acts.getD (↑k:Int).toNat (TAct.mk 0 0 0 0 0 (Packet.mk 0 0 0 [] 0 [] []) 0))).timeout (pkA (acts.getD (↑k:Int).toNat (TAct.mk 0 0 0 0 0 (Packet.mk 0 0 0 [] 0 [] []) 0))).denom (pkA (acts.getD (↑k:Int).toNat (TAct.mk 0 0 0 0 0 (Packet.mk 0 0 0 [] 0 [] []) 0))).amount (pkA (acts.getD (↑k:Int).toNat (TAct.mk 0 0 0 0 0 (Packet.mk 0 0 0 [] 0 [] []) 0))).from_ (pkA (acts.getD (↑k:Int).toNat (TAct.mk 0 0 0 0 0 (Packet.mk 0 0 0 [] 0 [] []) 0))).to))) (by with_reducible exact qrc3 ‹_› ‹_›)) ((allL (coinsB (tB (Packet.mk (pkA (acts.getD (↑k:Int).toNat (TAct.mk 0 0 0 0 0 (Packet.mk 0 0 0 [] 0 [] []) 0))).channel (pkA (acts.getD (↑k:Int).toNat (TAct.mk 0 0 0 0 0 (Packet.mk 0 0 0 [] 0 [] []) 0))).seq (pkA (acts.getD (↑k:Int).toNat (TAct.mk 0 0 0 0 0 (Packet.mk 0 0 0 [] 0 [] []) 0))).timeout (pkA (acts.getD (↑k:Int).toNat (TAct.mk 0 0 0 0 0 (Packet.mk 0 0 0 [] 0 [] []) 0))).denom (pkA (acts.getD (↑k:Int).toNat (TAct.mk 0 0 0 0 0 (Packet.mk 0 0 0 [] 0 [] []) 0))).amount (pkA (acts.getD (↑k:Int).toNat (TAct.mk 0 0 0 0 0 (Packet.mk 0 0 0 [] 0 [] []) 0))).from_ (pkA (acts.getD (↑k:Int).toNat (TAct.mk 0 0 0 0 0 (Packet.mk 0 0 0 [] 0 [] []) 0))).to) (zN coins i j acts k).fst (rcB (zN coins i j acts k).fst (Packet.mk (pkA (acts.getD (↑k:Int).toNat (TAct.mk 0 0 0 0 0 (Packet.mk 0 0 0 [] 0 [] []) 0))).channel (pkA (acts.getD (↑k:Int).toNat (TAct.mk 0 0 0 0 0 (Packet.mk 0 0 0 [] 0 [] []) 0))).seq (pkA (acts.getD (↑k:Int).toNat (TAct.mk 0 0 0 0 0 (Packet.mk 0 0 0 [] 0 [] []) 0))).timeout (pkA (acts.getD (↑k:Int).toNat (TAct.mk 0 0 0 0 0 (Packet.mk 0 0 0 [] 0 [] []) 0))).denom (pkA (acts.getD (↑k:Int).toNat (TAct.mk 0 0 0 0 0 (Packet.mk 0 0 0 [] 0 [] []) 0))).amount (pkA (acts.getD (↑k:Int).toNat (TAct.mk 0 0 0 0 0 (Packet.mk 0 0 0 [] 0 [] []) 0))).from_ (pkA (acts.getD (↑k:Int).toNat (TAct.mk 0 0 0 0 0 (Packet.mk 0 0 0 [] 0 [] []) 0))).to))))=allL (coinsB (tB (Packet.mk (pkA (acts.getD (↑k:Int).toNat (TAct.mk 0 0 0 0 0 (Packet.mk 0 0 0 [] 0 [] []) 0))).channel (pkA (acts.getD (↑k:Int).toNat (TAct.mk 0 0 0 0 0 (Packet.mk 0 0 0 [] 0 [] []) 0))).seq (pkA (acts.getD (↑k:Int).toNat (TAct.mk 0 0 0 0 0 (Packet.mk 0 0 0 [] 0 [] []) 0))).timeout (pkA (acts.getD (↑k:Int).toNat (TAct.mk 0 0 0 0 0 (Packet.mk 0 0 0 [] 0 [] []) 0))).denom (pkA (acts.getD (↑k:Int).toNat (TAct.mk 0 0 0 0 0 (Packet.mk 0 0 0 [] 0 [] []) 0))).amount (pkA (acts.getD (↑k:Int).toNat (TAct.mk 0 0 0 0 0 (Packet.mk 0 0 0 [] 0 [] []) 0))).from_ (pkA (acts.getD (↑k:Int).toNat (TAct.mk 0 0 0 0 0 (Packet.mk 0 0 0 [] 0 [] []) 0))).to) (zN coins i j acts k).fst (rcB (zN coins i j acts k).fst (Packet.mk (pkA (acts.getD (↑k:Int).toNat (TAct.mk 0 0 0 0 0 (Packet.mk 0 0 0 [] 0 [] []) 0))).channel (pkA (acts.getD (↑k:Int).toNat (TAct.mk 0 0 0 0 0 (Packet.mk 0 0 0 [] 0 [] []) 0))).seq (pkA (acts.getD (↑k:Int).toNat (TAct.mk 0 0 0 0 0 (Packet.mk 0 0 0 [] 0 [] []) 0))).timeout (pkA (acts.getD (↑k:Int).toNat (TAct.mk 0 0 0 0 0 (Packet.mk 0 0 0 [] 0 [] []) 0))).denom (pkA (acts.getD (↑k:Int).toNat (TAct.mk 0 0 0 0 0 (Packet.mk 0 0 0 [] 0 [] []) 0))).amount (pkA (acts.getD (↑k:Int).toNat (TAct.mk 0 0 0 0 0 (Packet.mk 0 0 0 [] 0 [] []) 0))).from_ (pkA (acts.getD (↑k:Int).toNat (TAct.mk 0 0 0 0 0 (Packet.mk 0 0 0 [] 0 [] []) 0))).to)))))∧(allL (lrcL (zN coins i j acts k).snd (Packet.mk (pkA (acts.getD (↑k:Int).toNat (TAct.mk 0 0 0 0 0 (Packet.mk 0 0 0 [] 0 [] []) 0))).channel (pkA (acts.getD (↑k:Int).toNat (TAct.mk 0 0 0 0 0 (Packet.mk 0 0 0 [] 0 [] []) 0))).seq (pkA (acts.getD (↑k:Int).toNat (TAct.mk 0 0 0 0 0 (Packet.mk 0 0 0 [] 0 [] []) 0))).timeout (pkA (acts.getD (↑k:Int).toNat (TAct.mk 0 0 0 0 0 (Packet.mk 0 0 0 [] 0 [] []) 0))).denom (pkA (acts.getD (↑k:Int).toNat (TAct.mk 0 0 0 0 0 (Packet.mk 0 0 0 [] 0 [] []) 0))).amount (pkA (acts.getD (↑k:Int).toNat (TAct.mk 0 0 0 0 0 (Packet.mk 0 0 0 [] 0 [] []) 0))).from_ (pkA (acts.getD (↑k:Int).toNat (TAct.mk 0 0 0 0 0 (Packet.mk 0 0 0 [] 0 [] []) 0))).to))=allL (lrcL (zN coins i j acts k).snd (Packet.mk (pkA (acts.getD (↑k:Int).toNat (TAct.mk 0 0 0 0 0 (Packet.mk 0 0 0 [] 0 [] []) 0))).channel (pkA (acts.getD (↑k:Int).toNat (TAct.mk 0 0 0 0 0 (Packet.mk 0 0 0 [] 0 [] []) 0))).seq (pkA (acts.getD (↑k:Int).toNat (TAct.mk 0 0 0 0 0 (Packet.mk 0 0 0 [] 0 [] []) 0))).timeout (pkA (acts.getD (↑k:Int).toNat (TAct.mk 0 0 0 0 0 (Packet.mk 0 0 0 [] 0 [] []) 0))).denom (pkA (acts.getD (↑k:Int).toNat (TAct.mk 0 0 0 0 0 (Packet.mk 0 0 0 [] 0 [] []) 0))).amount (pkA (acts.getD (↑k:Int).toNat (TAct.mk 0 0 0 0 0 (Packet.mk 0 0 0 [] 0 [] []) 0))).from_ (pkA (acts.getD (↑k:Int).toNat (TAct.mk 0 0 0 0 0 (Packet.mk 0 0 0 [] 0 [] []) 0))).to)))) ⟨rfl,rfl⟩ (fun g41 p42=>?_)
          have p42:True:=p42
          refine v_if (!decide (allL (coinsB (tB (Packet.mk (pkA (acts.getD (↑k:Int).toNat (TAct.mk 0 0 0 0 0 (Packet.mk 0 0 0 [] 0 [] []) 0))).channel (pkA (acts.getD (↑k:Int).toNat (TAct.mk 0 0 0 0 0 (Packet.mk 0 0 0 [] 0 [] []) 0))).seq (pkA (acts.getD (↑k:Int).toNat (TAct.mk 0 0 0 0 0 (Packet.mk 0 0 0 [] 0 [] []) 0))).timeout (pkA (acts.getD (↑k:Int).toNat (TAct.mk 0 0 0 0 0 (Packet.mk 0 0 0 [] 0 [] []) 0))).denom (pkA (acts.getD (↑k:Int).toNat (TAct.mk 0 0 0 0 0 (Packet.mk 0 0 0 [] 0 [] []) 0))).amount (pkA (acts.getD (↑k:Int).toNat (TAct.mk 0 0 0 0 0 (Packet.mk 0 0 0 [] 0 [] []) 0))).from_ (pkA (acts.getD (↑k:Int).toNat (TAct.mk 0 0 0 0 0 (Packet.mk 0 0 0 [] 0 [] []) 0))).to) (zN coins i j acts k).fst (rcB (zN coins i j acts k).fst (Packet.mk (pkA (acts.getD (↑k:Int).toNat (TAct.mk 0 0 0 0 0 (Packet.mk 0 0 0 [] 0 [] []) 0))).channel (pkA (acts.getD (↑k:Int).toNat (TAct.mk 0 0 0 0 0 (Packet.mk 0 0 0 [] 0 [] []) 0))).seq (pkA (acts.getD (↑k:Int).toNat (TAct.mk 0 0 0 0 0 (Packet.mk 0 0 0 [] 0 [] []) 0))).timeout (pkA (acts.getD (↑k:Int).toNat (TAct.mk 0 0 0 0 0 (Packet.mk 0 0 0 [] 0 [] []) 0))).denom (pkA (acts.getD (↑k:Int).toNat (TAct.mk 0 0 0 0 0 (Packet.mk 0 0 0 [] 0 [] []) 0))).amount (pkA (acts.getD (↑k:Int).toNat (TAct.mk 0 0 0 0 0 (Packet.mk 0 0 0 [] 0 [] []) 0))).from_ (pkA (acts.getD (↑k:Int).toNat (TAct.mk 0 0 0 0 0 (Packet.mk 0 0 0 [] 0 [] []) 0))).to))))=allL (lrcL (zN coins i j acts k).snd (Packet.mk (pkA (acts.getD (↑k:Int).toNat (TAct.mk 0 0 0 0 0 (Packet.mk 0 0 0 [] 0 [] []) 0))).channel (pkA (acts.getD (↑k:Int).toNat (TAct.mk 0 0 0 0 0 (Packet.mk 0 0 0 [] 0 [] []) 0))).seq (pkA (acts.getD (↑k:Int).toNat (TAct.mk 0 0 0 0 0 (Packet.mk 0 0 0 [] 0 [] []) 0))).timeout (pkA (acts.getD (↑k:Int).toNat (TAct.mk 0 0 0 0 0 (Packet.mk 0 0 0 [] 0 [] []) 0))).denom (pkA (acts.getD (↑k:Int).toNat (TAct.mk 0 0 0 0 0 (Packet.mk 0 0 0 [] 0 [] []) 0))).amount (pkA (acts.getD (↑k:Int).toNat (TAct.mk 0 0 0 0 0 (Packet.mk 0 0 0 [] 0 [] []) 0))).from_ (pkA (acts.getD (↑k:Int).toNat (TAct.mk 0 0 0 0 0 (Packet.mk 0 0 0 [] 0 [] []) 0))).to)))) True trivial (fun h43=>?_) (fun h43=>?_)
          ·have h43:=of_decide_eq_false (nt h43)
           exfalso;with_reducible exact(krc2 ‹_›).elim
          ·have h43:=of_decide_eq_true (nf h43)
           exact v_back (k+1) [16,17,18,24] ((I64 (↑k+1))∧((↑k:Int)+1=(↑(k+1):Int))∧(tB (Packet.mk (pkA (acts.getD (↑k:Int).toNat (TAct.mk (0:UInt8) (0:UInt8) (0:UInt8) (0:UInt8) (0:UInt8) (Packet.mk (0:Int) (0:UInt64) (0:UInt64) [] (0:UInt64) [] []) (0:UInt64)))).channel (pkA (acts.getD (↑k:Int).toNat (TAct.mk (0:UInt8) (0:UInt8) (0:UInt8) (0:UInt8) (0:UInt8) (Packet.mk (0:Int) (0:UInt64) (0:UInt64) [] (0:UInt64) [] []) (0:UInt64)))).seq (pkA (acts.getD (↑k:Int).toNat (TAct.mk (0:UInt8) (0:UInt8) (0:UInt8) (0:UInt8) (0:UInt8) (Packet.mk (0:Int) (0:UInt64) (0:UInt64) [] (0:UInt64) [] []) (0:UInt64)))).timeout (pkA (acts.getD (↑k:Int).toNat (TAct.mk (0:UInt8) (0:UInt8) (0:UInt8) (0:UInt8) (0:UInt8) (Packet.mk (0:Int) (0:UInt64) (0:UInt64) [] (0:UInt64) [] []) (0:UInt64)))).denom (pkA (acts.getD (↑k:Int).toNat (TAct.mk (0:UInt8) (0:UInt8) (0:UInt8) (0:UInt8) (0:UInt8) (Packet.mk (0:Int) (0:UInt64) (0:UInt64) [] (0:UInt64) [] []) (0:UInt64)))).amount (pkA (acts.getD (↑k:Int).toNat (TAct.mk (0:UInt8) (0:UInt8) (0:UInt8) (0:UInt8) (0:UInt8) (Packet.mk (0:Int) (0:UInt64) (0:UInt64) [] (0:UInt64) [] []) (0:UInt64)))).from_ (pkA (acts.getD (↑k:Int).toNat (TAct.mk (0:UInt8) (0:UInt8) (0:UInt8) (0:UInt8) (0:UInt8) (Packet.mk (0:Int) (0:UInt64) (0:UInt64) [] (0:UInt64) [] []) (0:UInt64)))).to) (zN coins i j acts k).fst (rcB (zN coins i j acts k).fst (Packet.mk (pkA (acts.getD (↑k:Int).toNat (TAct.mk (0:UInt8) (0:UInt8) (0:UInt8) (0:UInt8) (0:UInt8) (Packet.mk (0:Int) (0:UInt64) (0:UInt64) [] (0:UInt64) [] []) (0:UInt64)))).channel (pkA (acts.getD (↑k:Int).toNat (TAct.mk (0:UInt8) (0:UInt8) (0:UInt8) (0:UInt8) (0:UInt8) (Packet.mk (0:Int) (0:UInt64) (0:UInt64) [] (0:UInt64) [] []) (0:UInt64)))).seq (pkA (acts.getD (↑k:Int).toNat (TAct.mk (0:UInt8) (0:UInt8) (0:UInt8) (0:UInt8) (0:UInt8) (Packet.mk (0:Int) (0:UInt64) (0:UInt64) [] (0:UInt64) [] []) (0:UInt64)))).timeout (pkA (acts.getD (↑k:Int).toNat (TAct.mk (0:UInt8) (0:UInt8) (0:UInt8) (0:UInt8) (0:UInt8) (Packet.mk (0:Int) (0:UInt64) (0:UInt64) [] (0:UInt64) [] []) (0:UInt64)))).denom (pkA (acts.getD (↑k:Int).toNat (TAct.mk (0:UInt8) (0:UInt8) (0:UInt8) (0:UInt8) (0:UInt8) (Packet.mk (0:Int) (0:UInt64) (0:UInt64) [] (0:UInt64) [] []) (0:UInt64)))).amount (pkA (acts.getD (↑k:Int).toNat (TAct.mk (0:UInt8) (0:UInt8) (0:UInt8) (0:UInt8) (0:UInt8) (Packet.mk (0:Int) (0:UInt64) (0:UInt64) [] (0:UInt64) [] []) (0:UInt64)))).from_ (pkA (acts.getD (↑k:Int).toNat (TAct.mk (0:UInt8) (0:UInt8) (0:UInt8) (0:UInt8) (0:UInt8) (Packet.mk (0:Int) (0:UInt64) (0:UInt64) [] (0:UInt64) [] []) (0:UInt64)))).to))=(zN coins i j acts (k+(1:Nat))).fst)∧(lrcL (zN coins i j acts k).snd (Packet.mk (pkA (acts.getD (↑k:Int).toNat (TAct.mk 0 0 0 0 0 (Packet.mk 0 0 0 [] 0 [] []) 0))).channel (pkA (acts.getD (↑k:Int).toNat (TAct.mk 0 0 0 0 0 (Packet.mk 0 0 0 [] 0 [] []) 0))).seq (pkA (acts.getD (↑k:Int).toNat (TAct.mk 0 0 0 0 0 (Packet.mk 0 0 0 [] 0 [] []) 0))).timeout (pkA (acts.getD (↑k:Int).toNat (TAct.mk 0 0 0 0 0 (Packet.mk 0 0 0 [] 0 [] []) 0))).denom (pkA (acts.getD (↑k:Int).toNat (TAct.mk 0 0 0 0 0 (Packet.mk 0 0 0 [] 0 [] []) 0))).amount (pkA (acts.getD (↑k:Int).toNat (TAct.mk 0 0 0 0 0 (Packet.mk 0 0 0 [] 0 [] []) 0))).from_ (pkA (acts.getD (↑k:Int).toNat (TAct.mk 0 0 0 0 0 (Packet.mk 0 0 0 [] 0 [] []) 0))).to)=(zN coins i j acts (k+1)).snd)) ⟨(by(unfold I64;omega)),rfl,(by exact nA1 ‹_›),(by exact nA2 ‹_›)⟩ (show(k+1≤acts.length∧k+1≤61)∧acts.length - (k+1)<acts.length - k from(by omega))
        ·have h29:=of_decide_eq_false h29
         contradiction
       ·have h28:=of_decide_eq_false h28
        refine v_if (decide ((acts.getD (↑k:Int).toNat (TAct.mk 0 0 0 0 0 (Packet.mk 0 0 0 [] 0 [] []) 0)).kind % 5=3)) True trivial (fun h44=>?_) (fun h44=>?_)
        ·have h44:=of_decide_eq_true h44
         refine v_plan (.fs [0,1,3,4] (.o 2 (.o 5 (.fs [6,7] .e)))) [11,21,22] True trivial ?_
         refine v_call _ [17,16] (TReceive_ok ((zN coins i j acts k).fst) ((pkA (acts.getD (↑k:Int).toNat (TAct.mk 0 0 0 0 0 (Packet.mk 0 0 0 [] 0 [] []) 0))).channel) ((pkA (acts.getD (↑k:Int).toNat (TAct.mk 0 0 0 0 0 (Packet.mk 0 0 0 [] 0 [] []) 0))).seq) ((pkA (acts.getD (↑k:Int).toNat (TAct.mk 0 0 0 0 0 (Packet.mk 0 0 0 [] 0 [] []) 0))).timeout) ((pkA (acts.getD (↑k:Int).toNat (TAct.mk 0 0 0 0 0 (Packet.mk 0 0 0 [] 0 [] []) 0))).denom) ((pkA (acts.getD (↑k:Int).toNat (TAct.mk 0 0 0 0 0 (Packet.mk 0 0 0 [] 0 [] []) 0))).amount) ((pkA (acts.getD (↑k:Int).toNat (TAct.mk 0 0 0 0 0 (Packet.mk 0 0 0 [] 0 [] []) 0))).from_) ((pkA (acts.getD (↑k:Int).toNat (TAct.mk 0 0 0 0 0 (Packet.mk 0 0 0 [] 0 [] []) 0))).to) (by exact(hA _).1) (by exact(hA _).2.1) (by exact(hA _).2.2)) (((pkA (acts.getD (↑k:Int).toNat (TAct.mk 0 0 0 0 0 (Packet.mk 0 0 0 [] 0 [] []) 0))).channel=(pkA (acts.getD (↑k:Int).toNat (TAct.mk 0 0 0 0 0 (Packet.mk 0 0 0 [] 0 [] []) 0))).channel)∧((pkA (acts.getD (↑k:Int).toNat (TAct.mk 0 0 0 0 0 (Packet.mk 0 0 0 [] 0 [] []) 0))).seq=(pkA (acts.getD (↑k:Int).toNat (TAct.mk 0 0 0 0 0 (Packet.mk 0 0 0 [] 0 [] []) 0))).seq)∧((pkA (acts.getD (↑k:Int).toNat (TAct.mk 0 0 0 0 0 (Packet.mk 0 0 0 [] 0 [] []) 0))).timeout=(pkA (acts.getD (↑k:Int).toNat (TAct.mk 0 0 0 0 0 (Packet.mk 0 0 0 [] 0 [] []) 0))).timeout)∧((pkA (acts.getD (↑k:Int).toNat (TAct.mk 0 0 0 0 0 (Packet.mk 0 0 0 [] 0 [] []) 0))).denom=(pkA (acts.getD (↑k:Int).toNat (TAct.mk 0 0 0 0 0 (Packet.mk 0 0 0 [] 0 [] []) 0))).denom)∧((pkA (acts.getD (↑k:Int).toNat (TAct.mk 0 0 0 0 0 (Packet.mk 0 0 0 [] 0 [] []) 0))).amount=(pkA (acts.getD (↑k:Int).toNat (TAct.mk 0 0 0 0 0 (Packet.mk 0 0 0 [] 0 [] []) 0))).amount)∧((pkA (acts.getD (↑k:Int).toNat (TAct.mk 0 0 0 0 0 (Packet.mk 0 0 0 [] 0 [] []) 0))).from_=(pkA (acts.getD (↑k:Int).toNat (TAct.mk 0 0 0 0 0 (Packet.mk 0 0 0 [] 0 [] []) 0))).from_)∧((pkA (acts.getD (↑k:Int).toNat (TAct.mk 0 0 0 0 0 (Packet.mk 0 0 0 [] 0 [] []) 0))).to=(pkA (acts.getD (↑k:Int).toNat (TAct.mk 0 0 0 0 0 (Packet.mk 0 0 0 [] 0 [] []) 0))).to)∧(@Eq (List (Prod (Prod (List UInt8) (List UInt8)) UInt64)) (@Prod.fst BK (List Coin) (zN coins i j acts k)) (@Prod.fst BK (List Coin) (zN coins i j acts k)))) ⟨rfl,rfl,rfl,rfl,rfl,rfl,rfl,rfl⟩ (fun g45 p46=>?_)
         have p46:tQ (Packet.mk (pkA (acts.getD (↑k:Int).toNat (TAct.mk 0 0 0 0 0 (Packet.mk 0 0 0 [] 0 [] []) 0))).channel (pkA (acts.getD (↑k:Int).toNat (TAct.mk 0 0 0 0 0 (Packet.mk 0 0 0 [] 0 [] []) 0))).seq (pkA (acts.getD (↑k:Int).toNat (TAct.mk 0 0 0 0 0 (Packet.mk 0 0 0 [] 0 [] []) 0))).timeout (pkA (acts.getD (↑k:Int).toNat (TAct.mk 0 0 0 0 0 (Packet.mk 0 0 0 [] 0 [] []) 0))).denom (pkA (acts.getD (↑k:Int).toNat (TAct.mk 0 0 0 0 0 (Packet.mk 0 0 0 [] 0 [] []) 0))).amount (pkA (acts.getD (↑k:Int).toNat (TAct.mk 0 0 0 0 0 (Packet.mk 0 0 0 [] 0 [] []) 0))).from_ (pkA (acts.getD (↑k:Int).toNat (TAct.mk 0 0 0 0 0 (Packet.mk 0 0 0 [] 0 [] []) 0))).to) (rcE (zN coins i j acts k).fst (Packet.mk (pkA (acts.getD (↑k:Int).toNat (TAct.mk 0 0 0 0 0 (Packet.mk 0 0 0 [] 0 [] []) 0))).channel (pkA (acts.getD (↑k:Int).toNat (TAct.mk 0 0 0 0 0 (Packet.mk 0 0 0 [] 0 [] []) 0))).seq (pkA (acts.getD (↑k:Int).toNat (TAct.mk 0 0 0 0 0 (Packet.mk 0 0 0 [] 0 [] []) 0))).timeout (pkA (acts.getD (↑k:Int).toNat (TAct.mk 0 0 0 0 0 (Packet.mk 0 0 0 [] 0 [] []) 0))).denom (pkA (acts.getD (↑k:Int).toNat (TAct.mk 0 0 0 0 0 (Packet.mk 0 0 0 [] 0 [] []) 0))).amount (pkA (acts.getD (↑k:Int).toNat (TAct.mk 0 0 0 0 0 (Packet.mk 0 0 0 [] 0 [] []) 0))).from_ (pkA (acts.getD (↑k:Int).toNat (TAct.mk 0 0 0 0 0 (Packet.mk 0 0 0 [] 0 [] []) 0))).to)) g45:=p46
         refine v_call _ [19,18] (RReceive_ok ((zN coins i j acts k).snd) ((pkA (acts.getD (↑k:Int).toNat (TAct.mk 0 0 0 0 0 (Packet.mk 0 0 0 [] 0 [] []) 0))).channel) ((pkA (acts.getD (↑k:Int).toNat (TAct.mk 0 0 0 0 0 (Packet.mk 0 0 0 [] 0 [] []) 0))).seq) ((pkA (acts.getD (↑k:Int).toNat (TAct.mk 0 0 0 0 0 (Packet.mk 0 0 0 [] 0 [] []) 0))).timeout) ((pkA (acts.getD (↑k:Int).toNat (TAct.mk 0 0 0 0 0 (Packet.mk 0 0 0 [] 0 [] []) 0))).denom) ((pkA (acts.getD (↑k:Int).toNat (TAct.mk 0 0 0 0 0 (Packet.mk 0 0 0 [] 0 [] []) 0))).amount) ((pkA (acts.getD (↑k:Int).toNat (TAct.mk 0 0 0 0 0 (Packet.mk 0 0 0 [] 0 [] []) 0))).from_) ((pkA (acts.getD (↑k:Int).toNat (TAct.mk 0 0 0 0 0 (Packet.mk 0 0 0 [] 0 [] []) 0))).to) (by exact(hA _).1) (by exact(hA _).2.1) (by exact(hA _).2.2) (by with_reducible exact zll ‹_› ‹_›)) (((pkA (acts.getD (↑k:Int).toNat (TAct.mk 0 0 0 0 0 (Packet.mk 0 0 0 [] 0 [] []) 0))).channel=(pkA (acts.getD (↑k:Int).toNat (TAct.mk 0 0 0 0 0 (Packet.mk 0 0 0 [] 0 [] []) 0))).channel)∧((pkA (acts.getD (↑k:Int).toNat (TAct.mk 0 0 0 0 0 (Packet.mk 0 0 0 [] 0 [] []) 0))).seq=(pkA (acts.getD (↑k:Int).toNat (TAct.mk 0 0 0 0 0 (Packet.mk 0 0 0 [] 0 [] []) 0))).seq)∧((pkA (acts.getD (↑k:Int).toNat (TAct.mk 0 0 0 0 0 (Packet.mk 0 0 0 [] 0 [] []) 0))).timeout=(pkA (acts.getD (↑k:Int).toNat (TAct.mk 0 0 0 0 0 (Packet.mk 0 0 0 [] 0 [] []) 0))).timeout)∧((pkA (acts.getD (↑k:Int).toNat (TAct.mk 0 0 0 0 0 (Packet.mk 0 0 0 [] 0 [] []) 0))).denom=(pkA (acts.getD (↑k:Int).toNat (TAct.mk 0 0 0 0 0 (Packet.mk 0 0 0 [] 0 [] []) 0))).denom)∧((pkA (acts.getD (↑k:Int).toNat (TAct.mk 0 0 0 0 0 (Packet.mk 0 0 0 [] 0 [] []) 0))).amount=(pkA (acts.getD (↑k:Int).toNat (TAct.mk 0 0 0 0 0 (Packet.mk 0 0 0 [] 0 [] []) 0))).amount)∧((pkA (acts.getD (↑k:Int).toNat (TAct.mk 0 0 0 0 0 (Packet.mk 0 0 0 [] 0 [] []) 0))).from_=(pkA (acts.getD (↑k:Int).toNat (TAct.mk 0 0 0 0 0 (Packet.mk 0 0 0 [] 0 [] []) 0))).from_)∧((pkA (acts.getD (↑k:Int).toNat (TAct.mk 0 0 0 0 0 (Packet.mk 0 0 0 [] 0 [] []) 0))).to=(pkA (acts.getD (↑k:Int).toNat (TAct.mk 0 0 0 0 0 (Packet.mk 0 0 0 [] 0 [] []) 0))).to)∧((zN coins i j acts k).snd=(zN coins i j acts k).snd)) ⟨rfl,rfl,rfl,rfl,rfl,rfl,rfl,rfl⟩ (fun g47 p48=>?_)
         have p48:True:=p48
         refine v_call _ [0,23] (Code_ok (g45) (by with_reducible exact rc_dep ‹_›)) ((etP=etP)∧(PE g45=PE g45)∧(g45.isNone=g45.isNone)) ⟨rfl,rfl,rfl⟩ (fun g49 p50=>?_)
         have p50:True:=p50
         refine v_guard 115 (decide (codeO g45≠lrcE (zN coins i j acts k).snd (Packet.mk (pkA (acts.getD (↑k:Int).toNat (TAct.mk 0 0 0 0 0 (Packet.mk 0 0 0 [] 0 [] []) 0))).channel (pkA (acts.getD (↑k:Int).toNat (TAct.mk 0 0 0 0 0 (Packet.mk 0 0 0 [] 0 [] []) 0))).seq (pkA (acts.getD (↑k:Int).toNat (TAct.mk 0 0 0 0 0 (Packet.mk 0 0 0 [] 0 [] []) 0))).timeout (pkA (acts.getD (↑k:Int).toNat (TAct.mk 0 0 0 0 0 (Packet.mk 0 0 0 [] 0 [] []) 0))).denom (pkA (acts.getD (↑k:Int).toNat (TAct.mk 0 0 0 0 0 (Packet.mk 0 0 0 [] 0 [] []) 0))).amount (pkA (acts.getD (↑k:Int).toNat (TAct.mk 0 0 0 0 0 (Packet.mk 0 0 0 [] 0 [] []) 0))).from_ (pkA (acts.getD (↑k:Int).toNat (TAct.mk 0 0 0 0 0 (Packet.mk 0 0 0 [] 0 [] []) 0))).to))) True trivial (fun h51=>?_) (fun h51=>?_)
         ·have h51:=of_decide_eq_true h51
          exfalso;with_reducible exact(krc1 ‹_› ‹_›).elim
         ·have h51:=of_decide_eq_false h51
          refine v_call _ [17,16] (All_ok (tB (Packet.mk (pkA (acts.getD (↑k:Int).toNat (TAct.mk 0 0 0 0 0 (Packet.mk 0 0 0 [] 0 [] []) 0))).channel (pkA (acts.getD (↑k:Int).toNat (TAct.mk 0 0 0 0 0 (Packet.mk 0 0 0 [] 0 [] []) 0))).seq (pkA (acts.getD (↑k:Int).toNat (TAct.mk 0 0 0 0 0 (Packet.mk 0 0 0 [] 0 [] []) 0))).timeout (pkA (acts.getD (↑k:Int).toNat (TAct.mk 0 0 0 0 0 (Packet.mk 0 0 0 [] 0 [] []) 0))).denom (pkA (acts.getD (↑k:Int).toNat (TAct.mk 0 0 0 0 0 (Packet.mk 0 0 0 [] 0 [] []) 0))).amount (pkA (acts.getD (↑k:Int).toNat (TAct.mk 0 0 0 0 0 (Packet.mk 0 0 0 [] 0 [] []) 0))).from_ (pkA (acts.getD (↑k:Int).toNat (TAct.mk 0 0 0 0 0 (Packet.mk 0 0 0 [] 0 [] []) 0))).to) (zN coins i j acts k).fst (rcB (zN coins i j acts k).fst (Packet.mk (pkA (acts.getD (↑k:Int).toNat (TAct.mk 0 0 0 0 0 (Packet.mk 0 0 0 [] 0 [] []) 0))).channel (pkA (acts.getD (↑k:Int).toNat (TAct.mk 0 0 0 0 0 (Packet.mk 0 0 0 [] 0 [] []) 0))).seq (pkA (acts.getD (↑k:Int).toNat (TAct.mk 0 0 0 0 0 (Packet.mk 0 0 0 [] 0 [] []) 0))).timeout (pkA (acts.getD (↑k:Int).toNat (TAct.mk 0 0 0 0 0 (Packet.mk 0 0 0 [] 0 [] []) 0))).denom (pkA (acts.getD (↑k:Int).toNat (TAct.mk 0 0 0 0 0 (Packet.mk 0 0 0 [] 0 [] []) 0))).amount (pkA (acts.getD (↑k:Int).toNat (TAct.mk 0 0 0 0 0 (Packet.mk 0 0 0 [] 0 [] []) 0))).from_ (pkA (acts.getD (↑k:Int).toNat (TAct.mk 0 0 0 0 0 (Packet.mk 0 0 0 [] 0 [] []) 0))).to))) (by with_reducible exact qrc1 ‹_› ‹_›) (by with_reducible exact qrc0)) ((tB (Packet.mk (pkA (acts.getD (↑k:Int).toNat (TAct.mk (0:UInt8) (0:UInt8) (0:UInt8) (0:UInt8) (0:UInt8) (Packet.mk (0:Int) (0:UInt64) (0:UInt64) [] (0:UInt64) [] []) (0:UInt64)))).channel (pkA (acts.getD (↑k:Int).toNat (TAct.mk (0:UInt8) (0:UInt8) (0:UInt8) (0:UInt8) (0:UInt8) (Packet.mk (0:Int) (0:UInt64) (0:UInt64) [] (0:UInt64) [] []) (0:UInt64)))).seq (pkA (acts.getD (↑k:Int).toNat (TAct.mk (0:UInt8) (0:UInt8) (0:UInt8) (0:UInt8) (0:UInt8) (Packet.mk (0:Int) (0:UInt64) (0:UInt64) [] (0:UInt64) [] []) (0:UInt64)))).timeout (pkA (acts.getD (↑k:Int).toNat (TAct.mk (0:UInt8) (0:UInt8) (0:UInt8) (0:UInt8) (0:UInt8) (Packet.mk (0:Int) (0:UInt64) (0:UInt64) [] (0:UInt64) [] []) (0:UInt64)))).denom (pkA (acts.getD (↑k:Int).toNat (TAct.mk (0:UInt8) (0:UInt8) (0:UInt8) (0:UInt8) (0:UInt8) (Packet.mk (0:Int) (0:UInt64) (0:UInt64) [] (0:UInt64) [] []) (0:UInt64)))).amount (pkA (acts.getD (↑k:Int).toNat (TAct.mk (0:UInt8) (0:UInt8) (0:UInt8) (0:UInt8) (0:UInt8) (Packet.mk (0:Int) (0:UInt64) (0:UInt64) [] (0:UInt64) [] []) (0:UInt64)))).from_ (pkA (acts.getD (↑k:Int).toNat (TAct.mk (0:UInt8) (0:UInt8) (0:UInt8) (0:UInt8) (0:UInt8) (Packet.mk (0:Int) (0:UInt64) (0:UInt64) [] (0:UInt64) [] []) (0:UInt64)))).to) (zN coins i j acts k).fst (rcB (zN coins i j acts k).fst (Packet.mk (pkA (acts.getD (↑k:Int).toNat (TAct.mk (0:UInt8) (0:UInt8) (0:UInt8) (0:UInt8) (0:UInt8) (Packet.mk (0:Int) (0:UInt64) (0:UInt64) [] (0:UInt64) [] []) (0:UInt64)))).channel (pkA (acts.getD (↑k:Int).toNat (TAct.mk (0:UInt8) (0:UInt8) (0:UInt8) (0:UInt8) (0:UInt8) (Packet.mk (0:Int) (0:UInt64) (0:UInt64) [] (0:UInt64) [] []) (0:UInt64)))).seq (pkA (acts.getD (↑k:Int).toNat (TAct.mk (0:UInt8) (0:UInt8) (0:UInt8) (0:UInt8) (0:UInt8) (Packet.mk (0:Int) (0:UInt64) (0:UInt64) [] (0:UInt64) [] []) (0:UInt64)))).timeout (pkA (acts.getD (↑k:Int).toNat (TAct.mk (0:UInt8) (0:UInt8) (0:UInt8) (0:UInt8) (0:UInt8) (Packet.mk (0:Int) (0:UInt64) (0:UInt64) [] (0:UInt64) [] []) (0:UInt64)))).denom (pkA (acts.getD (↑k:Int).toNat (TAct.mk (0:UInt8) (0:UInt8) (0:UInt8) (0:UInt8) (0:UInt8) (Packet.mk (0:Int) (0:UInt64) (0:UInt64) [] (0:UInt64) [] []) (0:UInt64)))).amount (pkA (acts.getD (↑k:Int).toNat (TAct.mk (0:UInt8) (0:UInt8) (0:UInt8) (0:UInt8) (0:UInt8) (Packet.mk (0:Int) (0:UInt64) (0:UInt64) [] (0:UInt64) [] []) (0:UInt64)))).from_ (pkA (acts.getD (↑k:Int).toNat (TAct.mk (0:UInt8) (0:UInt8) (0:UInt8) (0:UInt8) (0:UInt8) (Packet.mk (0:Int) (0:UInt64) (0:UInt64) [] (0:UInt64) [] []) (0:UInt64)))).to))=tB (Packet.mk (pkA (acts.getD (↑k:Int).toNat (TAct.mk (0:UInt8) (0:UInt8) (0:UInt8) (0:UInt8) (0:UInt8) (Packet.mk (0:Int) (0:UInt64) (0:UInt64) [] (0:UInt64) [] []) (0:UInt64)))).channel (pkA (acts.getD (↑k:Int).toNat (TAct.mk (0:UInt8) (0:UInt8) (0:UInt8) (0:UInt8) (0:UInt8) (Packet.mk (0:Int) (0:UInt64) (0:UInt64) [] (0:UInt64) [] []) (0:UInt64)))).seq (pkA (acts.getD (↑k:Int).toNat (TAct.mk (0:UInt8) (0:UInt8) (0:UInt8) (0:UInt8) (0:UInt8) (Packet.mk (0:Int) (0:UInt64) (0:UInt64) [] (0:UInt64) [] []) (0:UInt64)))).timeout (pkA (acts.getD (↑k:Int).toNat (TAct.mk (0:UInt8) (0:UInt8) (0:UInt8) (0:UInt8) (0:UInt8) (Packet.mk (0:Int) (0:UInt64) (0:UInt64) [] (0:UInt64) [] []) (0:UInt64)))).denom (pkA (acts.getD (↑k:Int).toNat (TAct.mk (0:UInt8) (0:UInt8) (0:UInt8) (0:UInt8) (0:UInt8) (Packet.mk (0:Int) (0:UInt64) (0:UInt64) [] (0:UInt64) [] []) (0:UInt64)))).amount (pkA (acts.getD (↑k:Int).toNat (TAct.mk (0:UInt8) (0:UInt8) (0:UInt8) (0:UInt8) (0:UInt8) (Packet.mk (0:Int) (0:UInt64) (0:UInt64) [] (0:UInt64) [] []) (0:UInt64)))).from_ (pkA (acts.getD (↑k:Int).toNat (TAct.mk (0:UInt8) (0:UInt8) (0:UInt8) (0:UInt8) (0:UInt8) (Packet.mk (0:Int) (0:UInt64) (0:UInt64) [] (0:UInt64) [] []) (0:UInt64)))).to) (zN coins i j acts k).fst (rcB (zN coins i j acts k).fst (Packet.mk (pkA (acts.getD (↑k:Int).toNat (TAct.mk (0:UInt8) (0:UInt8) (0:UInt8) (0:UInt8) (0:UInt8) (Packet.mk (0:Int) (0:UInt64) (0:UInt64) [] (0:UInt64) [] []) (0:UInt64)))).channel (pkA (acts.getD (↑k:Int).toNat (TAct.mk (0:UInt8) (0:UInt8) (0:UInt8) (0:UInt8) (0:UInt8) (Packet.mk (0:Int) (0:UInt64) (0:UInt64) [] (0:UInt64) [] []) (0:UInt64)))).seq (pkA (acts.getD (↑k:Int).toNat (TAct.mk (0:UInt8) (0:UInt8) (0:UInt8) (0:UInt8) (0:UInt8) (Packet.mk (0:Int) (0:UInt64) (0:UInt64) [] (0:UInt64) [] []) (0:UInt64)))).timeout (pkA (acts.getD (↑k:Int).toNat (TAct.mk (0:UInt8) (0:UInt8) (0:UInt8) (0:UInt8) (0:UInt8) (Packet.mk (0:Int) (0:UInt64) (0:UInt64) [] (0:UInt64) [] []) (0:UInt64)))).denom (pkA (acts.getD (↑k:Int).toNat (TAct.mk (0:UInt8) (0:UInt8) (0:UInt8) (0:UInt8) (0:UInt8) (Packet.mk (0:Int) (0:UInt64) (0:UInt64) [] (0:UInt64) [] []) (0:UInt64)))).amount (pkA (acts.getD (↑k:Int).toNat (TAct.mk (0:UInt8) (0:UInt8) (0:UInt8) (0:UInt8) (0:UInt8) (Packet.mk (0:Int) (0:UInt64) (0:UInt64) [] (0:UInt64) [] []) (0:UInt64)))).from_ (pkA (acts.getD (↑k:Int).toNat (TAct.mk (0:UInt8) (0:UInt8) (0:UInt8) (0:UInt8) (0:UInt8) (Packet.mk (0:Int) (0:UInt64) (0:UInt64) [] (0:UInt64) [] []) (0:UInt64)))).to)))) rfl (fun g52 p53=>?_)
          have p53:True:=p53
          refine v_call _ [24,18] (RAll_ok (lrcL (zN coins i j acts k).snd (Packet.mk (pkA (acts.getD (↑k:Int).toNat (TAct.mk 0 0 0 0 0 (Packet.mk 0 0 0 [] 0 [] []) 0))).channel (pkA (acts.getD (↑k:Int).toNat (TAct.mk 0 0 0 0 0 (Packet.mk 0 0 0 [] 0 [] []) 0))).seq (pkA (acts.getD (↑k:Int).toNat (TAct.mk 0 0 0 0 0 (Packet.mk 0 0 0 [] 0 [] []) 0))).timeout (pkA (acts.getD (↑k:Int).toNat (TAct.mk 0 0 0 0 0 (Packet.mk 0 0 0 [] 0 [] []) 0))).denom (pkA (acts.getD (↑k:Int).toNat (TAct.mk 0 0 0 0 0 (Packet.mk 0 0 0 [] 0 [] []) 0))).amount (pkA (acts.getD (↑k:Int).toNat (TAct.mk 0 0 0 0 0 (Packet.mk 0 0 0 [] 0 [] []) 0))).from_ (pkA (acts.getD (↑k:Int).toNat (TAct.mk 0 0 0 0 0 (Packet.mk 0 0 0 [] 0 [] []) 0))).to)) (by with_reducible exact qrc2 ‹_› ‹_›)) ((lrcL (zN coins i j acts k).snd (Packet.mk (pkA (acts.getD (↑k:Int).toNat (TAct.mk 0 0 0 0 0 (Packet.mk 0 0 0 [] 0 [] []) 0))).channel (pkA (acts.getD (↑k:Int).toNat (TAct.mk 0 0 0 0 0 (Packet.mk 0 0 0 [] 0 [] []) 0))).seq (pkA (acts.getD (↑k:Int).toNat (TAct.mk 0 0 0 0 0 (Packet.mk 0 0 0 [] 0 [] []) 0))).timeout (pkA (acts.getD (↑k:Int).toNat (TAct.mk 0 0 0 0 0 (Packet.mk 0 0 0 [] 0 [] []) 0))).denom (pkA (acts.getD (↑k:Int).toNat (TAct.mk 0 0 0 0 0 (Packet.mk 0 0 0 [] 0 [] []) 0))).amount (pkA (acts.getD (↑k:Int).toNat (TAct.mk 0 0 0 0 0 (Packet.mk 0 0 0 [] 0 [] []) 0))).from_ (pkA (acts.getD (↑k:Int).toNat (TAct.mk 0 0 0 0 0 (Packet.mk 0 0 0 [] 0 [] []) 0))).to)=lrcL (zN coins i j acts k).snd (Packet.mk (pkA (acts.getD (↑k:Int).toNat (TAct.mk 0 0 0 0 0 (Packet.mk 0 0 0 [] 0 [] []) 0))).channel (pkA (acts.getD (↑k:Int).toNat (TAct.mk 0 0 0 0 0 (Packet.mk 0 0 0 [] 0 [] []) 0))).seq (pkA (acts.getD (↑k:Int).toNat (TAct.mk 0 0 0 0 0 (Packet.mk 0 0 0 [] 0 [] []) 0))).timeout (pkA (acts.getD (↑k:Int).toNat (TAct.mk 0 0 0 0 0 (Packet.mk 0 0 0 [] 0 [] []) 0))).denom (pkA (acts.getD (↑k:Int).toNat (TAct.mk 0 0 0 0 0 (Packet.mk 0 0 0 [] 0 [] []) 0))).amount (pkA (acts.getD (↑k:Int).toNat (TAct.mk 0 0 0 0 0 (Packet.mk 0 0 0 [] 0 [] []) 0))).from_ (pkA (acts.getD (↑k:Int).toNat (TAct.mk 0 0 0 0 0 (Packet.mk 0 0 0 [] 0 [] []) 0))).to))) rfl (fun g54 p55=>?_)
          have p55:True:=p55
          refine v_call _ [25,26] (Same_ok (allL (coinsB (tB (Packet.mk (pkA (acts.getD (↑k:Int).toNat (TAct.mk 0 0 0 0 0 (Packet.mk 0 0 0 [] 0 [] []) 0))).channel (pkA (acts.getD (↑k:Int).toNat (TAct.mk 0 0 0 0 0 (Packet.mk 0 0 0 [] 0 [] []) 0))).seq (pkA (acts.getD (↑k:Int).toNat (TAct.mk 0 0 0 0 0 (Packet.mk 0 0 0 [] 0 [] []) 0))).timeout (pkA (acts.getD (↑k:Int).toNat (TAct.mk 0 0 0 0 0 (Packet.mk 0 0 0 [] 0 [] []) 0))).denom (pkA (acts.getD (↑k:Int).toNat (TAct.mk 0 0 0 0 0 (Packet.mk 0 0 0 [] 0 [] []) 0))).amount (pkA (acts.getD (↑k:Int).toNat (TAct.mk 0 0 0 0 0 (Packet.mk 0 0 0 [] 0 [] []) 0))).from_ (pkA (acts.getD (↑k:Int).toNat (TAct.mk 0 0 0 0 0 (Packet.mk 0 0 0 [] 0 [] []) 0))).to) (zN coins i j acts k).fst (rcB (zN coins i j acts k).fst (Packet.mk (pkA (acts.getD (↑k:Int).toNat (TAct.mk 0 0 0 0 0 (Packet.mk 0 0 0 [] 0 [] []) 0))).channel (pkA (acts.getD (↑k:Int).toNat (TAct.mk 0 0 0 0 0 (Packet.mk 0 0 0 [] 0 [] []) 0))).seq (pkA (acts.getD (↑k:Int).toNat (TAct.mk 0 0 0 0 0 (Packet.mk 0 0 0 [] 0 [] []) 0))).timeout (pkA (acts.getD (↑k:Int).toNat (TAct.mk 0 0 0 0 0 (Packet.mk 0 0 0 [] 0 [] []) 0))).denom (pkA (acts.getD (↑k:Int).toNat (TAct.mk 0 0 0 0 0 (Packet.mk 0 0 0 [] 0 [] []) 0))).amount (pkA (acts.getD (↑k:Int).toNat (TAct.mk 0 0 0 0 0 (Packet.mk 0 0 0 [] 0 [] []) 0))).from_ (pkA (acts.getD (↑k:Int).toNat (TAct.mk 0 0 0 0 0 (Packet.mk 0 0 0 [] 0 [] []) 0))).to))))) (allL (lrcL (zN coins i j acts k).snd (Packet.mk (pkA (acts.getD (↑k:Int).toNat (TAct.mk 0 0 0 0 0 (Packet.mk 0 0 0 [] 0 [] []) 0))).channel (pkA (acts.getD (↑k:Int).toNat (TAct.mk 0 0 0 0 0 (Packet.mk 0 0 0 [] 0 [] []) 0))).seq (pkA (acts.getD (↑k:Int).toNat (TAct.mk 0 0 0 0 0 (Packet.mk 0 0 0 [] 0 [] []) 0))).timeout (pkA (acts.getD (↑k:Int).toNat (TAct.mk 0 0 0 0 0 (Packet.mk 0 0 0 [] 0 [] []) 0))).denom (pkA (acts.getD (↑k:Int).toNat (TAct.mk 0 0 0 0 0 (Packet.mk 0 0 0 [] 0 [] []) 0))).amount (pkA (acts.getD (↑k:Int).toNat (TAct.mk 0 0 0 0 0 (Packet.mk 0 0 0 [] 0 [] []) 0))).from_ (pkA (acts.getD (↑k:Int).toNat (TAct.mk 0 0 0 0 0 (Packet.mk 0 0 0 [] 0 [] []) 0))).to))) (by with_reducible exact qrc3 ‹_› ‹_›)) ((allL (coinsB (tB (Packet.mk (pkA (acts.getD (↑k:Int).toNat (TAct.mk 0 0 0 0 0 (Packet.mk 0 0 0 [] 0 [] []) 0))).channel (pkA (acts.getD (↑k:Int).toNat (TAct.mk 0 0 0 0 0 (Packet.mk 0 0 0 [] 0 [] []) 0))).seq (pkA (acts.getD (↑k:Int).toNat (TAct.mk 0 0 0 0 0 (Packet.mk 0 0 0 [] 0 [] []) 0))).timeout (pkA (acts.getD (↑k:Int).toNat (TAct.mk 0 0 0 0 0 (Packet.mk 0 0 0 [] 0 [] []) 0))).denom (pkA (acts.getD (↑k:Int).toNat (TAct.mk 0 0 0 0 0 (Packet.mk 0 0 0 [] 0 [] []) 0))).amount (pkA (acts.getD (↑k:Int).toNat (TAct.mk 0 0 0 0 0 (Packet.mk 0 0 0 [] 0 [] []) 0))).from_ (pkA (acts.getD (↑k:Int).toNat (TAct.mk 0 0 0 0 0 (Packet.mk 0 0 0 [] 0 [] []) 0))).to) (zN coins i j acts k).fst (rcB (zN coins i j acts k).fst (Packet.mk (pkA (acts.getD (↑k:Int).toNat (TAct.mk 0 0 0 0 0 (Packet.mk 0 0 0 [] 0 [] []) 0))).channel (pkA (acts.getD (↑k:Int).toNat (TAct.mk 0 0 0 0 0 (Packet.mk 0 0 0 [] 0 [] []) 0))).seq (pkA (acts.getD (↑k:Int).toNat (TAct.mk 0 0 0 0 0 (Packet.mk 0 0 0 [] 0 [] []) 0))).timeout (pkA (acts.getD (↑k:Int).toNat (TAct.mk 0 0 0 0 0 (Packet.mk 0 0 0 [] 0 [] []) 0))).denom (pkA (acts.getD (↑k:Int).toNat (TAct.mk 0 0 0 0 0 (Packet.mk 0 0 0 [] 0 [] []) 0))).amount (pkA (acts.getD (↑k:Int).toNat (TAct.mk 0 0 0 0 0 (Packet.mk 0 0 0 [] 0 [] []) 0))).from_ (pkA (acts.getD (↑k:Int).toNat (TAct.mk 0 0 0 0 0 (Packet.mk 0 0 0 [] 0 [] []) 0))).to))))=allL (coinsB (tB (Packet.mk (pkA (acts.getD (↑k:Int).toNat (TAct.mk 0 0 0 0 0 (Packet.mk 0 0 0 [] 0 [] []) 0))).channel (pkA (acts.getD (↑k:Int).toNat (TAct.mk 0 0 0 0 0 (Packet.mk 0 0 0 [] 0 [] []) 0))).seq (pkA (acts.getD (↑k:Int).toNat (TAct.mk 0 0 0 0 0 (Packet.mk 0 0 0 [] 0 [] []) 0))).timeout (pkA (acts.getD (↑k:Int).toNat (TAct.mk 0 0 0 0 0 (Packet.mk 0 0 0 [] 0 [] []) 0))).denom (pkA (acts.getD (↑k:Int).toNat (TAct.mk 0 0 0 0 0 (Packet.mk 0 0 0 [] 0 [] []) 0))).amount (pkA (acts.getD (↑k:Int).toNat (TAct.mk 0 0 0 0 0 (Packet.mk 0 0 0 [] 0 [] []) 0))).from_ (pkA (acts.getD (↑k:Int).toNat (TAct.mk 0 0 0 0 0 (Packet.mk 0 0 0 [] 0 [] []) 0))).to) (zN coins i j acts k).fst (rcB (zN coins i j acts k).fst (Packet.mk (pkA (acts.getD (↑k:Int).toNat (TAct.mk 0 0 0 0 0 (Packet.mk 0 0 0 [] 0 [] []) 0))).channel (pkA (acts.getD (↑k:Int).toNat (TAct.mk 0 0 0 0 0 (Packet.mk 0 0 0 [] 0 [] []) 0))).seq (pkA (acts.getD (↑k:Int).toNat (TAct.mk 0 0 0 0 0 (Packet.mk 0 0 0 [] 0 [] []) 0))).timeout (pkA (acts.getD (↑k:Int).toNat (TAct.mk 0 0 0 0 0 (Packet.mk 0 0 0 [] 0 [] []) 0))).denom (pkA (acts.getD (↑k:Int).toNat (TAct.mk 0 0 0 0 0 (Packet.mk 0 0 0 [] 0 [] []) 0))).amount (pkA (acts.getD (↑k:Int).toNat (TAct.mk 0 0 0 0 0 (Packet.mk 0 0 0 [] 0 [] []) 0))).from_ (pkA (acts.getD (↑k:Int).toNat (TAct.mk 0 0 0 0 0 (Packet.mk 0 0 0 [] 0 [] []) 0))).to)))))∧(allL (lrcL (zN coins i j acts k).snd (Packet.mk (pkA (acts.getD (↑k:Int).toNat (TAct.mk 0 0 0 0 0 (Packet.mk 0 0 0 [] 0 [] []) 0))).channel (pkA (acts.getD (↑k:Int).toNat (TAct.mk 0 0 0 0 0 (Packet.mk 0 0 0 [] 0 [] []) 0))).seq (pkA (acts.getD (↑k:Int).toNat (TAct.mk 0 0 0 0 0 (Packet.mk 0 0 0 [] 0 [] []) 0))).timeout (pkA (acts.getD (↑k:Int).toNat (TAct.mk 0 0 0 0 0 (Packet.mk 0 0 0 [] 0 [] []) 0))).denom (pkA (acts.getD (↑k:Int).toNat (TAct.mk 0 0 0 0 0 (Packet.mk 0 0 0 [] 0 [] []) 0))).amount (pkA (acts.getD (↑k:Int).toNat (TAct.mk 0 0 0 0 0 (Packet.mk 0 0 0 [] 0 [] []) 0))).from_ (pkA (acts.getD (↑k:Int).toNat (TAct.mk 0 0 0 0 0 (Packet.mk 0 0 0 [] 0 [] []) 0))).to))=allL (lrcL (zN coins i j acts k).snd (Packet.mk (pkA (acts.getD (↑k:Int).toNat (TAct.mk 0 0 0 0 0 (Packet.mk 0 0 0 [] 0 [] []) 0))).channel (pkA (acts.getD (↑k:Int).toNat (TAct.mk 0 0 0 0 0 (Packet.mk 0 0 0 [] 0 [] []) 0))).seq (pkA (acts.getD (↑k:Int).toNat (TAct.mk 0 0 0 0 0 (Packet.mk 0 0 0 [] 0 [] []) 0))).timeout (pkA (acts.getD (↑k:Int).toNat (TAct.mk 0 0 0 0 0 (Packet.mk 0 0 0 [] 0 [] []) 0))).denom (pkA (acts.getD (↑k:Int).toNat (TAct.mk 0 0 0 0 0 (Packet.mk 0 0 0 [] 0 [] []) 0))).amount (pkA (acts.getD (↑k:Int).toNat (TAct.mk 0 0 0 0 0 (Packet.mk 0 0 0 [] 0 [] []) 0))).from_ (pkA (acts.getD (↑k:Int).toNat (TAct.mk 0 0 0 0 0 (Packet.mk 0 0 0 [] 0 [] []) 0))).to)))) ⟨rfl,rfl⟩ (fun g56 p57=>?_)
          have p57:True:=p57
          refine v_if (!decide (allL (coinsB (tB (Packet.mk (pkA (acts.getD (↑k:Int).toNat (TAct.mk 0 0 0 0 0 (Packet.mk 0 0 0 [] 0 [] []) 0))).channel (pkA (acts.getD (↑k:Int).toNat (TAct.mk 0 0 0 0 0 (Packet.mk 0 0 0 [] 0 [] []) 0))).seq (pkA (acts.getD (↑k:Int).toNat (TAct.mk 0 0 0 0 0 (Packet.mk 0 0 0 [] 0 [] []) 0))).timeout (pkA (acts.getD (↑k:Int).toNat (TAct.mk 0 0 0 0 0 (Packet.mk 0 0 0 [] 0 [] []) 0))).denom (pkA (acts.getD (↑k:Int).toNat (TAct.mk 0 0 0 0 0 (Packet.mk 0 0 0 [] 0 [] []) 0))).amount (pkA (acts.getD (↑k:Int).toNat (TAct.mk 0 0 0 0 0 (Packet.mk 0 0 0 [] 0 [] []) 0))).from_ (pkA (acts.getD (↑k:Int).toNat (TAct.mk 0 0 0 0 0 (Packet.mk 0 0 0 [] 0 [] []) 0))).to) (zN coins i j acts k).fst (rcB (zN coins i j acts k).fst (Packet.mk (pkA (acts.getD (↑k:Int).toNat (TAct.mk 0 0 0 0 0 (Packet.mk 0 0 0 [] 0 [] []) 0))).channel (pkA (acts.getD (↑k:Int).toNat (TAct.mk 0 0 0 0 0 (Packet.mk 0 0 0 [] 0 [] []) 0))).seq (pkA (acts.getD (↑k:Int).toNat (TAct.mk 0 0 0 0 0 (Packet.mk 0 0 0 [] 0 [] []) 0))).timeout (pkA (acts.getD (↑k:Int).toNat (TAct.mk 0 0 0 0 0 (Packet.mk 0 0 0 [] 0 [] []) 0))).denom (pkA (acts.getD (↑k:Int).toNat (TAct.mk 0 0 0 0 0 (Packet.mk 0 0 0 [] 0 [] []) 0))).amount (pkA (acts.getD (↑k:Int).toNat (TAct.mk 0 0 0 0 0 (Packet.mk 0 0 0 [] 0 [] []) 0))).from_ (pkA (acts.getD (↑k:Int).toNat (TAct.mk 0 0 0 0 0 (Packet.mk 0 0 0 [] 0 [] []) 0))).to))))=allL (lrcL (zN coins i j acts k).snd (Packet.mk (pkA (acts.getD (↑k:Int).toNat (TAct.mk 0 0 0 0 0 (Packet.mk 0 0 0 [] 0 [] []) 0))).channel (pkA (acts.getD (↑k:Int).toNat (TAct.mk 0 0 0 0 0 (Packet.mk 0 0 0 [] 0 [] []) 0))).seq (pkA (acts.getD (↑k:Int).toNat (TAct.mk 0 0 0 0 0 (Packet.mk 0 0 0 [] 0 [] []) 0))).timeout (pkA (acts.getD (↑k:Int).toNat (TAct.mk 0 0 0 0 0 (Packet.mk 0 0 0 [] 0 [] []) 0))).denom (pkA (acts.getD (↑k:Int).toNat (TAct.mk 0 0 0 0 0 (Packet.mk 0 0 0 [] 0 [] []) 0))).amount (pkA (acts.getD (↑k:Int).toNat (TAct.mk 0 0 0 0 0 (Packet.mk 0 0 0 [] 0 [] []) 0))).from_ (pkA (acts.getD (↑k:Int).toNat (TAct.mk 0 0 0 0 0 (Packet.mk 0 0 0 [] 0 [] []) 0))).to)))) True trivial (fun h58=>?_) (fun h58=>?_)
          ·have h58:=of_decide_eq_false (nt h58)
           exfalso;with_reducible exact(krc2 ‹_›).elim
          ·have h58:=of_decide_eq_true (nf h58)
           exact v_back (k+1) [16,17,18,24] ((I64 (↑k+1))∧((↑k:Int)+1=(↑(k+1):Int))∧(tB (Packet.mk (pkA (acts.getD (↑k:Int).toNat (TAct.mk (0:UInt8) (0:UInt8) (0:UInt8) (0:UInt8) (0:UInt8) (Packet.mk (0:Int) (0:UInt64) (0:UInt64) [] (0:UInt64) [] []) (0:UInt64)))).channel (pkA (acts.getD (↑k:Int).toNat (TAct.mk (0:UInt8) (0:UInt8) (0:UInt8) (0:UInt8) (0:UInt8) (Packet.mk (0:Int) (0:UInt64) (0:UInt64) [] (0:UInt64) [] []) (0:UInt64)))).seq (pkA (acts.getD (↑k:Int).toNat (TAct.mk (0:UInt8) (0:UInt8) (0:UInt8) (0:UInt8) (0:UInt8) (Packet.mk (0:Int) (0:UInt64) (0:UInt64) [] (0:UInt64) [] []) (0:UInt64)))).timeout (pkA (acts.getD (↑k:Int).toNat (TAct.mk (0:UInt8) (0:UInt8) (0:UInt8) (0:UInt8) (0:UInt8) (Packet.mk (0:Int) (0:UInt64) (0:UInt64) [] (0:UInt64) [] []) (0:UInt64)))).denom (pkA (acts.getD (↑k:Int).toNat (TAct.mk (0:UInt8) (0:UInt8) (0:UInt8) (0:UInt8) (0:UInt8) (Packet.mk (0:Int) (0:UInt64) (0:UInt64) [] (0:UInt64) [] []) (0:UInt64)))).amount (pkA (acts.getD (↑k:Int).toNat (TAct.mk (0:UInt8) (0:UInt8) (0:UInt8) (0:UInt8) (0:UInt8) (Packet.mk (0:Int) (0:UInt64) (0:UInt64) [] (0:UInt64) [] []) (0:UInt64)))).from_ (pkA (acts.getD (↑k:Int).toNat (TAct.mk (0:UInt8) (0:UInt8) (0:UInt8) (0:UInt8) (0:UInt8) (Packet.mk (0:Int) (0:UInt64) (0:UInt64) [] (0:UInt64) [] []) (0:UInt64)))).to) (zN coins i j acts k).fst (rcB (zN coins i j acts k).fst (Packet.mk (pkA (acts.getD (↑k:Int).toNat (TAct.mk (0:UInt8) (0:UInt8) (0:UInt8) (0:UInt8) (0:UInt8) (Packet.mk (0:Int) (0:UInt64) (0:UInt64) [] (0:UInt64) [] []) (0:UInt64)))).channel (pkA (acts.getD (↑k:Int).toNat (TAct.mk (0:UInt8) (0:UInt8) (0:UInt8) (0:UInt8) (0:UInt8) (Packet.mk (0:Int) (0:UInt64) (0:UInt64) [] (0:UInt64) [] []) (0:UInt64)))).seq (pkA (acts.getD (↑k:Int).toNat (TAct.mk (0:UInt8) (0:UInt8) (0:UInt8) (0:UInt8) (0:UInt8) (Packet.mk (0:Int) (0:UInt64) (0:UInt64) [] (0:UInt64) [] []) (0:UInt64)))).timeout (pkA (acts.getD (↑k:Int).toNat (TAct.mk (0:UInt8) (0:UInt8) (0:UInt8) (0:UInt8) (0:UInt8) (Packet.mk (0:Int) (0:UInt64) (0:UInt64) [] (0:UInt64) [] []) (0:UInt64)))).denom (pkA (acts.getD (↑k:Int).toNat (TAct.mk (0:UInt8) (0:UInt8) (0:UInt8) (0:UInt8) (0:UInt8) (Packet.mk (0:Int) (0:UInt64) (0:UInt64) [] (0:UInt64) [] []) (0:UInt64)))).amount (pkA (acts.getD (↑k:Int).toNat (TAct.mk (0:UInt8) (0:UInt8) (0:UInt8) (0:UInt8) (0:UInt8) (Packet.mk (0:Int) (0:UInt64) (0:UInt64) [] (0:UInt64) [] []) (0:UInt64)))).from_ (pkA (acts.getD (↑k:Int).toNat (TAct.mk (0:UInt8) (0:UInt8) (0:UInt8) (0:UInt8) (0:UInt8) (Packet.mk (0:Int) (0:UInt64) (0:UInt64) [] (0:UInt64) [] []) (0:UInt64)))).to))=(zN coins i j acts (k+(1:Nat))).fst)∧(lrcL (zN coins i j acts k).snd (Packet.mk (pkA (acts.getD (↑k:Int).toNat (TAct.mk 0 0 0 0 0 (Packet.mk 0 0 0 [] 0 [] []) 0))).channel (pkA (acts.getD (↑k:Int).toNat (TAct.mk 0 0 0 0 0 (Packet.mk 0 0 0 [] 0 [] []) 0))).seq (pkA (acts.getD (↑k:Int).toNat (TAct.mk 0 0 0 0 0 (Packet.mk 0 0 0 [] 0 [] []) 0))).timeout (pkA (acts.getD (↑k:Int).toNat (TAct.mk 0 0 0 0 0 (Packet.mk 0 0 0 [] 0 [] []) 0))).denom (pkA (acts.getD (↑k:Int).toNat (TAct.mk 0 0 0 0 0 (Packet.mk 0 0 0 [] 0 [] []) 0))).amount (pkA (acts.getD (↑k:Int).toNat (TAct.mk 0 0 0 0 0 (Packet.mk 0 0 0 [] 0 [] []) 0))).from_ (pkA (acts.getD (↑k:Int).toNat (TAct.mk 0 0 0 0 0 (Packet.mk 0 0 0 [] 0 [] []) 0))).to)=(zN coins i j acts (k+1)).snd)) ⟨(by(unfold I64;omega)),rfl,(by exact nB1 ‹_›),(by exact nB2 ‹_›)⟩ (show(k+1≤acts.length∧k+1≤61)∧acts.length - (k+1)<acts.length - k from(by omega))
        ·have h44:=of_decide_eq_false h44
         refine v_if (decide ((acts.getD (↑k:Int).toNat (TAct.mk 0 0 0 0 0 (Packet.mk 0 0 0 [] 0 [] []) 0)).kind % 5=4)) True trivial (fun h59=>?_) (fun h59=>?_)
         ·have h59:=of_decide_eq_true h59
          refine v_plan (.fs [0,1,3,4] (.o 2 (.o 5 (.fs [6,7] .e)))) [11,21,22] True trivial ?_
          refine v_call _ [17,16] (TRefund_ok ((zN coins i j acts k).fst) ((pkA (acts.getD (↑k:Int).toNat (TAct.mk 0 0 0 0 0 (Packet.mk 0 0 0 [] 0 [] []) 0))).channel) ((pkA (acts.getD (↑k:Int).toNat (TAct.mk 0 0 0 0 0 (Packet.mk 0 0 0 [] 0 [] []) 0))).seq) ((pkA (acts.getD (↑k:Int).toNat (TAct.mk 0 0 0 0 0 (Packet.mk 0 0 0 [] 0 [] []) 0))).timeout) ((pkA (acts.getD (↑k:Int).toNat (TAct.mk 0 0 0 0 0 (Packet.mk 0 0 0 [] 0 [] []) 0))).denom) ((pkA (acts.getD (↑k:Int).toNat (TAct.mk 0 0 0 0 0 (Packet.mk 0 0 0 [] 0 [] []) 0))).amount) ((pkA (acts.getD (↑k:Int).toNat (TAct.mk 0 0 0 0 0 (Packet.mk 0 0 0 [] 0 [] []) 0))).from_) ((pkA (acts.getD (↑k:Int).toNat (TAct.mk 0 0 0 0 0 (Packet.mk 0 0 0 [] 0 [] []) 0))).to) (by exact(hA _).1) (by exact(hA _).2.1) (by exact(hA _).2.2)) (((pkA (acts.getD (↑k:Int).toNat (TAct.mk 0 0 0 0 0 (Packet.mk 0 0 0 [] 0 [] []) 0))).channel=(pkA (acts.getD (↑k:Int).toNat (TAct.mk 0 0 0 0 0 (Packet.mk 0 0 0 [] 0 [] []) 0))).channel)∧((pkA (acts.getD (↑k:Int).toNat (TAct.mk 0 0 0 0 0 (Packet.mk 0 0 0 [] 0 [] []) 0))).seq=(pkA (acts.getD (↑k:Int).toNat (TAct.mk 0 0 0 0 0 (Packet.mk 0 0 0 [] 0 [] []) 0))).seq)∧((pkA (acts.getD (↑k:Int).toNat (TAct.mk 0 0 0 0 0 (Packet.mk 0 0 0 [] 0 [] []) 0))).timeout=(pkA (acts.getD (↑k:Int).toNat (TAct.mk 0 0 0 0 0 (Packet.mk 0 0 0 [] 0 [] []) 0))).timeout)∧((pkA (acts.getD (↑k:Int).toNat (TAct.mk 0 0 0 0 0 (Packet.mk 0 0 0 [] 0 [] []) 0))).denom=(pkA (acts.getD (↑k:Int).toNat (TAct.mk 0 0 0 0 0 (Packet.mk 0 0 0 [] 0 [] []) 0))).denom)∧((pkA (acts.getD (↑k:Int).toNat (TAct.mk 0 0 0 0 0 (Packet.mk 0 0 0 [] 0 [] []) 0))).amount=(pkA (acts.getD (↑k:Int).toNat (TAct.mk 0 0 0 0 0 (Packet.mk 0 0 0 [] 0 [] []) 0))).amount)∧((pkA (acts.getD (↑k:Int).toNat (TAct.mk 0 0 0 0 0 (Packet.mk 0 0 0 [] 0 [] []) 0))).from_=(pkA (acts.getD (↑k:Int).toNat (TAct.mk 0 0 0 0 0 (Packet.mk 0 0 0 [] 0 [] []) 0))).from_)∧((pkA (acts.getD (↑k:Int).toNat (TAct.mk 0 0 0 0 0 (Packet.mk 0 0 0 [] 0 [] []) 0))).to=(pkA (acts.getD (↑k:Int).toNat (TAct.mk 0 0 0 0 0 (Packet.mk 0 0 0 [] 0 [] []) 0))).to)∧(@Eq (List (Prod (Prod (List UInt8) (List UInt8)) UInt64)) (@Prod.fst BK (List Coin) (zN coins i j acts k)) (@Prod.fst BK (List Coin) (zN coins i j acts k)))) ⟨rfl,rfl,rfl,rfl,rfl,rfl,rfl,rfl⟩ (fun g60 p61=>?_)
          have p61:tQ (Packet.mk (pkA (acts.getD (↑k:Int).toNat (TAct.mk 0 0 0 0 0 (Packet.mk 0 0 0 [] 0 [] []) 0))).channel (pkA (acts.getD (↑k:Int).toNat (TAct.mk 0 0 0 0 0 (Packet.mk 0 0 0 [] 0 [] []) 0))).seq (pkA (acts.getD (↑k:Int).toNat (TAct.mk 0 0 0 0 0 (Packet.mk 0 0 0 [] 0 [] []) 0))).timeout (pkA (acts.getD (↑k:Int).toNat (TAct.mk 0 0 0 0 0 (Packet.mk 0 0 0 [] 0 [] []) 0))).denom (pkA (acts.getD (↑k:Int).toNat (TAct.mk 0 0 0 0 0 (Packet.mk 0 0 0 [] 0 [] []) 0))).amount (pkA (acts.getD (↑k:Int).toNat (TAct.mk 0 0 0 0 0 (Packet.mk 0 0 0 [] 0 [] []) 0))).from_ (pkA (acts.getD (↑k:Int).toNat (TAct.mk 0 0 0 0 0 (Packet.mk 0 0 0 [] 0 [] []) 0))).to) (rfE (zN coins i j acts k).fst (Packet.mk (pkA (acts.getD (↑k:Int).toNat (TAct.mk 0 0 0 0 0 (Packet.mk 0 0 0 [] 0 [] []) 0))).channel (pkA (acts.getD (↑k:Int).toNat (TAct.mk 0 0 0 0 0 (Packet.mk 0 0 0 [] 0 [] []) 0))).seq (pkA (acts.getD (↑k:Int).toNat (TAct.mk 0 0 0 0 0 (Packet.mk 0 0 0 [] 0 [] []) 0))).timeout (pkA (acts.getD (↑k:Int).toNat (TAct.mk 0 0 0 0 0 (Packet.mk 0 0 0 [] 0 [] []) 0))).denom (pkA (acts.getD (↑k:Int).toNat (TAct.mk 0 0 0 0 0 (Packet.mk 0 0 0 [] 0 [] []) 0))).amount (pkA (acts.getD (↑k:Int).toNat (TAct.mk 0 0 0 0 0 (Packet.mk 0 0 0 [] 0 [] []) 0))).from_ (pkA (acts.getD (↑k:Int).toNat (TAct.mk 0 0 0 0 0 (Packet.mk 0 0 0 [] 0 [] []) 0))).to)) g60:=p61
          refine v_call _ [19,18] (RRefund_ok ((zN coins i j acts k).snd) ((pkA (acts.getD (↑k:Int).toNat (TAct.mk 0 0 0 0 0 (Packet.mk 0 0 0 [] 0 [] []) 0))).channel) ((pkA (acts.getD (↑k:Int).toNat (TAct.mk 0 0 0 0 0 (Packet.mk 0 0 0 [] 0 [] []) 0))).seq) ((pkA (acts.getD (↑k:Int).toNat (TAct.mk 0 0 0 0 0 (Packet.mk 0 0 0 [] 0 [] []) 0))).timeout) ((pkA (acts.getD (↑k:Int).toNat (TAct.mk 0 0 0 0 0 (Packet.mk 0 0 0 [] 0 [] []) 0))).denom) ((pkA (acts.getD (↑k:Int).toNat (TAct.mk 0 0 0 0 0 (Packet.mk 0 0 0 [] 0 [] []) 0))).amount) ((pkA (acts.getD (↑k:Int).toNat (TAct.mk 0 0 0 0 0 (Packet.mk 0 0 0 [] 0 [] []) 0))).from_) ((pkA (acts.getD (↑k:Int).toNat (TAct.mk 0 0 0 0 0 (Packet.mk 0 0 0 [] 0 [] []) 0))).to) (by exact(hA _).1) (by exact(hA _).2.1) (by exact(hA _).2.2) (by with_reducible exact zll ‹_› ‹_›)) (((pkA (acts.getD (↑k:Int).toNat (TAct.mk 0 0 0 0 0 (Packet.mk 0 0 0 [] 0 [] []) 0))).channel=(pkA (acts.getD (↑k:Int).toNat (TAct.mk 0 0 0 0 0 (Packet.mk 0 0 0 [] 0 [] []) 0))).channel)∧((pkA (acts.getD (↑k:Int).toNat (TAct.mk 0 0 0 0 0 (Packet.mk 0 0 0 [] 0 [] []) 0))).seq=(pkA (acts.getD (↑k:Int).toNat (TAct.mk 0 0 0 0 0 (Packet.mk 0 0 0 [] 0 [] []) 0))).seq)∧((pkA (acts.getD (↑k:Int).toNat (TAct.mk 0 0 0 0 0 (Packet.mk 0 0 0 [] 0 [] []) 0))).timeout=(pkA (acts.getD (↑k:Int).toNat (TAct.mk 0 0 0 0 0 (Packet.mk 0 0 0 [] 0 [] []) 0))).timeout)∧((pkA (acts.getD (↑k:Int).toNat (TAct.mk 0 0 0 0 0 (Packet.mk 0 0 0 [] 0 [] []) 0))).denom=(pkA (acts.getD (↑k:Int).toNat (TAct.mk 0 0 0 0 0 (Packet.mk 0 0 0 [] 0 [] []) 0))).denom)∧((pkA (acts.getD (↑k:Int).toNat (TAct.mk 0 0 0 0 0 (Packet.mk 0 0 0 [] 0 [] []) 0))).amount=(pkA (acts.getD (↑k:Int).toNat (TAct.mk 0 0 0 0 0 (Packet.mk 0 0 0 [] 0 [] []) 0))).amount)∧((pkA (acts.getD (↑k:Int).toNat (TAct.mk 0 0 0 0 0 (Packet.mk 0 0 0 [] 0 [] []) 0))).from_=(pkA (acts.getD (↑k:Int).toNat (TAct.mk 0 0 0 0 0 (Packet.mk 0 0 0 [] 0 [] []) 0))).from_)∧((pkA (acts.getD (↑k:Int).toNat (TAct.mk 0 0 0 0 0 (Packet.mk 0 0 0 [] 0 [] []) 0))).to=(pkA (acts.getD (↑k:Int).toNat (TAct.mk 0 0 0 0 0 (Packet.mk 0 0 0 [] 0 [] []) 0))).to)∧((zN coins i j acts k).snd=(zN coins i j acts k).snd)) ⟨rfl,rfl,rfl,rfl,rfl,rfl,rfl,rfl⟩ (fun g62 p63=>?_)
          have p63:True:=p63
          refine v_call _ [0,23] (Code_ok (g60) (by with_reducible exact rf_dep ‹_›)) ((etP=etP)∧(PE g60=PE g60)∧(g60.isNone=g60.isNone)) ⟨rfl,rfl,rfl⟩ (fun g64 p65=>?_)
          have p65:True:=p65
          refine v_guard 115 (decide (codeO g60≠lrfE (zN coins i j acts k).snd (Packet.mk (pkA (acts.getD (↑k:Int).toNat (TAct.mk 0 0 0 0 0 (Packet.mk 0 0 0 [] 0 [] []) 0))).channel (pkA (acts.getD (↑k:Int).toNat (TAct.mk 0 0 0 0 0 (Packet.mk 0 0 0 [] 0 [] []) 0))).seq (pkA (acts.getD (↑k:Int).toNat (TAct.mk 0 0 0 0 0 (Packet.mk 0 0 0 [] 0 [] []) 0))).timeout (pkA (acts.getD (↑k:Int).toNat (TAct.mk 0 0 0 0 0 (Packet.mk 0 0 0 [] 0 [] []) 0))).denom (pkA (acts.getD (↑k:Int).toNat (TAct.mk 0 0 0 0 0 (Packet.mk 0 0 0 [] 0 [] []) 0))).amount (pkA (acts.getD (↑k:Int).toNat (TAct.mk 0 0 0 0 0 (Packet.mk 0 0 0 [] 0 [] []) 0))).from_ (pkA (acts.getD (↑k:Int).toNat (TAct.mk 0 0 0 0 0 (Packet.mk 0 0 0 [] 0 [] []) 0))).to))) True trivial (fun h66=>?_) (fun h66=>?_)
          ·have h66:=of_decide_eq_true h66
           exfalso;with_reducible exact(krf1 ‹_› ‹_›).elim
          ·have h66:=of_decide_eq_false h66
           refine v_call _ [17,16] (All_ok (tB (Packet.mk (pkA (acts.getD (↑k:Int).toNat (TAct.mk 0 0 0 0 0 (Packet.mk 0 0 0 [] 0 [] []) 0))).channel (pkA (acts.getD (↑k:Int).toNat (TAct.mk 0 0 0 0 0 (Packet.mk 0 0 0 [] 0 [] []) 0))).seq (pkA (acts.getD (↑k:Int).toNat (TAct.mk 0 0 0 0 0 (Packet.mk 0 0 0 [] 0 [] []) 0))).timeout (pkA (acts.getD (↑k:Int).toNat (TAct.mk 0 0 0 0 0 (Packet.mk 0 0 0 [] 0 [] []) 0))).denom (pkA (acts.getD (↑k:Int).toNat (TAct.mk 0 0 0 0 0 (Packet.mk 0 0 0 [] 0 [] []) 0))).amount (pkA (acts.getD (↑k:Int).toNat (TAct.mk 0 0 0 0 0 (Packet.mk 0 0 0 [] 0 [] []) 0))).from_ (pkA (acts.getD (↑k:Int).toNat (TAct.mk 0 0 0 0 0 (Packet.mk 0 0 0 [] 0 [] []) 0))).to) (zN coins i j acts k).fst (rfB (zN coins i j acts k).fst (Packet.mk (pkA (acts.getD (↑k:Int).toNat (TAct.mk 0 0 0 0 0 (Packet.mk 0 0 0 [] 0 [] []) 0))).channel (pkA (acts.getD (↑k:Int).toNat (TAct.mk 0 0 0 0 0 (Packet.mk 0 0 0 [] 0 [] []) 0))).seq (pkA (acts.getD (↑k:Int).toNat (TAct.mk 0 0 0 0 0 (Packet.mk 0 0 0 [] 0 [] []) 0))).timeout (pkA (acts.getD (↑k:Int).toNat (TAct.mk 0 0 0 0 0 (Packet.mk 0 0 0 [] 0 [] []) 0))).denom (pkA (acts.getD (↑k:Int).toNat (TAct.mk 0 0 0 0 0 (Packet.mk 0 0 0 [] 0 [] []) 0))).amount (pkA (acts.getD (↑k:Int).toNat (TAct.mk 0 0 0 0 0 (Packet.mk 0 0 0 [] 0 [] []) 0))).from_ (pkA (acts.getD (↑k:Int).toNat (TAct.mk 0 0 0 0 0 (Packet.mk 0 0 0 [] 0 [] []) 0))).to))) (by with_reducible exact qrf1 ‹_› ‹_›) (by with_reducible exact qrf0)) ((tB (Packet.mk (pkA (acts.getD (↑k:Int).toNat (TAct.mk (0:UInt8) (0:UInt8) (0:UInt8) (0:UInt8) (0:UInt8) (Packet.mk (0:Int) (0:UInt64) (0:UInt64) [] (0:UInt64) [] []) (0:UInt64)))).channel (pkA (acts.getD (↑k:Int).toNat (TAct.mk (0:UInt8) (0:UInt8) (0:UInt8) (0:UInt8) (0:UInt8) (Packet.mk (0:Int) (0:UInt64) (0:UInt64) [] (0:UInt64) [] []) (0:UInt64)))).seq (pkA (acts.getD (↑k:Int).toNat (TAct.mk (0:UInt8) (0:UInt8) (0:UInt8) (0:UInt8) (0:UInt8) (Packet.mk (0:Int) (0:UInt64) (0:UInt64) [] (0:UInt64) [] []) (0:UInt64)))).timeout (pkA (acts.getD (↑k:Int).toNat (TAct.mk (0:UInt8) (0:UInt8) (0:UInt8) (0:UInt8) (0:UInt8) (Packet.mk (0:Int) (0:UInt64) (0:UInt64) [] (0:UInt64) [] []) (0:UInt64)))).denom (pkA (acts.getD (↑k:Int).toNat (TAct.mk (0:UInt8) (0:UInt8) (0:UInt8) (0:UInt8) (0:UInt8) (Packet.mk (0:Int) (0:UInt64) (0:UInt64) [] (0:UInt64) [] []) (0:UInt64)))).amount (pkA (acts.getD (↑k:Int).toNat (TAct.mk (0:UInt8) (0:UInt8) (0:UInt8) (0:UInt8) (0:UInt8) (Packet.mk (0:Int) (0:UInt64) (0:UInt64) [] (0:UInt64) [] []) (0:UInt64)))).from_ (pkA (acts.getD (↑k:Int).toNat (TAct.mk (0:UInt8) (0:UInt8) (0:UInt8) (0:UInt8) (0:UInt8) (Packet.mk (0:Int) (0:UInt64) (0:UInt64) [] (0:UInt64) [] []) (0:UInt64)))).to) (zN coins i j acts k).fst (rfB (zN coins i j acts k).fst (Packet.mk (pkA (acts.getD (↑k:Int).toNat (TAct.mk (0:UInt8) (0:UInt8) (0:UInt8) (0:UInt8) (0:UInt8) (Packet.mk (0:Int) (0:UInt64) (0:UInt64) [] (0:UInt64) [] []) (0:UInt64)))).channel (pkA (acts.getD (↑k:Int).toNat (TAct.mk (0:UInt8) (0:UInt8) (0:UInt8) (0:UInt8) (0:UInt8) (Packet.mk (0:Int) (0:UInt64) (0:UInt64) [] (0:UInt64) [] []) (0:UInt64)))).seq (pkA (acts.getD (↑k:Int).toNat (TAct.mk (0:UInt8) (0:UInt8) (0:UInt8) (0:UInt8) (0:UInt8) (Packet.mk (0:Int) (0:UInt64) (0:UInt64) [] (0:UInt64) [] []) (0:UInt64)))).timeout (pkA (acts.getD (↑k:Int).toNat (TAct.mk (0:UInt8) (0:UInt8) (0:UInt8) (0:UInt8) (0:UInt8) (Packet.mk (0:Int) (0:UInt64) (0:UInt64) [] (0:UInt64) [] []) (0:UInt64)))).denom (pkA (acts.getD (↑k:Int).toNat (TAct.mk (0:UInt8) (0:UInt8) (0:UInt8) (0:UInt8) (0:UInt8) (Packet.mk (0:Int) (0:UInt64) (0:UInt64) [] (0:UInt64) [] []) (0:UInt64)))).amount (pkA (acts.getD (↑k:Int).toNat (TAct.mk (0:UInt8) (0:UInt8) (0:UInt8) (0:UInt8) (0:UInt8) (Packet.mk (0:Int) (0:UInt64) (0:UInt64) [] (0:UInt64) [] []) (0:UInt64)))).from_ (pkA (acts.getD (↑k:Int).toNat (TAct.mk (0:UInt8) (0:UInt8) (0:UInt8) (0:UInt8) (0:UInt8) (Packet.mk (0:Int) (0:UInt64) (0:UInt64) [] (0:UInt64) [] []) (0:UInt64)))).to))=tB (Packet.mk (pkA (acts.getD (↑k:Int).toNat (TAct.mk (0:UInt8) (0:UInt8) (0:UInt8) (0:UInt8) (0:UInt8) (Packet.mk (0:Int) (0:UInt64) (0:UInt64) [] (0:UInt64) [] []) (0:UInt64)))).channel (pkA (acts.getD (↑k:Int).toNat (TAct.mk (0:UInt8) (0:UInt8) (0:UInt8) (0:UInt8) (0:UInt8) (Packet.mk (0:Int) (0:UInt64) (0:UInt64) [] (0:UInt64) [] []) (0:UInt64)))).seq (pkA (acts.getD (↑k:Int).toNat (TAct.mk (0:UInt8) (0:UInt8) (0:UInt8) (0:UInt8) (0:UInt8) (Packet.mk (0:Int) (0:UInt64) (0:UInt64) [] (0:UInt64) [] []) (0:UInt64)))).timeout (pkA (acts.getD (↑k:Int).toNat (TAct.mk (0:UInt8) (0:UInt8) (0:UInt8) (0:UInt8) (0:UInt8) (Packet.mk (0:Int) (0:UInt64) (0:UInt64) [] (0:UInt64) [] []) (0:UInt64)))).denom (pkA (acts.getD (↑k:Int).toNat (TAct.mk (0:UInt8) (0:UInt8) (0:UInt8) (0:UInt8) (0:UInt8) (Packet.mk (0:Int) (0:UInt64) (0:UInt64) [] (0:UInt64) [] []) (0:UInt64)))).amount (pkA (acts.getD (↑k:Int).toNat (TAct.mk (0:UInt8) (0:UInt8) (0:UInt8) (0:UInt8) (0:UInt8) (Packet.mk (0:Int) (0:UInt64) (0:UInt64) [] (0:UInt64) [] []) (0:UInt64)))).from_ (pkA (acts.getD (↑k:Int).toNat (TAct.mk (0:UInt8) (0:UInt8) (0:UInt8) (0:UInt8) (0:UInt8) (Packet.mk (0:Int) (0:UInt64) (0:UInt64) [] (0:UInt64) [] []) (0:UInt64)))).to) (zN coins i j acts k).fst (rfB (zN coins i j acts k).fst (Packet.mk (pkA (acts.getD (↑k:Int).toNat (TAct.mk (0:UInt8) (0:UInt8) (0:UInt8) (0:UInt8) (0:UInt8) (Packet.mk (0:Int) (0:UInt64) (0:UInt64) [] (0:UInt64) [] []) (0:UInt64)))).channel (pkA (acts.getD (↑k:Int).toNat (TAct.mk (0:UInt8) (0:UInt8) (0:UInt8) (0:UInt8) (0:UInt8) (Packet.mk (0:Int) (0:UInt64) (0:UInt64) [] (0:UInt64) [] []) (0:UInt64)))).seq (pkA (acts.getD (↑k:Int).toNat (TAct.mk (0:UInt8) (0:UInt8) (0:UInt8) (0:UInt8) (0:UInt8) (Packet.mk (0:Int) (0:UInt64) (0:UInt64) [] (0:UInt64) [] []) (0:UInt64)))).timeout (pkA (acts.getD (↑k:Int).toNat (TAct.mk (0:UInt8) (0:UInt8) (0:UInt8) (0:UInt8) (0:UInt8) (Packet.mk (0:Int) (0:UInt64) (0:UInt64) [] (0:UInt64) [] []) (0:UInt64)))).denom (pkA (acts.getD (↑k:Int).toNat (TAct.mk (0:UInt8) (0:UInt8) (0:UInt8) (0:UInt8) (0:UInt8) (Packet.mk (0:Int) (0:UInt64) (0:UInt64) [] (0:UInt64) [] []) (0:UInt64)))).amount (pkA (acts.getD (↑k:Int).toNat (TAct.mk (0:UInt8) (0:UInt8) (0:UInt8) (0:UInt8) (0:UInt8) (Packet.mk (0:Int) (0:UInt64) (0:UInt64) [] (0:UInt64) [] []) (0:UInt64)))).from_ (pkA (acts.getD (↑k:Int).toNat (TAct.mk (0:UInt8) (0:UInt8) (0:UInt8) (0:UInt8) (0:UInt8) (Packet.mk (0:Int) (0:UInt64) (0:UInt64) [] (0:UInt64) [] []) (0:UInt64)))).to)))) rfl (fun g67 p68=>?_)
           have p68:True:=p68
           refine v_call _ [24,18] (RAll_ok (lrfL (zN coins i j acts k).snd (Packet.mk (pkA (acts.getD (↑k:Int).toNat (TAct.mk 0 0 0 0 0 (Packet.mk 0 0 0 [] 0 [] []) 0))).channel (pkA (acts.getD (↑k:Int).toNat (TAct.mk 0 0 0 0 0 (Packet.mk 0 0 0 [] 0 [] []) 0))).seq (pkA (acts.getD (↑k:Int).toNat (TAct.mk 0 0 0 0 0 (Packet.mk 0 0 0 [] 0 [] []) 0))).timeout (pkA (acts.getD (↑k:Int).toNat (TAct.mk 0 0 0 0 0 (Packet.mk 0 0 0 [] 0 [] []) 0))).denom (pkA (acts.getD (↑k:Int).toNat (TAct.mk 0 0 0 0 0 (Packet.mk 0 0 0 [] 0 [] []) 0))).amount (pkA (acts.getD (↑k:Int).toNat (TAct.mk 0 0 0 0 0 (Packet.mk 0 0 0 [] 0 [] []) 0))).from_ (pkA (acts.getD (↑k:Int).toNat (TAct.mk 0 0 0 0 0 (Packet.mk 0 0 0 [] 0 [] []) 0))).to)) (by with_reducible exact qrf2 ‹_› ‹_›)) ((lrfL (zN coins i j acts k).snd (Packet.mk (pkA (acts.getD (↑k:Int).toNat (TAct.mk 0 0 0 0 0 (Packet.mk 0 0 0 [] 0 [] []) 0))).channel (pkA (acts.getD (↑k:Int).toNat (TAct.mk 0 0 0 0 0 (Packet.mk 0 0 0 [] 0 [] []) 0))).seq (pkA (acts.getD (↑k:Int).toNat (TAct.mk 0 0 0 0 0 (Packet.mk 0 0 0 [] 0 [] []) 0))).timeout (pkA (acts.getD (↑k:Int).toNat (TAct.mk 0 0 0 0 0 (Packet.mk 0 0 0 [] 0 [] []) 0))).denom (pkA (acts.getD (↑k:Int).toNat (TAct.mk 0 0 0 0 0 (Packet.mk 0 0 0 [] 0 [] []) 0))).amount (pkA (acts.getD (↑k:Int).toNat (TAct.mk 0 0 0 0 0 (Packet.mk 0 0 0 [] 0 [] []) 0))).from_ (pkA (acts.getD (↑k:Int).toNat (TAct.mk 0 0 0 0 0 (Packet.mk 0 0 0 [] 0 [] []) 0))).to)=lrfL (zN coins i j acts k).snd (Packet.mk (pkA (acts.getD (↑k:Int).toNat (TAct.mk 0 0 0 0 0 (Packet.mk 0 0 0 [] 0 [] []) 0))).channel (pkA (acts.getD (↑k:Int).toNat (TAct.mk 0 0 0 0 0 (Packet.mk 0 0 0 [] 0 [] []) 0))).seq (pkA (acts.getD (↑k:Int).toNat (TAct.mk 0 0 0 0 0 (Packet.mk 0 0 0 [] 0 [] []) 0))).timeout (pkA (acts.getD (↑k:Int).toNat (TAct.mk 0 0 0 0 0 (Packet.mk 0 0 0 [] 0 [] []) 0))).denom (pkA (acts.getD (↑k:Int).toNat (TAct.mk 0 0 0 0 0 (Packet.mk 0 0 0 [] 0 [] []) 0))).amount (pkA (acts.getD (↑k:Int).toNat (TAct.mk 0 0 0 0 0 (Packet.mk 0 0 0 [] 0 [] []) 0))).from_ (pkA (acts.getD (↑k:Int).toNat (TAct.mk 0 0 0 0 0 (Packet.mk 0 0 0 [] 0 [] []) 0))).to))) rfl (fun g69 p70=>?_)
           have p70:True:=p70
           refine v_call _ [25,26] (Same_ok (allL (coinsB (tB (Packet.mk (pkA (acts.getD (↑k:Int).toNat (TAct.mk 0 0 0 0 0 (Packet.mk 0 0 0 [] 0 [] []) 0))).channel (pkA (acts.getD (↑k:Int).toNat (TAct.mk 0 0 0 0 0 (Packet.mk 0 0 0 [] 0 [] []) 0))).seq (pkA (acts.getD (↑k:Int).toNat (TAct.mk 0 0 0 0 0 (Packet.mk 0 0 0 [] 0 [] []) 0))).timeout (pkA (acts.getD (↑k:Int).toNat (TAct.mk 0 0 0 0 0 (Packet.mk 0 0 0 [] 0 [] []) 0))).denom (pkA (acts.getD (↑k:Int).toNat (TAct.mk 0 0 0 0 0 (Packet.mk 0 0 0 [] 0 [] []) 0))).amount (pkA (acts.getD (↑k:Int).toNat (TAct.mk 0 0 0 0 0 (Packet.mk 0 0 0 [] 0 [] []) 0))).from_ (pkA (acts.getD (↑k:Int).toNat (TAct.mk 0 0 0 0 0 (Packet.mk 0 0 0 [] 0 [] []) 0))).to) (zN coins i j acts k).fst (rfB (zN coins i j acts k).fst (Packet.mk (pkA (acts.getD (↑k:Int).toNat (TAct.mk 0 0 0 0 0 (Packet.mk 0 0 0 [] 0 [] []) 0))).channel (pkA (acts.getD (↑k:Int).toNat (TAct.mk 0 0 0 0 0 (Packet.mk 0 0 0 [] 0 [] []) 0))).seq (pkA (acts.getD (↑k:Int).toNat (TAct.mk 0 0 0 0 0 (Packet.mk 0 0 0 [] 0 [] []) 0))).timeout (pkA (acts.getD (↑k:Int).toNat (TAct.mk 0 0 0 0 0 (Packet.mk 0 0 0 [] 0 [] []) 0))).denom (pkA (acts.getD (↑k:Int).toNat (TAct.mk 0 0 0 0 0 (Packet.mk 0 0 0 [] 0 [] []) 0))).amount (pkA (acts.getD (↑k:Int).toNat (TAct.mk 0 0 0 0 0 (Packet.mk 0 0 0 [] 0 [] []) 0))).from_ (pkA (acts.getD (↑k:Int).toNat (TAct.mk 0 0 0 0 0 (Packet.mk 0 0 0 [] 0 [] []) 0))).to))))) (allL (lrfL (zN coins i j acts k).snd (Packet.mk (pkA (acts.getD (↑k:Int).toNat (TAct.mk 0 0 0 0 0 (Packet.mk 0 0 0 [] 0 [] []) 0))).channel (pkA (acts.getD (↑k:Int).toNat (TAct.mk 0 0 0 0 0 (Packet.mk 0 0 0 [] 0 [] []) 0))).seq (pkA (acts.getD (↑k:Int).toNat (TAct.mk 0 0 0 0 0 (Packet.mk 0 0 0 [] 0 [] []) 0))).timeout (pkA (acts.getD (↑k:Int).toNat (TAct.mk 0 0 0 0 0 (Packet.mk 0 0 0 [] 0 [] []) 0))).denom (pkA (acts.getD (↑k:Int).toNat (TAct.mk 0 0 0 0 0 (Packet.mk 0 0 0 [] 0 [] []) 0))).amount (pkA (acts.getD (↑k:Int).toNat (TAct.mk 0 0 0 0 0 (Packet.mk 0 0 0 [] 0 [] []) 0))).from_ (pkA (acts.getD (↑k:Int).toNat (TAct.mk 0 0 0 0 0 (Packet.mk 0 0 0 [] 0 [] []) 0))).to))) (by with_reducible exact qrf3 ‹_› ‹_›)) ((allL (coinsB (tB (Packet.mk (pkA (acts.getD (↑k:Int).toNat (TAct.mk 0 0 0 0 0 (Packet.mk 0 0 0 [] 0 [] []) 0))).channel (pkA (acts.getD (↑k:Int).toNat (TAct.mk 0 0 0 0 0 (Packet.mk 0 0 0 [] 0 [] []) 0))).seq (pkA (acts.getD (↑k:Int).toNat (TAct.mk 0 0 0 0 0 (Packet.mk 0 0 0 [] 0 [] []) 0))).timeout (pkA (acts.getD (↑k:Int).toNat (TAct.mk 0 0 0 0 0 (Packet.mk 0 0 0 [] 0 [] []) 0))).denom (pkA (acts.getD (↑k:Int).toNat (TAct.mk 0 0 0 0 0 (Packet.mk 0 0 0 [] 0 [] []) 0))).amount (pkA (acts.getD (↑k:Int).toNat (TAct.mk 0 0 0 0 0 (Packet.mk 0 0 0 [] 0 [] []) 0))).from_ (pkA (acts.getD (↑k:Int).toNat (TAct.mk 0 0 0 0 0 (Packet.mk 0 0 0 [] 0 [] []) 0))).to) (zN coins i j acts k).fst (rfB (zN coins i j acts k).fst (Packet.mk (pkA (acts.getD (↑k:Int).toNat (TAct.mk 0 0 0 0 0 (Packet.mk 0 0 0 [] 0 [] []) 0))).channel (pkA (acts.getD (↑k:Int).toNat (TAct.mk 0 0 0 0 0 (Packet.mk 0 0 0 [] 0 [] []) 0))).seq (pkA (acts.getD (↑k:Int).toNat (TAct.mk 0 0 0 0 0 (Packet.mk 0 0 0 [] 0 [] []) 0))).timeout (pkA (acts.getD (↑k:Int).toNat (TAct.mk 0 0 0 0 0 (Packet.mk 0 0 0 [] 0 [] []) 0))).denom (pkA (acts.getD (↑k:Int).toNat (TAct.mk 0 0 0 0 0 (Packet.mk 0 0 0 [] 0 [] []) 0))).amount (pkA (acts.getD (↑k:Int).toNat (TAct.mk 0 0 0 0 0 (Packet.mk 0 0 0 [] 0 [] []) 0))).from_ (pkA (acts.getD (↑k:Int).toNat (TAct.mk 0 0 0 0 0 (Packet.mk 0 0 0 [] 0 [] []) 0))).to))))=allL (coinsB (tB (Packet.mk (pkA (acts.getD (↑k:Int).toNat (TAct.mk 0 0 0 0 0 (Packet.mk 0 0 0 [] 0 [] []) 0))).channel (pkA (acts.getD (↑k:Int).toNat (TAct.mk 0 0 0 0 0 (Packet.mk 0 0 0 [] 0 [] []) 0))).seq (pkA (acts.getD (↑k:Int).toNat (TAct.mk 0 0 0 0 0 (Packet.mk 0 0 0 [] 0 [] []) 0))).timeout (pkA (acts.getD (↑k:Int).toNat (TAct.mk 0 0 0 0 0 (Packet.mk 0 0 0 [] 0 [] []) 0))).denom (pkA (acts.getD (↑k:Int).toNat (TAct.mk 0 0 0 0 0 (Packet.mk 0 0 0 [] 0 [] []) 0))).amount (pkA (acts.getD (↑k:Int).toNat (TAct.mk 0 0 0 0 0 (Packet.mk 0 0 0 [] 0 [] []) 0))).from_ (pkA (acts.getD (↑k:Int).toNat (TAct.mk 0 0 0 0 0 (Packet.mk 0 0 0 [] 0 [] []) 0))).to) (zN coins i j acts k).fst (rfB (zN coins i j acts k).fst (Packet.mk (pkA (acts.getD (↑k:Int).toNat (TAct.mk 0 0 0 0 0 (Packet.mk 0 0 0 [] 0 [] []) 0))).channel (pkA (acts.getD (↑k:Int).toNat (TAct.mk 0 0 0 0 0 (Packet.mk 0 0 0 [] 0 [] []) 0))).seq (pkA (acts.getD (↑k:Int).toNat (TAct.mk 0 0 0 0 0 (Packet.mk 0 0 0 [] 0 [] []) 0))).timeout (pkA (acts.getD (↑k:Int).toNat (TAct.mk 0 0 0 0 0 (Packet.mk 0 0 0 [] 0 [] []) 0))).denom (pkA (acts.getD (↑k:Int).toNat (TAct.mk 0 0 0 0 0 (Packet.mk 0 0 0 [] 0 [] []) 0))).amount (pkA (acts.getD (↑k:Int).toNat (TAct.mk 0 0 0 0 0 (Packet.mk 0 0 0 [] 0 [] []) 0))).from_ (pkA (acts.getD (↑k:Int).toNat (TAct.mk 0 0 0 0 0 (Packet.mk 0 0 0 [] 0 [] []) 0))).to)))))∧(allL (lrfL (zN coins i j acts k).snd (Packet.mk (pkA (acts.getD (↑k:Int).toNat (TAct.mk 0 0 0 0 0 (Packet.mk 0 0 0 [] 0 [] []) 0))).channel (pkA (acts.getD (↑k:Int).toNat (TAct.mk 0 0 0 0 0 (Packet.mk 0 0 0 [] 0 [] []) 0))).seq (pkA (acts.getD (↑k:Int).toNat (TAct.mk 0 0 0 0 0 (Packet.mk 0 0 0 [] 0 [] []) 0))).timeout (pkA (acts.getD (↑k:Int).toNat (TAct.mk 0 0 0 0 0 (Packet.mk 0 0 0 [] 0 [] []) 0))).denom (pkA (acts.getD (↑k:Int).toNat (TAct.mk 0 0 0 0 0 (Packet.mk 0 0 0 [] 0 [] []) 0))).amount (pkA (acts.getD (↑k:Int).toNat (TAct.mk 0 0 0 0 0 (Packet.mk 0 0 0 [] 0 [] []) 0))).from_ (pkA (acts.getD (↑k:Int).toNat (TAct.mk 0 0 0 0 0 (Packet.mk 0 0 0 [] 0 [] []) 0))).to))=allL (lrfL (zN coins i j acts k).snd (Packet.mk (pkA (acts.getD (↑k:Int).toNat (TAct.mk 0 0 0 0 0 (Packet.mk 0 0 0 [] 0 [] []) 0))).channel (pkA (acts.getD (↑k:Int).toNat (TAct.mk 0 0 0 0 0 (Packet.mk 0 0 0 [] 0 [] []) 0))).seq (pkA (acts.getD (↑k:Int).toNat (TAct.mk 0 0 0 0 0 (Packet.mk 0 0 0 [] 0 [] []) 0))).timeout (pkA (acts.getD (↑k:Int).toNat (TAct.mk 0 0 0 0 0 (Packet.mk 0 0 0 [] 0 [] []) 0))).denom (pkA (acts.getD (↑k:Int).toNat (TAct.mk 0 0 0 0 0 (Packet.mk 0 0 0 [] 0 [] []) 0))).amount (pkA (acts.getD (↑k:Int).toNat (TAct.mk 0 0 0 0 0 (Packet.mk 0 0 0 [] 0 [] []) 0))).from_ (pkA (acts.getD (↑k:Int).toNat (TAct.mk 0 0 0 0 0 (Packet.mk 0 0 0 [] 0 [] []) 0))).to)))) ⟨rfl,rfl⟩ (fun g71 p72=>?_)
           have p72:True:=p72
           refine v_if (!decide (allL (coinsB (tB (Packet.mk (pkA (acts.getD (↑k:Int).toNat (TAct.mk 0 0 0 0 0 (Packet.mk 0 0 0 [] 0 [] []) 0))).channel (pkA (acts.getD (↑k:Int).toNat (TAct.mk 0 0 0 0 0 (Packet.mk 0 0 0 [] 0 [] []) 0))).seq (pkA (acts.getD (↑k:Int).toNat (TAct.mk 0 0 0 0 0 (Packet.mk 0 0 0 [] 0 [] []) 0))).timeout (pkA (acts.getD (↑k:Int).toNat (TAct.mk 0 0 0 0 0 (Packet.mk 0 0 0 [] 0 [] []) 0))).denom (pkA (acts.getD (↑k:Int).toNat (TAct.mk 0 0 0 0 0 (Packet.mk 0 0 0 [] 0 [] []) 0))).amount (pkA (acts.getD (↑k:Int).toNat (TAct.mk 0 0 0 0 0 (Packet.mk 0 0 0 [] 0 [] []) 0))).from_ (pkA (acts.getD (↑k:Int).toNat (TAct.mk 0 0 0 0 0 (Packet.mk 0 0 0 [] 0 [] []) 0))).to) (zN coins i j acts k).fst (rfB (zN coins i j acts k).fst (Packet.mk (pkA (acts.getD (↑k:Int).toNat (TAct.mk 0 0 0 0 0 (Packet.mk 0 0 0 [] 0 [] []) 0))).channel (pkA (acts.getD (↑k:Int).toNat (TAct.mk 0 0 0 0 0 (Packet.mk 0 0 0 [] 0 [] []) 0))).seq (pkA (acts.getD (↑k:Int).toNat (TAct.mk 0 0 0 0 0 (Packet.mk 0 0 0 [] 0 [] []) 0))).timeout (pkA (acts.getD (↑k:Int).toNat (TAct.mk 0 0 0 0 0 (Packet.mk 0 0 0 [] 0 [] []) 0))).denom (pkA (acts.getD (↑k:Int).toNat (TAct.mk 0 0 0 0 0 (Packet.mk 0 0 0 [] 0 [] []) 0))).amount (pkA (acts.getD (↑k:Int).toNat (TAct.mk 0 0 0 0 0 (Packet.mk 0 0 0 [] 0 [] []) 0))).from_ (pkA (acts.getD (↑k:Int).toNat (TAct.mk 0 0 0 0 0 (Packet.mk 0 0 0 [] 0 [] []) 0))).to))))=allL (lrfL (zN coins i j acts k).snd (Packet.mk (pkA (acts.getD (↑k:Int).toNat (TAct.mk 0 0 0 0 0 (Packet.mk 0 0 0 [] 0 [] []) 0))).channel (pkA (acts.getD (↑k:Int).toNat (TAct.mk 0 0 0 0 0 (Packet.mk 0 0 0 [] 0 [] []) 0))).seq (pkA (acts.getD (↑k:Int).toNat (TAct.mk 0 0 0 0 0 (Packet.mk 0 0 0 [] 0 [] []) 0))).timeout (pkA (acts.getD (↑k:Int).toNat (TAct.mk 0 0 0 0 0 (Packet.mk 0 0 0 [] 0 [] []) 0))).denom (pkA (acts.getD (↑k:Int).toNat (TAct.mk 0 0 0 0 0 (Packet.mk 0 0 0 [] 0 [] []) 0))).amount (pkA (acts.getD (↑k:Int).toNat (TAct.mk 0 0 0 0 0 (Packet.mk 0 0 0 [] 0 [] []) 0))).from_ (pkA (acts.getD (↑k:Int).toNat (TAct.mk 0 0 0 0 0 (Packet.mk 0 0 0 [] 0 [] []) 0))).to)))) True trivial (fun h73=>?_) (fun h73=>?_)
           ·have h73:=of_decide_eq_false (nt h73)
            exfalso;with_reducible exact(krf2 ‹_›).elim
           ·have h73:=of_decide_eq_true (nf h73)
            exact v_back (k+1) [16,17,18,24] ((I64 (↑k+1))∧((↑k:Int)+1=(↑(k+1):Int))∧(tB (Packet.mk (pkA (acts.getD (↑k:Int).toNat (TAct.mk (0:UInt8) (0:UInt8) (0:UInt8) (0:UInt8) (0:UInt8) (Packet.mk (0:Int) (0:UInt64) (0:UInt64) [] (0:UInt64) [] []) (0:UInt64)))).channel (pkA (acts.getD (↑k:Int).toNat (TAct.mk (0:UInt8) (0:UInt8) (0:UInt8) (0:UInt8) (0:UInt8) (Packet.mk (0:Int) (0:UInt64) (0:UInt64) [] (0:UInt64) [] []) (0:UInt64)))).seq (pkA (acts.getD (↑k:Int).toNat (TAct.mk (0:UInt8) (0:UInt8) (0:UInt8) (0:UInt8) (0:UInt8) (Packet.mk (0:Int) (0:UInt64) (0:UInt64) [] (0:UInt64) [] []) (0:UInt64)))).timeout (pkA (acts.getD (↑k:Int).toNat (TAct.mk (0:UInt8) (0:UInt8) (0:UInt8) (0:UInt8) (0:UInt8) (Packet.mk (0:Int) (0:UInt64) (0:UInt64) [] (0:UInt64) [] []) (0:UInt64)))).denom (pkA (acts.getD (↑k:Int).toNat (TAct.mk (0:UInt8) (0:UInt8) (0:UInt8) (0:UInt8) (0:UInt8) (Packet.mk (0:Int) (0:UInt64) (0:UInt64) [] (0:UInt64) [] []) (0:UInt64)))).amount (pkA (acts.getD (↑k:Int).toNat (TAct.mk (0:UInt8) (0:UInt8) (0:UInt8) (0:UInt8) (0:UInt8) (Packet.mk (0:Int) (0:UInt64) (0:UInt64) [] (0:UInt64) [] []) (0:UInt64)))).from_ (pkA (acts.getD (↑k:Int).toNat (TAct.mk (0:UInt8) (0:UInt8) (0:UInt8) (0:UInt8) (0:UInt8) (Packet.mk (0:Int) (0:UInt64) (0:UInt64) [] (0:UInt64) [] []) (0:UInt64)))).to) (zN coins i j acts k).fst (rfB (zN coins i j acts k).fst (Packet.mk (pkA (acts.getD (↑k:Int).toNat (TAct.mk (0:UInt8) (0:UInt8) (0:UInt8) (0:UInt8) (0:UInt8) (Packet.mk (0:Int) (0:UInt64) (0:UInt64) [] (0:UInt64) [] []) (0:UInt64)))).channel (pkA (acts.getD (↑k:Int).toNat (TAct.mk (0:UInt8) (0:UInt8) (0:UInt8) (0:UInt8) (0:UInt8) (Packet.mk (0:Int) (0:UInt64) (0:UInt64) [] (0:UInt64) [] []) (0:UInt64)))).seq (pkA (acts.getD (↑k:Int).toNat (TAct.mk (0:UInt8) (0:UInt8) (0:UInt8) (0:UInt8) (0:UInt8) (Packet.mk (0:Int) (0:UInt64) (0:UInt64) [] (0:UInt64) [] []) (0:UInt64)))).timeout (pkA (acts.getD (↑k:Int).toNat (TAct.mk (0:UInt8) (0:UInt8) (0:UInt8) (0:UInt8) (0:UInt8) (Packet.mk (0:Int) (0:UInt64) (0:UInt64) [] (0:UInt64) [] []) (0:UInt64)))).denom (pkA (acts.getD (↑k:Int).toNat (TAct.mk (0:UInt8) (0:UInt8) (0:UInt8) (0:UInt8) (0:UInt8) (Packet.mk (0:Int) (0:UInt64) (0:UInt64) [] (0:UInt64) [] []) (0:UInt64)))).amount (pkA (acts.getD (↑k:Int).toNat (TAct.mk (0:UInt8) (0:UInt8) (0:UInt8) (0:UInt8) (0:UInt8) (Packet.mk (0:Int) (0:UInt64) (0:UInt64) [] (0:UInt64) [] []) (0:UInt64)))).from_ (pkA (acts.getD (↑k:Int).toNat (TAct.mk (0:UInt8) (0:UInt8) (0:UInt8) (0:UInt8) (0:UInt8) (Packet.mk (0:Int) (0:UInt64) (0:UInt64) [] (0:UInt64) [] []) (0:UInt64)))).to))=(zN coins i j acts (k+(1:Nat))).fst)∧(lrfL (zN coins i j acts k).snd (Packet.mk (pkA (acts.getD (↑k:Int).toNat (TAct.mk 0 0 0 0 0 (Packet.mk 0 0 0 [] 0 [] []) 0))).channel (pkA (acts.getD (↑k:Int).toNat (TAct.mk 0 0 0 0 0 (Packet.mk 0 0 0 [] 0 [] []) 0))).seq (pkA (acts.getD (↑k:Int).toNat (TAct.mk 0 0 0 0 0 (Packet.mk 0 0 0 [] 0 [] []) 0))).timeout (pkA (acts.getD (↑k:Int).toNat (TAct.mk 0 0 0 0 0 (Packet.mk 0 0 0 [] 0 [] []) 0))).denom (pkA (acts.getD (↑k:Int).toNat (TAct.mk 0 0 0 0 0 (Packet.mk 0 0 0 [] 0 [] []) 0))).amount (pkA (acts.getD (↑k:Int).toNat (TAct.mk 0 0 0 0 0 (Packet.mk 0 0 0 [] 0 [] []) 0))).from_ (pkA (acts.getD (↑k:Int).toNat (TAct.mk 0 0 0 0 0 (Packet.mk 0 0 0 [] 0 [] []) 0))).to)=(zN coins i j acts (k+1)).snd)) ⟨(by(unfold I64;omega)),rfl,(by exact nC1 ‹_› ‹_› ‹_›),(by exact nC2 ‹_› ‹_› ‹_›)⟩ (show(k+1≤acts.length∧k+1≤61)∧acts.length - (k+1)<acts.length - k from(by omega))
         ·have h59:=of_decide_eq_false h59
          refine v_plan (.fs [0,1,3,4] (.o 2 (.o 5 (.fs [6,7] .e)))) [11,21,22] True trivial ?_
          refine v_call _ [17,16] (TSend_ok ((zN coins i j acts k).fst) ((pkA (acts.getD (↑k:Int).toNat (TAct.mk 0 0 0 0 0 (Packet.mk 0 0 0 [] 0 [] []) 0))).channel) ((pkA (acts.getD (↑k:Int).toNat (TAct.mk 0 0 0 0 0 (Packet.mk 0 0 0 [] 0 [] []) 0))).seq) ((pkA (acts.getD (↑k:Int).toNat (TAct.mk 0 0 0 0 0 (Packet.mk 0 0 0 [] 0 [] []) 0))).timeout) ((pkA (acts.getD (↑k:Int).toNat (TAct.mk 0 0 0 0 0 (Packet.mk 0 0 0 [] 0 [] []) 0))).denom) ((pkA (acts.getD (↑k:Int).toNat (TAct.mk 0 0 0 0 0 (Packet.mk 0 0 0 [] 0 [] []) 0))).amount) ((pkA (acts.getD (↑k:Int).toNat (TAct.mk 0 0 0 0 0 (Packet.mk 0 0 0 [] 0 [] []) 0))).from_) ((pkA (acts.getD (↑k:Int).toNat (TAct.mk 0 0 0 0 0 (Packet.mk 0 0 0 [] 0 [] []) 0))).to) (by exact(hA _).1) (by exact(hA _).2.1) (by exact(hA _).2.2)) (((pkA (acts.getD (↑k:Int).toNat (TAct.mk 0 0 0 0 0 (Packet.mk 0 0 0 [] 0 [] []) 0))).channel=(pkA (acts.getD (↑k:Int).toNat (TAct.mk 0 0 0 0 0 (Packet.mk 0 0 0 [] 0 [] []) 0))).channel)∧((pkA (acts.getD (↑k:Int).toNat (TAct.mk 0 0 0 0 0 (Packet.mk 0 0 0 [] 0 [] []) 0))).seq=(pkA (acts.getD (↑k:Int).toNat (TAct.mk 0 0 0 0 0 (Packet.mk 0 0 0 [] 0 [] []) 0))).seq)∧((pkA (acts.getD (↑k:Int).toNat (TAct.mk 0 0 0 0 0 (Packet.mk 0 0 0 [] 0 [] []) 0))).timeout=(pkA (acts.getD (↑k:Int).toNat (TAct.mk 0 0 0 0 0 (Packet.mk 0 0 0 [] 0 [] []) 0))).timeout)∧((pkA (acts.getD (↑k:Int).toNat (TAct.mk 0 0 0 0 0 (Packet.mk 0 0 0 [] 0 [] []) 0))).denom=(pkA (acts.getD (↑k:Int).toNat (TAct.mk 0 0 0 0 0 (Packet.mk 0 0 0 [] 0 [] []) 0))).denom)∧((pkA (acts.getD (↑k:Int).toNat (TAct.mk 0 0 0 0 0 (Packet.mk 0 0 0 [] 0 [] []) 0))).amount=(pkA (acts.getD (↑k:Int).toNat (TAct.mk 0 0 0 0 0 (Packet.mk 0 0 0 [] 0 [] []) 0))).amount)∧((pkA (acts.getD (↑k:Int).toNat (TAct.mk 0 0 0 0 0 (Packet.mk 0 0 0 [] 0 [] []) 0))).from_=(pkA (acts.getD (↑k:Int).toNat (TAct.mk 0 0 0 0 0 (Packet.mk 0 0 0 [] 0 [] []) 0))).from_)∧((pkA (acts.getD (↑k:Int).toNat (TAct.mk 0 0 0 0 0 (Packet.mk 0 0 0 [] 0 [] []) 0))).to=(pkA (acts.getD (↑k:Int).toNat (TAct.mk 0 0 0 0 0 (Packet.mk 0 0 0 [] 0 [] []) 0))).to)∧(@Eq (List (Prod (Prod (List UInt8) (List UInt8)) UInt64)) (@Prod.fst BK (List Coin) (zN coins i j acts k)) (@Prod.fst BK (List Coin) (zN coins i j acts k)))) ⟨rfl,rfl,rfl,rfl,rfl,rfl,rfl,rfl⟩ (fun g74 p75=>?_)
          have p75:tQ (Packet.mk (pkA (acts.getD (↑k:Int).toNat (TAct.mk 0 0 0 0 0 (Packet.mk 0 0 0 [] 0 [] []) 0))).channel (pkA (acts.getD (↑k:Int).toNat (TAct.mk 0 0 0 0 0 (Packet.mk 0 0 0 [] 0 [] []) 0))).seq (pkA (acts.getD (↑k:Int).toNat (TAct.mk 0 0 0 0 0 (Packet.mk 0 0 0 [] 0 [] []) 0))).timeout (pkA (acts.getD (↑k:Int).toNat (TAct.mk 0 0 0 0 0 (Packet.mk 0 0 0 [] 0 [] []) 0))).denom (pkA (acts.getD (↑k:Int).toNat (TAct.mk 0 0 0 0 0 (Packet.mk 0 0 0 [] 0 [] []) 0))).amount (pkA (acts.getD (↑k:Int).toNat (TAct.mk 0 0 0 0 0 (Packet.mk 0 0 0 [] 0 [] []) 0))).from_ (pkA (acts.getD (↑k:Int).toNat (TAct.mk 0 0 0 0 0 (Packet.mk 0 0 0 [] 0 [] []) 0))).to) (sdE (zN coins i j acts k).fst (Packet.mk (pkA (acts.getD (↑k:Int).toNat (TAct.mk 0 0 0 0 0 (Packet.mk 0 0 0 [] 0 [] []) 0))).channel (pkA (acts.getD (↑k:Int).toNat (TAct.mk 0 0 0 0 0 (Packet.mk 0 0 0 [] 0 [] []) 0))).seq (pkA (acts.getD (↑k:Int).toNat (TAct.mk 0 0 0 0 0 (Packet.mk 0 0 0 [] 0 [] []) 0))).timeout (pkA (acts.getD (↑k:Int).toNat (TAct.mk 0 0 0 0 0 (Packet.mk 0 0 0 [] 0 [] []) 0))).denom (pkA (acts.getD (↑k:Int).toNat (TAct.mk 0 0 0 0 0 (Packet.mk 0 0 0 [] 0 [] []) 0))).amount (pkA (acts.getD (↑k:Int).toNat (TAct.mk 0 0 0 0 0 (Packet.mk 0 0 0 [] 0 [] []) 0))).from_ (pkA (acts.getD (↑k:Int).toNat (TAct.mk 0 0 0 0 0 (Packet.mk 0 0 0 [] 0 [] []) 0))).to)) g74:=p75
          refine v_call _ [19,18] (RSend_ok ((zN coins i j acts k).snd) ((pkA (acts.getD (↑k:Int).toNat (TAct.mk 0 0 0 0 0 (Packet.mk 0 0 0 [] 0 [] []) 0))).channel) ((pkA (acts.getD (↑k:Int).toNat (TAct.mk 0 0 0 0 0 (Packet.mk 0 0 0 [] 0 [] []) 0))).seq) ((pkA (acts.getD (↑k:Int).toNat (TAct.mk 0 0 0 0 0 (Packet.mk 0 0 0 [] 0 [] []) 0))).timeout) ((pkA (acts.getD (↑k:Int).toNat (TAct.mk 0 0 0 0 0 (Packet.mk 0 0 0 [] 0 [] []) 0))).denom) ((pkA (acts.getD (↑k:Int).toNat (TAct.mk 0 0 0 0 0 (Packet.mk 0 0 0 [] 0 [] []) 0))).amount) ((pkA (acts.getD (↑k:Int).toNat (TAct.mk 0 0 0 0 0 (Packet.mk 0 0 0 [] 0 [] []) 0))).from_) ((pkA (acts.getD (↑k:Int).toNat (TAct.mk 0 0 0 0 0 (Packet.mk 0 0 0 [] 0 [] []) 0))).to) (by exact(hA _).1) (by exact(hA _).2.1) (by exact(hA _).2.2) (by with_reducible exact zll ‹_› ‹_›)) (((pkA (acts.getD (↑k:Int).toNat (TAct.mk 0 0 0 0 0 (Packet.mk 0 0 0 [] 0 [] []) 0))).channel=(pkA (acts.getD (↑k:Int).toNat (TAct.mk 0 0 0 0 0 (Packet.mk 0 0 0 [] 0 [] []) 0))).channel)∧((pkA (acts.getD (↑k:Int).toNat (TAct.mk 0 0 0 0 0 (Packet.mk 0 0 0 [] 0 [] []) 0))).seq=(pkA (acts.getD (↑k:Int).toNat (TAct.mk 0 0 0 0 0 (Packet.mk 0 0 0 [] 0 [] []) 0))).seq)∧((pkA (acts.getD (↑k:Int).toNat (TAct.mk 0 0 0 0 0 (Packet.mk 0 0 0 [] 0 [] []) 0))).timeout=(pkA (acts.getD (↑k:Int).toNat (TAct.mk 0 0 0 0 0 (Packet.mk 0 0 0 [] 0 [] []) 0))).timeout)∧((pkA (acts.getD (↑k:Int).toNat (TAct.mk 0 0 0 0 0 (Packet.mk 0 0 0 [] 0 [] []) 0))).denom=(pkA (acts.getD (↑k:Int).toNat (TAct.mk 0 0 0 0 0 (Packet.mk 0 0 0 [] 0 [] []) 0))).denom)∧((pkA (acts.getD (↑k:Int).toNat (TAct.mk 0 0 0 0 0 (Packet.mk 0 0 0 [] 0 [] []) 0))).amount=(pkA (acts.getD (↑k:Int).toNat (TAct.mk 0 0 0 0 0 (Packet.mk 0 0 0 [] 0 [] []) 0))).amount)∧((pkA (acts.getD (↑k:Int).toNat (TAct.mk 0 0 0 0 0 (Packet.mk 0 0 0 [] 0 [] []) 0))).from_=(pkA (acts.getD (↑k:Int).toNat (TAct.mk 0 0 0 0 0 (Packet.mk 0 0 0 [] 0 [] []) 0))).from_)∧((pkA (acts.getD (↑k:Int).toNat (TAct.mk 0 0 0 0 0 (Packet.mk 0 0 0 [] 0 [] []) 0))).to=(pkA (acts.getD (↑k:Int).toNat (TAct.mk 0 0 0 0 0 (Packet.mk 0 0 0 [] 0 [] []) 0))).to)∧((zN coins i j acts k).snd=(zN coins i j acts k).snd)) ⟨rfl,rfl,rfl,rfl,rfl,rfl,rfl,rfl⟩ (fun g76 p77=>?_)
          have p77:True:=p77
          refine v_call _ [0,23] (Code_ok (g74) (by with_reducible exact sd_dep ‹_›)) ((etP=etP)∧(PE g74=PE g74)∧(g74.isNone=g74.isNone)) ⟨rfl,rfl,rfl⟩ (fun g78 p79=>?_)
          have p79:True:=p79
          refine v_guard 115 (decide (codeO g74≠lsdE (zN coins i j acts k).snd (Packet.mk (pkA (acts.getD (↑k:Int).toNat (TAct.mk 0 0 0 0 0 (Packet.mk 0 0 0 [] 0 [] []) 0))).channel (pkA (acts.getD (↑k:Int).toNat (TAct.mk 0 0 0 0 0 (Packet.mk 0 0 0 [] 0 [] []) 0))).seq (pkA (acts.getD (↑k:Int).toNat (TAct.mk 0 0 0 0 0 (Packet.mk 0 0 0 [] 0 [] []) 0))).timeout (pkA (acts.getD (↑k:Int).toNat (TAct.mk 0 0 0 0 0 (Packet.mk 0 0 0 [] 0 [] []) 0))).denom (pkA (acts.getD (↑k:Int).toNat (TAct.mk 0 0 0 0 0 (Packet.mk 0 0 0 [] 0 [] []) 0))).amount (pkA (acts.getD (↑k:Int).toNat (TAct.mk 0 0 0 0 0 (Packet.mk 0 0 0 [] 0 [] []) 0))).from_ (pkA (acts.getD (↑k:Int).toNat (TAct.mk 0 0 0 0 0 (Packet.mk 0 0 0 [] 0 [] []) 0))).to))) True trivial (fun h80=>?_) (fun h80=>?_)
          ·have h80:=of_decide_eq_true h80
           exfalso;with_reducible exact(ksd1 ‹_› ‹_›).elim
          ·have h80:=of_decide_eq_false h80
           refine v_call _ [17,16] (All_ok (tB (Packet.mk (pkA (acts.getD (↑k:Int).toNat (TAct.mk 0 0 0 0 0 (Packet.mk 0 0 0 [] 0 [] []) 0))).channel (pkA (acts.getD (↑k:Int).toNat (TAct.mk 0 0 0 0 0 (Packet.mk 0 0 0 [] 0 [] []) 0))).seq (pkA (acts.getD (↑k:Int).toNat (TAct.mk 0 0 0 0 0 (Packet.mk 0 0 0 [] 0 [] []) 0))).timeout (pkA (acts.getD (↑k:Int).toNat (TAct.mk 0 0 0 0 0 (Packet.mk 0 0 0 [] 0 [] []) 0))).denom (pkA (acts.getD (↑k:Int).toNat (TAct.mk 0 0 0 0 0 (Packet.mk 0 0 0 [] 0 [] []) 0))).amount (pkA (acts.getD (↑k:Int).toNat (TAct.mk 0 0 0 0 0 (Packet.mk 0 0 0 [] 0 [] []) 0))).from_ (pkA (acts.getD (↑k:Int).toNat (TAct.mk 0 0 0 0 0 (Packet.mk 0 0 0 [] 0 [] []) 0))).to) (zN coins i j acts k).fst (sdB (zN coins i j acts k).fst (Packet.mk (pkA (acts.getD (↑k:Int).toNat (TAct.mk 0 0 0 0 0 (Packet.mk 0 0 0 [] 0 [] []) 0))).channel (pkA (acts.getD (↑k:Int).toNat (TAct.mk 0 0 0 0 0 (Packet.mk 0 0 0 [] 0 [] []) 0))).seq (pkA (acts.getD (↑k:Int).toNat (TAct.mk 0 0 0 0 0 (Packet.mk 0 0 0 [] 0 [] []) 0))).timeout (pkA (acts.getD (↑k:Int).toNat (TAct.mk 0 0 0 0 0 (Packet.mk 0 0 0 [] 0 [] []) 0))).denom (pkA (acts.getD (↑k:Int).toNat (TAct.mk 0 0 0 0 0 (Packet.mk 0 0 0 [] 0 [] []) 0))).amount (pkA (acts.getD (↑k:Int).toNat (TAct.mk 0 0 0 0 0 (Packet.mk 0 0 0 [] 0 [] []) 0))).from_ (pkA (acts.getD (↑k:Int).toNat (TAct.mk 0 0 0 0 0 (Packet.mk 0 0 0 [] 0 [] []) 0))).to))) (by with_reducible exact qsd1 ‹_› ‹_›) (by with_reducible exact qsd0)) ((tB (Packet.mk (pkA (acts.getD (↑k:Int).toNat (TAct.mk (0:UInt8) (0:UInt8) (0:UInt8) (0:UInt8) (0:UInt8) (Packet.mk (0:Int) (0:UInt64) (0:UInt64) [] (0:UInt64) [] []) (0:UInt64)))).channel (pkA (acts.getD (↑k:Int).toNat (TAct.mk (0:UInt8) (0:UInt8) (0:UInt8) (0:UInt8) (0:UInt8) (Packet.mk (0:Int) (0:UInt64) (0:UInt64) [] (0:UInt64) [] []) (0:UInt64)))).seq (pkA (acts.getD (↑k:Int).toNat (TAct.mk (0:UInt8) (0:UInt8) (0:UInt8) (0:UInt8) (0:UInt8) (Packet.mk (0:Int) (0:UInt64) (0:UInt64) [] (0:UInt64) [] []) (0:UInt64)))).timeout (pkA (acts.getD (↑k:Int).toNat (TAct.mk (0:UInt8) (0:UInt8) (0:UInt8) (0:UInt8) (0:UInt8) (Packet.mk (0:Int) (0:UInt64) (0:UInt64) [] (0:UInt64) [] []) (0:UInt64)))).denom (pkA (acts.getD (↑k:Int).toNat (TAct.mk (0:UInt8) (0:UInt8) (0:UInt8) (0:UInt8) (0:UInt8) (Packet.mk (0:Int) (0:UInt64) (0:UInt64) [] (0:UInt64) [] []) (0:UInt64)))).amount (pkA (acts.getD (↑k:Int).toNat (TAct.mk (0:UInt8) (0:UInt8) (0:UInt8) (0:UInt8) (0:UInt8) (Packet.mk (0:Int) (0:UInt64) (0:UInt64) [] (0:UInt64) [] []) (0:UInt64)))).from_ (pkA (acts.getD (↑k:Int).toNat (TAct.mk (0:UInt8) (0:UInt8) (0:UInt8) (0:UInt8) (0:UInt8) (Packet.mk (0:Int) (0:UInt64) (0:UInt64) [] (0:UInt64) [] []) (0:UInt64)))).to) (zN coins i j acts k).fst (sdB (zN coins i j acts k).fst (Packet.mk (pkA (acts.getD (↑k:Int).toNat (TAct.mk (0:UInt8) (0:UInt8) (0:UInt8) (0:UInt8) (0:UInt8) (Packet.mk (0:Int) (0:UInt64) (0:UInt64) [] (0:UInt64) [] []) (0:UInt64)))).channel (pkA (acts.getD (↑k:Int).toNat (TAct.mk (0:UInt8) (0:UInt8) (0:UInt8) (0:UInt8) (0:UInt8) (Packet.mk (0:Int) (0:UInt64) (0:UInt64) [] (0:UInt64) [] []) (0:UInt64)))).seq (pkA (acts.getD (↑k:Int).toNat (TAct.mk (0:UInt8) (0:UInt8) (0:UInt8) (0:UInt8) (0:UInt8) (Packet.mk (0:Int) (0:UInt64) (0:UInt64) [] (0:UInt64) [] []) (0:UInt64)))).timeout (pkA (acts.getD (↑k:Int).toNat (TAct.mk (0:UInt8) (0:UInt8) (0:UInt8) (0:UInt8) (0:UInt8) (Packet.mk (0:Int) (0:UInt64) (0:UInt64) [] (0:UInt64) [] []) (0:UInt64)))).denom (pkA (acts.getD (↑k:Int).toNat (TAct.mk (0:UInt8) (0:UInt8) (0:UInt8) (0:UInt8) (0:UInt8) (Packet.mk (0:Int) (0:UInt64) (0:UInt64) [] (0:UInt64) [] []) (0:UInt64)))).amount (pkA (acts.getD (↑k:Int).toNat (TAct.mk (0:UInt8) (0:UInt8) (0:UInt8) (0:UInt8) (0:UInt8) (Packet.mk (0:Int) (0:UInt64) (0:UInt64) [] (0:UInt64) [] []) (0:UInt64)))).from_ (pkA (acts.getD (↑k:Int).toNat (TAct.mk (0:UInt8) (0:UInt8) (0:UInt8) (0:UInt8) (0:UInt8) (Packet.mk (0:Int) (0:UInt64) (0:UInt64) [] (0:UInt64) [] []) (0:UInt64)))).to))=tB (Packet.mk (pkA (acts.getD (↑k:Int).toNat (TAct.mk (0:UInt8) (0:UInt8) (0:UInt8) (0:UInt8) (0:UInt8) (Packet.mk (0:Int) (0:UInt64) (0:UInt64) [] (0:UInt64) [] []) (0:UInt64)))).channel (pkA (acts.getD (↑k:Int).toNat (TAct.mk (0:UInt8) (0:UInt8) (0:UInt8) (0:UInt8) (0:UInt8) (Packet.mk (0:Int) (0:UInt64) (0:UInt64) [] (0:UInt64) [] []) (0:UInt64)))).seq (pkA (acts.getD (↑k:Int).toNat (TAct.mk (0:UInt8) (0:UInt8) (0:UInt8) (0:UInt8) (0:UInt8) (Packet.mk (0:Int) (0:UInt64) (0:UInt64) [] (0:UInt64) [] []) (0:UInt64)))).timeout (pkA (acts.getD (↑k:Int).toNat (TAct.mk (0:UInt8) (0:UInt8) (0:UInt8) (0:UInt8) (0:UInt8) (Packet.mk (0:Int) (0:UInt64) (0:UInt64) [] (0:UInt64) [] []) (0:UInt64)))).denom (pkA (acts.getD (↑k:Int).toNat (TAct.mk (0:UInt8) (0:UInt8) (0:UInt8) (0:UInt8) (0:UInt8) (Packet.mk (0:Int) (0:UInt64) (0:UInt64) [] (0:UInt64) [] []) (0:UInt64)))).amount (pkA (acts.getD (↑k:Int).toNat (TAct.mk (0:UInt8) (0:UInt8) (0:UInt8) (0:UInt8) (0:UInt8) (Packet.mk (0:Int) (0:UInt64) (0:UInt64) [] (0:UInt64) [] []) (0:UInt64)))).from_ (pkA (acts.getD (↑k:Int).toNat (TAct.mk (0:UInt8) (0:UInt8) (0:UInt8) (0:UInt8) (0:UInt8) (Packet.mk (0:Int) (0:UInt64) (0:UInt64) [] (0:UInt64) [] []) (0:UInt64)))).to) (zN coins i j acts k).fst (sdB (zN coins i j acts k).fst (Packet.mk (pkA (acts.getD (↑k:Int).toNat (TAct.mk (0:UInt8) (0:UInt8) (0:UInt8) (0:UInt8) (0:UInt8) (Packet.mk (0:Int) (0:UInt64) (0:UInt64) [] (0:UInt64) [] []) (0:UInt64)))).channel (pkA (acts.getD (↑k:Int).toNat (TAct.mk (0:UInt8) (0:UInt8) (0:UInt8) (0:UInt8) (0:UInt8) (Packet.mk (0:Int) (0:UInt64) (0:UInt64) [] (0:UInt64) [] []) (0:UInt64)))).seq (pkA (acts.getD (↑k:Int).toNat (TAct.mk (0:UInt8) (0:UInt8) (0:UInt8) (0:UInt8) (0:UInt8) (Packet.mk (0:Int) (0:UInt64) (0:UInt64) [] (0:UInt64) [] []) (0:UInt64)))).timeout (pkA (acts.getD (↑k:Int).toNat (TAct.mk (0:UInt8) (0:UInt8) (0:UInt8) (0:UInt8) (0:UInt8) (Packet.mk (0:Int) (0:UInt64) (0:UInt64) [] (0:UInt64) [] []) (0:UInt64)))).denom (pkA (acts.getD (↑k:Int).toNat (TAct.mk (0:UInt8) (0:UInt8) (0:UInt8) (0:UInt8) (0:UInt8) (Packet.mk (0:Int) (0:UInt64) (0:UInt64) [] (0:UInt64) [] []) (0:UInt64)))).amount (pkA (acts.getD (↑k:Int).toNat (TAct.mk (0:UInt8) (0:UInt8) (0:UInt8) (0:UInt8) (0:UInt8) (Packet.mk (0:Int) (0:UInt64) (0:UInt64) [] (0:UInt64) [] []) (0:UInt64)))).from_ (pkA (acts.getD (↑k:Int).toNat (TAct.mk (0:UInt8) (0:UInt8) (0:UInt8) (0:UInt8) (0:UInt8) (Packet.mk (0:Int) (0:UInt64) (0:UInt64) [] (0:UInt64) [] []) (0:UInt64)))).to)))) rfl (fun g81 p82=>?_)
           have p82:True:=p82
           refine v_call _ [24,18] (RAll_ok (lsdL (zN coins i j acts k).snd (Packet.mk (pkA (acts.getD (↑k:Int).toNat (TAct.mk 0 0 0 0 0 (Packet.mk 0 0 0 [] 0 [] []) 0))).channel (pkA (acts.getD (↑k:Int).toNat (TAct.mk 0 0 0 0 0 (Packet.mk 0 0 0 [] 0 [] []) 0))).seq (pkA (acts.getD (↑k:Int).toNat (TAct.mk 0 0 0 0 0 (Packet.mk 0 0 0 [] 0 [] []) 0))).timeout (pkA (acts.getD (↑k:Int).toNat (TAct.mk 0 0 0 0 0 (Packet.mk 0 0 0 [] 0 [] []) 0))).denom (pkA (acts.getD (↑k:Int).toNat (TAct.mk 0 0 0 0 0 (Packet.mk 0 0 0 [] 0 [] []) 0))).amount (pkA (acts.getD (↑k:Int).toNat (TAct.mk 0 0 0 0 0 (Packet.mk 0 0 0 [] 0 [] []) 0))).from_ (pkA (acts.getD (↑k:Int).toNat (TAct.mk 0 0 0 0 0 (Packet.mk 0 0 0 [] 0 [] []) 0))).to)) (by with_reducible exact qsd2 ‹_› ‹_›)) ((lsdL (zN coins i j acts k).snd (Packet.mk (pkA (acts.getD (↑k:Int).toNat (TAct.mk 0 0 0 0 0 (Packet.mk 0 0 0 [] 0 [] []) 0))).channel (pkA (acts.getD (↑k:Int).toNat (TAct.mk 0 0 0 0 0 (Packet.mk 0 0 0 [] 0 [] []) 0))).seq (pkA (acts.getD (↑k:Int).toNat (TAct.mk 0 0 0 0 0 (Packet.mk 0 0 0 [] 0 [] []) 0))).timeout (pkA (acts.getD (↑k:Int).toNat (TAct.mk 0 0 0 0 0 (Packet.mk 0 0 0 [] 0 [] []) 0))).denom (pkA (acts.getD (↑k:Int).toNat (TAct.mk 0 0 0 0 0 (Packet.mk 0 0 0 [] 0 [] []) 0))).amount (pkA (acts.getD (↑k:Int).toNat (TAct.mk 0 0 0 0 0 (Packet.mk 0 0 0 [] 0 [] []) 0))).from_ (pkA (acts.getD (↑k:Int).toNat (TAct.mk 0 0 0 0 0 (Packet.mk 0 0 0 [] 0 [] []) 0))).to)=lsdL (zN coins i j acts k).snd (Packet.mk (pkA (acts.getD (↑k:Int).toNat (TAct.mk 0 0 0 0 0 (Packet.mk 0 0 0 [] 0 [] []) 0))).channel (pkA (acts.getD (↑k:Int).toNat (TAct.mk 0 0 0 0 0 (Packet.mk 0 0 0 [] 0 [] []) 0))).seq (pkA (acts.getD (↑k:Int).toNat (TAct.mk 0 0 0 0 0 (Packet.mk 0 0 0 [] 0 [] []) 0))).timeout (pkA (acts.getD (↑k:Int).toNat (TAct.mk 0 0 0 0 0 (Packet.mk 0 0 0 [] 0 [] []) 0))).denom (pkA (acts.getD (↑k:Int).toNat (TAct.mk 0 0 0 0 0 (Packet.mk 0 0 0 [] 0 [] []) 0))).amount (pkA (acts.getD (↑k:Int).toNat (TAct.mk 0 0 0 0 0 (Packet.mk 0 0 0 [] 0 [] []) 0))).from_ (pkA (acts.getD (↑k:Int).toNat (TAct.mk 0 0 0 0 0 (Packet.mk 0 0 0 [] 0 [] []) 0))).to))) rfl (fun g83 p84=>?_)
           have p84:True:=p84
           refine v_call _ [25,26] (Same_ok (allL (coinsB (tB (Packet.mk (pkA (acts.getD (↑k:Int).toNat (TAct.mk 0 0 0 0 0 (Packet.mk 0 0 0 [] 0 [] []) 0))).channel (pkA (acts.getD (↑k:Int).toNat (TAct.mk 0 0 0 0 0 (Packet.mk 0 0 0 [] 0 [] []) 0))).seq (pkA (acts.getD (↑k:Int).toNat (TAct.mk 0 0 0 0 0 (Packet.mk 0 0 0 [] 0 [] []) 0))).timeout (pkA (acts.getD (↑k:Int).toNat (TAct.mk 0 0 0 0 0 (Packet.mk 0 0 0 [] 0 [] []) 0))).denom (pkA (acts.getD (↑k:Int).toNat (TAct.mk 0 0 0 0 0 (Packet.mk 0 0 0 [] 0 [] []) 0))).amount (pkA (acts.getD (↑k:Int).toNat (TAct.mk 0 0 0 0 0 (Packet.mk 0 0 0 [] 0 [] []) 0))).from_ (pkA (acts.getD (↑k:Int).toNat (TAct.mk 0 0 0 0 0 (Packet.mk 0 0 0 [] 0 [] []) 0))).to) (zN coins i j acts k).fst (sdB (zN coins i j acts k).fst (Packet.mk (pkA (acts.getD (↑k:Int).toNat (TAct.mk 0 0 0 0 0 (Packet.mk 0 0 0 [] 0 [] []) 0))).channel (pkA (acts.getD (↑k:Int).toNat (TAct.mk 0 0 0 0 0 (Packet.mk 0 0 0 [] 0 [] []) 0))).seq (pkA (acts.getD (↑k:Int).toNat (TAct.mk 0 0 0 0 0 (Packet.mk 0 0 0 [] 0 [] []) 0))).timeout (pkA (acts.getD (↑k:Int).toNat (TAct.mk 0 0 0 0 0 (Packet.mk 0 0 0 [] 0 [] []) 0))).denom (pkA (acts.getD (↑k:Int).toNat (TAct.mk 0 0 0 0 0 (Packet.mk 0 0 0 [] 0 [] []) 0))).amount (pkA (acts.getD (↑k:Int).toNat (TAct.mk 0 0 0 0 0 (Packet.mk 0 0 0 [] 0 [] []) 0))).from_ (pkA (acts.getD (↑k:Int).toNat (TAct.mk 0 0 0 0 0 (Packet.mk 0 0 0 [] 0 [] []) 0))).to))))) (allL (lsdL (zN coins i j acts k).snd (Packet.mk (pkA (acts.getD (↑k:Int).toNat (TAct.mk 0 0 0 0 0 (Packet.mk 0 0 0 [] 0 [] []) 0))).channel (pkA (acts.getD (↑k:Int).toNat (TAct.mk 0 0 0 0 0 (Packet.mk 0 0 0 [] 0 [] []) 0))).seq (pkA (acts.getD (↑k:Int).toNat (TAct.mk 0 0 0 0 0 (Packet.mk 0 0 0 [] 0 [] []) 0))).timeout (pkA (acts.getD (↑k:Int).toNat (TAct.mk 0 0 0 0 0 (Packet.mk 0 0 0 [] 0 [] []) 0))).denom (pkA (acts.getD (↑k:Int).toNat (TAct.mk 0 0 0 0 0 (Packet.mk 0 0 0 [] 0 [] []) 0))).amount (pkA (acts.getD (↑k:Int).toNat (TAct.mk 0 0 0 0 0 (Packet.mk 0 0 0 [] 0 [] []) 0))).from_ (pkA (acts.getD (↑k:Int).toNat (TAct.mk 0 0 0 0 0 (Packet.mk 0 0 0 [] 0 [] []) 0))).to))) (by with_reducible exact qsd3 ‹_› ‹_›)) ((allL (coinsB (tB (Packet.mk (pkA (acts.getD (↑k:Int).toNat (TAct.mk 0 0 0 0 0 (Packet.mk 0 0 0 [] 0 [] []) 0))).channel (pkA (acts.getD (↑k:Int).toNat (TAct.mk 0 0 0 0 0 (Packet.mk 0 0 0 [] 0 [] []) 0))).seq (pkA (acts.getD (↑k:Int).toNat (TAct.mk 0 0 0 0 0 (Packet.mk 0 0 0 [] 0 [] []) 0))).timeout (pkA (acts.getD (↑k:Int).toNat (TAct.mk 0 0 0 0 0 (Packet.mk 0 0 0 [] 0 [] []) 0))).denom (pkA (acts.getD (↑k:Int).toNat (TAct.mk 0 0 0 0 0 (Packet.mk 0 0 0 [] 0 [] []) 0))).amount (pkA (acts.getD (↑k:Int).toNat (TAct.mk 0 0 0 0 0 (Packet.mk 0 0 0 [] 0 [] []) 0))).from_ (pkA (acts.getD (↑k:Int).toNat (TAct.mk 0 0 0 0 0 (Packet.mk 0 0 0 [] 0 [] []) 0))).to) (zN coins i j acts k).fst (sdB (zN coins i j acts k).fst (Packet.mk (pkA (acts.getD (↑k:Int).toNat (TAct.mk 0 0 0 0 0 (Packet.mk 0 0 0 [] 0 [] []) 0))).channel (pkA (acts.getD (↑k:Int).toNat (TAct.mk 0 0 0 0 0 (Packet.mk 0 0 0 [] 0 [] []) 0))).seq (pkA (acts.getD (↑k:Int).toNat (TAct.mk 0 0 0 0 0 (Packet.mk 0 0 0 [] 0 [] []) 0))).timeout (pkA (acts.getD (↑k:Int).toNat (TAct.mk 0 0 0 0 0 (Packet.mk 0 0 0 [] 0 [] []) 0))).denom (pkA (acts.getD (↑k:Int).toNat (TAct.mk 0 0 0 0 0 (Packet.mk 0 0 0 [] 0 [] []) 0))).amount (pkA (acts.getD (↑k:Int).toNat (TAct.mk 0 0 0 0 0 (Packet.mk 0 0 0 [] 0 [] []) 0))).from_ (pkA (acts.getD (↑k:Int).toNat (TAct.mk 0 0 0 0 0 (Packet.mk 0 0 0 [] 0 [] []) 0))).to))))=allL (coinsB (tB (Packet.mk (pkA (acts.getD (↑k:Int).toNat (TAct.mk 0 0 0 0 0 (Packet.mk 0 0 0 [] 0 [] []) 0))).channel (pkA (acts.getD (↑k:Int).toNat (TAct.mk 0 0 0 0 0 (Packet.mk 0 0 0 [] 0 [] []) 0))).seq (pkA (acts.getD (↑k:Int).toNat (TAct.mk 0 0 0 0 0 (Packet.mk 0 0 0 [] 0 [] []) 0))).timeout (pkA (acts.getD (↑k:Int).toNat (TAct.mk 0 0 0 0 0 (Packet.mk 0 0 0 [] 0 [] []) 0))).denom (pkA (acts.getD (↑k:Int).toNat (TAct.mk 0 0 0 0 0 (Packet.mk 0 0 0 [] 0 [] []) 0))).amount (pkA (acts.getD (↑k:Int).toNat (TAct.mk 0 0 0 0 0 (Packet.mk 0 0 0 [] 0 [] []) 0))).from_ (pkA (acts.getD (↑k:Int).toNat (TAct.mk 0 0 0 0 0 (Packet.mk 0 0 0 [] 0 [] []) 0))).to) (zN coins i j acts k).fst (sdB (zN coins i j acts k).fst (Packet.mk (pkA (acts.getD (↑k:Int).toNat (TAct.mk 0 0 0 0 0 (Packet.mk 0 0 0 [] 0 [] []) 0))).channel (pkA (acts.getD (↑k:Int).toNat (TAct.mk 0 0 0 0 0 (Packet.mk 0 0 0 [] 0 [] []) 0))).seq (pkA (acts.getD (↑k:Int).toNat (TAct.mk 0 0 0 0 0 (Packet.mk 0 0 0 [] 0 [] []) 0))).timeout (pkA (acts.getD (↑k:Int).toNat (TAct.mk 0 0 0 0 0 (Packet.mk 0 0 0 [] 0 [] []) 0))).denom (pkA (acts.getD (↑k:Int).toNat (TAct.mk 0 0 0 0 0 (Packet.mk 0 0 0 [] 0 [] []) 0))).amount (pkA (acts.getD (↑k:Int).toNat (TAct.mk 0 0 0 0 0 (Packet.mk 0 0 0 [] 0 [] []) 0))).from_ (pkA (acts.getD (↑k:Int).toNat (TAct.mk 0 0 0 0 0 (Packet.mk 0 0 0 [] 0 [] []) 0))).to)))))∧(allL (lsdL (zN coins i j acts k).snd (Packet.mk (pkA (acts.getD (↑k:Int).toNat (TAct.mk 0 0 0 0 0 (Packet.mk 0 0 0 [] 0 [] []) 0))).channel (pkA (acts.getD (↑k:Int).toNat (TAct.mk 0 0 0 0 0 (Packet.mk 0 0 0 [] 0 [] []) 0))).seq (pkA (acts.getD (↑k:Int).toNat (TAct.mk 0 0 0 0 0 (Packet.mk 0 0 0 [] 0 [] []) 0))).timeout (pkA (acts.getD (↑k:Int).toNat (TAct.mk 0 0 0 0 0 (Packet.mk 0 0 0 [] 0 [] []) 0))).denom (pkA (acts.getD (↑k:Int).toNat (TAct.mk 0 0 0 0 0 (Packet.mk 0 0 0 [] 0 [] []) 0))).amount (pkA (acts.getD (↑k:Int).toNat (TAct.mk 0 0 0 0 0 (Packet.mk 0 0 0 [] 0 [] []) 0))).from_ (pkA (acts.getD (↑k:Int).toNat (TAct.mk 0 0 0 0 0 (Packet.mk 0 0 0 [] 0 [] []) 0))).to))=allL (lsdL (zN coins i j acts k).snd (Packet.mk (pkA (acts.getD (↑k:Int).toNat (TAct.mk 0 0 0 0 0 (Packet.mk 0 0 0 [] 0 [] []) 0))).channel (pkA (acts.getD (↑k:Int).toNat (TAct.mk 0 0 0 0 0 (Packet.mk 0 0 0 [] 0 [] []) 0))).seq (pkA (acts.getD (↑k:Int).toNat (TAct.mk 0 0 0 0 0 (Packet.mk 0 0 0 [] 0 [] []) 0))).timeout (pkA (acts.getD (↑k:Int).toNat (TAct.mk 0 0 0 0 0 (Packet.mk 0 0 0 [] 0 [] []) 0))).denom (pkA (acts.getD (↑k:Int).toNat (TAct.mk 0 0 0 0 0 (Packet.mk 0 0 0 [] 0 [] []) 0))).amount (pkA (acts.getD (↑k:Int).toNat (TAct.mk 0 0 0 0 0 (Packet.mk 0 0 0 [] 0 [] []) 0))).from_ (pkA (acts.getD (↑k:Int).toNat (TAct.mk 0 0 0 0 0 (Packet.mk 0 0 0 [] 0 [] []) 0))).to)))) ⟨rfl,rfl⟩ (fun g85 p86=>?_)
           have p86:True:=p86
           refine v_if (!decide (allL (coinsB (tB (Packet.mk (pkA (acts.getD (↑k:Int).toNat (TAct.mk 0 0 0 0 0 (Packet.mk 0 0 0 [] 0 [] []) 0))).channel (pkA (acts.getD (↑k:Int).toNat (TAct.mk 0 0 0 0 0 (Packet.mk 0 0 0 [] 0 [] []) 0))).seq (pkA (acts.getD (↑k:Int).toNat (TAct.mk 0 0 0 0 0 (Packet.mk 0 0 0 [] 0 [] []) 0))).timeout (pkA (acts.getD (↑k:Int).toNat (TAct.mk 0 0 0 0 0 (Packet.mk 0 0 0 [] 0 [] []) 0))).denom (pkA (acts.getD (↑k:Int).toNat (TAct.mk 0 0 0 0 0 (Packet.mk 0 0 0 [] 0 [] []) 0))).amount (pkA (acts.getD (↑k:Int).toNat (TAct.mk 0 0 0 0 0 (Packet.mk 0 0 0 [] 0 [] []) 0))).from_ (pkA (acts.getD (↑k:Int).toNat (TAct.mk 0 0 0 0 0 (Packet.mk 0 0 0 [] 0 [] []) 0))).to) (zN coins i j acts k).fst (sdB (zN coins i j acts k).fst (Packet.mk (pkA (acts.getD (↑k:Int).toNat (TAct.mk 0 0 0 0 0 (Packet.mk 0 0 0 [] 0 [] []) 0))).channel (pkA (acts.getD (↑k:Int).toNat (TAct.mk 0 0 0 0 0 (Packet.mk 0 0 0 [] 0 [] []) 0))).seq (pkA (acts.getD (↑k:Int).toNat (TAct.mk 0 0 0 0 0 (Packet.mk 0 0 0 [] 0 [] []) 0))).timeout (pkA (acts.getD (↑k:Int).toNat (TAct.mk 0 0 0 0 0 (Packet.mk 0 0 0 [] 0 [] []) 0))).denom (pkA (acts.getD (↑k:Int).toNat (TAct.mk 0 0 0 0 0 (Packet.mk 0 0 0 [] 0 [] []) 0))).amount (pkA (acts.getD (↑k:Int).toNat (TAct.mk 0 0 0 0 0 (Packet.mk 0 0 0 [] 0 [] []) 0))).from_ (pkA (acts.getD (↑k:Int).toNat (TAct.mk 0 0 0 0 0 (Packet.mk 0 0 0 [] 0 [] []) 0))).to))))=allL (lsdL (zN coins i j acts k).snd (Packet.mk (pkA (acts.getD (↑k:Int).toNat (TAct.mk 0 0 0 0 0 (Packet.mk 0 0 0 [] 0 [] []) 0))).channel (pkA (acts.getD (↑k:Int).toNat (TAct.mk 0 0 0 0 0 (Packet.mk 0 0 0 [] 0 [] []) 0))).seq (pkA (acts.getD (↑k:Int).toNat (TAct.mk 0 0 0 0 0 (Packet.mk 0 0 0 [] 0 [] []) 0))).timeout (pkA (acts.getD (↑k:Int).toNat (TAct.mk 0 0 0 0 0 (Packet.mk 0 0 0 [] 0 [] []) 0))).denom (pkA (acts.getD (↑k:Int).toNat (TAct.mk 0 0 0 0 0 (Packet.mk 0 0 0 [] 0 [] []) 0))).amount (pkA (acts.getD (↑k:Int).toNat (TAct.mk 0 0 0 0 0 (Packet.mk 0 0 0 [] 0 [] []) 0))).from_ (pkA (acts.getD (↑k:Int).toNat (TAct.mk 0 0 0 0 0 (Packet.mk 0 0 0 [] 0 [] []) 0))).to)))) True trivial (fun h87=>?_) (fun h87=>?_)
           ·have h87:=of_decide_eq_false (nt h87)
            exfalso;with_reducible exact(ksd2 ‹_›).elim
           ·have h87:=of_decide_eq_true (nf h87)
            exact v_back (k+1) [16,17,18,24] ((I64 (↑k+1))∧((↑k:Int)+1=(↑(k+1):Int))∧(tB (Packet.mk (pkA (acts.getD (↑k:Int).toNat (TAct.mk (0:UInt8) (0:UInt8) (0:UInt8) (0:UInt8) (0:UInt8) (Packet.mk (0:Int) (0:UInt64) (0:UInt64) [] (0:UInt64) [] []) (0:UInt64)))).channel (pkA (acts.getD (↑k:Int).toNat (TAct.mk (0:UInt8) (0:UInt8) (0:UInt8) (0:UInt8) (0:UInt8) (Packet.mk (0:Int) (0:UInt64) (0:UInt64) [] (0:UInt64) [] []) (0:UInt64)))).seq (pkA (acts.getD (↑k:Int).toNat (TAct.mk (0:UInt8) (0:UInt8) (0:UInt8) (0:UInt8) (0:UInt8) (Packet.mk (0:Int) (0:UInt64) (0:UInt64) [] (0:UInt64) [] []) (0:UInt64)))).timeout (pkA (acts.getD (↑k:Int).toNat (TAct.mk (0:UInt8) (0:UInt8) (0:UInt8) (0:UInt8) (0:UInt8) (Packet.mk (0:Int) (0:UInt64) (0:UInt64) [] (0:UInt64) [] []) (0:UInt64)))).denom (pkA (acts.getD (↑k:Int).toNat (TAct.mk (0:UInt8) (0:UInt8) (0:UInt8) (0:UInt8) (0:UInt8) (Packet.mk (0:Int) (0:UInt64) (0:UInt64) [] (0:UInt64) [] []) (0:UInt64)))).amount (pkA (acts.getD (↑k:Int).toNat (TAct.mk (0:UInt8) (0:UInt8) (0:UInt8) (0:UInt8) (0:UInt8) (Packet.mk (0:Int) (0:UInt64) (0:UInt64) [] (0:UInt64) [] []) (0:UInt64)))).from_ (pkA (acts.getD (↑k:Int).toNat (TAct.mk (0:UInt8) (0:UInt8) (0:UInt8) (0:UInt8) (0:UInt8) (Packet.mk (0:Int) (0:UInt64) (0:UInt64) [] (0:UInt64) [] []) (0:UInt64)))).to) (zN coins i j acts k).fst (sdB (zN coins i j acts k).fst (Packet.mk (pkA (acts.getD (↑k:Int).toNat (TAct.mk (0:UInt8) (0:UInt8) (0:UInt8) (0:UInt8) (0:UInt8) (Packet.mk (0:Int) (0:UInt64) (0:UInt64) [] (0:UInt64) [] []) (0:UInt64)))).channel (pkA (acts.getD (↑k:Int).toNat (TAct.mk (0:UInt8) (0:UInt8) (0:UInt8) (0:UInt8) (0:UInt8) (Packet.mk (0:Int) (0:UInt64) (0:UInt64) [] (0:UInt64) [] []) (0:UInt64)))).seq (pkA (acts.getD (↑k:Int).toNat (TAct.mk (0:UInt8) (0:UInt8) (0:UInt8) (0:UInt8) (0:UInt8) (Packet.mk (0:Int) (0:UInt64) (0:UInt64) [] (0:UInt64) [] []) (0:UInt64)))).timeout (pkA (acts.getD (↑k:Int).toNat (TAct.mk (0:UInt8) (0:UInt8) (0:UInt8) (0:UInt8) (0:UInt8) (Packet.mk (0:Int) (0:UInt64) (0:UInt64) [] (0:UInt64) [] []) (0:UInt64)))).denom (pkA (acts.getD (↑k:Int).toNat (TAct.mk (0:UInt8) (0:UInt8) (0:UInt8) (0:UInt8) (0:UInt8) (Packet.mk (0:Int) (0:UInt64) (0:UInt64) [] (0:UInt64) [] []) (0:UInt64)))).amount (pkA (acts.getD (↑k:Int).toNat (TAct.mk (0:UInt8) (0:UInt8) (0:UInt8) (0:UInt8) (0:UInt8) (Packet.mk (0:Int) (0:UInt64) (0:UInt64) [] (0:UInt64) [] []) (0:UInt64)))).from_ (pkA (acts.getD (↑k:Int).toNat (TAct.mk (0:UInt8) (0:UInt8) (0:UInt8) (0:UInt8) (0:UInt8) (Packet.mk (0:Int) (0:UInt64) (0:UInt64) [] (0:UInt64) [] []) (0:UInt64)))).to))=(zN coins i j acts (k+(1:Nat))).fst)∧(lsdL (zN coins i j acts k).snd (Packet.mk (pkA (acts.getD (↑k:Int).toNat (TAct.mk 0 0 0 0 0 (Packet.mk 0 0 0 [] 0 [] []) 0))).channel (pkA (acts.getD (↑k:Int).toNat (TAct.mk 0 0 0 0 0 (Packet.mk 0 0 0 [] 0 [] []) 0))).seq (pkA (acts.getD (↑k:Int).toNat (TAct.mk 0 0 0 0 0 (Packet.mk 0 0 0 [] 0 [] []) 0))).timeout (pkA (acts.getD (↑k:Int).toNat (TAct.mk 0 0 0 0 0 (Packet.mk 0 0 0 [] 0 [] []) 0))).denom (pkA (acts.getD (↑k:Int).toNat (TAct.mk 0 0 0 0 0 (Packet.mk 0 0 0 [] 0 [] []) 0))).amount (pkA (acts.getD (↑k:Int).toNat (TAct.mk 0 0 0 0 0 (Packet.mk 0 0 0 [] 0 [] []) 0))).from_ (pkA (acts.getD (↑k:Int).toNat (TAct.mk 0 0 0 0 0 (Packet.mk 0 0 0 [] 0 [] []) 0))).to)=(zN coins i j acts (k+1)).snd)) ⟨(by(unfold I64;omega)),rfl,(by exact nD1 ‹_› ‹_› ‹_›),(by exact nD2 ‹_› ‹_› ‹_›)⟩ (show(k+1≤acts.length∧k+1≤61)∧acts.length - (k+1)<acts.length - k from(by omega))
    ·have h21:=of_decide_eq_false h21
     refine v_leave (.ex 4) True trivial ?_
     exact v_ret () [] ((true=true)∧(etP=etP)∧(coins=coins)∧(acts=acts)) ⟨rfl,rfl,rfl,rfl⟩ trivial
end Go.Proofs.YtblnnkkelkjbiaaGreatDoor.X
set_option linter.unusedVariables false
set_option linter.unusedSimpArgs false
namespace Go.Proofs.YtblnnkkelkjbiaaGreatDoor.X
open Go Go.RowKit Go.Proofs.YtblnnkkelkjbiaaGreatDoor.E
def OpF {α:Type} (P:Program) (t:TypeId) (fs:Array Go.Field) (off:Nat) (T:Ty α):Prop :=
  ∀(w:World) (cs:List Value),cs.length=P.cellsOf t→(∀(i:Nat) (f:Go.Field),fs[i]? = some f→∀ {β:Type} {U:Ty β},E.Opens P f.type U→∀ o sz,f.offset=o→P.cellsOf f.type=sz→∃ a,U.rep (sig0 w) w a ((cs.drop o).take sz))→∃ a,T.rep (sig0 w) w a (cs.drop off)
section
variable {α β:Type} {P:Program} {t:TypeId} {fs:Array Go.Field} {off n:Nat} {A:Ty α} {B:Ty β} {f:Go.Field}
theorem opF_cons (i:Nat) (hf:fs[i]? = some f) (ho:f.offset=off) (O:E.Opens P f.type A) (hs:P.cellsOf f.type=n) (hB:OpF P t fs (off+n) B):OpF P t fs off (tProd A B):=by
  intro w cs hl h
  obtain⟨a,ha⟩:=h i f hf O off n ho hs
  obtain⟨b,hb⟩:=hB w cs hl h
  exact⟨(a,b),_,_,by rw[← List.drop_drop];exact(List.take_append_drop n _).symm,ha,hb⟩
theorem opF_last (i:Nat) (hf:fs[i]? = some f) (ho:f.offset=off) (O:E.Opens P f.type A) (hs:P.cellsOf f.type=n) (tot:P.cellsOf t=off+n):OpF P t fs off A:=by
  intro w cs hl h
  obtain⟨a,ha⟩:=h i f hf O off n ho hs
  rw[List.take_of_length_le (by rw[List.length_drop];omega)] at ha
  exact⟨a,ha⟩
theorem opens_rec (ht:P.underlying t=some (.struct fs)) (h:OpF P t fs 0 A):E.Opens P t A:=by
  intro H enc w sp held fuel cs x hx hw
  obtain⟨hl,hf⟩:=opens_field ht hx hw
  obtain⟨a,ha⟩:=h w cs hl (fun i f hi β U O o sz ho hs=>hf i f hi O o sz ho hs)
  exact⟨a,by simpa using ha⟩
theorem opens_by (n:Nat) (h:E.Opens P t A):E.Opens P t (tBy A n):=h
theorem opens_iso {g:β→α} (k:α→β) (hg:∀ b,g (k b)=b) (h:E.Opens P t A):E.Opens P t (tIso g A):=by
  intro H enc w sp held fuel cs x hx hw
  obtain⟨b,hb⟩:=h hx hw
  exact⟨k b,by show A.rep _ _ (g (k b)) _;rw[hg];exact hb⟩
end
end Go.Proofs.YtblnnkkelkjbiaaGreatDoor.X
set_option linter.unusedVariables false
set_option linter.unusedSimpArgs false
set_option maxRecDepth 100000
namespace Go.Proofs.YtblnnkkelkjbiaaGreatDoor.X
open Go Go.RowKit Go.Proofs Go.Proofs.YtblnnkkelkjbiaaGreatDoor.E
abbrev SB (s:List UInt8):Prop:=s.length≤140737488351232
def tG {α:Type} (T:Ty α) (Q:α→Prop):Ty α where
  sz:=T.sz
  by_:=T.by_
  rep:=fun σ w a cs=>T.rep σ w a cs∧Q a
  len:=fun h=>T.len h.1
  one:=fun h=>T.one h.1
  step:=fun s h=>⟨T.step s h.1,h.2⟩
def tStrB:Ty (List UInt8):=tG tStr SB
theorem opens_strB {P:Program} {t:TypeId} (ht:P.underlying t=some .string):E.Opens P t tStrB:=by
  intro H enc w sp held fuel cs x h hw
  obtain⟨s,rfl,h2,_⟩:=DataW.trod_string ht h
  refine⟨s.data.toList,by show[Value.string s]=[sv s.data.toList];rw[sv_of],?_⟩
  have k:=hw s.data.toList.length (by rw[h2];simp[DataW.weights])
  have r:reachBytes=140737488351232:=by decide
  rw[r] at k;exact k
theorem reps_sp {α:Type} {R R':α→List Value→Prop} {Q:α→Prop} (h:∀ x c,R x c→R' x c∧Q x):∀(xs:List α) (cs:List Value),Reps R xs cs→Reps R' xs cs∧∀ x∈xs,Q x
  | [],_,k=>⟨k,fun _ hx=>by cases hx⟩
  | x :: xs, _, ⟨c, d, e, h1, h2⟩ => by
    obtain⟨k1,k2⟩:=reps_sp h xs d h2
    exact⟨⟨c,d,e,(h x c h1).1,k1⟩,fun y hy=>by
      rcases List.mem_cons.1 hy with rfl | hy
      · exact(h y c h1).2
      · exact k2 y hy⟩
theorem rd_sp {α:Type} {T T':Ty α} {Q:α→Prop} {σ:Nat→Nat} {w:World} {v:Value} {xs:List α} (hb:T'.by_=T.by_) (h:∀ x c,T.rep σ w x c→T'.rep σ w x c∧Q x) (R:Rd T σ w v xs):Rd T' σ w v xs∧∀ x∈xs,Q x:=by
  obtain⟨a,cap,e,h1,h2,h3⟩:=R
  rcases h3 with rfl | ⟨b,o,cs,e2,hs,hr⟩
  · exact⟨⟨a,cap,e,h1,by rw[hb];exact h2,.inl rfl⟩,fun _ hx=>by cases hx⟩
  · obtain ⟨k1, k2⟩ := reps_sp h xs cs hr
    exact⟨⟨a,cap,e,h1,by rw[hb];exact h2,.inr ⟨b,o,cs,e2,hs,k1⟩⟩,k2⟩
def tCoinB:Ty Coin:=tBy (tIso (fun x=>((x.account,x.denom,x.amount):(List UInt8) × (List UInt8) × UInt64)) (tProd tStrB (tProd tStrB tU64))) 40
def tPacketB:Ty Packet:=tBy (tIso (fun x=>((x.channel,x.seq,x.timeout,x.denom,x.amount,x.from_,x.to):Int × UInt64 × UInt64 × (List UInt8) × UInt64 × (List UInt8) × (List UInt8))) (tProd tI64 (tProd tU64 (tProd tU64 (tProd tStrB (tProd tU64 (tProd tStrB tStrB))))))) 80
def tTActB:Ty TAct:=tBy (tIso (fun x=>((x.kind,x.channel,x.d,x.a,x.b,x.raw,x.n):UInt8 × UInt8 × UInt8 × UInt8 × UInt8 × Packet × UInt64)) (tProd tU8 (tProd tU8 (tProd tU8 (tProd tU8 (tProd tU8 (tProd tPacketB tU64))))))) 96
section
variable {σ:Nat→Nat} {w:World} {v:Value}
theorem coin_sp (x:Coin) (c:List Value):tCoinB.rep σ w x c→tCoin.rep σ w x c∧(SB x.account∧SB x.denom):=by
  rintro ⟨c1,d1,e1,⟨h1,s1⟩,⟨c2,d2,e2,⟨h2,s2⟩,h3⟩⟩
  exact⟨⟨c1,d1,e1,h1,c2,d2,e2,h2,h3⟩,s1,s2⟩
theorem coins_sp {xs:List Coin} (R:Rd tCoinB σ w v xs):Rd tCoin σ w v xs∧∀ i:Nat,SB (xs.getD i ⟨[],[],0⟩).account∧SB (xs.getD i ⟨[],[],0⟩).denom:=by
  obtain⟨k1,k2⟩:=rd_sp (T:=tCoinB) (T':=tCoin) (Q:=fun x=>SB x.account∧SB x.denom) rfl coin_sp R
  refine⟨k1,fun i=>?_⟩
  rw[List.getD_eq_getElem?_getD]
  cases e:xs[i]? with
  | none=>exact⟨Nat.zero_le _,Nat.zero_le _⟩
  | some x=>exact k2 x (List.mem_of_getElem? e)
end
section
variable {σ:Nat→Nat} {w:World} {v:Value}
theorem packet_sp (x:Packet) (c:List Value):tPacketB.rep σ w x c→tPacket.rep σ w x c∧(SB x.denom∧SB x.from_∧SB x.to):=by
  rintro ⟨c1,d1,e1,h1,c2,d2,e2,h2,c3,d3,e3,h3,c4,d4,e4,⟨h4,s4⟩,c5,d5,e5,h5,c6,d6,e6,⟨h6,s6⟩,⟨h7,s7⟩⟩
  exact⟨⟨c1,d1,e1,h1,c2,d2,e2,h2,c3,d3,e3,h3,c4,d4,e4,h4,c5,d5,e5,h5,c6,d6,e6,h6,h7⟩,s4,s6,s7⟩
theorem tact_sp (x:TAct) (c:List Value):tTActB.rep σ w x c→tTAct.rep σ w x c∧(SB x.raw.denom∧SB x.raw.from_∧SB x.raw.to):=by
  rintro ⟨c1,d1,e1,h1,c2,d2,e2,h2,c3,d3,e3,h3,c4,d4,e4,h4,c5,d5,e5,h5,c6,d6,e6,h6,h7⟩
  obtain⟨k1,k2⟩:=packet_sp x.raw c6 h6
  exact⟨⟨c1,d1,e1,h1,c2,d2,e2,h2,c3,d3,e3,h3,c4,d4,e4,h4,c5,d5,e5,h5,c6,d6,e6,k1,h7⟩,k2⟩
theorem tacts_sp {xs:List TAct} (R:Rd tTActB σ w v xs):Rd tTAct σ w v xs∧∀ i:Nat,SB (xs.getD i ⟨0,0,0,0,0,⟨0,0,0,[],0,[],[]⟩,0⟩).raw.denom∧SB (xs.getD i ⟨0,0,0,0,0,⟨0,0,0,[],0,[],[]⟩,0⟩).raw.from_∧SB (xs.getD i ⟨0,0,0,0,0,⟨0,0,0,[],0,[],[]⟩,0⟩).raw.to:=by
  obtain⟨k1,k2⟩:=rd_sp (T:=tTActB) (T':=tTAct) (Q:=fun x=>SB x.raw.denom∧SB x.raw.from_∧SB x.raw.to) rfl tact_sp R
  refine⟨k1,fun i=>?_⟩
  rw[List.getD_eq_getElem?_getD]
  cases e:xs[i]? with
  | none=>exact⟨Nat.zero_le _,Nat.zero_le _,Nat.zero_le _⟩
  | some x=>exact k2 x (List.mem_of_getElem? e)
end
end Go.Proofs.YtblnnkkelkjbiaaGreatDoor.X
set_option linter.unusedVariables false
set_option maxRecDepth 100000
namespace Go.Proofs.YtblnnkkelkjbiaaGreatDoor.X
open Go Go.RowKit Go.Proofs.YtblnnkkelkjbiaaGreatDoor.E
theorem opCoinB:E.Opens Tryz.prog 32 tCoinB:=opens_by 40 (opens_iso (fun p=>⟨p.1,p.2.1,p.2.2⟩) (fun _=>rfl) (opens_rec Tryz.underlying32 (opF_cons (n:=1) 0 rfl rfl (opens_strB Tryz.underlying9) (by kernel_rfl) (opF_cons (n:=1) 1 rfl rfl (opens_strB Tryz.underlying9) (by kernel_rfl) (opF_last (n:=1) 2 rfl rfl (opens_u64 Tryz.underlying30) (by kernel_rfl) (by kernel_rfl))))))
theorem opPacketB:E.Opens Tryz.prog 39 tPacketB:=opens_by 80 (opens_iso (fun p=>⟨p.1,p.2.1,p.2.2.1,p.2.2.2.1,p.2.2.2.2.1,p.2.2.2.2.2.1,p.2.2.2.2.2.2⟩) (fun _=>rfl) (opens_rec Tryz.underlying39 (opF_cons (n:=1) 0 rfl rfl (opens_i64 Tryz.underlying3) (by kernel_rfl) (opF_cons (n:=1) 1 rfl rfl (opens_u64 Tryz.underlying30) (by kernel_rfl) (opF_cons (n:=1) 2 rfl rfl (opens_u64 Tryz.underlying30) (by kernel_rfl) (opF_cons (n:=1) 3 rfl rfl (opens_strB Tryz.underlying9) (by kernel_rfl) (opF_cons (n:=1) 4 rfl rfl (opens_u64 Tryz.underlying30) (by kernel_rfl) (opF_cons (n:=1) 5 rfl rfl (opens_strB Tryz.underlying9) (by kernel_rfl) (opF_last (n:=1) 6 rfl rfl (opens_strB Tryz.underlying9) (by kernel_rfl) (by kernel_rfl))))))))))
theorem opTActB:E.Opens Tryz.prog 41 tTActB:=opens_by 96 (opens_iso (fun p=>⟨p.1,p.2.1,p.2.2.1,p.2.2.2.1,p.2.2.2.2.1,p.2.2.2.2.2.1,p.2.2.2.2.2.2⟩) (fun _=>rfl) (opens_rec Tryz.underlying41 (opF_cons (n:=1) 0 rfl rfl (opens_u8 Tryz.underlying5) (by kernel_rfl) (opF_cons (n:=1) 1 rfl rfl (opens_u8 Tryz.underlying5) (by kernel_rfl) (opF_cons (n:=1) 2 rfl rfl (opens_u8 Tryz.underlying5) (by kernel_rfl) (opF_cons (n:=1) 3 rfl rfl (opens_u8 Tryz.underlying5) (by kernel_rfl) (opF_cons (n:=1) 4 rfl rfl (opens_u8 Tryz.underlying5) (by kernel_rfl) (opF_cons (n:=7) 5 rfl rfl opPacketB (by kernel_rfl) (opF_last (n:=1) 6 rfl rfl (opens_u64 Tryz.underlying30) (by kernel_rfl) (by kernel_rfl))))))))))
end Go.Proofs.YtblnnkkelkjbiaaGreatDoor.X
