/- What the law ProofGapCodes needs: the engine, the walks of what it reaches, plain laws; part 4. -/
import Derived.Test.YtnicmjipbnhciaaDoorProofGapCodesM3
import Derived.Test.YtnicmjipbnhciaaDoorProg
import Derived.WalkKit
import Derived.LaidEql
import Derived.Stop.Asserts
import Derived.RowKitTokens
import Derived.OpenShut
set_option linter.unnecessarySimpa false
set_option linter.deprecated false
set_option linter.unusedVariables false
set_option linter.unusedSimpArgs false
set_option maxRecDepth 100000
namespace Go.Proofs.YtnicmjipbnhciaaDoor.X
open Go Go.RowKit Go.Proofs Go.Proofs.YtnicmjipbnhciaaDoor.E
noncomputable def ccB9_105:Code:=(Tryd.f105.body).getD .skip
theorem cutnil_ok (k:List UInt8):FOk EN 105 ⟨[.pr wordsP,.rd 5 (k)],[.v (.pointer none),.n 1],Unit,fun _=>([.pr wordsP,.rd 5 (k)],.t [.v (.pointer none),.b false]),fun _=>True⟩:=by
 refine v_fun Tryd.f105 ccB9_105 MX (fun ν F σ w=>?_) Tryd.func105
 refine v_nl ?_
 exact v_ret () [] ((Value.pointer none=Value.pointer none)∧(false=false)∧(wordsP=wordsP)∧(k=k)) ⟨rfl,rfl,rfl,rfl⟩ trivial
noncomputable def ccB9_65:Code:=(Tryd.f65.body).getD .skip
theorem Cut1_aux (k:List UInt8):FOk EN 65 ⟨[.pr wordsP,.rd 5 (k),.pn (PTO none) false false],[.p 2 0,.n 1],Unit,fun _=>([.pr wordsP,.rd 5 (k),.pn (PTO none) false false,.pn (PTO none) false false],.t [.p 3 0,.b false]),fun _=>True⟩:=by
 refine v_fun Tryd.f65 ccB9_65 MX (fun ν F σ w=>?_) Tryd.func65
 refine v_nl ?_
 refine v_if (false) True trivial (fun h1=>?_) (fun h1=>?_)
 ·skip
  contradiction
 ·skip
  refine v_open 2 (open_tn) ((false=false)∧(PTO none=PTO none)) ⟨rfl,rfl⟩ ?_
  refine v_call _ [0,1] (cutnil_ok (k)) ((Value.pointer none=Value.pointer none)∧(wordsP=wordsP)∧(k=k)) ⟨rfl,rfl,rfl⟩ (fun g2 p3=>?_)
  have p3:True:=p3
  refine v_close 4 [] (close_tn) ((Value.pointer none=Value.pointer none)) rfl ?_
  exact v_ret () [4] ((false=false)∧(wordsP=wordsP)∧(k=k)∧(PLe (PTO none) (PTO none))∧(false=false)∧(PLe (PTO none) (PTO none))∧(false=false)) ⟨rfl,rfl,rfl,fun _ _ _ h=>h,rfl,fun _ _ _ h=>h,rfl⟩ trivial
theorem Cut2_aux (t:Tr) (k:List UInt8) (ih:FOk EN 105 ⟨[.pr wordsP,.rd 5 (k),.pn (PT (t)) false false],[.p 2 0,.n 1],Unit,fun _=>([.pr wordsP,.rd 5 (k),.pn (PT (t)) false false],.t [.p 2 0,.b false]),fun _=>True⟩):FOk EN 65 ⟨[.pr wordsP,.rd 5 (k),.pn (PTO (some t)) false false],[.p 2 0,.n 1],Unit,fun _=>([.pr wordsP,.rd 5 (k),.pn (PTO (some t)) false false,.pn (PTO (some t)) false false],.t [.p 3 0,.b false]),fun _=>True⟩:=by
 refine v_fun Tryd.f65 ccB9_65 MX (fun ν F σ w=>?_) Tryd.func65
 refine v_nl ?_
 refine v_if (false) True trivial (fun h1=>?_) (fun h1=>?_)
 ·skip
  contradiction
 ·skip
  refine v_open 2 (open_ts (t)) ((false=false)∧(PTO (some t)=PTO (some t))) ⟨rfl,rfl⟩ ?_
  refine v_call _ [0,1,4] (ih) ((wordsP=wordsP)∧(k=k)∧(PT t=PT t)∧(false=false)) ⟨rfl,rfl,rfl,rfl⟩ (fun g2 p3=>?_)
  have p3:True:=p3
  refine v_close 5 [4] (close_ts (t)) ((PT t=PT t)∧(false=false)) ⟨rfl,rfl⟩ ?_
  exact v_ret () [5] ((false=false)∧(wordsP=wordsP)∧(k=k)∧(PLe (PTO (some t)) (PTO (some t)))∧(false=false)∧(PLe (PTO (some t)) (PTO (some t)))∧(false=false)) ⟨rfl,rfl,rfl,fun _ _ _ h=>h,rfl,fun _ _ _ h=>h,rfl⟩ trivial
theorem Cut3_aux (t:Tr) (k:List UInt8) (ih:FOk EN 105 ⟨[.pr wordsP,.rd 5 (k),.pn (PT (t)) false false],[.p 2 0,.n 1],Unit,fun _=>([.pr wordsP,.rd 5 (k),.pn (PT (t)) false false],.t [.v (.pointer none),.b true]),fun _=>True⟩):FOk EN 65 ⟨[.pr wordsP,.rd 5 (k),.pn (PTO (some t)) false false],[.p 2 0,.n 1],Unit,fun _=>([.pr wordsP,.rd 5 (k),.pn (PTO (some t)) false false,.pn (PTO none) false false],.t [.p 3 0,.b true]),fun _=>True⟩:=by
 refine v_fun Tryd.f65 ccB9_65 MX (fun ν F σ w=>?_) Tryd.func65
 refine v_nl ?_
 refine v_if (false) True trivial (fun h1=>?_) (fun h1=>?_)
 ·skip
  contradiction
 ·skip
  refine v_open 2 (open_ts (t)) ((false=false)∧(PTO (some t)=PTO (some t))) ⟨rfl,rfl⟩ ?_
  refine v_call _ [0,1,4] (ih) ((wordsP=wordsP)∧(k=k)∧(PT t=PT t)∧(false=false)) ⟨rfl,rfl,rfl,rfl⟩ (fun g2 p3=>?_)
  have p3:True:=p3
  refine v_close 5 [] (close_tn) ((Value.pointer none=Value.pointer none)) rfl ?_
  exact v_ret () [5] ((true=true)∧(wordsP=wordsP)∧(k=k)∧(PLe (PTO (some t)) (PTO (some t)))∧(false=false)∧(PLe (PTO none) (PTO none))∧(false=false)) ⟨rfl,rfl,rfl,fun _ _ _ h=>h,rfl,fun _ _ _ h=>h,rfl⟩ trivial
theorem Cut4_aux (t t':Tr) (k:List UInt8) (ih:FOk EN 105 ⟨[.pr wordsP,.rd 5 (k),.pn (PT (t)) false false],[.p 2 0,.n 1],Unit,fun _=>([.pr wordsP,.rd 5 (k),.pn (PT (t)) false false,.pn (PT (t')) false false],.t [.p 3 0,.b true]),fun _=>True⟩):FOk EN 65 ⟨[.pr wordsP,.rd 5 (k),.pn (PTO (some t)) false false],[.p 2 0,.n 1],Unit,fun _=>([.pr wordsP,.rd 5 (k),.pn (PTO (some t)) false false,.pn (PTO (some t')) false false],.t [.p 3 0,.b true]),fun _=>True⟩:=by
 refine v_fun Tryd.f65 ccB9_65 MX (fun ν F σ w=>?_) Tryd.func65
 refine v_nl ?_
 refine v_if (false) True trivial (fun h1=>?_) (fun h1=>?_)
 ·skip
  contradiction
 ·skip
  refine v_open 2 (open_ts (t)) ((false=false)∧(PTO (some t)=PTO (some t))) ⟨rfl,rfl⟩ ?_
  refine v_call _ [0,1,4] (ih) ((wordsP=wordsP)∧(k=k)∧(PT t=PT t)∧(false=false)) ⟨rfl,rfl,rfl,rfl⟩ (fun g2 p3=>?_)
  have p3:True:=p3
  refine v_close 6 [5] (close_ts (t')) ((PT t'=PT t')∧(false=false)) ⟨rfl,rfl⟩ ?_
  exact v_ret () [6] ((true=true)∧(wordsP=wordsP)∧(k=k)∧(PLe (PTO (some t)) (PTO (some t)))∧(false=false)∧(PLe (PTO (some t')) (PTO (some t')))∧(false=false)) ⟨rfl,rfl,rfl,fun _ _ _ h=>h,rfl,fun _ _ _ h=>h,rfl⟩ trivial
theorem Cut_ok (o:Option Tr) (k:List UInt8) (ho:okO o):FOk EN 65 ⟨[.pr wordsP,.rd 5 (k),.pn (PTO o) false false],[.p 2 0,.n 1],Unit,fun _=>([.pr wordsP,.rd 5 (k),.pn (PTO o) false false,.pn (PTO (cutO k o)) false false],.t [.p 3 0,.b (wasO k o)]),fun _=>True⟩:=by
  cases o with
  | none=>exact Cut1_aux k
  | some t =>
    obtain⟨h1,h2,h3⟩:=tcut k t (ho t rfl).1 (ho t rfl).2.1
    cases e:t.cut k with
    | none=>rw[show cutO k (some t)=some t by simp[cutO,e],show wasO k (some t)=false by simp[wasO,e]];exact Cut2_aux t k (h1 e)
    | some r =>
      rw[show cutO k (some t)=r by simp[cutO,e],show wasO k (some t)=true by simp[wasO,e]]
      cases r with
      | none=>exact Cut3_aux t k (h2 e)
      | some t'=>exact Cut4_aux t t' k (h3 t' e)
noncomputable def ccB9_53:Code:=(Tryd.f53.body).getD .skip
theorem Empty_ok:FOk EN 53 ⟨[.pr wordsP],[],Unit,fun _=>([.pr wordsP],.a [.h 32 (sum256 [])]),fun _=>True⟩:=by
 refine v_fun Tryd.f53 ccB9_53 MX (fun ν F σ w=>?_) Tryd.func53
 refine v_nl ?_
 refine v_call _ [0,3] (sum_ok ([[]]) (by decide)) ((wordsP=wordsP)∧(Eq (α:=List (List UInt8)) [[]] [[]])) ⟨rfl,rfl⟩ (fun g1 p2=>?_)
 have p2:True:=p2
 exact v_ret () [] ((sum256 [[]].flatten=sum256 [])∧(wordsP=wordsP)) ⟨rfl,rfl⟩ trivial
noncomputable def ccB9_25:Code:=(Tryd.f25.body).getD .skip
theorem Root1_aux:FOk EN 25 ⟨[.pr wordsP,.pn (PTO none) false false],[.p 1 0],Unit,fun _=>([.pr wordsP,.pn (PTO none) false false],.a [.h 32 (sum256 [])]),fun _=>True⟩:=by
 refine v_fun Tryd.f25 ccB9_25 MX (fun ν F σ w=>?_) Tryd.func25
 refine v_nl ?_
 refine v_guard 5 (false) True trivial (fun h1=>?_) (fun h1=>?_)
 ·skip
  contradiction
 ·skip
  refine v_open 1 (open_tn) ((false=false)∧(PTO none=PTO none)) ⟨rfl,rfl⟩ ?_
  refine v_call _ [0] (Empty_ok) ((wordsP=wordsP)) rfl (fun g2 p3=>?_)
  have p3:True:=p3
  exact v_ret () [] ((sum256 []=sum256 [])∧(wordsP=wordsP)∧(PLe (PTO none) (PTO none))∧(false=false)) ⟨rfl,rfl,fun _ _ _ h=>h,rfl⟩ trivial
theorem Root2_aux (t:Tr):FOk EN 25 ⟨[.pr wordsP,.pn (PTO (some t)) false false],[.p 1 0],Unit,fun _=>([.pr wordsP,.pn (PTO (some t)) false false],.a [.h 32 t.hash]),fun _=>True⟩:=by
 refine v_fun Tryd.f25 ccB9_25 MX (fun ν F σ w=>?_) Tryd.func25
 refine v_nl ?_
 refine v_guard 5 (false) True trivial (fun h1=>?_) (fun h1=>?_)
 ·skip
  contradiction
 ·skip
  refine v_open 1 (open_ts (t)) ((false=false)∧(PTO (some t)=PTO (some t))) ⟨rfl,rfl⟩ ?_
  refine v_if (false) True trivial (fun h2=>?_) (fun h2=>?_)
  ·skip
   contradiction
  ·skip
   refine v_open 4 (open_any (t)) ((false=false)∧(PT t=PT t)) ⟨rfl,rfl⟩ ?_
   exact v_ret () [] ((t.hash=t.hash)∧(wordsP=wordsP)∧(PLe (PTO (some t)) (PTO (some t)))∧(false=false)) ⟨rfl,rfl,fun _ _ _ h=>h,rfl⟩ trivial
theorem Root_ok (o:Option Tr):FOk EN 25 ⟨[.pr wordsP,.pn (PTO o) false false],[.p 1 0],Unit,fun _=>([.pr wordsP,.pn (PTO o) false false],.a [.h 32 (hashO o)]),fun _=>True⟩:=by
  cases o with
  | none=>exact Root1_aux
  | some t=>exact Root2_aux t
noncomputable def ccB9_104:Code:=(Tryd.f104.body).getD .skip
theorem walknil_ok:FOk EN 104 ⟨[],[.v (.pointer none),.v (.slice none 0 0)],Unit,fun _=>([],.v (.slice none 0 0)),fun _=>True⟩:=by
 refine v_fun Tryd.f104 ccB9_104 MX (fun ν F σ w=>?_) Tryd.func104
 refine v_nl ?_
 exact v_ret () [] ((Value.slice none 0 0=Value.slice none 0 0)) rfl trivial
noncomputable def ccB9_62:Code:=(Tryd.f62.body).getD .skip
theorem All1_aux:FOk EN 62 ⟨[.pn (PTO none) false false],[.p 0 0],Unit,fun _=>([.pn (PTO none) false false,.ow 46 ([])],.n 1),fun _=>True⟩:=by
 refine v_fun Tryd.f62 ccB9_62 MX (fun ν F σ w=>?_) Tryd.func62
 refine v_nl ?_
 refine v_if (false) True trivial (fun h1=>?_) (fun h1=>?_)
 ·skip
  contradiction
 ·skip
  refine v_open 0 (open_tn) ((false=false)∧(PTO none=PTO none)) ⟨rfl,rfl⟩ ?_
  refine v_call _ [] (walknil_ok) ((Value.pointer none=Value.pointer none)∧(Value.slice none 0 0=Value.slice none 0 0)) ⟨rfl,rfl⟩ (fun g2 p3=>?_)
  have p3:True:=p3
  exact v_ret () [1] ((PLe (PTO none) (PTO none))∧(false=false)∧(Eq (α:=List Pair) [] [])) ⟨fun _ _ _ h=>h,rfl,rfl⟩ trivial
theorem All2_aux (t:Tr) (h:t.Ks) (hl:t.leaves.length≤900000):FOk EN 62 ⟨[.pn (PTO (some t)) false false],[.p 0 0],Unit,fun _=>([.pn (PTO (some t)) false false,.ow 46 (t.leaves)],.n 1),fun _=>True⟩:=by
 refine v_fun Tryd.f62 ccB9_62 MX (fun ν F σ w=>?_) Tryd.func62
 refine v_nl ?_
 refine v_if (false) True trivial (fun h1=>?_) (fun h1=>?_)
 ·skip
  contradiction
 ·skip
  refine v_open 0 (open_ts (t)) ((false=false)∧(PTO (some t)=PTO (some t))) ⟨rfl,rfl⟩ ?_
  refine v_call _ [2,1] (walk_ok (t) ([]) ‹_› (by(simp;omega))) ((PT t=PT t)∧(false=false)∧(Eq (α:=List Pair) [] [])) ⟨rfl,rfl,rfl⟩ (fun g2 p3=>?_)
  have p3:True:=p3
  exact v_ret () [3] ((PLe (PTO (some t)) (PTO (some t)))∧(false=false)∧([]++t.leaves=t.leaves)) ⟨fun _ _ _ h=>h,rfl,rfl⟩ trivial
theorem All_ok (o:Option Tr) (ho:okO o) (hl:(leavesO o).length≤900000):FOk EN 62 ⟨[.pn (PTO o) false false],[.p 0 0],Unit,fun _=>([.pn (PTO o) false false,.ow 46 (leavesO o)],.n 1),fun _=>True⟩:=by
  cases o with
  | none=>exact All1_aux
  | some t=>exact All2_aux t (ho t rfl).1 hl
namespace Tr
def lo:Tr→Tr
  | leaf k v=>leaf k v
  | node l _=>l
def ro:Tr→Tr
  | leaf k v=>leaf k v
  | node _ r=>r
def child (t:Tr) (b:Bool):Tr:=if b then t.ro else t.lo
def at':Tr→List Bool→Option Tr
  | t,[]=>some t
  | leaf _ _,_::_=>none
  | node l r,b::w=>if b then r.at' w else l.at' w
theorem height_pos {l r:Tr}:0<(node l r).height:=by
  have h1:=l.height_nn;have h2:=r.height_nn;simp only[height];omega
theorem at_leaf {k v:List UInt8} {w:List Bool} {i:Nat} {s:Tr} (h:(leaf k v).at' (w.drop i)=some s) (hi:(i:Int)<w.length):False:=by
  have:w.drop i=w.getD i false::w.drop (i+1):=by
    have hl:i<w.length:=by omega
    rw[List.drop_eq_getElem_cons hl]
    simp[List.getD_eq_getElem?_getD,hl]
  rw[this] at h;simp[at'] at h
theorem at_leaf' {k v:List UInt8} {w:List Bool} {i:Nat} {s:Tr} {X:Prop} (h:(leaf k v).at' (w.drop i)=some s∧X) (hi:(i:Int)<w.length):False:=at_leaf h.1 hi
theorem at_end' {t:Tr} {w:List Bool} {i:Nat} {s:Tr} {X:Prop} (h:t.at' (w.drop i)=some s∧X) (hi:¬ (i:Int)<w.length):t=s:=by
  have h:=h.1
  rw[List.drop_of_length_le (by omega)] at h
  cases t <;> simpa [at'] using h
theorem at_node {l r:Tr} {w:List Bool} {i:Nat} {s:Tr} (h:(node l r).at' (w.drop i)=some s) (hi:(i:Int)<w.length):(w.getD i false=true→r.at' (w.drop (i+1))=some s)∧(w.getD i false=false→l.at' (w.drop (i+1))=some s):=by
  have:w.drop i=w.getD i false::w.drop (i+1):=by
    have hl:i<w.length:=by omega
    rw[List.drop_eq_getElem_cons hl]
    simp[List.getD_eq_getElem?_getD,hl]
  rw[this] at h
  constructor <;> intro e <;> rw[e] at h <;> simpa [at'] using h
end Tr
noncomputable def ccB10_131:Code:=(Tryd.f131.body).getD .skip
theorem copied_ok (k v l r:List UInt8) (h:Int) (s:UInt64) (hk:k.length≤1000) (hv:v.length≤1000) (hl:l.length=32) (hr:r.length=32):FOk EN 131 ⟨[.rd 5 (k),.rd 5 (v)],[.a [.n 0,.n 1,.i h,.u s,.h 32 l,.h 32 r]],Unit,fun _=>([.rd 5 (k),.rd 5 (v),.rd 5 (k),.rd 5 (v)],.a [.n 2,.n 3,.i h,.u s,.h 32 l,.h 32 r]),fun _=>True⟩:=by
 refine v_fun Tryd.f131 ccB10_131 MX (fun ν F σ w=>?_) Tryd.func131
 refine v_nl ?_
 refine v_join [3,4,5,6,7,8,9,10,1] [3] (fun _:Unit=>([(1,SV.p 5 0)],[Ent.bx 124 [SV.n 6,SV.n 7,SV.i h,SV.u s,SV.h 32 l,SV.h 32 r],Ent.ow 5 k,Ent.ow 5 v])) (fun _=>True) ?_ (fun _ _=>?_) True trivial
 ·skip
  refine v_plan (.fs [0,3] (.c 1 (.c 2 (.o 4 (.fs [6] (.o 5 (.o 7 (.fs [8] (.o 9 .e)))))) (.o 4 (.o 2 (.fs [6] (.o 5 (.o 7 (.fs [8] (.o 9 .e)))))))) (.o 4 (.o 1 (.o 2 (.fs [6] (.o 5 (.o 7 (.fs [8] (.o 9 .e)))))))))) [4] True trivial ?_
  refine v_pick True trivial ?_ ?_
  ·skip
   refine v_pick True trivial ?_ ?_
   ·skip
    refine v_call _ [0] (clone_ok (k) (by omega)) ((k=k)) rfl (fun g1 p2=>?_)
    have p2:True:=p2
    refine v_call _ [1] (clone_ok (v) (by omega)) ((v=v)) rfl (fun g3 p4=>?_)
    have p4:True:=p4
    exact v_back (()) [3,5,6] ((h=h)∧(s=s)∧(l=l)∧(r=r)∧(k=k)∧(v=v)) ⟨rfl,rfl,rfl,rfl,rfl,rfl⟩ (show True from trivial)
   ·skip
    refine v_call _ [0] (clone_ok (k) (by omega)) ((k=k)) rfl (fun g5 p6=>?_)
    have p6:True:=p6
    refine v_call _ [1] (clone_ok (v) (by omega)) ((v=v)) rfl (fun g7 p8=>?_)
    have p8:True:=p8
    exact v_back (()) [3,5,6] ((h=h)∧(s=s)∧(l=l)∧(r=r)∧(k=k)∧(v=v)) ⟨rfl,rfl,rfl,rfl,rfl,rfl⟩ (show True from trivial)
  ·skip
   refine v_call _ [0] (clone_ok (k) (by omega)) ((k=k)) rfl (fun g9 p10=>?_)
   have p10:True:=p10
   refine v_call _ [1] (clone_ok (v) (by omega)) ((v=v)) rfl (fun g11 p12=>?_)
   have p12:True:=p12
   exact v_back (()) [3,5,6] ((h=h)∧(s=s)∧(l=l)∧(r=r)∧(k=k)∧(v=v)) ⟨rfl,rfl,rfl,rfl,rfl,rfl⟩ (show True from trivial)
 ·skip
  exact v_ret () [6,7] ((h=h)∧(s=s)∧(l=l)∧(r=r)∧(k=k)∧(v=v)∧(k=k)∧(v=v)) ⟨rfl,rfl,rfl,rfl,rfl,rfl,rfl,rfl⟩ trivial
noncomputable def ccB10_102:Code:=(Tryd.f102.body).getD .skip
theorem Nodenone_ok (ws:List Bool):FOk EN 102 ⟨[.rd 4 ws,.pn (PTO none) false false],[.p 1 0,.n 0],Unit,fun _=>([.rd 4 ws,.pn (PTO none) false false],.t [.a [.v (.slice none 0 0),.v (.slice none 0 0),.i 0,.u 0,.h 32 z32,.h 32 z32],.b false]),fun _=>True⟩:=by
 refine v_fun Tryd.f102 ccB10_102 MX (fun ν F σ w=>?_) Tryd.func102
 refine v_nl ?_
 refine v_guard 11 (false) True trivial (fun h1=>?_) (fun h1=>?_)
 ·skip
  contradiction
 ·skip
  refine v_open 1 (open_tn) ((false=false)∧(PTO none=PTO none)) ⟨rfl,rfl⟩ ?_
  exact v_ret () [] ((Value.slice none 0 0=Value.slice none 0 0)∧(Value.slice none 0 0=Value.slice none 0 0)∧((0:Int)=(0:Int))∧((0:UInt64)=(0:UInt64))∧(List.replicate 32 0=z32)∧(List.replicate 32 0=z32)∧(false=false)∧(ws=ws)∧(PLe (PTO none) (PTO none))∧(false=false)) ⟨rfl,rfl,rfl,rfl,rfl,rfl,rfl,rfl,fun _ _ _ h=>h,rfl⟩ trivial
theorem chT {l r:Tr} {b:Bool} (h:b=true):PT r=PT ((Tr.node l r).child b):=by rw[h];rfl
theorem chF {l r:Tr} {b:Bool} (h:b=false):PT l=PT ((Tr.node l r).child b):=by rw[h];rfl
theorem chBT {l r s:Tr} {ws:List Bool} {i:Nat} (hk:(Tr.node l r).at' (ws.drop i)=some s∧i≤ws.length) (hi:(i:Int)<ws.length) (h:ws.getD i false=true):(((Tr.node l r).child (ws.getD i false)).at' (ws.drop (i+1))=some s∧i+1≤ws.length)∧ws.length - (i+1)<ws.length - i:=by
  rw[h];exact⟨⟨(Tr.at_node hk.1 hi).1 h,by omega⟩,by omega⟩
theorem chBF {l r s:Tr} {ws:List Bool} {i:Nat} (hk:(Tr.node l r).at' (ws.drop i)=some s∧i≤ws.length) (hi:(i:Int)<ws.length) (h:ws.getD i false=false):(((Tr.node l r).child (ws.getD i false)).at' (ws.drop (i+1))=some s∧i+1≤ws.length)∧ws.length - (i+1)<ws.length - i:=by
  rw[h];exact⟨⟨(Tr.at_node hk.1 hi).2 h,by omega⟩,by omega⟩
theorem Node_ok (t s:Tr) (ws:List Bool) (hw:ws.length≤1000000) (hs:t.at' ws=some s) (hk:s.key.length≤1000) (hv:s.value.length≤1000):FOk EN 102 ⟨[.rd 4 ws,.pn (PTO (some t)) false false],[.p 1 0,.n 0],Unit,fun _=>([.rd 4 ws,.pn (PTO (some t)) false false,.rd 5 (s.key),.rd 5 (s.value)],.t [.a [.n 2,.n 3,.i s.height,.u s.size,.h 32 s.lh,.h 32 s.rh],.b true]),fun _=>True⟩:=by
 refine v_fun Tryd.f102 ccB10_102 MX (fun ν F σ w=>?_) Tryd.func102
 refine v_nl ?_
 refine v_guard 11 (false) True trivial (fun h1=>?_) (fun h1=>?_)
 ·skip
  contradiction
 ·skip
  refine v_open 1 (open_ts (t)) ((false=false)∧(PTO (some t)=PTO (some t))) ⟨rfl,rfl⟩ ?_
  refine v_if (false) True trivial (fun h2=>?_) (fun h2=>?_)
  ·skip
   contradiction
  ·skip
   refine v_loop (fun k:Nat × Tr=>([(25,.i k.1),(6,.p 5 0)],[.pn (PT (k.2)) false false])) (fun k=>k.2.at' (ws.drop k.1)=some s∧k.1≤ws.length) (fun k=>ws.length - k.1) (0,t) [4] (((0:Int)=(↑(0:Nat):Int))∧(PT t=PT t)∧(false=false)) ⟨rfl,rfl,rfl⟩ (by(simp;omega)) (fun k hk3=>?_)
   obtain⟨i,t2⟩:=k
   cases t2 with
   | leaf a b =>
    refine v_if (decide ((↑i:Int)<(↑ws.length:Int))) True trivial (fun h4=>?_) (fun h4=>?_)
    ·have h4:=of_decide_eq_true h4
     exfalso;exact Tr.at_leaf' ‹_› ‹_›
    ·have h4:=of_decide_eq_false h4
     refine v_leave (.ex 0) True trivial ?_
     refine v_open 5 (open_leaf (a) (b)) ((false=false)∧(PT (Tr.leaf a b)=PT (Tr.leaf a b))) ⟨rfl,rfl⟩ ?_
     refine v_call _ [6,7] (copied_ok (a) (b) (z32) (z32) (0) (1) (by(cases Tr.at_end' ‹_› ‹_›;first | rfl | assumption | exact Tr.hash_len _)) (by(cases Tr.at_end' ‹_› ‹_›;first | rfl | assumption | exact Tr.hash_len _)) rfl rfl) (((0:Int)=(0:Int))∧((1:UInt64)=(1:UInt64))∧(z32=z32)∧(z32=z32)∧(a=a)∧(b=b)) ⟨rfl,rfl,rfl,rfl,rfl,rfl⟩ (fun g5 p6=>?_)
     have p6:True:=p6
     exact v_ret () [8,9] ((0=s.height)∧(1=s.size)∧(z32=s.lh)∧(z32=s.rh)∧(true=true)∧(ws=ws)∧(PLe (PTO (some t)) (PTO (some t)))∧(false=false)∧(a=s.key)∧(b=s.value)) ⟨(by(cases Tr.at_end' ‹_› ‹_›;first | rfl | assumption | exact Tr.hash_len _)),(by(cases Tr.at_end' ‹_› ‹_›;first | rfl | assumption | exact Tr.hash_len _)),(by(cases Tr.at_end' ‹_› ‹_›;first | rfl | assumption | exact Tr.hash_len _)),(by(cases Tr.at_end' ‹_› ‹_›;first | rfl | assumption | exact Tr.hash_len _)),rfl,rfl,fun _ _ _ h=>h,rfl,(by(cases Tr.at_end' ‹_› ‹_›;first | rfl | assumption | exact Tr.hash_len _)),(by(cases Tr.at_end' ‹_› ‹_›;first | rfl | assumption | exact Tr.hash_len _))⟩ trivial
   | node l r =>
    refine v_if (decide ((↑i:Int)<(↑ws.length:Int))) True trivial (fun h7=>?_) (fun h7=>?_)
    ·have h7:=of_decide_eq_true h7
     refine v_open 5 (open_node (l) (r)) ((0≤(↑i:Int)∧(↑i:Int)<(↑ws.length:Int))∧(false=false)∧(PT (l.node r)=PT (l.node r))) ⟨(by omega),rfl,rfl⟩ ?_
     refine v_if (decide ((l.node r).height=0)) True trivial (fun h8=>?_) (fun h8=>?_)
     ·have h8:=of_decide_eq_true h8
      exfalso;(have:=Tr.height_pos (l:=l) (r:=r);omega)
     ·have h8:=of_decide_eq_false h8
      refine v_if (ws.getD (↑i:Int).toNat false) True trivial (fun h9=>?_) (fun h9=>?_)
      ·skip
       exact v_back (((i,l.node r).fst+1,(i,l.node r).snd.child (ws.getD (i,l.node r).fst false))) [9] ((I64 (↑i+1))∧((↑i:Int)+1=(↑(i+1):Int))∧(PT r=PT ((l.node r).child (ws.getD i false)))∧(false=false)) ⟨(by(unfold I64;omega)),rfl,(by exact chT ‹_›),rfl⟩ (show(((l.node r).child (ws.getD i false)).at' (List.drop (i+1) ws)=some s∧i+1≤ws.length)∧ws.length - (i+1)<ws.length - i from(by exact chBT ‹_› ‹_› ‹_›))
      ·skip
       exact v_back (((i,l.node r).fst+1,(i,l.node r).snd.child (ws.getD (i,l.node r).fst false))) [8] ((I64 (↑i+1))∧((↑i:Int)+1=(↑(i+1):Int))∧(PT l=PT ((l.node r).child (ws.getD i false)))∧(false=false)) ⟨(by(unfold I64;omega)),rfl,(by exact chF ‹_›),rfl⟩ (show(((l.node r).child (ws.getD i false)).at' (List.drop (i+1) ws)=some s∧i+1≤ws.length)∧ws.length - (i+1)<ws.length - i from(by exact chBF ‹_› ‹_› ‹_›))
    ·have h7:=of_decide_eq_false h7
     refine v_leave (.ex 0) True trivial ?_
     refine v_open 5 (open_node (l) (r)) ((false=false)∧(PT (l.node r)=PT (l.node r))) ⟨rfl,rfl⟩ ?_
     refine v_call _ [6,2] (copied_ok ((l.node r).key) ([]) (l.hash) (r.hash) ((l.node r).height) ((l.node r).size) (by(cases Tr.at_end' ‹_› ‹_›;first | rfl | assumption | exact Tr.hash_len _)) (by decide) (by(cases Tr.at_end' ‹_› ‹_›;first | rfl | assumption | exact Tr.hash_len _)) (by(cases Tr.at_end' ‹_› ‹_›;first | rfl | assumption | exact Tr.hash_len _))) (((l.node r).height=(l.node r).height)∧((l.node r).size=(l.node r).size)∧(l.hash=l.hash)∧(r.hash=r.hash)∧((l.node r).key=(l.node r).key)∧(Eq (α:=List UInt8) [] [])) ⟨rfl,rfl,rfl,rfl,rfl,rfl⟩ (fun g10 p11=>?_)
     have p11:True:=p11
     exact v_ret () [9,10] (((l.node r).height=s.height)∧((l.node r).size=s.size)∧(l.hash=s.lh)∧(r.hash=s.rh)∧(true=true)∧(ws=ws)∧(PLe (PTO (some t)) (PTO (some t)))∧(false=false)∧((l.node r).key=s.key)∧([]=s.value)) ⟨(by(cases Tr.at_end' ‹_› ‹_›;first | rfl | assumption | exact Tr.hash_len _)),(by(cases Tr.at_end' ‹_› ‹_›;first | rfl | assumption | exact Tr.hash_len _)),(by(cases Tr.at_end' ‹_› ‹_›;first | rfl | assumption | exact Tr.hash_len _)),(by(cases Tr.at_end' ‹_› ‹_›;first | rfl | assumption | exact Tr.hash_len _)),rfl,rfl,fun _ _ _ h=>h,rfl,(by(cases Tr.at_end' ‹_› ‹_›;first | rfl | assumption | exact Tr.hash_len _)),(by(cases Tr.at_end' ‹_› ‹_›;first | rfl | assumption | exact Tr.hash_len _))⟩ trivial
namespace Tr
def rt (k:List UInt8) (t:Tr):Bool:=decide (0≤Lib.compareBytes k t.key)
def turn (k:List UInt8) (t:Tr):Turn:=⟨t.height,t.size,t.rt k,if t.rt k then mk32 t.lh else mk32 t.rh⟩
def turns (k:List UInt8):Tr→List Turn
  | leaf _ _=>[]
  | node l r=>(node l r).turn k::(if(node l r).rt k then r.turns k else l.turns k)
def fin (k:List UInt8):Tr→Tr
  | leaf a b=>leaf a b
  | node l r=>if(node l r).rt k then r.fin k else l.fin k
end Tr
namespace Tr
theorem at_snoc {b:Bool}:∀ {t s:Tr} {ws:List Bool},t.at' ws=some s→0<s.height→t.at' (ws++[b])=some (s.child b)
  | leaf _ _,s,[],h,hp=>by simp[at'] at h;subst h;simp[height] at hp
  | leaf _ _,s,_::_,h,hp=>by simp[at'] at h
  | node l r,s,[],h,hp=>by simp[at'] at h;subst h;cases b <;> simp[at',child,lo,ro] <;> (first | cases r <;> rfl | cases l <;> rfl)
  | node l r, s, c :: ws, h, hp => by
    simp only[at'] at h
    simp only[List.cons_append,at']
    cases c with
    | true=>rw[if_pos rfl] at h ⊢;exact at_snoc h hp
    | false=>rw[if_neg (by simp)] at h ⊢;exact at_snoc h hp
theorem leaf_of {s:Tr} (h:s.height=0):∃ a b,s=leaf a b:=by
  cases s with
  | leaf a b=>exact⟨a,b,rfl⟩
  | node l r=>have:=height_pos (l:=l) (r:=r);omega
theorem turns_in (k:List UInt8) {s:Tr} (h:¬ s.height=0):s.turns k=s.turn k::(s.child (s.rt k)).turns k∧s.fin k=(s.child (s.rt k)).fin k∧(s.child (s.rt k)).depth<s.depth∧(s.Ks→(s.child (s.rt k)).Ks):=by
  cases s with
  | leaf a b=>exact absurd rfl h
  | node l r =>
    simp only[turns,fin,child,lo,ro]
    cases(node l r).rt k
    · exact⟨rfl,rfl,by simp[depth];omega,fun h=>h.1⟩
    · exact⟨rfl,rfl,by simp[depth];omega,fun h=>h.2⟩
theorem key_le {s:Tr} (h:s.Ks):s.key.length≤1000:=by
  cases s with
  | leaf a b=>exact h.1
  | node l r=>exact least_le h.2
theorem value_le {s:Tr} (h:s.Ks):s.value.length≤1000:=by
  cases s with
  | leaf a b=>exact h.2
  | node l r=>simp[value]
end Tr
def DI (k:List UInt8) (t:Tr) (q:List Bool × List Turn × Tr):Prop:=t.at' q.1=some q.2.2∧q.2.1++q.2.2.turns k=t.turns k∧q.2.2.fin k=t.fin k∧q.2.2.Ks∧q.1.length+q.2.2.depth≤t.depth∧q.2.1.length=q.1.length
theorem DI.start {k:List UInt8} {t:Tr} (h:t.Ks):DI k t ([],[],t):=⟨by cases t <;> rfl,rfl,rfl,h,by simp,rfl⟩
theorem DI.next {k:List UInt8} {t:Tr} {q:List Bool × List Turn × Tr} (h:DI k t q) (h0:¬ q.2.2.height=0):DI k t (q.1++[q.2.2.rt k],q.2.1++[q.2.2.turn k],q.2.2.child (q.2.2.rt k))∧(q.2.2.child (q.2.2.rt k)).depth<q.2.2.depth:=by
  obtain⟨a1,a2,a3,a4,a5,a6⟩:=h
  obtain⟨b1,b2,b3,b4⟩:=Tr.turns_in k h0
  have:=q.2.2.height_nn
  refine⟨⟨Tr.at_snoc a1 (by omega),?_,by rw[← b2];exact a3,b4 a4,by simp;omega,by simp[a6]⟩,b3⟩
  rw[← a2,b1];simp
theorem DI.stop {k:List UInt8} {t:Tr} {q:List Bool × List Turn × Tr} (h:DI k t q) (h0:q.2.2.height=0):q.2.2.key=(t.fin k).key∧q.2.2.value=(t.fin k).value∧q.2.1=t.turns k:=by
  obtain⟨a1,a2,a3,a4,a5,a6⟩:=h
  obtain⟨a,b,e⟩:=Tr.leaf_of h0
  rw[e] at a2 a3 ⊢
  simp only[Tr.turns,Tr.fin,List.append_nil] at a2 a3
  rw[← a3];exact⟨rfl,rfl,a2⟩
noncomputable def ccC1_59:Code:=(Tryd.f59.body).getD .skip
theorem mk1_ok (k a b l r:List UInt8) (h:Int) (s:UInt64):FOk EN 59 ⟨[.rd 5 (k),.rd 5 (a),.rd 5 (b),.bx 22 [.n 0]],[.a [.n 1,.n 2,.i h,.u s,.h 32 l,.h 32 r],.p 3 0],Unit,fun _=>([.rd 5 (k),.rd 5 (a),.rd 5 (b),.bx 22 [.n 0]],.b (decide (0≤Lib.compareBytes k a))),fun _=>True⟩:=by
 refine v_fun Tryd.f59 ccC1_59 MX (fun ν F σ w=>?_) Tryd.func59
 refine v_nl ?_
 refine v_call _ [0,1] (bcmp_ok (k) (a)) ((k=k)∧(a=a)) ⟨rfl,rfl⟩ (fun g1 p2=>?_)
 have p2:True:=p2
 exact v_ret () [] ((decide (0≤Lib.compareBytes k a)=decide (0≤Lib.compareBytes k a))∧(k=k)∧(a=a)∧(b=b)) ⟨rfl,rfl,rfl,rfl⟩ trivial
noncomputable def ccC1_58:Code:=(Tryd.f58.body).getD .skip
theorem down_ok (k:List UInt8) (t:Tr) (hk:t.Ks) (hd:t.depth≤100000):FOk EN 58 ⟨[.rd 5 (k),.bx 22 [.n 0],.pn (PTO (some t)) false false],[.p 2 0,.f 59 [] [.p 1 0]],Unit,fun _=>([.rd 5 (k),.bx 22 [.n 0],.pn (PTO (some t)) false false,.rd 5 ((t.fin k).key),.rd 5 ((t.fin k).value),.ow 121 (t.turns k)],.t [.a [.n 3,.n 4,.n 5],.b true]),fun _=>True⟩:=by
 refine v_fun Tryd.f58 ccC1_58 MX (fun ν F σ w=>?_) Tryd.func58
 refine v_nl ?_
 refine v_run True trivial ?_
 refine v_nl ?_
 refine v_loop (fun q:List Bool × List Turn × Tr=>([(6,.p 7 0),(7,.n 8)],[.bx 26 [.v (.slice none 0 0),.v (.slice none 0 0),.n 9],.ow 4 q.1,.ow 121 q.2.1])) (fun q=>DI k t q) (fun q=>q.2.2.depth) ([],[],t) [5,3,6] ((Value.slice none 0 0=Value.slice none 0 0)∧(Value.slice none 0 0=Value.slice none 0 0)∧(Eq (α:=List Bool) [] [])∧(Eq (α:=List Turn) [] [])) ⟨rfl,rfl,rfl,rfl⟩ (by exact DI.start hk) (fun q hk1=>?_)
 have h2:=(‹DI k t q›).1
 have h3:=(‹DI k t q›).2.2.2.1
 have h4:=(‹DI k t q›).2.2.2.2
 refine v_call _ [8,2] (Node_ok (t) (q.snd.snd) (q.fst) (by omega) (h2) (by exact Tr.key_le h3) (by exact Tr.value_le h3)) ((q.fst=q.fst)∧(PTO (some t)=PTO (some t))∧(false=false)) ⟨rfl,rfl,rfl⟩ (fun g2 p3=>?_)
 have p3:True:=p3
 refine v_if (!true) True trivial (fun h4=>?_) (fun h4=>?_)
 ·have h4:=(nt h4)
  contradiction
 ·have h4:=(nf h4)
  refine v_if (decide (q.snd.snd.height=0)) True trivial (fun h5=>?_) (fun h5=>?_)
  ·have h5:=of_decide_eq_true h5
   refine v_plan (.fs [0,1,2,3,4] (.o 5 (.fs [6] (.o 7 .e)))) [1,4,8,9,12] True trivial ?_
   refine v_leave .rt True trivial ?_
   exact v_ret () [10,11,9] ((true=true)∧(k=k)∧(PTO (some t)=PTO (some t))∧(false=false)∧(q.snd.snd.key=(Tr.fin k t).key)∧(q.snd.snd.value=(Tr.fin k t).value)∧(q.snd.fst=Tr.turns k t)) ⟨rfl,rfl,rfl,rfl,(by exact(DI.stop ‹_› ‹_›).1),(by exact(DI.stop ‹_› ‹_›).2.1),(by exact(DI.stop ‹_› ‹_›).2.2)⟩ trivial
  ·have h5:=of_decide_eq_false h5
   refine v_call _ [0,10,11,1] (mk1_ok (k) (q.snd.snd.key) (q.snd.snd.value) (q.snd.snd.lh) (q.snd.snd.rh) (q.snd.snd.height) (q.snd.snd.size)) ((q.snd.snd.height=q.snd.snd.height)∧(q.snd.snd.size=q.snd.snd.size)∧(q.snd.snd.lh=q.snd.snd.lh)∧(q.snd.snd.rh=q.snd.snd.rh)∧(k=k)∧(q.snd.snd.key=q.snd.snd.key)∧(q.snd.snd.value=q.snd.snd.value)) ⟨rfl,rfl,rfl,rfl,rfl,rfl,rfl⟩ (fun g6 p7=>?_)
   have p7:True:=p7
   refine v_if (decide (0≤Lib.compareBytes k q.snd.snd.key)) True trivial (fun h8=>?_) (fun h8=>?_)
   ·have h8:=of_decide_eq_true h8
    exact v_back ((q.fst++[Tr.rt k q.snd.snd],q.snd.fst++[Tr.turn k q.snd.snd],q.snd.snd.child (Tr.rt k q.snd.snd))) [7,17,15] ((q.snd.fst.length+1≤1000000)∧(q.fst.length+1≤1000000)∧(Value.slice none 0 0=Value.slice none 0 0)∧(Value.slice none 0 0=Value.slice none 0 0)∧(q.fst++[decide (0≤Lib.compareBytes k q.snd.snd.key)]=q.fst++[Tr.rt k q.snd.snd])∧(q.snd.fst++[Turn.mk q.snd.snd.height q.snd.snd.size (decide (0≤Lib.compareBytes k q.snd.snd.key)) (mk32 q.snd.snd.lh)]=q.snd.fst++[Tr.turn k q.snd.snd])) ⟨(by omega),(by omega),rfl,rfl,rfl,(by(simp[Tr.turn,Tr.rt, *];done))⟩ (show DI k t (q.fst++[Tr.rt k q.snd.snd],q.snd.fst++[Tr.turn k q.snd.snd],q.snd.snd.child (Tr.rt k q.snd.snd))∧(q.snd.snd.child (Tr.rt k q.snd.snd)).depth<q.snd.snd.depth from(by exact DI.next ‹_› ‹_›))
   ·have h8:=of_decide_eq_false h8
    exact v_back ((q.fst++[Tr.rt k q.snd.snd],q.snd.fst++[Tr.turn k q.snd.snd],q.snd.snd.child (Tr.rt k q.snd.snd))) [7,17,15] ((q.snd.fst.length+1≤1000000)∧(q.fst.length+1≤1000000)∧(Value.slice none 0 0=Value.slice none 0 0)∧(Value.slice none 0 0=Value.slice none 0 0)∧(q.fst++[decide (0≤Lib.compareBytes k q.snd.snd.key)]=q.fst++[Tr.rt k q.snd.snd])∧(q.snd.fst++[Turn.mk q.snd.snd.height q.snd.snd.size (decide (0≤Lib.compareBytes k q.snd.snd.key)) (mk32 q.snd.snd.rh)]=q.snd.fst++[Tr.turn k q.snd.snd])) ⟨(by omega),(by omega),rfl,rfl,rfl,(by(simp[Tr.turn,Tr.rt, *];done))⟩ (show DI k t (q.fst++[Tr.rt k q.snd.snd],q.snd.fst++[Tr.turn k q.snd.snd],q.snd.snd.child (Tr.rt k q.snd.snd))∧(q.snd.snd.child (Tr.rt k q.snd.snd)).depth<q.snd.snd.depth from(by exact DI.next ‹_› ‹_›))
def mkP (k:List UInt8):Option Tr→Proof
  | none=>⟨[],[],[]⟩
  | some t=>if(t.fin k).key=k then⟨(t.fin k).key,(t.fin k).value,t.turns k⟩ else⟨[],[],[]⟩
def mkB (k:List UInt8):Option Tr→Bool
  | none=>false
  | some t=>decide ((t.fin k).key=k)
theorem downnone_ok (k:List UInt8):FOk EN 58 ⟨[.rd 5 (k),.bx 22 [.n 0],.pn (PTO none) false false],[.p 2 0,.f 59 [] [.p 1 0]],Unit,fun _=>([.rd 5 (k),.bx 22 [.n 0],.pn (PTO none) false false],.t [.a [.v (.slice none 0 0),.v (.slice none 0 0),.v (.slice none 0 0)],.b false]),fun _=>True⟩:=by
 refine v_fun Tryd.f58 ccC1_58 MX (fun ν F σ w=>?_) Tryd.func58
 refine v_nl ?_
 refine v_loop (fun q:Unit=>([(6,.p 6 0),(7,.v (.slice none 0 0))],[.bx 26 [.v (.slice none 0 0),.v (.slice none 0 0),.v (.slice none 0 0)]])) (fun q=>True) (fun q=>0) () [5] ((Value.slice none 0 0=Value.slice none 0 0)∧(Value.slice none 0 0=Value.slice none 0 0)∧(Value.slice none 0 0=Value.slice none 0 0)∧(Value.slice none 0 0=Value.slice none 0 0)) ⟨rfl,rfl,rfl,rfl⟩ trivial (fun q hk1=>?_)
 refine v_call _ [3,2] (Nodenone_ok ([])) ((Eq (α:=List Bool) [] [])∧(PTO none=PTO none)∧(false=false)) ⟨rfl,rfl,rfl⟩ (fun g2 p3=>?_)
 have p3:True:=p3
 refine v_if (!false) True trivial (fun h4=>?_) (fun h4=>?_)
 ·have h4:=(nt h4)
  refine v_leave .rt True trivial ?_
  exact v_ret () [] ((Value.slice none 0 0=Value.slice none 0 0)∧(Value.slice none 0 0=Value.slice none 0 0)∧(Value.slice none 0 0=Value.slice none 0 0)∧(false=false)∧(k=k)∧(PTO none=PTO none)∧(false=false)) ⟨rfl,rfl,rfl,rfl,rfl,rfl,rfl⟩ trivial
 ·have h4:=(nf h4)
  contradiction
noncomputable def ccC1_16:Code:=(Tryd.f16.body).getD .skip
theorem Make1_aux (k:List UInt8):FOk EN 16 ⟨[.rd 5 (k),.pn (PTO none) false false],[.p 1 0,.n 0],Unit,fun _=>([.rd 5 (k),.pn (PTO none) false false,.rd 5 ([]),.rd 5 ([]),.rd 121 []],.t [.a [.n 2,.n 3,.n 4],.b false]),fun _=>True⟩:=by
 refine v_fun Tryd.f16 ccC1_16 MX (fun ν F σ w=>?_) Tryd.func16
 refine v_nl ?_
 refine v_call _ [0,3,1] (downnone_ok (k)) ((59=59)∧(k=k)∧(PTO none=PTO none)∧(false=false)) ⟨rfl,rfl,rfl,rfl⟩ (fun g1 p2=>?_)
 have p2:True:=p2
 refine v_guard 16 (!false) True trivial (fun h3=>?_) (fun h3=>?_)
 ·have h3:=(nt h3)
  exact v_ret () [2,2,2] ((false=false)∧(k=k)∧(PTO none=PTO none)∧(false=false)∧(Eq (α:=List UInt8) [] [])∧(Eq (α:=List UInt8) [] [])∧(Eq (α:=List Turn) [] [])) ⟨rfl,rfl,rfl,rfl,rfl,rfl,rfl⟩ trivial
 ·have h3:=(nf h3)
  contradiction
theorem Make2_aux (t:Tr) (k:List UInt8) (hk:t.Ks) (hd:t.depth≤100000) (he:(t.fin k).key=k):FOk EN 16 ⟨[.rd 5 (k),.pn (PTO (some t)) false false],[.p 1 0,.n 0],Unit,fun _=>([.rd 5 (k),.pn (PTO (some t)) false false,.rd 5 ((t.fin k).key),.rd 5 ((t.fin k).value),.rd 121 (t.turns k)],.t [.a [.n 2,.n 3,.n 4],.b true]),fun _=>True⟩:=by
 refine v_fun Tryd.f16 ccC1_16 MX (fun ν F σ w=>?_) Tryd.func16
 refine v_nl ?_
 refine v_call _ [0,3,1] (down_ok (k) (t) ‹_› ‹_›) ((59=59)∧(k=k)∧(PTO (some t)=PTO (some t))∧(false=false)) ⟨rfl,rfl,rfl,rfl⟩ (fun g1 p2=>?_)
 have p2:True:=p2
 refine v_guard 16 (!true) True trivial (fun h3=>?_) (fun h3=>?_)
 ·have h3:=(nt h3)
  contradiction
 ·have h3:=(nf h3)
  refine v_call _ [5,0] (beq_ok ((Tr.fin k t).key) (k)) (((Tr.fin k t).key=(Tr.fin k t).key)∧(k=k)) ⟨rfl,rfl⟩ (fun g4 p5=>?_)
  have p5:True:=p5
  refine v_if (!decide ((Tr.fin k t).key=k)) True trivial (fun h6=>?_) (fun h6=>?_)
  ·have h6:=of_decide_eq_false (nt h6)
   contradiction
  ·have h6:=of_decide_eq_true (nf h6)
   exact v_ret () [5,6,7] ((true=true)∧(k=k)∧(PTO (some t)=PTO (some t))∧(false=false)∧((Tr.fin k t).key=(Tr.fin k t).key)∧((Tr.fin k t).value=(Tr.fin k t).value)∧(Tr.turns k t=Tr.turns k t)) ⟨rfl,rfl,rfl,rfl,rfl,rfl,rfl⟩ trivial
theorem Make3_aux (t:Tr) (k:List UInt8) (hk:t.Ks) (hd:t.depth≤100000) (he:¬ (t.fin k).key=k):FOk EN 16 ⟨[.rd 5 (k),.pn (PTO (some t)) false false],[.p 1 0,.n 0],Unit,fun _=>([.rd 5 (k),.pn (PTO (some t)) false false,.rd 5 ([]),.rd 5 ([]),.rd 121 []],.t [.a [.n 2,.n 3,.n 4],.b false]),fun _=>True⟩:=by
 refine v_fun Tryd.f16 ccC1_16 MX (fun ν F σ w=>?_) Tryd.func16
 refine v_nl ?_
 refine v_call _ [0,3,1] (down_ok (k) (t) ‹_› ‹_›) ((59=59)∧(k=k)∧(PTO (some t)=PTO (some t))∧(false=false)) ⟨rfl,rfl,rfl,rfl⟩ (fun g1 p2=>?_)
 have p2:True:=p2
 refine v_guard 16 (!true) True trivial (fun h3=>?_) (fun h3=>?_)
 ·have h3:=(nt h3)
  contradiction
 ·have h3:=(nf h3)
  refine v_call _ [5,0] (beq_ok ((Tr.fin k t).key) (k)) (((Tr.fin k t).key=(Tr.fin k t).key)∧(k=k)) ⟨rfl,rfl⟩ (fun g4 p5=>?_)
  have p5:True:=p5
  refine v_if (!decide ((Tr.fin k t).key=k)) True trivial (fun h6=>?_) (fun h6=>?_)
  ·have h6:=of_decide_eq_false (nt h6)
   exact v_ret () [2,2,2] ((false=false)∧(k=k)∧(PTO (some t)=PTO (some t))∧(false=false)∧(Eq (α:=List UInt8) [] [])∧(Eq (α:=List UInt8) [] [])∧(Eq (α:=List Turn) [] [])) ⟨rfl,rfl,rfl,rfl,rfl,rfl,rfl⟩ trivial
  ·have h6:=of_decide_eq_true (nf h6)
   contradiction
theorem Make_ok (o:Option Tr) (k:List UInt8) (ho:okO o):FOk EN 16 ⟨[.rd 5 (k),.pn (PTO o) false false],[.p 1 0,.n 0],Unit,fun _=>([.rd 5 (k),.pn (PTO o) false false,.rd 5 ((mkP k o).key),.rd 5 ((mkP k o).value),.rd 121 (mkP k o).turns],.t [.a [.n 2,.n 3,.n 4],.b (mkB k o)]),fun _=>True⟩:=by
  cases o with
  | none=>exact Make1_aux k
  | some t =>
    by_cases h:(t.fin k).key=k
    · rw [show mkP k (some t) = ⟨(t.fin k).key, (t.fin k).value, t.turns k⟩ by simp [mkP, h], show mkB k (some t) = true by simp [mkB, h]]
      exact Make2_aux t k (ho t rfl).1 (ho t rfl).2.2 h
    · rw [show mkP k (some t) = ⟨[], [], []⟩ by simp [mkP, h], show mkB k (some t) = false by simp [mkB, h]]
      exact Make3_aux t k (ho t rfl).1 (ho t rfl).2.2 h
def gp (o:Option Proof):Proof:=o.getD ⟨[],[],[]⟩
theorem gp_some {o:Option Proof} (h:o.isNone=false):o=some (gp o):=by cases o with | none=>simp at h | some x=>rfl
theorem open_pf (o:Option Proof) (h:o.isNone=false):Opens (G:=GT) (PPt GT 26 o) (fun _=>[.rd 5 ((gp o).key),.rd 5 ((gp o).value),.rd 121 (gp o).turns]) (fun b=>[.n b,.n (b+1),.n (b+2)]):=opens_pt (En:=EN) (gp_some h) _ _ (fun _=>rfl)
theorem close_pf (k v:List UInt8) (t:List Turn):Closes (G:=GT) (PPt GT 26 (some (⟨k,v,t⟩:Proof))) [.rd 5 (k),.rd 5 (v),.rd 121 t] [.n 0,.n 1,.n 2]:=closes_pt (En:=EN) _ _ rfl
def noneG (k:List UInt8) (o:Option Tr):List Pair→Option Proof × Option Proof→Option (Option Proof × Option Proof)
  | [],g=>some g
  | x::xs,g=>if Lib.compareBytes x.key k=0 then none else if Lib.compareBytes x.key k<0 then noneG k o xs (some (mkP x.key o),g.2) else if g.2.isNone then noneG k o xs (g.1,some (mkP x.key o)) else noneG k o xs g
def noneR (k:List UInt8) (o:Option Tr):Option (Option Proof × Option Proof):=noneG k o (leavesO o) (none,none)
theorem drop_cons {α:Type} {l:List α} {i:Nat} {d:α} (hi:(i:Int)<l.length):l.drop i=l.getD i d::l.drop (i+1):=by
  have hl:i<l.length:=by omega
  rw[List.drop_eq_getElem_cons hl]
  simp[List.getD_eq_getElem?_getD,hl]
def NI (k:List UInt8) (o:Option Tr) (q:Nat × Option Proof × Option Proof):Prop:=noneG k o ((leavesO o).drop q.1) q.2=noneR k o∧q.1≤(leavesO o).length
section
variable {k:List UInt8} {o:Option Tr} {i:Nat} {l r l' r':Option Proof}
theorem NI.hit (h:NI k o (i,l,r)) (hi:(i:Int)<(leavesO o).length) (hc:Lib.compareBytes ((leavesO o).getD i ⟨[],[]⟩).key k=0):noneR k o=none:=by
  have h:=h.1;rw[drop_cons (d:=⟨[],[]⟩) hi,noneG,if_pos hc] at h;exact h.symm
theorem NI.below (h:NI k o (i,l,r)) (hi:(i:Int)<(leavesO o).length) (hc:Lib.compareBytes ((leavesO o).getD i ⟨[],[]⟩).key k<0):NI k o (i+1,some (mkP ((leavesO o).getD i ⟨[],[]⟩).key o),r)∧(leavesO o).length - (i+1)<(leavesO o).length - i:=by
  obtain⟨h,h2⟩:=h;rw[drop_cons (d:=⟨[],[]⟩) hi,noneG,if_neg (by omega),if_pos hc] at h;exact⟨⟨h,by omega⟩,by omega⟩
theorem NI.above (h:NI k o (i,l,r)) (hi:(i:Int)<(leavesO o).length) (hc:¬ Lib.compareBytes ((leavesO o).getD i ⟨[],[]⟩).key k=0) (hd:¬ Lib.compareBytes ((leavesO o).getD i ⟨[],[]⟩).key k<0) (hr:r.isNone=true):NI k o (i+1,l,some (mkP ((leavesO o).getD i ⟨[],[]⟩).key o))∧(leavesO o).length - (i+1)<(leavesO o).length - i:=by
  obtain⟨h,h2⟩:=h;rw[drop_cons (d:=⟨[],[]⟩) hi,noneG,if_neg (by omega),if_neg (by omega),if_pos hr] at h;exact⟨⟨h,by omega⟩,by omega⟩
theorem NI.same (h:NI k o (i,l,r)) (hi:(i:Int)<(leavesO o).length) (hc:¬ Lib.compareBytes ((leavesO o).getD i ⟨[],[]⟩).key k=0) (hd:¬ Lib.compareBytes ((leavesO o).getD i ⟨[],[]⟩).key k<0) (hr:r.isNone=false):NI k o (i+1,l,r)∧(leavesO o).length - (i+1)<(leavesO o).length - i:=by
  obtain⟨h,h2⟩:=h;rw[drop_cons (d:=⟨[],[]⟩) hi,noneG,if_neg (by omega),if_neg (by omega),if_neg (by simp[hr])] at h;exact⟨⟨h,by omega⟩,by omega⟩
theorem NI.stop (h:NI k o (i,l,r)) (hi:¬ (i:Int)<(leavesO o).length):noneR k o=some (l,r):=by
  have h:=h.1;rw[List.drop_of_length_le (by omega),noneG] at h;exact h.symm
theorem NI.stop' (hs:noneR k o=some (l',r')) (h:NI k o (i,l,r)) (hi:¬ (i:Int)<(leavesO o).length):l=l'∧r=r':=by
  have:=h.stop hi;rw[hs] at this;injection this with this;injection this with a b;exact⟨a.symm,b.symm⟩
theorem NI.start:NI k o (0,none,none):=⟨rfl,Nat.zero_le _⟩
end
noncomputable def ccC2_17:Code:=(Tryd.f17.body).getD .skip
theorem None1_aux (o:Option Tr) (k:List UInt8) (ho:okO o) (hl:(leavesO o).length≤900000) (hn:noneR k o=none):FOk EN 17 ⟨[.rd 5 (k),.pn (PTO o) false false],[.p 1 0,.n 0],Unit,fun _=>([.rd 5 (k),.pn (PTO o) false false,.pt 26 none,.pt 26 none],.t [.a [.n 2,.n 3],.b false]),fun _=>True⟩:=by
 refine v_fun Tryd.f17 ccC2_17 MX (fun ν F σ w=>?_) Tryd.func17
 refine v_nl ?_
 refine v_call _ [1] (All_ok (o) ‹_› ‹_›) ((PTO o=PTO o)∧(false=false)) ⟨rfl,rfl⟩ (fun g1 p2=>?_)
 have p2:True:=p2
 refine v_al [] (al_pt0 (26)) True trivial ?_
 refine v_loop (fun q:Nat × Option Proof × Option Proof=>([(15,.i q.1),(6,.p 7 0)],[.bx 31 [.n 8,.n 9],.pt 26 q.2.1,.pt 26 q.2.2])) (fun q=>NI k o q) (fun q=>(leavesO o).length - q.1) (0,none,none) [4,6,6] (((0:Int)=(↑(0:Nat):Int))∧(@Eq PP (PPt GT (@OfNat.ofNat Nat (nat_lit 26) (instOfNatNat (nat_lit 26))) (@none Proof)) (PPt GT (@OfNat.ofNat Nat (nat_lit 26) (instOfNatNat (nat_lit 26))) (@none Proof)))∧(@Eq PP (PPt GT (@OfNat.ofNat Nat (nat_lit 26) (instOfNatNat (nat_lit 26))) (@none Proof)) (PPt GT (@OfNat.ofNat Nat (nat_lit 26) (instOfNatNat (nat_lit 26))) (@none Proof)))) ⟨rfl,rfl,rfl⟩ (by exact⟨rfl,Nat.zero_le _⟩) (fun q hk3=>?_)
 refine v_if (decide ((↑q.fst:Int)<(↑(leavesO o).length:Int))) True trivial (fun h4=>?_) (fun h4=>?_)
 ·have h4:=of_decide_eq_true h4
  refine v_call _ [10,1] (Make_ok (o) (((leavesO o).getD (↑q.fst:Int).toNat (Pair.mk [] [])).key) ‹_›) ((0≤(↑q.fst:Int)∧(↑q.fst:Int)<(↑(leavesO o).length:Int))∧(((leavesO o).getD (↑q.fst:Int).toNat (Pair.mk [] [])).key=((leavesO o).getD (↑q.fst:Int).toNat (Pair.mk [] [])).key)∧(PTO o=PTO o)∧(false=false)) ⟨(by omega),rfl,rfl,rfl⟩ (fun g5 p6=>?_)
  have p6:True:=p6
  refine v_call _ [10,0] (bcmp_ok (((leavesO o).getD (↑q.fst:Int).toNat (Pair.mk [] [])).key) (k)) ((((leavesO o).getD (↑q.fst:Int).toNat (Pair.mk [] [])).key=((leavesO o).getD (↑q.fst:Int).toNat (Pair.mk [] [])).key)∧(k=k)) ⟨rfl,rfl⟩ (fun g7 p8=>?_)
  have p8:True:=p8
  refine v_if (decide (Lib.compareBytes ((leavesO o).getD (↑q.fst:Int).toNat (Pair.mk [] [])).key k=0)) True trivial (fun h9=>?_) (fun h9=>?_)
  ·have h9:=of_decide_eq_true h9
   refine v_leave .rt True trivial ?_
   exact v_ret () [6,6] ((false=false)∧(k=k)∧(PTO o=PTO o)∧(false=false)∧(@Eq PP (PPt GT (@OfNat.ofNat Nat (nat_lit 26) (instOfNatNat (nat_lit 26))) (@none Proof)) (PPt GT (@OfNat.ofNat Nat (nat_lit 26) (instOfNatNat (nat_lit 26))) (@none Proof)))∧(@Eq PP (PPt GT (@OfNat.ofNat Nat (nat_lit 26) (instOfNatNat (nat_lit 26))) (@none Proof)) (PPt GT (@OfNat.ofNat Nat (nat_lit 26) (instOfNatNat (nat_lit 26))) (@none Proof)))) ⟨rfl,rfl,rfl,rfl,rfl,rfl⟩ trivial
  ·have h9:=of_decide_eq_false h9
   refine v_if (decide (Lib.compareBytes ((leavesO o).getD (↑q.fst:Int).toNat (Pair.mk [] [])).key k<0)) True trivial (fun h10=>?_) (fun h10=>?_)
   ·have h10:=of_decide_eq_true h10
    refine v_close 17 [14,15,16] (close_pf ((mkP ((leavesO o).getD (↑q.fst:Int).toNat (Pair.mk [] [])).key o).key) ((mkP ((leavesO o).getD (↑q.fst:Int).toNat (Pair.mk [] [])).key o).value) ((mkP ((leavesO o).getD (↑q.fst:Int).toNat (Pair.mk [] [])).key o).turns)) ((I64 (↑q.fst+1))∧((mkP ((leavesO o).getD (↑q.fst:Int).toNat (Pair.mk [] [])).key o).key=(mkP ((leavesO o).getD (↑q.fst:Int).toNat (Pair.mk [] [])).key o).key)∧((mkP ((leavesO o).getD (↑q.fst:Int).toNat (Pair.mk [] [])).key o).value=(mkP ((leavesO o).getD (↑q.fst:Int).toNat (Pair.mk [] [])).key o).value)∧((mkP ((leavesO o).getD (↑q.fst:Int).toNat (Pair.mk [] [])).key o).turns=(mkP ((leavesO o).getD (↑q.fst:Int).toNat (Pair.mk [] [])).key o).turns)) ⟨(by(unfold I64;omega)),rfl,rfl,rfl⟩ ?_
    refine v_al [17] (al_ptr (PPt GT (26:Nat) (some (Proof.mk (mkP ((leavesO o).getD (↑q.fst:Int).toNat (Pair.mk [] [])).key o).key (mkP ((leavesO o).getD (↑q.fst:Int).toNat (Pair.mk [] [])).key o).value (mkP ((leavesO o).getD (↑q.fst:Int).toNat (Pair.mk [] [])).key o).turns)))) ((PLe (PPt GT (26:Nat) (some (Proof.mk (mkP ((leavesO o).getD (↑q.fst:Int).toNat (Pair.mk [] [])).key o).key (mkP ((leavesO o).getD (↑q.fst:Int).toNat (Pair.mk [] [])).key o).value (mkP ((leavesO o).getD (↑q.fst:Int).toNat (Pair.mk [] [])).key o).turns))) (PPt GT (26:Nat) (some (Proof.mk (mkP ((leavesO o).getD (↑q.fst:Int).toNat (Pair.mk [] [])).key o).key (mkP ((leavesO o).getD (↑q.fst:Int).toNat (Pair.mk [] [])).key o).value (mkP ((leavesO o).getD (↑q.fst:Int).toNat (Pair.mk [] [])).key o).turns))))∧(false=false)) ⟨fun _ _ _ h=>h,rfl⟩ ?_
    exact v_back ((q.fst+1,some (Proof.mk (mkP ((leavesO o).getD (↑q.fst:Int).toNat (Pair.mk [] [])).key o).key (mkP ((leavesO o).getD (↑q.fst:Int).toNat (Pair.mk [] [])).key o).value (mkP ((leavesO o).getD (↑q.fst:Int).toNat (Pair.mk [] [])).key o).turns),q.snd.snd)) [7,18,9] (((↑q.fst:Int)+1=(↑(q.fst+1):Int))∧(PPt GT (26:Nat) (some (Proof.mk (mkP ((leavesO o).getD (↑q.fst:Int).toNat (Pair.mk [] [])).key o).key (mkP ((leavesO o).getD (↑q.fst:Int).toNat (Pair.mk [] [])).key o).value (mkP ((leavesO o).getD (↑q.fst:Int).toNat (Pair.mk [] [])).key o).turns))=PPt GT (26:Nat) (some (Proof.mk (mkP ((leavesO o).getD (↑q.fst:Int).toNat (Pair.mk [] [])).key o).key (mkP ((leavesO o).getD (↑q.fst:Int).toNat (Pair.mk [] [])).key o).value (mkP ((leavesO o).getD (↑q.fst:Int).toNat (Pair.mk [] [])).key o).turns)))∧(q.snd.snd=q.snd.snd)) ⟨rfl,rfl,rfl⟩ (show NI k o (q.fst+1,some (Proof.mk (mkP ((leavesO o).getD (↑q.fst:Int).toNat (Pair.mk [] [])).key o).key (mkP ((leavesO o).getD (↑q.fst:Int).toNat (Pair.mk [] [])).key o).value (mkP ((leavesO o).getD (↑q.fst:Int).toNat (Pair.mk [] [])).key o).turns),q.snd.snd)∧(leavesO o).length - (q.fst+1)<(leavesO o).length - q.fst from(by exact NI.below ‹_› ‹_› ‹_›))
   ·have h10:=of_decide_eq_false h10
    refine v_if (q.snd.snd.isNone) True trivial (fun h11=>?_) (fun h11=>?_)
    ·skip
     refine v_close 17 [14,15,16] (close_pf ((mkP ((leavesO o).getD (↑q.fst:Int).toNat (Pair.mk [] [])).key o).key) ((mkP ((leavesO o).getD (↑q.fst:Int).toNat (Pair.mk [] [])).key o).value) ((mkP ((leavesO o).getD (↑q.fst:Int).toNat (Pair.mk [] [])).key o).turns)) ((I64 (↑q.fst+1))∧((mkP ((leavesO o).getD (↑q.fst:Int).toNat (Pair.mk [] [])).key o).key=(mkP ((leavesO o).getD (↑q.fst:Int).toNat (Pair.mk [] [])).key o).key)∧((mkP ((leavesO o).getD (↑q.fst:Int).toNat (Pair.mk [] [])).key o).value=(mkP ((leavesO o).getD (↑q.fst:Int).toNat (Pair.mk [] [])).key o).value)∧((mkP ((leavesO o).getD (↑q.fst:Int).toNat (Pair.mk [] [])).key o).turns=(mkP ((leavesO o).getD (↑q.fst:Int).toNat (Pair.mk [] [])).key o).turns)) ⟨(by(unfold I64;omega)),rfl,rfl,rfl⟩ ?_
     refine v_al [17] (al_ptr (PPt GT (26:Nat) (some (Proof.mk (mkP ((leavesO o).getD (↑q.fst:Int).toNat (Pair.mk [] [])).key o).key (mkP ((leavesO o).getD (↑q.fst:Int).toNat (Pair.mk [] [])).key o).value (mkP ((leavesO o).getD (↑q.fst:Int).toNat (Pair.mk [] [])).key o).turns)))) ((PLe (PPt GT (26:Nat) (some (Proof.mk (mkP ((leavesO o).getD (↑q.fst:Int).toNat (Pair.mk [] [])).key o).key (mkP ((leavesO o).getD (↑q.fst:Int).toNat (Pair.mk [] [])).key o).value (mkP ((leavesO o).getD (↑q.fst:Int).toNat (Pair.mk [] [])).key o).turns))) (PPt GT (26:Nat) (some (Proof.mk (mkP ((leavesO o).getD (↑q.fst:Int).toNat (Pair.mk [] [])).key o).key (mkP ((leavesO o).getD (↑q.fst:Int).toNat (Pair.mk [] [])).key o).value (mkP ((leavesO o).getD (↑q.fst:Int).toNat (Pair.mk [] [])).key o).turns))))∧(false=false)) ⟨fun _ _ _ h=>h,rfl⟩ ?_
     exact v_back ((q.fst+1,q.snd.fst,some (Proof.mk (mkP ((leavesO o).getD (↑q.fst:Int).toNat (Pair.mk [] [])).key o).key (mkP ((leavesO o).getD (↑q.fst:Int).toNat (Pair.mk [] [])).key o).value (mkP ((leavesO o).getD (↑q.fst:Int).toNat (Pair.mk [] [])).key o).turns))) [7,8,18] (((↑q.fst:Int)+1=(↑(q.fst+1):Int))∧(q.snd.fst=q.snd.fst)∧(PPt GT (26:Nat) (some (Proof.mk (mkP ((leavesO o).getD (↑q.fst:Int).toNat (Pair.mk [] [])).key o).key (mkP ((leavesO o).getD (↑q.fst:Int).toNat (Pair.mk [] [])).key o).value (mkP ((leavesO o).getD (↑q.fst:Int).toNat (Pair.mk [] [])).key o).turns))=PPt GT (26:Nat) (some (Proof.mk (mkP ((leavesO o).getD (↑q.fst:Int).toNat (Pair.mk [] [])).key o).key (mkP ((leavesO o).getD (↑q.fst:Int).toNat (Pair.mk [] [])).key o).value (mkP ((leavesO o).getD (↑q.fst:Int).toNat (Pair.mk [] [])).key o).turns)))) ⟨rfl,rfl,rfl⟩ (show NI k o (q.fst+1,q.snd.fst,some (Proof.mk (mkP ((leavesO o).getD (↑q.fst:Int).toNat (Pair.mk [] [])).key o).key (mkP ((leavesO o).getD (↑q.fst:Int).toNat (Pair.mk [] [])).key o).value (mkP ((leavesO o).getD (↑q.fst:Int).toNat (Pair.mk [] [])).key o).turns))∧(leavesO o).length - (q.fst+1)<(leavesO o).length - q.fst from(by exact NI.above ‹_› ‹_› ‹_› ‹_› ‹_›))
    ·skip
     exact v_back ((q.fst+1,q.snd.fst,q.snd.snd)) [7,8,9] ((I64 (↑q.fst+1))∧((↑q.fst:Int)+1=(↑(q.fst+1):Int))∧(q.snd.fst=q.snd.fst)∧(q.snd.snd=q.snd.snd)) ⟨(by(unfold I64;omega)),rfl,rfl,rfl⟩ (show NI k o (q.fst+1,q.snd.fst,q.snd.snd)∧(leavesO o).length - (q.fst+1)<(leavesO o).length - q.fst from(by exact NI.same ‹_› ‹_› ‹_› ‹_› ‹_›))
 ·have h4:=of_decide_eq_false h4
  exfalso;exact absurd (NI.stop ‹_› ‹_›) (by rw[hn];simp)
theorem None2_aux (o:Option Tr) (k:List UInt8) (l r:Option Proof) (ho:okO o) (hl:(leavesO o).length≤900000) (hn:noneR k o=some (l,r)):FOk EN 17 ⟨[.rd 5 (k),.pn (PTO o) false false],[.p 1 0,.n 0],Unit,fun _=>([.rd 5 (k),.pn (PTO o) false false,.pt 26 l,.pt 26 r],.t [.a [.n 2,.n 3],.b true]),fun _=>True⟩:=by
 refine v_fun Tryd.f17 ccC2_17 MX (fun ν F σ w=>?_) Tryd.func17
 refine v_nl ?_
 refine v_call _ [1] (All_ok (o) ‹_› ‹_›) ((PTO o=PTO o)∧(false=false)) ⟨rfl,rfl⟩ (fun g1 p2=>?_)
 have p2:True:=p2
 refine v_al [] (al_pt0 (26)) True trivial ?_
 refine v_loop (fun q:Nat × Option Proof × Option Proof=>([(15,.i q.1),(6,.p 7 0)],[.bx 31 [.n 8,.n 9],.pt 26 q.2.1,.pt 26 q.2.2])) (fun q=>NI k o q) (fun q=>(leavesO o).length - q.1) (0,none,none) [4,6,6] (((0:Int)=(↑(0:Nat):Int))∧(@Eq PP (PPt GT (@OfNat.ofNat Nat (nat_lit 26) (instOfNatNat (nat_lit 26))) (@none Proof)) (PPt GT (@OfNat.ofNat Nat (nat_lit 26) (instOfNatNat (nat_lit 26))) (@none Proof)))∧(@Eq PP (PPt GT (@OfNat.ofNat Nat (nat_lit 26) (instOfNatNat (nat_lit 26))) (@none Proof)) (PPt GT (@OfNat.ofNat Nat (nat_lit 26) (instOfNatNat (nat_lit 26))) (@none Proof)))) ⟨rfl,rfl,rfl⟩ (by exact⟨rfl,Nat.zero_le _⟩) (fun q hk3=>?_)
 refine v_if (decide ((↑q.fst:Int)<(↑(leavesO o).length:Int))) True trivial (fun h4=>?_) (fun h4=>?_)
 ·have h4:=of_decide_eq_true h4
  refine v_call _ [10,1] (Make_ok (o) (((leavesO o).getD (↑q.fst:Int).toNat (Pair.mk [] [])).key) ‹_›) ((0≤(↑q.fst:Int)∧(↑q.fst:Int)<(↑(leavesO o).length:Int))∧(((leavesO o).getD (↑q.fst:Int).toNat (Pair.mk [] [])).key=((leavesO o).getD (↑q.fst:Int).toNat (Pair.mk [] [])).key)∧(PTO o=PTO o)∧(false=false)) ⟨(by omega),rfl,rfl,rfl⟩ (fun g5 p6=>?_)
  have p6:True:=p6
  refine v_call _ [10,0] (bcmp_ok (((leavesO o).getD (↑q.fst:Int).toNat (Pair.mk [] [])).key) (k)) ((((leavesO o).getD (↑q.fst:Int).toNat (Pair.mk [] [])).key=((leavesO o).getD (↑q.fst:Int).toNat (Pair.mk [] [])).key)∧(k=k)) ⟨rfl,rfl⟩ (fun g7 p8=>?_)
  have p8:True:=p8
  refine v_if (decide (Lib.compareBytes ((leavesO o).getD (↑q.fst:Int).toNat (Pair.mk [] [])).key k=0)) True trivial (fun h9=>?_) (fun h9=>?_)
  ·have h9:=of_decide_eq_true h9
   exfalso;exact absurd (NI.hit ‹_› ‹_› ‹_›) (by rw[hn];simp)
  ·have h9:=of_decide_eq_false h9
   refine v_if (decide (Lib.compareBytes ((leavesO o).getD (↑q.fst:Int).toNat (Pair.mk [] [])).key k<0)) True trivial (fun h10=>?_) (fun h10=>?_)
   ·have h10:=of_decide_eq_true h10
    refine v_close 17 [14,15,16] (close_pf ((mkP ((leavesO o).getD (↑q.fst:Int).toNat (Pair.mk [] [])).key o).key) ((mkP ((leavesO o).getD (↑q.fst:Int).toNat (Pair.mk [] [])).key o).value) ((mkP ((leavesO o).getD (↑q.fst:Int).toNat (Pair.mk [] [])).key o).turns)) ((I64 (↑q.fst+1))∧((mkP ((leavesO o).getD (↑q.fst:Int).toNat (Pair.mk [] [])).key o).key=(mkP ((leavesO o).getD (↑q.fst:Int).toNat (Pair.mk [] [])).key o).key)∧((mkP ((leavesO o).getD (↑q.fst:Int).toNat (Pair.mk [] [])).key o).value=(mkP ((leavesO o).getD (↑q.fst:Int).toNat (Pair.mk [] [])).key o).value)∧((mkP ((leavesO o).getD (↑q.fst:Int).toNat (Pair.mk [] [])).key o).turns=(mkP ((leavesO o).getD (↑q.fst:Int).toNat (Pair.mk [] [])).key o).turns)) ⟨(by(unfold I64;omega)),rfl,rfl,rfl⟩ ?_
    refine v_al [17] (al_ptr (PPt GT (26:Nat) (some (Proof.mk (mkP ((leavesO o).getD (↑q.fst:Int).toNat (Pair.mk [] [])).key o).key (mkP ((leavesO o).getD (↑q.fst:Int).toNat (Pair.mk [] [])).key o).value (mkP ((leavesO o).getD (↑q.fst:Int).toNat (Pair.mk [] [])).key o).turns)))) ((PLe (PPt GT (26:Nat) (some (Proof.mk (mkP ((leavesO o).getD (↑q.fst:Int).toNat (Pair.mk [] [])).key o).key (mkP ((leavesO o).getD (↑q.fst:Int).toNat (Pair.mk [] [])).key o).value (mkP ((leavesO o).getD (↑q.fst:Int).toNat (Pair.mk [] [])).key o).turns))) (PPt GT (26:Nat) (some (Proof.mk (mkP ((leavesO o).getD (↑q.fst:Int).toNat (Pair.mk [] [])).key o).key (mkP ((leavesO o).getD (↑q.fst:Int).toNat (Pair.mk [] [])).key o).value (mkP ((leavesO o).getD (↑q.fst:Int).toNat (Pair.mk [] [])).key o).turns))))∧(false=false)) ⟨fun _ _ _ h=>h,rfl⟩ ?_
    exact v_back ((q.fst+1,some (Proof.mk (mkP ((leavesO o).getD (↑q.fst:Int).toNat (Pair.mk [] [])).key o).key (mkP ((leavesO o).getD (↑q.fst:Int).toNat (Pair.mk [] [])).key o).value (mkP ((leavesO o).getD (↑q.fst:Int).toNat (Pair.mk [] [])).key o).turns),q.snd.snd)) [7,18,9] (((↑q.fst:Int)+1=(↑(q.fst+1):Int))∧(PPt GT (26:Nat) (some (Proof.mk (mkP ((leavesO o).getD (↑q.fst:Int).toNat (Pair.mk [] [])).key o).key (mkP ((leavesO o).getD (↑q.fst:Int).toNat (Pair.mk [] [])).key o).value (mkP ((leavesO o).getD (↑q.fst:Int).toNat (Pair.mk [] [])).key o).turns))=PPt GT (26:Nat) (some (Proof.mk (mkP ((leavesO o).getD (↑q.fst:Int).toNat (Pair.mk [] [])).key o).key (mkP ((leavesO o).getD (↑q.fst:Int).toNat (Pair.mk [] [])).key o).value (mkP ((leavesO o).getD (↑q.fst:Int).toNat (Pair.mk [] [])).key o).turns)))∧(q.snd.snd=q.snd.snd)) ⟨rfl,rfl,rfl⟩ (show NI k o (q.fst+1,some (Proof.mk (mkP ((leavesO o).getD (↑q.fst:Int).toNat (Pair.mk [] [])).key o).key (mkP ((leavesO o).getD (↑q.fst:Int).toNat (Pair.mk [] [])).key o).value (mkP ((leavesO o).getD (↑q.fst:Int).toNat (Pair.mk [] [])).key o).turns),q.snd.snd)∧(leavesO o).length - (q.fst+1)<(leavesO o).length - q.fst from(by exact NI.below ‹_› ‹_› ‹_›))
   ·have h10:=of_decide_eq_false h10
    refine v_if (q.snd.snd.isNone) True trivial (fun h11=>?_) (fun h11=>?_)
    ·skip
     refine v_close 17 [14,15,16] (close_pf ((mkP ((leavesO o).getD (↑q.fst:Int).toNat (Pair.mk [] [])).key o).key) ((mkP ((leavesO o).getD (↑q.fst:Int).toNat (Pair.mk [] [])).key o).value) ((mkP ((leavesO o).getD (↑q.fst:Int).toNat (Pair.mk [] [])).key o).turns)) ((I64 (↑q.fst+1))∧((mkP ((leavesO o).getD (↑q.fst:Int).toNat (Pair.mk [] [])).key o).key=(mkP ((leavesO o).getD (↑q.fst:Int).toNat (Pair.mk [] [])).key o).key)∧((mkP ((leavesO o).getD (↑q.fst:Int).toNat (Pair.mk [] [])).key o).value=(mkP ((leavesO o).getD (↑q.fst:Int).toNat (Pair.mk [] [])).key o).value)∧((mkP ((leavesO o).getD (↑q.fst:Int).toNat (Pair.mk [] [])).key o).turns=(mkP ((leavesO o).getD (↑q.fst:Int).toNat (Pair.mk [] [])).key o).turns)) ⟨(by(unfold I64;omega)),rfl,rfl,rfl⟩ ?_
     refine v_al [17] (al_ptr (PPt GT (26:Nat) (some (Proof.mk (mkP ((leavesO o).getD (↑q.fst:Int).toNat (Pair.mk [] [])).key o).key (mkP ((leavesO o).getD (↑q.fst:Int).toNat (Pair.mk [] [])).key o).value (mkP ((leavesO o).getD (↑q.fst:Int).toNat (Pair.mk [] [])).key o).turns)))) ((PLe (PPt GT (26:Nat) (some (Proof.mk (mkP ((leavesO o).getD (↑q.fst:Int).toNat (Pair.mk [] [])).key o).key (mkP ((leavesO o).getD (↑q.fst:Int).toNat (Pair.mk [] [])).key o).value (mkP ((leavesO o).getD (↑q.fst:Int).toNat (Pair.mk [] [])).key o).turns))) (PPt GT (26:Nat) (some (Proof.mk (mkP ((leavesO o).getD (↑q.fst:Int).toNat (Pair.mk [] [])).key o).key (mkP ((leavesO o).getD (↑q.fst:Int).toNat (Pair.mk [] [])).key o).value (mkP ((leavesO o).getD (↑q.fst:Int).toNat (Pair.mk [] [])).key o).turns))))∧(false=false)) ⟨fun _ _ _ h=>h,rfl⟩ ?_
     exact v_back ((q.fst+1,q.snd.fst,some (Proof.mk (mkP ((leavesO o).getD (↑q.fst:Int).toNat (Pair.mk [] [])).key o).key (mkP ((leavesO o).getD (↑q.fst:Int).toNat (Pair.mk [] [])).key o).value (mkP ((leavesO o).getD (↑q.fst:Int).toNat (Pair.mk [] [])).key o).turns))) [7,8,18] (((↑q.fst:Int)+1=(↑(q.fst+1):Int))∧(q.snd.fst=q.snd.fst)∧(PPt GT (26:Nat) (some (Proof.mk (mkP ((leavesO o).getD (↑q.fst:Int).toNat (Pair.mk [] [])).key o).key (mkP ((leavesO o).getD (↑q.fst:Int).toNat (Pair.mk [] [])).key o).value (mkP ((leavesO o).getD (↑q.fst:Int).toNat (Pair.mk [] [])).key o).turns))=PPt GT (26:Nat) (some (Proof.mk (mkP ((leavesO o).getD (↑q.fst:Int).toNat (Pair.mk [] [])).key o).key (mkP ((leavesO o).getD (↑q.fst:Int).toNat (Pair.mk [] [])).key o).value (mkP ((leavesO o).getD (↑q.fst:Int).toNat (Pair.mk [] [])).key o).turns)))) ⟨rfl,rfl,rfl⟩ (show NI k o (q.fst+1,q.snd.fst,some (Proof.mk (mkP ((leavesO o).getD (↑q.fst:Int).toNat (Pair.mk [] [])).key o).key (mkP ((leavesO o).getD (↑q.fst:Int).toNat (Pair.mk [] [])).key o).value (mkP ((leavesO o).getD (↑q.fst:Int).toNat (Pair.mk [] [])).key o).turns))∧(leavesO o).length - (q.fst+1)<(leavesO o).length - q.fst from(by exact NI.above ‹_› ‹_› ‹_› ‹_› ‹_›))
    ·skip
     exact v_back ((q.fst+1,q.snd.fst,q.snd.snd)) [7,8,9] ((I64 (↑q.fst+1))∧((↑q.fst:Int)+1=(↑(q.fst+1):Int))∧(q.snd.fst=q.snd.fst)∧(q.snd.snd=q.snd.snd)) ⟨(by(unfold I64;omega)),rfl,rfl,rfl⟩ (show NI k o (q.fst+1,q.snd.fst,q.snd.snd)∧(leavesO o).length - (q.fst+1)<(leavesO o).length - q.fst from(by exact NI.same ‹_› ‹_› ‹_› ‹_› ‹_›))
 ·have h4:=of_decide_eq_false h4
  refine v_leave (.ex 0) True trivial ?_
  exact v_ret () [8,9] ((true=true)∧(k=k)∧(PTO o=PTO o)∧(false=false)∧(q.snd.fst=l)∧(q.snd.snd=r)) ⟨rfl,rfl,rfl,rfl,(by exact(NI.stop' hn ‹_› ‹_›).1),(by exact(NI.stop' hn ‹_› ‹_›).2)⟩ trivial
def gapL (k:List UInt8) (o:Option Tr):Option Proof × Option Proof:=(noneR k o).getD (none,none)
theorem None_ok (o:Option Tr) (k:List UInt8) (ho:okO o) (hl:(leavesO o).length≤900000):FOk EN 17 ⟨[.rd 5 (k),.pn (PTO o) false false],[.p 1 0,.n 0],Unit,fun _=>([.rd 5 (k),.pn (PTO o) false false,.pt 26 (gapL k o).1,.pt 26 (gapL k o).2],.t [.a [.n 2,.n 3],.b (noneR k o).isSome]),fun _=>True⟩:=by
  cases e:noneR k o with
  | none=>rw[show gapL k o=(none,none) by simp[gapL,e]];exact None1_aux o k ho hl e
  | some q=>rw[show gapL k o=q by simp[gapL,e]];exact None2_aux o k q.1 q.2 ho hl e
inductive Er where
  | num (c:Int)
  | step (wh:List UInt8) (n:Int) (e:Er)
def ErAt (σ:Nat→Nat) (w:World):Er→Value→Prop
  | .num c,v=>v=.iface 61 (iv c)
  | .step wh n e,v=>∃ b o ev,v=.iface 208 (.pointer (some ⟨b,o,none⟩))∧Seg σ w b o [sv wh,iv n,ev]∧ErAt σ w e ev
theorem ErAt.step {M:Nat→Prop} {σ σ':Nat→Nat} {w w':World} (st:Stp M σ w σ' w'):∀ {e:Er} {v:Value},ErAt σ w e v→ErAt σ' w' e v
  | .num _,_,h=>h
  | .step _ _ _,_,⟨b,o,ev,h1,h2,h3⟩=>⟨b,o,ev,h1,h2.step st,ErAt.step st h3⟩
def ErO (σ:Nat→Nat) (w:World):Option Er→Value→Prop
  | none,v=>v=.nilIface
  | some e,v=>ErAt σ w e v
def PE (e:Option Er):PP:=⟨fun σ w v=>ErO σ w e v,fun {M σ w σ' w' v} st h=>by cases e with | none=>exact h | some e=>exact ErAt.step st h⟩
theorem al_e0 (e:Option Er) (h:e=none):AlOk (G:=GT) (PE e) true e.isNone [] (.v .nilIface):=by subst h;exact al_nil (i:=true) (fun _ _=>rfl)
theorem al_e1 (c:Int):AlOk (G:=GT) (PE (some (.num c))) true false [] (.j 61 (.i c)):=fun ν σ w _=>⟨rfl,fun h=>by simp at h,fun _=>⟨_,_,rfl⟩⟩
theorem al_e2 (wh:List UInt8) (n:Int) (e:Er):AlOk (G:=GT) (PE (some (.step wh n e))) true false [.sg [.s wh,.i n,.n 1] pTop,.pn (PE (some e)) true false] (.j 208 (.p 0 0)):=fun ν σ w h=>by
  obtain⟨b,o,h1,h2,_,_⟩:=h 0 _ rfl
  obtain⟨h3,_,_⟩:=h 1 _ rfl
  have e2:den ν (.j 208 (.p 0 0))=.iface 208 (.pointer (some ⟨b,o,none⟩)):=by simp only[den,h1,padd,Nat.add_zero]
  rw[e2]
  exact⟨⟨b,o,ν 1,rfl,by simpa [denC,den] using h2,h3⟩,fun h=>by simp at h,fun _=>⟨_,_,rfl⟩⟩
noncomputable def ccC3_73:Code:=(Tryd.f73.body).getD .skip
theorem faultAt_ok (wh:List UInt8) (n:Int) (e:Er):FOk EN 73 ⟨[.pn (PE (some e)) true false],[.s wh,.i n,.n 0],Unit,fun _=>([.pn (PE (some e)) true false,.pn (PE (some (.step wh n e))) true false],.n 1),fun _=>True⟩:=by
 refine v_fun Tryd.f73 ccC3_73 MX (fun ν F σ w=>?_) Tryd.func73
 refine v_nl ?_
 refine v_if (false) True trivial (fun h1=>?_) (fun h1=>?_)
 ·skip
  contradiction
 ·skip
  refine v_close 2 [0] (close_top [.no] ([SV.s wh,SV.i n,SV.n 0])) ((wh=wh)∧(n=n)) ⟨rfl,rfl⟩ ?_
  refine v_al [2,0] (al_e2 (wh) (n) (e)) ((wh=wh)∧(n=n)∧(PLe pTop pTop)∧(PE (some e)=PE (some e))∧(false=false)) ⟨rfl,rfl,fun _ _ _ h=>h,rfl,rfl⟩ ?_
  exact v_ret () [3] ((PE (some e)=PE (some e))∧(false=false)∧(PE (some (Er.step wh n e))=PE (some (Er.step wh n e)))∧(false=false)) ⟨rfl,rfl,rfl,rfl⟩ trivial
theorem faultAt2_ok (wh:List UInt8) (n:Int) (e:Option Er) (h:e.isNone=false):FOk EN 73 ⟨[.pn (PE e) true e.isNone],[.s wh,.i n,.n 0],Unit,fun _=>([.pn (PE e) true e.isNone,.pn (PE (some (.step wh n (e.getD (.num 0))))) true false],.n 1),fun _=>True⟩:=by
  cases e with
  | none=>simp at h
  | some e=>exact faultAt_ok wh n e
def stepH (t:Turn) (h:List UInt8):List UInt8:=if t.right=true then nsum t.height t.size [] [] t.other.l h else nsum t.height t.size [] [] h t.other.l
abbrev dT:Turn:=⟨0,0,false,zero32⟩
def rootN (l:List Turn):Nat→Int→List UInt8→List UInt8 × Option Er
  | 0,_,h=>(h,none)
  | n+1,last,h=>if(l.getD n dT).height≤last∨64<(l.getD n dT).height then(z32,some (.step ((#[116,117,114,110]:Array UInt8).toList) n (.num 12))) else rootN l n (l.getD n dT).height (stepH (l.getD n dT) h)
def rootP (p:Proof):List UInt8 × Option Er :=
  if 64<p.turns.length then(z32,some (.step ((#[116,117,114,110,115]:Array UInt8).toList) p.turns.length (.num 3)))
  else if p.key.length=0∨96<p.key.length∨256<p.value.length then(z32,some (.step ((#[108,101,97,102]:Array UInt8).toList) 0 (.num 10)))
  else rootN p.turns p.turns.length 0 (nsum 0 1 p.key p.value z32 z32)
def RI (p:Proof) (q:Nat × Int × List UInt8):Prop:=rootN p.turns q.1 q.2.1 q.2.2=rootP p∧q.1≤p.turns.length∧p.turns.length≤64∧0≤q.2.1∧q.2.2.length=32
section
variable {p:Proof} {n:Nat} {a:Int} {x:List UInt8}
theorem root_e1 (h:64<p.turns.length):rootP p=(z32,some (.step ((#[116,117,114,110,115]:Array UInt8).toList) p.turns.length (.num 3))):=by unfold rootP;rw[if_pos h]
theorem root_e2 (h:¬ 64<p.turns.length) (h2:p.key.length=0∨96<p.key.length∨256<p.value.length):rootP p=(z32,some (.step ((#[108,101,97,102]:Array UInt8).toList) 0 (.num 10))):=by unfold rootP;rw[if_neg h,if_pos h2]
theorem RI.start (h:¬ 64<p.turns.length) (h2:¬ (p.key.length=0∨96<p.key.length∨256<p.value.length)):RI p (p.turns.length,0,nsum 0 1 p.key p.value z32 z32):=⟨by unfold rootP;rw[if_neg h,if_neg h2],Nat.le_refl _,by omega,Int.le_refl _,show(nsum 0 1 p.key p.value z32 z32).length=32 from Tr.nsum_len _ _ _ _ _ _⟩
abbrev tAt (p:Proof) (n:Nat):Turn:=p.turns.getD ((n:Int) - 1).toNat dT
theorem RI.succ (h0:0≤(n:Int) - 1):∃ m,n=m+1∧tAt p n=p.turns.getD m dT:=⟨n - 1,by omega,by unfold tAt;rw[show((n:Int) - 1).toNat=n - 1 by omega]⟩
theorem RI.err (h:RI p (n,a,x)) (h0:0≤(n:Int) - 1) (hc:(tAt p n).height≤a∨64<(tAt p n).height):rootP p=(z32,some (.step ((#[116,117,114,110]:Array UInt8).toList) ((n:Int) - 1) (.num 12))):=by
  obtain⟨m,rfl,e⟩:=RI.succ (p:=p) h0
  have h:=h.1;rw[e] at hc;rw[rootN,if_pos hc] at h;rw[← h,show(((m+1:Nat):Int) - 1)=m by omega]
theorem RI.next (h:RI p (n,a,x)) (h0:0≤(n:Int) - 1) (h1:¬ (tAt p n).height≤a) (h2:¬ 64<(tAt p n).height):RI p (n - 1,(tAt p n).height,stepH (tAt p n) x)∧n - 1<n:=by
  obtain⟨m,rfl,e⟩:=RI.succ (p:=p) h0
  obtain⟨g1,g2,g3,g4,g5⟩:=h
  have g4:0≤a:=g4
  have g1:rootN p.turns (m+1) a x=rootP p:=g1
  rw[e] at h1 h2 ⊢
  rw[rootN,if_neg (by omega)] at g1
  exact⟨⟨g1,by simp only at *;omega,g3,show 0≤(p.turns.getD m dT).height by omega,by simp only[stepH];split <;> exact Tr.nsum_len _ _ _ _ _ _⟩,by omega⟩
theorem RI.nextT (h:RI p (n,a,x)) (h0:0≤(n:Int) - 1) (h1:¬ (tAt p n).height≤a) (h2:¬ 64<(tAt p n).height) (hr:(tAt p n).right=true):RI p (n - 1,(tAt p n).height,nsum (tAt p n).height (tAt p n).size [] [] (tAt p n).other.l x)∧n - 1<n:=by
  have:=h.next h0 h1 h2;unfold stepH at this;rwa [if_pos hr] at this
theorem RI.nextF (h:RI p (n,a,x)) (h0:0≤(n:Int) - 1) (h1:¬ (tAt p n).height≤a) (h2:¬ 64<(tAt p n).height) (hr:(tAt p n).right=false):RI p (n - 1,(tAt p n).height,nsum (tAt p n).height (tAt p n).size [] [] x (tAt p n).other.l)∧n - 1<n:=by
  have:=h.next h0 h1 h2;unfold stepH at this;rwa [if_neg (by rw[hr];simp)] at this
theorem RI.stop (h:RI p (n,a,x)) (h0:¬ 0≤(n:Int) - 1):rootP p=(x,none):=by
  have:n=0:=by omega
  subst this;exact h.1.symm
end
noncomputable def ccC4_72:Code:=(Tryd.f72.body).getD .skip
theorem root_ok (p:Proof):FOk EN 72 ⟨[.pr wordsP,.rd 5 (p.key),.rd 5 (p.value),.rd 121 p.turns],[.a [.n 1,.n 2,.n 3]],Unit,fun _=>([.pr wordsP,.rd 5 (p.key),.rd 5 (p.value),.rd 121 p.turns,.pn (PE (rootP p).2) true (rootP p).2.isNone],.t [.a [.h 32 (rootP p).1],.n 4]),fun _=>True⟩:=by
 refine v_fun Tryd.f72 ccC4_72 MX (fun ν F σ w=>?_) Tryd.func72
 refine v_nl ?_
 refine v_if (decide (64<(↑p.turns.length:Int))) True trivial (fun h1=>?_) (fun h1=>?_)
 ·have h1:=of_decide_eq_true h1
  refine v_al [] (al_e1 (3)) True trivial ?_
  refine v_call _ [7] (faultAt_ok (#[116,117,114,110,115].toList) (↑p.turns.length) (Er.num 3)) ((#[(116:UInt8),(117:UInt8),(114:UInt8),(110:UInt8),(115:UInt8)].toList=#[(116:UInt8),(117:UInt8),(114:UInt8),(110:UInt8),(115:UInt8)].toList)∧((↑p.turns.length:Int)=(↑p.turns.length:Int))∧((3:Int)=(3:Int))∧(PE (some (Er.num 3))=PE (some (Er.num 3)))∧(false=false)) ⟨rfl,rfl,rfl,rfl,rfl⟩ (fun g2 p3=>?_)
  have p3:True:=p3
  exact v_ret () [8] ((List.replicate 32 0=(rootP p).fst)∧(wordsP=wordsP)∧(p.key=p.key)∧(p.value=p.value)∧(p.turns=p.turns)∧(PE (some (Er.step #[116,117,114,110,115].toList (↑p.turns.length) (Er.num 3)))=PE (rootP p).snd)∧(false=(rootP p).snd.isNone)) ⟨(by(rw[root_e1 (by omega)] <;> rfl)),rfl,rfl,rfl,rfl,(by(rw[root_e1 (by omega)] <;> rfl)),(by(rw[root_e1 (by omega)] <;> rfl))⟩ trivial
 ·have h1:=of_decide_eq_false h1
  refine v_guard 25 (decide ((↑p.key.length:Int)=0)) True trivial (fun h4=>?_) (fun h4=>?_)
  ·have h4:=of_decide_eq_true h4
   refine v_al [] (al_e1 (10)) True trivial ?_
   refine v_call _ [7] (faultAt_ok (#[108,101,97,102].toList) (0) (Er.num 10)) ((#[(108:UInt8),(101:UInt8),(97:UInt8),(102:UInt8)].toList=#[(108:UInt8),(101:UInt8),(97:UInt8),(102:UInt8)].toList)∧((0:Int)=(0:Int))∧((10:Int)=(10:Int))∧(PE (some (Er.num 10))=PE (some (Er.num 10)))∧(false=false)) ⟨rfl,rfl,rfl,rfl,rfl⟩ (fun g5 p6=>?_)
   have p6:True:=p6
   exact v_ret () [8] ((List.replicate 32 0=(rootP p).fst)∧(wordsP=wordsP)∧(p.key=p.key)∧(p.value=p.value)∧(p.turns=p.turns)∧(PE (some (Er.step #[108,101,97,102].toList 0 (Er.num 10)))=PE (rootP p).snd)∧(false=(rootP p).snd.isNone)) ⟨(by(rw[root_e2 (by omega) (by omega)] <;> rfl)),rfl,rfl,rfl,rfl,(by(rw[root_e2 (by omega) (by omega)] <;> rfl)),(by(rw[root_e2 (by omega) (by omega)] <;> rfl))⟩ trivial
  ·have h4:=of_decide_eq_false h4
   refine v_guard 31 (decide (96<(↑p.key.length:Int))) True trivial (fun h7=>?_) (fun h7=>?_)
   ·have h7:=of_decide_eq_true h7
    refine v_al [] (al_e1 (10)) True trivial ?_
    refine v_call _ [7] (faultAt_ok (#[108,101,97,102].toList) (0) (Er.num 10)) ((#[(108:UInt8),(101:UInt8),(97:UInt8),(102:UInt8)].toList=#[(108:UInt8),(101:UInt8),(97:UInt8),(102:UInt8)].toList)∧((0:Int)=(0:Int))∧((10:Int)=(10:Int))∧(PE (some (Er.num 10))=PE (some (Er.num 10)))∧(false=false)) ⟨rfl,rfl,rfl,rfl,rfl⟩ (fun g8 p9=>?_)
    have p9:True:=p9
    exact v_ret () [8] ((List.replicate 32 0=(rootP p).fst)∧(wordsP=wordsP)∧(p.key=p.key)∧(p.value=p.value)∧(p.turns=p.turns)∧(PE (some (Er.step #[108,101,97,102].toList 0 (Er.num 10)))=PE (rootP p).snd)∧(false=(rootP p).snd.isNone)) ⟨(by(rw[root_e2 (by omega) (by omega)] <;> rfl)),rfl,rfl,rfl,rfl,(by(rw[root_e2 (by omega) (by omega)] <;> rfl)),(by(rw[root_e2 (by omega) (by omega)] <;> rfl))⟩ trivial
   ·have h7:=of_decide_eq_false h7
    refine v_if (decide (256<(↑p.value.length:Int))) True trivial (fun h10=>?_) (fun h10=>?_)
    ·have h10:=of_decide_eq_true h10
     refine v_al [] (al_e1 (10)) True trivial ?_
     refine v_call _ [7] (faultAt_ok (#[108,101,97,102].toList) (0) (Er.num 10)) ((#[(108:UInt8),(101:UInt8),(97:UInt8),(102:UInt8)].toList=#[(108:UInt8),(101:UInt8),(97:UInt8),(102:UInt8)].toList)∧((0:Int)=(0:Int))∧((10:Int)=(10:Int))∧(PE (some (Er.num 10))=PE (some (Er.num 10)))∧(false=false)) ⟨rfl,rfl,rfl,rfl,rfl⟩ (fun g11 p12=>?_)
     have p12:True:=p12
     exact v_ret () [8] ((List.replicate 32 0=(rootP p).fst)∧(wordsP=wordsP)∧(p.key=p.key)∧(p.value=p.value)∧(p.turns=p.turns)∧(PE (some (Er.step #[108,101,97,102].toList 0 (Er.num 10)))=PE (rootP p).snd)∧(false=(rootP p).snd.isNone)) ⟨(by(rw[root_e2 (by omega) (by omega)] <;> rfl)),rfl,rfl,rfl,rfl,(by(rw[root_e2 (by omega) (by omega)] <;> rfl)),(by(rw[root_e2 (by omega) (by omega)] <;> rfl))⟩ trivial
    ·have h10:=of_decide_eq_false h10
     refine v_call _ [0,1,2] (thash_ok (0) (1) (p.key) (p.value) (List.replicate 32 0) (List.replicate 32 0) (by decide) (by omega) (by omega) rfl rfl) (((0:Int)=(0:Int))∧((1:UInt64)=(1:UInt64))∧(List.replicate (32:Nat) (0:UInt8)=List.replicate (32:Nat) (0:UInt8))∧(List.replicate (32:Nat) (0:UInt8)=List.replicate (32:Nat) (0:UInt8))∧(wordsP=wordsP)∧(p.key=p.key)∧(p.value=p.value)) ⟨rfl,rfl,rfl,rfl,rfl,rfl,rfl⟩ (fun g13 p14=>?_)
     have p14:True:=p14
     refine v_loop (fun q:Nat × Int × List UInt8=>([(6,.i (q.1 - 1)),(5,.i q.2.1),(4,.p 8 0)],[.bx 52 [.h 32 q.2.2]])) (fun q=>RI p q) (fun q=>q.1) (p.turns.length,0,nsum 0 1 p.key p.value z32 z32) [7] ((I64 (↑p.turns.length - 1))∧((↑p.turns.length:Int) - 1=(↑p.turns.length:Int) - 1)∧((0:Int)=(0:Int))∧(nsum 0 1 p.key p.value (List.replicate 32 0) (List.replicate 32 0)=nsum 0 1 p.key p.value z32 z32)) ⟨(by(unfold I64;omega)),rfl,rfl,rfl⟩ (by exact RI.start (by omega) (by omega)) (fun q hk15=>?_)
     have i1:=(‹RI p q›).2
     refine v_if (decide (0≤(↑q.fst:Int) - 1)) True trivial (fun h16=>?_) (fun h16=>?_)
     ·have h16:=of_decide_eq_true h16
      refine v_guard 63 (decide ((p.turns.getD ((↑q.fst:Int) - 1).toNat (Turn.mk 0 0 false zero32)).height≤q.snd.fst)) ((0≤(↑q.fst:Int) - 1∧(↑q.fst:Int) - 1<(↑p.turns.length:Int))) (by omega) (fun h17=>?_) (fun h17=>?_)
      ·have h17:=of_decide_eq_true h17
       refine v_al [] (al_e1 (12)) True trivial ?_
       refine v_call _ [11] (faultAt_ok (#[116,117,114,110].toList) (↑q.fst - 1) (Er.num 12)) ((#[(116:UInt8),(117:UInt8),(114:UInt8),(110:UInt8)].toList=#[(116:UInt8),(117:UInt8),(114:UInt8),(110:UInt8)].toList)∧((↑q.fst:Int) - 1=(↑q.fst:Int) - 1)∧((12:Int)=(12:Int))∧(PE (some (Er.num 12))=PE (some (Er.num 12)))∧(false=false)) ⟨rfl,rfl,rfl,rfl,rfl⟩ (fun g18 p19=>?_)
       have p19:True:=p19
       refine v_leave .rt True trivial ?_
       exact v_ret () [12] ((List.replicate 32 0=(rootP p).fst)∧(wordsP=wordsP)∧(p.key=p.key)∧(p.value=p.value)∧(p.turns=p.turns)∧(PE (some (Er.step #[116,117,114,110].toList (↑q.fst - 1) (Er.num 12)))=PE (rootP p).snd)∧(false=(rootP p).snd.isNone)) ⟨(by(rw[RI.err ‹_› (by omega) (by first | exact Or.inl ‹_› | exact Or.inr ‹_›)] <;> rfl)),rfl,rfl,rfl,rfl,(by(rw[RI.err ‹_› (by omega) (by first | exact Or.inl ‹_› | exact Or.inr ‹_›)] <;> rfl)),(by(rw[RI.err ‹_› (by omega) (by first | exact Or.inl ‹_› | exact Or.inr ‹_›)] <;> rfl))⟩ trivial
      ·have h17:=of_decide_eq_false h17
       refine v_if (decide (64<(p.turns.getD ((↑q.fst:Int) - 1).toNat (Turn.mk 0 0 false zero32)).height)) True trivial (fun h20=>?_) (fun h20=>?_)
       ·have h20:=of_decide_eq_true h20
        refine v_al [] (al_e1 (12)) True trivial ?_
        refine v_call _ [11] (faultAt_ok (#[116,117,114,110].toList) (↑q.fst - 1) (Er.num 12)) ((#[(116:UInt8),(117:UInt8),(114:UInt8),(110:UInt8)].toList=#[(116:UInt8),(117:UInt8),(114:UInt8),(110:UInt8)].toList)∧((↑q.fst:Int) - 1=(↑q.fst:Int) - 1)∧((12:Int)=(12:Int))∧(PE (some (Er.num 12))=PE (some (Er.num 12)))∧(false=false)) ⟨rfl,rfl,rfl,rfl,rfl⟩ (fun g21 p22=>?_)
        have p22:True:=p22
        refine v_leave .rt True trivial ?_
        exact v_ret () [12] ((List.replicate 32 0=(rootP p).fst)∧(wordsP=wordsP)∧(p.key=p.key)∧(p.value=p.value)∧(p.turns=p.turns)∧(PE (some (Er.step #[116,117,114,110].toList (↑q.fst - 1) (Er.num 12)))=PE (rootP p).snd)∧(false=(rootP p).snd.isNone)) ⟨(by(rw[RI.err ‹_› (by omega) (by first | exact Or.inl ‹_› | exact Or.inr ‹_›)] <;> rfl)),rfl,rfl,rfl,rfl,(by(rw[RI.err ‹_› (by omega) (by first | exact Or.inl ‹_› | exact Or.inr ‹_›)] <;> rfl)),(by(rw[RI.err ‹_› (by omega) (by first | exact Or.inl ‹_› | exact Or.inr ‹_›)] <;> rfl))⟩ trivial
       ·have h20:=of_decide_eq_false h20
        refine v_if ((p.turns.getD ((↑q.fst:Int) - 1).toNat (Turn.mk 0 0 false zero32)).right) True trivial (fun h23=>?_) (fun h23=>?_)
        ·skip
         refine v_plan (.fs [0,1,2,3] (.o 4 (.fs [5] (.o 6 .e)))) [5,6,8,10] True trivial ?_
         refine v_call _ [0,4,4] (thash_ok ((p.turns.getD ((↑q.fst:Int) - 1).toNat (Turn.mk 0 0 false zero32)).height) ((p.turns.getD ((↑q.fst:Int) - 1).toNat (Turn.mk 0 0 false zero32)).size) ([]) ([]) ((p.turns.getD ((↑q.fst:Int) - 1).toNat (Turn.mk 0 0 false zero32)).other.l) (q.snd.snd) (by omega) (by decide) (by decide) (by exact Sum32.h _) (by omega)) (((p.turns.getD ((↑q.fst:Int) - 1).toNat (Turn.mk 0 0 false zero32)).height=(p.turns.getD ((↑q.fst:Int) - 1).toNat (Turn.mk 0 0 false zero32)).height)∧((p.turns.getD ((↑q.fst:Int) - 1).toNat (Turn.mk 0 0 false zero32)).size=(p.turns.getD ((↑q.fst:Int) - 1).toNat (Turn.mk 0 0 false zero32)).size)∧((p.turns.getD ((↑q.fst:Int) - 1).toNat (Turn.mk 0 0 false zero32)).other.l=(p.turns.getD ((↑q.fst:Int) - 1).toNat (Turn.mk 0 0 false zero32)).other.l)∧(q.snd.snd=q.snd.snd)∧(wordsP=wordsP)∧(Eq (α:=List UInt8) [] [])∧(Eq (α:=List UInt8) [] [])) ⟨rfl,rfl,rfl,rfl,rfl,rfl,rfl⟩ (fun g24 p25=>?_)
         have p25:True:=p25
         exact v_back ((q.fst - 1,(p.turns.getD ((↑q.fst:Int) - 1).toNat (Turn.mk 0 0 false zero32)).height,nsum (p.turns.getD ((↑q.fst:Int) - 1).toNat (Turn.mk 0 0 false zero32)).height (p.turns.getD ((↑q.fst:Int) - 1).toNat (Turn.mk 0 0 false zero32)).size [] [] (p.turns.getD ((↑q.fst:Int) - 1).toNat (Turn.mk 0 0 false zero32)).other.l q.snd.snd)) [8] ((I64 (↑q.fst - 1 - 1))∧((↑q.fst:Int) - 1 - 1=(↑(q.fst - 1):Int) - 1)∧((p.turns.getD ((↑q.fst:Int) - 1).toNat (Turn.mk 0 0 false zero32)).height=(p.turns.getD ((↑q.fst:Int) - 1).toNat (Turn.mk 0 0 false zero32)).height)∧(nsum (p.turns.getD ((↑q.fst:Int) - 1).toNat (Turn.mk 0 0 false zero32)).height (p.turns.getD ((↑q.fst:Int) - 1).toNat (Turn.mk 0 0 false zero32)).size [] [] (p.turns.getD ((↑q.fst:Int) - 1).toNat (Turn.mk 0 0 false zero32)).other.l q.snd.snd=nsum (p.turns.getD ((↑q.fst:Int) - 1).toNat (Turn.mk 0 0 false zero32)).height (p.turns.getD ((↑q.fst:Int) - 1).toNat (Turn.mk 0 0 false zero32)).size [] [] (p.turns.getD ((↑q.fst:Int) - 1).toNat (Turn.mk 0 0 false zero32)).other.l q.snd.snd)) ⟨(by(unfold I64;omega)),(by omega),rfl,rfl⟩ (show RI p (q.fst - 1,(p.turns.getD ((↑q.fst:Int) - 1).toNat (Turn.mk 0 0 false zero32)).height,nsum (p.turns.getD ((↑q.fst:Int) - 1).toNat (Turn.mk 0 0 false zero32)).height (p.turns.getD ((↑q.fst:Int) - 1).toNat (Turn.mk 0 0 false zero32)).size [] [] (p.turns.getD ((↑q.fst:Int) - 1).toNat (Turn.mk 0 0 false zero32)).other.l q.snd.snd)∧q.fst - 1<q.fst from(by exact RI.nextT ‹_› (by omega) ‹_› ‹_› ‹_›))
        ·skip
         refine v_call _ [0,4,4] (thash_ok ((p.turns.getD ((↑q.fst:Int) - 1).toNat (Turn.mk 0 0 false zero32)).height) ((p.turns.getD ((↑q.fst:Int) - 1).toNat (Turn.mk 0 0 false zero32)).size) ([]) ([]) (q.snd.snd) ((p.turns.getD ((↑q.fst:Int) - 1).toNat (Turn.mk 0 0 false zero32)).other.l) (by omega) (by decide) (by decide) (by omega) (by exact Sum32.h _)) (((p.turns.getD ((↑q.fst:Int) - 1).toNat (Turn.mk 0 0 false zero32)).height=(p.turns.getD ((↑q.fst:Int) - 1).toNat (Turn.mk 0 0 false zero32)).height)∧((p.turns.getD ((↑q.fst:Int) - 1).toNat (Turn.mk 0 0 false zero32)).size=(p.turns.getD ((↑q.fst:Int) - 1).toNat (Turn.mk 0 0 false zero32)).size)∧(q.snd.snd=q.snd.snd)∧((p.turns.getD ((↑q.fst:Int) - 1).toNat (Turn.mk 0 0 false zero32)).other.l=(p.turns.getD ((↑q.fst:Int) - 1).toNat (Turn.mk 0 0 false zero32)).other.l)∧(wordsP=wordsP)∧(Eq (α:=List UInt8) [] [])∧(Eq (α:=List UInt8) [] [])) ⟨rfl,rfl,rfl,rfl,rfl,rfl,rfl⟩ (fun g26 p27=>?_)
         have p27:True:=p27
         exact v_back ((q.fst - 1,(p.turns.getD ((↑q.fst:Int) - 1).toNat (Turn.mk 0 0 false zero32)).height,nsum (p.turns.getD ((↑q.fst:Int) - 1).toNat (Turn.mk 0 0 false zero32)).height (p.turns.getD ((↑q.fst:Int) - 1).toNat (Turn.mk 0 0 false zero32)).size [] [] q.snd.snd (p.turns.getD ((↑q.fst:Int) - 1).toNat (Turn.mk 0 0 false zero32)).other.l)) [8] ((I64 (↑q.fst - 1 - 1))∧((↑q.fst:Int) - 1 - 1=(↑(q.fst - 1):Int) - 1)∧((p.turns.getD ((↑q.fst:Int) - 1).toNat (Turn.mk 0 0 false zero32)).height=(p.turns.getD ((↑q.fst:Int) - 1).toNat (Turn.mk 0 0 false zero32)).height)∧(nsum (p.turns.getD ((↑q.fst:Int) - 1).toNat (Turn.mk 0 0 false zero32)).height (p.turns.getD ((↑q.fst:Int) - 1).toNat (Turn.mk 0 0 false zero32)).size [] [] q.snd.snd (p.turns.getD ((↑q.fst:Int) - 1).toNat (Turn.mk 0 0 false zero32)).other.l=nsum (p.turns.getD ((↑q.fst:Int) - 1).toNat (Turn.mk 0 0 false zero32)).height (p.turns.getD ((↑q.fst:Int) - 1).toNat (Turn.mk 0 0 false zero32)).size [] [] q.snd.snd (p.turns.getD ((↑q.fst:Int) - 1).toNat (Turn.mk 0 0 false zero32)).other.l)) ⟨(by(unfold I64;omega)),(by omega),rfl,rfl⟩ (show RI p (q.fst - 1,(p.turns.getD ((↑q.fst:Int) - 1).toNat (Turn.mk 0 0 false zero32)).height,nsum (p.turns.getD ((↑q.fst:Int) - 1).toNat (Turn.mk 0 0 false zero32)).height (p.turns.getD ((↑q.fst:Int) - 1).toNat (Turn.mk 0 0 false zero32)).size [] [] q.snd.snd (p.turns.getD ((↑q.fst:Int) - 1).toNat (Turn.mk 0 0 false zero32)).other.l)∧q.fst - 1<q.fst from(by exact RI.nextF ‹_› (by omega) ‹_› ‹_› ‹_›))
     ·have h16:=of_decide_eq_false h16
      refine v_leave (.ex 1) True trivial ?_
      refine v_al [] (al_e0 ((rootP p).snd) (by(rw[RI.stop ‹_› (by omega)] <;> rfl))) True trivial ?_
      exact v_ret () [9] ((q.snd.snd=(rootP p).fst)∧(wordsP=wordsP)∧(p.key=p.key)∧(p.value=p.value)∧(p.turns=p.turns)∧(PE (rootP p).snd=PE (rootP p).snd)∧((rootP p).snd.isNone=(rootP p).snd.isNone)) ⟨(by(rw[RI.stop ‹_› (by omega)] <;> rfl)),rfl,rfl,rfl,rfl,rfl,rfl⟩ trivial
def verP (want:List UInt8) (p:Proof):Option Er:=if(rootP p).2.isNone=true then(if(rootP p).1=want then none else some (.step ((#[114,111,111,116]:Array UInt8).toList) 0 (.num 21))) else(rootP p).2
theorem rootN_len (l:List Turn):∀(n:Nat) (a:Int) (x:List UInt8),x.length=32→(rootN l n a x).1.length=32
  | 0,a,x,h=>h
  | n + 1, a, x, h => by
    unfold rootN;split
    · rfl
    · exact rootN_len l n _ _ (by unfold stepH;split <;> exact Tr.nsum_len _ _ _ _ _ _)
theorem rootP_len (p:Proof):(rootP p).1.length=32:=by
  unfold rootP
  split
  · rfl
  · split
    · rfl
    · exact rootN_len _ _ _ _ (Tr.nsum_len _ _ _ _ _ _)
theorem ver1 {want:List UInt8} {p:Proof} (h:(rootP p).2.isNone=true) (h2:(rootP p).1=want):verP want p=(rootP p).2:=by unfold verP;rw[if_pos h,if_pos h2];exact(Option.isNone_iff_eq_none.1 h).symm
theorem ver2 {want:List UInt8} {p:Proof} (h:(rootP p).2.isNone=true) (h2:¬ (rootP p).1=want):verP want p=some (.step ((#[114,111,111,116]:Array UInt8).toList) 0 (.num 21)):=by unfold verP;rw[if_pos h,if_neg h2]
theorem ver3 {want:List UInt8} {p:Proof} (h:(rootP p).2.isNone=false):verP want p=(rootP p).2:=by unfold verP;rw[if_neg (by simp[h])]
noncomputable def ccC5_24:Code:=(Tryd.f24.body).getD .skip
theorem Verify_ok (want:List UInt8) (p:Proof) (hw:want.length=32):FOk EN 24 ⟨[.pr wordsP,.rd 5 (p.key),.rd 5 (p.value),.rd 121 p.turns],[.a [.h 32 want],.a [.n 1,.n 2,.n 3]],Unit,fun _=>([.pr wordsP,.rd 5 (p.key),.rd 5 (p.value),.rd 121 p.turns,.pn (PE (verP want p)) true (verP want p).isNone],.n 4),fun _=>True⟩:=by
 refine v_fun Tryd.f24 ccC5_24 MX (fun ν F σ w=>?_) Tryd.func24
 refine v_nl ?_
 refine v_call _ [0,1,2,3] (root_ok (p)) ((wordsP=wordsP)∧(p.key=p.key)∧(p.value=p.value)∧(p.turns=p.turns)) ⟨rfl,rfl,rfl,rfl⟩ (fun g1 p2=>?_)
 have p2:True:=p2
 refine v_guard 14 ((rootP p).snd.isNone) True trivial (fun h3=>?_) (fun h3=>?_)
 ·skip
  refine v_if (!decide ((rootP p).fst=want)) ((EN.P.eqGuardType EN.P.depth (52:Nat)=false)∧((rootP p).fst.length=32)∧(want.length=32)) ⟨rfl,(by exact rootP_len _),‹_›⟩ (fun h4=>?_) (fun h4=>?_)
  ·have h4:=of_decide_eq_false (nt h4)
   refine v_al [] (al_e1 (21)) True trivial ?_
   refine v_call _ [9] (faultAt_ok (#[114,111,111,116].toList) (0) (Er.num 21)) ((#[(114:UInt8),(111:UInt8),(111:UInt8),(116:UInt8)].toList=#[(114:UInt8),(111:UInt8),(111:UInt8),(116:UInt8)].toList)∧((0:Int)=(0:Int))∧((21:Int)=(21:Int))∧(PE (some (Er.num 21))=PE (some (Er.num 21)))∧(false=false)) ⟨rfl,rfl,rfl,rfl,rfl⟩ (fun g5 p6=>?_)
   have p6:True:=p6
   exact v_ret () [10] ((wordsP=wordsP)∧(p.key=p.key)∧(p.value=p.value)∧(p.turns=p.turns)∧(PE (some (Er.step #[114,111,111,116].toList 0 (Er.num 21)))=PE (verP want p))∧(false=(verP want p).isNone)) ⟨rfl,rfl,rfl,rfl,(by(rw[ver2 ‹_› ‹_›] <;> rfl)),(by(rw[ver2 ‹_› ‹_›] <;> rfl))⟩ trivial
  ·have h4:=of_decide_eq_true (nf h4)
   exact v_ret () [7] ((wordsP=wordsP)∧(p.key=p.key)∧(p.value=p.value)∧(p.turns=p.turns)∧(PE (rootP p).snd=PE (verP want p))∧((rootP p).snd.isNone=(verP want p).isNone)) ⟨rfl,rfl,rfl,rfl,(by(rw[ver1 ‹_› ‹_›] <;> first | rfl | assumption)),(by(rw[ver1 ‹_› ‹_›] <;> first | rfl | assumption))⟩ trivial
 ·skip
  exact v_ret () [7] ((wordsP=wordsP)∧(p.key=p.key)∧(p.value=p.value)∧(p.turns=p.turns)∧(PE (rootP p).snd=PE (verP want p))∧((rootP p).snd.isNone=(verP want p).isNone)) ⟨rfl,rfl,rfl,rfl,(by(rw[ver3 ‹_›] <;> rfl)),(by(rw[ver3 ‹_›] <;> rfl))⟩ trivial
def sideP (r:Bool) (l:List Turn):Bool:=l.all fun t=>t.right == r
theorem side_get {r:Bool} {l:List Turn} {i:Nat} (hi:(i:Int)<l.length):sideP r (l.drop i)=((l.getD i dT).right == r && sideP r (l.drop (i+1))):=by
  rw[drop_cons (d:=dT) hi];simp[sideP]
theorem side_f {r:Bool} {l:List Turn} {i:Nat} (hk:sideP r (l.drop i)=sideP r l∧i≤l.length) (hi:(i:Int)<l.length) (h:((l.getD i dT).right != r)=true):false=sideP r l:=by
  rw[← hk.1,side_get hi];cases hh:(l.getD i dT).right <;> rw[hh] at h <;> cases r <;> first | rfl | simp at h
theorem side_n {r:Bool} {l:List Turn} {i:Nat} (hk:sideP r (l.drop i)=sideP r l∧i≤l.length) (hi:(i:Int)<l.length) (h:((l.getD i dT).right != r)=false):(sideP r (l.drop (i+1))=sideP r l∧i+1≤l.length)∧l.length - (i+1)<l.length - i:=by
  refine⟨⟨?_,by omega⟩,by omega⟩
  rw[← hk.1,side_get hi];cases hh:(l.getD i dT).right <;> rw[hh] at h <;> cases r <;> first | (simp at h;done) | simp
theorem side_e {r:Bool} {l:List Turn} {i:Nat} (hk:sideP r (l.drop i)=sideP r l∧i≤l.length) (hi:¬ (i:Int)<l.length):true=sideP r l:=by
  rw[← hk.1,List.drop_of_length_le (by omega)];rfl
noncomputable def ccC5_74:Code:=(Tryd.f74.body).getD .skip
theorem side_ok (l:List Turn) (r:Bool) (hl:l.length≤1000000):FOk EN 74 ⟨[.rd 121 l],[.n 0,.b r],Unit,fun _=>([.rd 121 l],.b (sideP r l)),fun _=>True⟩:=by
 refine v_fun Tryd.f74 ccC5_74 MX (fun ν F σ w=>?_) Tryd.func74
 refine v_nl ?_
 refine v_loop (fun k:Nat=>([(9,.i k)],[])) (fun k=>sideP r (l.drop k)=sideP r l∧k≤l.length) (fun k=>l.length - k) 0 [] (((0:Int)=(↑(0:Nat):Int))) rfl (by exact⟨rfl,Nat.zero_le _⟩) (fun k hk1=>?_)
 refine v_if (decide ((↑k:Int)<(↑l.length:Int))) True trivial (fun h2=>?_) (fun h2=>?_)
 ·have h2:=of_decide_eq_true h2
  refine v_if ((l.getD (↑k:Int).toNat (Turn.mk 0 0 false zero32)).right != r) ((0≤(↑k:Int)∧(↑k:Int)<(↑l.length:Int))) (by omega) (fun h3=>?_) (fun h3=>?_)
  ·skip
   refine v_leave .rt True trivial ?_
   exact v_ret () [] ((false=sideP r l)∧(l=l)) ⟨(by exact side_f ‹_› ‹_› ‹_›),rfl⟩ trivial
  ·skip
   exact v_back (k+1) [] ((I64 (↑k+1))∧((↑k:Int)+1=(↑(k+1):Int))) ⟨(by(unfold I64;omega)),rfl⟩ (show(sideP r (List.drop (k+1) l)=sideP r l∧k+1≤l.length)∧l.length - (k+1)<l.length - k from(by exact side_n ‹_› ‹_› ‹_›))
 ·have h2:=of_decide_eq_false h2
  refine v_leave (.ex 0) True trivial ?_
  exact v_ret () [] ((true=sideP r l)∧(l=l)) ⟨(by exact side_e ‹_› ‹_›),rfl⟩ trivial
theorem turn_eq {a b:Turn} (h1:a.height=b.height) (h2:a.size=b.size) (h3:a.right=b.right) (h4:a.other.l=b.other.l):a=b:=by
  cases a;cases b;simp only at h1 h2 h3 h4;subst h1;subst h2;subst h3;rw[Sum32.ext' h4]
def cpl:List Turn→List Turn→Nat
  | a::l,b::r=>if a=b then cpl l r+1 else 0
  | _,_=>0
def nextQ (l r:List Turn) (i:Nat):Bool :=
  decide ((i:Int)<l.length) && decide ((i:Int)<r.length) && !(l.getD i dT).right && (r.getD i dT).right && decide ((l.getD i dT).height=(r.getD i dT).height) && decide ((l.getD i dT).size=(r.getD i dT).size) && sideP true (l.drop (i+1)) && sideP false (r.drop (i+1))
def nextP (l r:List Turn):Bool:=nextQ l r (cpl l r)
def XI (l r:List Turn) (k:Nat):Prop:=cpl l r=k+cpl (l.drop k) (r.drop k)∧k≤l.length∧k≤r.length
theorem XI.start {l r:List Turn}:XI l r 0:=⟨by simp,Nat.zero_le _,Nat.zero_le _⟩
section
variable {l r:List Turn} {k:Nat}
abbrev teq (a b:Turn):Bool:=decide (a.height=b.height) && (decide (a.size=b.size) && (a.right == b.right && (decide (a.other.l=b.other.l) && true)))
theorem teq_iff {a b:Turn}:teq a b=true↔a=b:=by
  constructor
  · intro h
    simp only[teq,Bool.and_eq_true,decide_eq_true_eq,beq_iff_eq,and_true] at h
    exact turn_eq h.1 h.2.1 h.2.2.1 h.2.2.2
  · rintro rfl;simp[teq]
theorem XI.e1 (h:XI l r k) (hi:¬ (k:Int)<l.length):cpl l r=k:=by
  rw[h.1,List.drop_of_length_le (l:=l) (by omega)];simp[cpl]
theorem XI.e2 (h:XI l r k) (hi:¬ (k:Int)<r.length):cpl l r=k:=by
  rw[h.1,List.drop_of_length_le (l:=r) (by omega)];cases l.drop k <;> simp[cpl]
theorem XI.e3 (h:XI l r k) (h1:(k:Int)<l.length) (h2:(k:Int)<r.length) (h3:teq (l.getD k dT) (r.getD k dT)=false):cpl l r=k:=by
  rw[h.1,drop_cons (d:=dT) h1,drop_cons (d:=dT) h2,cpl,if_neg (fun e=>by rw[teq_iff.2 e] at h3;cases h3)];rfl
theorem XI.next (h:XI l r k) (h1:(k:Int)<l.length) (h2:(k:Int)<r.length) (h3:teq (l.getD k dT) (r.getD k dT)=true):XI l r (k+1)∧l.length - (k+1)<l.length - k:=by
  refine⟨⟨?_,by omega,by omega⟩,by omega⟩
  rw[h.1,drop_cons (d:=dT) h1,drop_cons (d:=dT) h2,cpl,if_pos (teq_iff.1 h3)];omega
theorem nq {b:Bool} (h:cpl l r=k) (h2:b=nextQ l r k):b=nextP l r:=by unfold nextP;rw[h];exact h2
end
noncomputable def ccC5_75:Code:=(Tryd.f75.body).getD .skip
theorem next_ok (l r:List Turn) (hl:l.length≤1000000) (hr:r.length≤1000000):FOk EN 75 ⟨[.rd 121 l,.rd 121 r],[.n 0,.n 1],Unit,fun _=>([.rd 121 l,.rd 121 r],.b (nextP l r)),fun _=>True⟩:=by
 refine v_fun Tryd.f75 ccC5_75 MX (fun ν F σ w=>?_) Tryd.func75
 refine v_nl ?_
 refine v_loop (fun k:Nat=>([(5,.i k)],[])) (fun k=>XI l r k) (fun k=>l.length - k) 0 [] (((0:Int)=(↑(0:Nat):Int))) rfl (by exact XI.start) (fun k hk1=>?_)
 have i1:=(‹XI l r k›).2
 refine v_plan (.fs [0,1,2,3,4,5,6,7,8,9,10,11,12,13,14,15,16,17,18,19,20] .e) [] True trivial ?_
 refine v_guard 10 (decide ((↑k:Int)<(↑l.length:Int))) True trivial (fun h2=>?_) (fun h2=>?_)
 ·have h2:=of_decide_eq_true h2
  refine v_guard 16 (decide ((↑k:Int)<(↑r.length:Int))) True trivial (fun h3=>?_) (fun h3=>?_)
  ·have h3:=of_decide_eq_true h3
   refine v_if (decide ((l.getD (↑k:Int).toNat (Turn.mk 0 0 false zero32)).height=(r.getD (↑k:Int).toNat (Turn.mk 0 0 false zero32)).height) && (decide ((l.getD (↑k:Int).toNat (Turn.mk 0 0 false zero32)).size=(r.getD (↑k:Int).toNat (Turn.mk 0 0 false zero32)).size) && ((l.getD (↑k:Int).toNat (Turn.mk 0 0 false zero32)).right == (r.getD (↑k:Int).toNat (Turn.mk 0 0 false zero32)).right && (decide ((l.getD (↑k:Int).toNat (Turn.mk 0 0 false zero32)).other.l=(r.getD (↑k:Int).toNat (Turn.mk 0 0 false zero32)).other.l) && true)))) ((0≤(↑k:Int)∧(↑k:Int)<(↑l.length:Int))∧(0≤(↑k:Int)∧(↑k:Int)<(↑r.length:Int))∧(EN.P.eqGuardType EN.P.depth (121:Nat)=false)∧(noBl EN.P 121)∧((l.getD (↑k:Int).toNat (Turn.mk 0 0 false zero32)).other.l.length=32)∧((r.getD (↑k:Int).toNat (Turn.mk 0 0 false zero32)).other.l.length=32)) ⟨(by omega),(by omega),(by kernel_rfl),(by(unfold noBl;kernel_rfl)),(by exact Sum32.h _),(by exact Sum32.h _)⟩ (fun h4=>?_) (fun h4=>?_)
   ·skip
    exact v_back (k+1) [] ((I64 (↑k+1))∧((↑k:Int)+1=(↑(k+1):Int))) ⟨(by(unfold I64;omega)),rfl⟩ (show XI l r (k+1)∧l.length - (k+1)<l.length - k from(by exact XI.next ‹_› ‹_› ‹_› ‹_›))
   ·skip
    refine v_leave (.ex 0) True trivial ?_
    refine v_plan (.fs [0,1,2,3,4,5,6,7,8,9,10,11,12,13,14,15,16,17,18,19,20,21,22,23,24,25,26,27,28,29,30,31,32,33,34,35,36,37,38,39,40,41,42,43,44,45,46,47,48,49,50,51,52,53,54,55] (.o 56 (.fs [57,58,59,60,61,62] (.o 63 (.fs [64,65] .e))))) [] True trivial ?_
    refine v_guard 33 (decide ((↑k:Int)<(↑l.length:Int))) True trivial (fun h5=>?_) (fun h5=>?_)
    ·have h5:=of_decide_eq_true h5
     refine v_guard 39 (decide ((↑k:Int)<(↑r.length:Int))) True trivial (fun h6=>?_) (fun h6=>?_)
     ·have h6:=of_decide_eq_true h6
      refine v_guard 47 (!(l.getD (↑k:Int).toNat (Turn.mk 0 0 false zero32)).right) ((0≤(↑k:Int)∧(↑k:Int)<(↑l.length:Int))) (by omega) (fun h7=>?_) (fun h7=>?_)
      ·have h7:=(nt h7)
       refine v_guard 54 ((r.getD (↑k:Int).toNat (Turn.mk 0 0 false zero32)).right) ((0≤(↑k:Int)∧(↑k:Int)<(↑r.length:Int))) (by omega) (fun h8=>?_) (fun h8=>?_)
       ·skip
        refine v_guard 67 (decide ((l.getD (↑k:Int).toNat (Turn.mk 0 0 false zero32)).height=(r.getD (↑k:Int).toNat (Turn.mk 0 0 false zero32)).height)) ((0≤(↑k:Int)∧(↑k:Int)<(↑l.length:Int))∧(0≤(↑k:Int)∧(↑k:Int)<(↑r.length:Int))) ⟨(by omega),(by omega)⟩ (fun h9=>?_) (fun h9=>?_)
        ·have h9:=of_decide_eq_true h9
         refine v_guard 80 (decide ((l.getD (↑k:Int).toNat (Turn.mk 0 0 false zero32)).size=(r.getD (↑k:Int).toNat (Turn.mk 0 0 false zero32)).size)) ((0≤(↑k:Int)∧(↑k:Int)<(↑l.length:Int))∧(0≤(↑k:Int)∧(↑k:Int)<(↑r.length:Int))) ⟨(by omega),(by omega)⟩ (fun h10=>?_) (fun h10=>?_)
         ·have h10:=of_decide_eq_true h10
          refine v_call _ [11] (side_ok (List.drop ((↑k:Int)+1).toNat l) (true) (by(simp;omega))) ((I64 (↑k+1))∧(0≤(↑k:Int)+1∧(↑k:Int)+1≤(↑l.length:Int))∧(true=true)∧(List.drop ((↑k:Int)+1).toNat l=List.drop ((↑k:Int)+1).toNat l)) ⟨(by(unfold I64;omega)),(by omega),rfl,rfl⟩ (fun g11 p12=>?_)
          have p12:True:=p12
          refine v_guard 87 (sideP true (List.drop ((↑k:Int)+1).toNat l)) True trivial (fun h13=>?_) (fun h13=>?_)
          ·skip
           refine v_call _ [12] (side_ok (List.drop ((↑k:Int)+1).toNat r) (false) (by(simp;omega))) ((I64 (↑k+1))∧(0≤(↑k:Int)+1∧(↑k:Int)+1≤(↑r.length:Int))∧(false=false)∧(List.drop ((↑k:Int)+1).toNat r=List.drop ((↑k:Int)+1).toNat r)) ⟨(by(unfold I64;omega)),(by omega),rfl,rfl⟩ (fun g14 p15=>?_)
           have p15:True:=p15
           exact v_ret () [] ((sideP false (List.drop ((↑k:Int)+1).toNat r)=nextP l r)∧(l=l)∧(r=r)) ⟨(by exact nq (k:=k) (by first | exact XI.e1 ‹_› ‹_› | exact XI.e2 ‹_› ‹_› | exact XI.e3 ‹_› ‹_› ‹_› ‹_›) (by simp only[nextQ];simp_all)),rfl,rfl⟩ trivial
          ·skip
           exact v_ret () [] ((false=nextP l r)∧(l=l)∧(r=r)) ⟨(by exact nq (k:=k) (by first | exact XI.e1 ‹_› ‹_› | exact XI.e2 ‹_› ‹_› | exact XI.e3 ‹_› ‹_› ‹_› ‹_›) (by simp only[nextQ];simp_all)),rfl,rfl⟩ trivial
         ·have h10:=of_decide_eq_false h10
          exact v_ret () [] ((false=nextP l r)∧(l=l)∧(r=r)) ⟨(by exact nq (k:=k) (by first | exact XI.e1 ‹_› ‹_› | exact XI.e2 ‹_› ‹_› | exact XI.e3 ‹_› ‹_› ‹_› ‹_›) (by simp only[nextQ];simp_all)),rfl,rfl⟩ trivial
        ·have h9:=of_decide_eq_false h9
         exact v_ret () [] ((false=nextP l r)∧(l=l)∧(r=r)) ⟨(by exact nq (k:=k) (by first | exact XI.e1 ‹_› ‹_› | exact XI.e2 ‹_› ‹_› | exact XI.e3 ‹_› ‹_› ‹_› ‹_›) (by simp only[nextQ];simp_all)),rfl,rfl⟩ trivial
       ·skip
        exact v_ret () [] ((false=nextP l r)∧(l=l)∧(r=r)) ⟨(by exact nq (k:=k) (by first | exact XI.e1 ‹_› ‹_› | exact XI.e2 ‹_› ‹_› | exact XI.e3 ‹_› ‹_› ‹_› ‹_›) (by simp only[nextQ];simp_all)),rfl,rfl⟩ trivial
      ·have h7:=(nf h7)
       exact v_ret () [] ((false=nextP l r)∧(l=l)∧(r=r)) ⟨(by exact nq (k:=k) (by first | exact XI.e1 ‹_› ‹_› | exact XI.e2 ‹_› ‹_› | exact XI.e3 ‹_› ‹_› ‹_› ‹_›) (by simp only[nextQ];simp_all)),rfl,rfl⟩ trivial
     ·have h6:=of_decide_eq_false h6
      omega
    ·have h5:=of_decide_eq_false h5
     omega
  ·have h3:=of_decide_eq_false h3
   refine v_leave (.ex 0) True trivial ?_
   refine v_plan (.fs [0,1,2,3,4,5,6,7,8,9,10,11,12,13,14,15,16,17,18,19,20,21,22,23,24,25,26,27,28,29,30,31,32,33,34,35,36,37,38,39,40,41,42,43,44,45,46,47,48,49,50,51,52,53,54,55] (.o 56 (.fs [57,58,59,60,61,62] (.o 63 (.fs [64,65] .e))))) [] True trivial ?_
   refine v_guard 33 (decide ((↑k:Int)<(↑l.length:Int))) True trivial (fun h16=>?_) (fun h16=>?_)
   ·have h16:=of_decide_eq_true h16
    refine v_guard 39 (decide ((↑k:Int)<(↑r.length:Int))) True trivial (fun h17=>?_) (fun h17=>?_)
    ·have h17:=of_decide_eq_true h17
     omega
    ·have h17:=of_decide_eq_false h17
     exact v_ret () [] ((false=nextP l r)∧(l=l)∧(r=r)) ⟨(by exact nq (k:=k) (by first | exact XI.e1 ‹_› ‹_› | exact XI.e2 ‹_› ‹_› | exact XI.e3 ‹_› ‹_› ‹_› ‹_›) (by simp only[nextQ];simp[*])),rfl,rfl⟩ trivial
   ·have h16:=of_decide_eq_false h16
    omega
 ·have h2:=of_decide_eq_false h2
  refine v_leave (.ex 0) True trivial ?_
  refine v_plan (.fs [0,1,2,3,4,5,6,7,8,9,10,11,12,13,14,15,16,17,18,19,20,21,22,23,24,25,26,27,28,29,30,31,32,33,34,35,36,37,38,39,40,41,42,43,44,45,46,47,48,49,50,51,52,53,54,55] (.o 56 (.fs [57,58,59,60,61,62] (.o 63 (.fs [64,65] .e))))) [] True trivial ?_
  refine v_guard 33 (decide ((↑k:Int)<(↑l.length:Int))) True trivial (fun h18=>?_) (fun h18=>?_)
  ·have h18:=of_decide_eq_true h18
   omega
  ·have h18:=of_decide_eq_false h18
   exact v_ret () [] ((false=nextP l r)∧(l=l)∧(r=r)) ⟨(by exact nq (k:=k) (by first | exact XI.e1 ‹_› ‹_› | exact XI.e2 ‹_› ‹_› | exact XI.e3 ‹_› ‹_› ‹_› ‹_›) (by simp only[nextQ];simp[*])),rfl,rfl⟩ trivial
def vgS (want k:List UInt8) (i:Int) (o:Option Proof):Option Er :=
  if o.isNone=true then none
  else if(verP want (gp o)).isNone=false then some (.step ((#[115,105,100,101]:Array UInt8).toList) i ((verP want (gp o)).getD (.num 0)))
  else if Lib.compareBytes (gp o).key k=0∨(decide (Lib.compareBytes (gp o).key k<0) != decide (i=0))=true then some (.step ((#[115,105,100,101]:Array UInt8).toList) i (.num 20))
  else none
def vgL (want k:List UInt8) (l r:Option Proof):Option Er:=if(vgS want k 0 l).isNone=true then vgS want k 1 r else vgS want k 0 l
def vgP (want k:List UInt8) (l r:Option Proof):Option Er :=
  if k.length=0∨96<k.length then some (.step ((#[107,101,121]:Array UInt8).toList) k.length (.num 10))
  else if l.isNone=true∧r.isNone=true then(if want=sum256 [] then none else some (.step ((#[101,109,112,116,121]:Array UInt8).toList) 0 (.num 21)))
  else if(l.isNone=true∧sideP false (gp r).turns=false)∨(r.isNone=true∧sideP true (gp l).turns=false) then some (.step ((#[101,110,100]:Array UInt8).toList) 0 (.num 20))
  else if l.isNone=false∧r.isNone=false∧nextP (gp l).turns (gp r).turns=false then some (.step ((#[110,101,120,116]:Array UInt8).toList) 0 (.num 20))
  else vgL want k l r
def VI (want k:List UInt8) (l r:Option Proof) (i:Nat):Prop:=i≤2∧(i=0∨vgS want k 0 l=none)∧(i≤1∨vgS want k 1 r=none)∧vgP want k l r=vgL want k l r
section
variable {want k:List UInt8} {l r:Option Proof} {i:Nat}
theorem VI.start (h:vgP want k l r=vgL want k l r):VI want k l r 0:=⟨by omega,.inl rfl,.inl (by omega),h⟩
theorem VI.it (h:VI want k l r i) (hi:(i:Int)<2):(i=0∧[l,r].getD i none=l)∨(i=1∧[l,r].getD i none=r):=by
  have:i=0∨i=1:=by omega
  rcases this with rfl | rfl
  · exact .inl ⟨rfl,rfl⟩
  · exact .inr ⟨rfl,rfl⟩
theorem VI.hit (h:VI want k l r i) (hi:(i:Int)<2) {e:Er} (hs:vgS want k i ([l,r].getD i none)=some e):vgP want k l r=some e:=by
  rw[h.2.2.2]
  rcases h.it hi with⟨rfl,e1⟩ | ⟨rfl,e1⟩
  · rw[e1] at hs;unfold vgL;rw[if_neg (by rw[show vgS want k 0 l=some e from hs];simp)];exact hs
  · rw [e1] at hs; unfold vgL
    rcases h.2.1 with h0 | h0
    · omega
    · rw[if_pos (by rw[h0];rfl)];exact hs
theorem VI.next (h:VI want k l r i) (hi:(i:Int)<2) (hs:vgS want k i ([l,r].getD i none)=none):VI want k l r (i+1)∧2 - (i+1)<2 - i:=by
  refine⟨?_,by omega⟩
  rcases h.it hi with⟨rfl,e1⟩ | ⟨rfl,e1⟩
  · rw[e1] at hs;exact⟨by omega,.inr hs,.inl (by omega),h.2.2.2⟩
  · rw[e1] at hs;exact⟨by omega,.inr (h.2.1.resolve_left (by omega)),.inr hs,h.2.2.2⟩
theorem VI.stop (h:VI want k l r i) (hi:¬ (i:Int)<2):vgP want k l r=none:=by
  rw[h.2.2.2];unfold vgL
  rw[if_pos (by rw[h.2.1.resolve_left (by omega)];rfl)];exact h.2.2.1.resolve_left (by omega)
end
theorem vs1 {want k:List UInt8} {i:Int} {o:Option Proof} (h:o.isNone=true):vgS want k i o=none:=by unfold vgS;rw[if_pos h]
theorem vs2 {want k:List UInt8} {i:Int} {o:Option Proof} (h:o.isNone=false) (h2:(verP want (gp o)).isNone=false):vgS want k i o=some (.step ((#[115,105,100,101]:Array UInt8).toList) i ((verP want (gp o)).getD (.num 0))):=by unfold vgS;rw[if_neg (by simp[h]),if_pos h2]
theorem vs3 {want k:List UInt8} {i:Int} {o:Option Proof} (h:o.isNone=false) (h2:(verP want (gp o)).isNone=true) (h3:Lib.compareBytes (gp o).key k=0∨(decide (Lib.compareBytes (gp o).key k<0) != decide (i=0))=true):vgS want k i o=some (.step ((#[115,105,100,101]:Array UInt8).toList) i (.num 20)):=by unfold vgS;rw[if_neg (by simp[h]),if_neg (by simp[h2]),if_pos h3]
theorem vs4 {want k:List UInt8} {i:Int} {o:Option Proof} (h:o.isNone=false) (h2:(verP want (gp o)).isNone=true) (h3:¬ Lib.compareBytes (gp o).key k=0) (h4:(decide (Lib.compareBytes (gp o).key k<0) != decide (i=0))=false):vgS want k i o=none:=by unfold vgS;rw[if_neg (by simp[h]),if_neg (by simp[h2]),if_neg (by rw[h4];simp[h3])]
theorem vg_next {want k:List UInt8} {l r:Option Proof} (h1:¬ (k.length:Int)=0) (h2:¬ (96:Int)<k.length) (h3:l.isNone=false) (h4:r.isNone=false) (h5:nextP (gp l).turns (gp r).turns=false):vgP want k l r=some (.step ((#[110,101,120,116]:Array UInt8).toList) 0 (.num 20)):=by
  unfold vgP;rw[if_neg (by omega),if_neg (by simp[h3]),if_neg (by simp[h3,h4]),if_pos ⟨h3,h4,h5⟩]
theorem vg_both {want k:List UInt8} {l r:Option Proof} (h1:¬ (k.length:Int)=0) (h2:¬ (96:Int)<k.length) (h3:l.isNone=false) (h4:r.isNone=false) (h5:nextP (gp l).turns (gp r).turns=true):vgP want k l r=vgL want k l r:=by
  unfold vgP;rw[if_neg (by omega),if_neg (by simp[h3]),if_neg (by simp[h3,h4]),if_neg (by simp[h5])]
noncomputable def ccC6_28:Code:=(Tryd.f28.body).getD .skip
theorem VerifyGap_ok (want k:List UInt8) (l r:Option Proof) (hw:want.length=32) (hl:(gp l).turns.length≤1000000) (hr:(gp r).turns.length≤1000000):FOk EN 28 ⟨[.pr wordsP,.rd 5 (k),.pt 26 l,.pt 26 r],[.a [.h 32 want],.n 1,.a [.n 2,.n 3]],Unit,fun _=>([.pr wordsP,.rd 5 (k),.pt 26 l,.pt 26 r,.pn (PE (vgP want k l r)) true (vgP want k l r).isNone],.n 4),fun _=>True⟩:=by
 refine v_fun Tryd.f28 ccC6_28 MX (fun ν F σ w=>?_) Tryd.func28
 refine v_nl ?_
 refine v_guard 14 (decide ((↑k.length:Int)=0)) True trivial (fun h1=>?_) (fun h1=>?_)
 ·have h1:=of_decide_eq_true h1
  refine v_al [] (al_e1 (10)) True trivial ?_
  refine v_call _ [7] (faultAt_ok (#[107,101,121].toList) (↑k.length) (Er.num 10)) ((#[(107:UInt8),(101:UInt8),(121:UInt8)].toList=#[(107:UInt8),(101:UInt8),(121:UInt8)].toList)∧((↑k.length:Int)=(↑k.length:Int))∧((10:Int)=(10:Int))∧(PE (some (Er.num 10))=PE (some (Er.num 10)))∧(false=false)) ⟨rfl,rfl,rfl,rfl,rfl⟩ (fun g2 p3=>?_)
  have p3:True:=p3
  exact v_ret () [8] ((wordsP=wordsP)∧(k=k)∧(l=l)∧(r=r)∧(PE (some (Er.step #[107,101,121].toList (↑k.length) (Er.num 10)))=PE (vgP want k l r))∧(false=(vgP want k l r).isNone)) ⟨rfl,rfl,rfl,rfl,(by(unfold vgP;(repeat' split) <;> first | rfl | (exfalso;omega) | (exfalso;simp_all;done) | (exfalso;simp_all;omega))),(by(unfold vgP;(repeat' split) <;> first | rfl | (exfalso;omega) | (exfalso;simp_all;done) | (exfalso;simp_all;omega)))⟩ trivial
 ·have h1:=of_decide_eq_false h1
  refine v_if (decide (96<(↑k.length:Int))) True trivial (fun h4=>?_) (fun h4=>?_)
  ·have h4:=of_decide_eq_true h4
   refine v_al [] (al_e1 (10)) True trivial ?_
   refine v_call _ [7] (faultAt_ok (#[107,101,121].toList) (↑k.length) (Er.num 10)) ((#[(107:UInt8),(101:UInt8),(121:UInt8)].toList=#[(107:UInt8),(101:UInt8),(121:UInt8)].toList)∧((↑k.length:Int)=(↑k.length:Int))∧((10:Int)=(10:Int))∧(PE (some (Er.num 10))=PE (some (Er.num 10)))∧(false=false)) ⟨rfl,rfl,rfl,rfl,rfl⟩ (fun g5 p6=>?_)
   have p6:True:=p6
   exact v_ret () [8] ((wordsP=wordsP)∧(k=k)∧(l=l)∧(r=r)∧(PE (some (Er.step #[107,101,121].toList (↑k.length) (Er.num 10)))=PE (vgP want k l r))∧(false=(vgP want k l r).isNone)) ⟨rfl,rfl,rfl,rfl,(by(unfold vgP;(repeat' split) <;> first | rfl | (exfalso;omega) | (exfalso;simp_all;done) | (exfalso;simp_all;omega))),(by(unfold vgP;(repeat' split) <;> first | rfl | (exfalso;omega) | (exfalso;simp_all;done) | (exfalso;simp_all;omega)))⟩ trivial
  ·have h4:=of_decide_eq_false h4
   refine v_guard 27 (l.isNone) True trivial (fun h7=>?_) (fun h7=>?_)
   ·skip
    refine v_if (r.isNone) True trivial (fun h8=>?_) (fun h8=>?_)
    ·skip
     refine v_plan (.fs [0] (.o 1 (.fs [2] .e))) [5,6] True trivial ?_
     refine v_call _ [0] (Empty_ok) ((wordsP=wordsP)) rfl (fun g9 p10=>?_)
     have p10:True:=p10
     refine v_if (!decide (want=sum256 [])) ((EN.P.eqGuardType EN.P.depth (52:Nat)=false)∧(want.length=32)∧((sum256 []).length=32)) ⟨rfl,‹_›,rfl⟩ (fun h11=>?_) (fun h11=>?_)
     ·have h11:=of_decide_eq_false (nt h11)
      refine v_al [] (al_e1 (21)) True trivial ?_
      refine v_call _ [7] (faultAt_ok (#[101,109,112,116,121].toList) (0) (Er.num 21)) ((#[(101:UInt8),(109:UInt8),(112:UInt8),(116:UInt8),(121:UInt8)].toList=#[(101:UInt8),(109:UInt8),(112:UInt8),(116:UInt8),(121:UInt8)].toList)∧((0:Int)=(0:Int))∧((21:Int)=(21:Int))∧(PE (some (Er.num 21))=PE (some (Er.num 21)))∧(false=false)) ⟨rfl,rfl,rfl,rfl,rfl⟩ (fun g12 p13=>?_)
      have p13:True:=p13
      exact v_ret () [8] ((wordsP=wordsP)∧(k=k)∧(l=l)∧(r=r)∧(PE (some (Er.step #[101,109,112,116,121].toList 0 (Er.num 21)))=PE (vgP want k l r))∧(false=(vgP want k l r).isNone)) ⟨rfl,rfl,rfl,rfl,(by(unfold vgP;(repeat' split) <;> first | rfl | (exfalso;omega) | (exfalso;simp_all;done) | (exfalso;simp_all;omega))),(by(unfold vgP;(repeat' split) <;> first | rfl | (exfalso;omega) | (exfalso;simp_all;done) | (exfalso;simp_all;omega)))⟩ trivial
     ·have h11:=of_decide_eq_true (nf h11)
      refine v_al [] (al_e0 (vgP want k l r) (by(unfold vgP;(repeat' split) <;> first | rfl | (exfalso;omega) | (exfalso;simp_all;done) | (exfalso;simp_all;omega)))) True trivial ?_
      exact v_ret () [7] ((wordsP=wordsP)∧(k=k)∧(l=l)∧(r=r)∧(PE (vgP want k l r)=PE (vgP want k l r))∧((vgP want k l r).isNone=(vgP want k l r).isNone)) ⟨rfl,rfl,rfl,rfl,rfl,rfl⟩ trivial
    ·skip
     refine v_guard 41 (l.isNone) True trivial (fun h14=>?_) (fun h14=>?_)
     ·skip
      refine v_open 3 (open_pf (r) ‹_›) ((PPt GT 26 r=PPt GT 26 r)) rfl ?_
      refine v_call _ [9] (side_ok ((gp r).turns) (false) ‹_›) ((false=false)∧((gp r).turns=(gp r).turns)) ⟨rfl,rfl⟩ (fun g15 p16=>?_)
      have p16:True:=p16
      refine v_if (!sideP false (gp r).turns) True trivial (fun h17=>?_) (fun h17=>?_)
      ·have h17:=(nt h17)
       refine v_if (!sideP false (gp r).turns) True trivial (fun h18=>?_) (fun h18=>?_)
       ·have h18:=(nt h18)
        refine v_al [] (al_e1 (20)) True trivial ?_
        refine v_call _ [10] (faultAt_ok (#[101,110,100].toList) (0) (Er.num 20)) ((#[(101:UInt8),(110:UInt8),(100:UInt8)].toList=#[(101:UInt8),(110:UInt8),(100:UInt8)].toList)∧((0:Int)=(0:Int))∧((20:Int)=(20:Int))∧(PE (some (Er.num 20))=PE (some (Er.num 20)))∧(false=false)) ⟨rfl,rfl,rfl,rfl,rfl⟩ (fun g19 p20=>?_)
        have p20:True:=p20
        exact v_ret () [11] ((wordsP=wordsP)∧(k=k)∧(l=l)∧(PLe (PPt GT 26 r) (PPt GT 26 r))∧(PE (some (Er.step #[101,110,100].toList 0 (Er.num 20)))=PE (vgP want k l r))∧(false=(vgP want k l r).isNone)) ⟨rfl,rfl,rfl,fun _ _ _ h=>h,(by(unfold vgP;(repeat' split) <;> first | rfl | (exfalso;omega) | (exfalso;simp_all;done) | (exfalso;simp_all;omega))),(by(unfold vgP;(repeat' split) <;> first | rfl | (exfalso;omega) | (exfalso;simp_all;done) | (exfalso;simp_all;omega)))⟩ trivial
       ·have h18:=(nf h18)
        exfalso;(simp_all;done)
      ·have h17:=(nf h17)
       refine v_plan (.fs [0,1,2,3,4,5,6,7,8,9,10,11,12,13,14,15,16,17,18] (.o 19 (.fs [20,21,22] .e))) [5,6] True trivial ?_
       refine v_guard 68 (!l.isNone) True trivial (fun h21=>?_) (fun h21=>?_)
       ·have h21:=(nt h21)
        exfalso;(simp_all;done)
       ·have h21:=(nf h21)
        refine v_loop (fun i:Nat=>([(95,.i i),(93,.n 11)],[.ow 29 [l,r]])) (fun i=>VI want k l r i) (fun i=>2 - i) 0 [10] (((0:Int)=(↑(0:Nat):Int))∧([l,some (Proof.mk (gp r).key (gp r).value (gp r).turns)]=[l,r])) ⟨rfl,(by(first | rw[← gp_some (o:=l) ‹_›,← gp_some (o:=r) ‹_›] | rw[← gp_some (o:=r) ‹_›] | rw[← gp_some (o:=l) ‹_›]))⟩ (by exact VI.start (by unfold vgP;(repeat' split) <;> first | rfl | (exfalso;omega) | (exfalso;simp_all;done) | (exfalso;simp_all;omega))) (fun i hk22=>?_)
        have i1:=(‹VI want k l r i›).1
        refine v_if (decide ((↑i:Int)<(↑(2:Nat):Int))) True trivial (fun h23=>?_) (fun h23=>?_)
        ·have h23:=of_decide_eq_true h23
         refine v_if (([l,r].getD (↑i:Int).toNat none).isNone) (((0:Int)≤(↑i:Int)∧(↑i:Int)<(↑(2:Nat):Int))) (by omega) (fun h24=>?_) (fun h24=>?_)
         ·skip
          exact v_back (i+1) [11] ((I64 (↑i+1))∧((↑i:Int)+1=(↑(i+1):Int))∧([l,r]=[l,r])) ⟨(by(unfold I64;omega)),rfl,rfl⟩ (show VI want k l r (i+1)∧2 - (i+1)<2 - i from(by exact VI.next ‹_› ‹_› (by first | exact vs1 ‹_› | exact vs4 ‹_› ‹_› ‹_› ‹_›)))
         ·skip
          refine v_open 12 (open_pf ([l,r].getD (↑i:Int).toNat none) ‹_›) ((PPt GT 26 ([l,r].getD (↑i:Int).toNat none)=PPt GT 26 ([l,r].getD (↑i:Int).toNat none))) rfl ?_
          refine v_plan (.fs [0,1,2,3] (.o 4 (.fs [5] .e))) [5,6,11] True trivial ?_
          refine v_call _ [0,14,15,16] (Verify_ok (want) (gp ([l,r].getD (↑i:Int).toNat none)) ‹_›) ((want=want)∧(wordsP=wordsP)∧((gp ([l,r].getD (↑i:Int).toNat none)).key=(gp ([l,r].getD (↑i:Int).toNat none)).key)∧((gp ([l,r].getD (↑i:Int).toNat none)).value=(gp ([l,r].getD (↑i:Int).toNat none)).value)∧((gp ([l,r].getD (↑i:Int).toNat none)).turns=(gp ([l,r].getD (↑i:Int).toNat none)).turns)) ⟨rfl,rfl,rfl,rfl,rfl⟩ (fun g25 p26=>?_)
          have p26:True:=p26
          refine v_if (!(verP want (gp ([l,r].getD (↑i:Int).toNat none))).isNone) True trivial (fun h27=>?_) (fun h27=>?_)
          ·have h27:=(nt h27)
           refine v_call _ [17] (faultAt2_ok (#[115,105,100,101].toList) (↑i) (verP want (gp ([l,r].getD (↑i:Int).toNat none))) ‹_›) ((#[(115:UInt8),(105:UInt8),(100:UInt8),(101:UInt8)].toList=#[(115:UInt8),(105:UInt8),(100:UInt8),(101:UInt8)].toList)∧((↑i:Int)=(↑i:Int))∧(PE (verP want (gp ([l,r].getD (↑i:Int).toNat none)))=PE (verP want (gp ([l,r].getD (↑i:Int).toNat none))))∧((verP want (gp ([l,r].getD (↑i:Int).toNat none))).isNone=(verP want (gp ([l,r].getD (↑i:Int).toNat none))).isNone)) ⟨rfl,rfl,rfl,rfl⟩ (fun g28 p29=>?_)
           have p29:True:=p29
           refine v_leave .rt True trivial ?_
           exact v_ret () [18] ((wordsP=wordsP)∧(k=k)∧(l=l)∧(PLe (PPt GT 26 r) (PPt GT 26 r))∧(PE (some (Er.step #[115,105,100,101].toList (↑i:Int) ((verP want (gp ([l,r].getD (↑i:Int).toNat none))).getD (Er.num 0))))=PE (vgP want k l r))∧(false=(vgP want k l r).isNone)) ⟨rfl,rfl,rfl,fun _ _ _ h=>h,(by(rw[VI.hit ‹_› ‹_› (by first | exact vs2 ‹_› ‹_› | exact vs3 ‹_› ‹_› (Or.inl ‹_›) | exact vs3 ‹_› ‹_› (Or.inr ‹_›))] <;> rfl)),(by(rw[VI.hit ‹_› ‹_› (by first | exact vs2 ‹_› ‹_› | exact vs3 ‹_› ‹_› (Or.inl ‹_›) | exact vs3 ‹_› ‹_› (Or.inr ‹_›))] <;> rfl))⟩ trivial
          ·have h27:=(nf h27)
           refine v_call _ [14,1] (bcmp_ok ((gp ([l,r].getD (↑i:Int).toNat none)).key) (k)) (((gp ([l,r].getD (↑i:Int).toNat none)).key=(gp ([l,r].getD (↑i:Int).toNat none)).key)∧(k=k)) ⟨rfl,rfl⟩ (fun g30 p31=>?_)
           have p31:True:=p31
           refine v_guard 120 (decide (Lib.compareBytes (gp ([l,r].getD (↑i:Int).toNat none)).key k=0)) True trivial (fun h32=>?_) (fun h32=>?_)
           ·have h32:=of_decide_eq_true h32
            refine v_al [] (al_e1 (20)) True trivial ?_
            refine v_call _ [18] (faultAt_ok (#[115,105,100,101].toList) (↑i) (Er.num 20)) ((#[(115:UInt8),(105:UInt8),(100:UInt8),(101:UInt8)].toList=#[(115:UInt8),(105:UInt8),(100:UInt8),(101:UInt8)].toList)∧((↑i:Int)=(↑i:Int))∧((20:Int)=(20:Int))∧(PE (some (Er.num 20))=PE (some (Er.num 20)))∧(false=false)) ⟨rfl,rfl,rfl,rfl,rfl⟩ (fun g33 p34=>?_)
            have p34:True:=p34
            refine v_leave .rt True trivial ?_
            exact v_ret () [19] ((wordsP=wordsP)∧(k=k)∧(l=l)∧(PLe (PPt GT 26 r) (PPt GT 26 r))∧(PE (some (Er.step #[115,105,100,101].toList (↑i) (Er.num 20)))=PE (vgP want k l r))∧(false=(vgP want k l r).isNone)) ⟨rfl,rfl,rfl,fun _ _ _ h=>h,(by(rw[VI.hit ‹_› ‹_› (by first | exact vs2 ‹_› ‹_› | exact vs3 ‹_› ‹_› (Or.inl ‹_›) | exact vs3 ‹_› ‹_› (Or.inr ‹_›))] <;> rfl)),(by(rw[VI.hit ‹_› ‹_› (by first | exact vs2 ‹_› ‹_› | exact vs3 ‹_› ‹_› (Or.inl ‹_›) | exact vs3 ‹_› ‹_› (Or.inr ‹_›))] <;> rfl))⟩ trivial
           ·have h32:=of_decide_eq_false h32
            refine v_if (decide (Lib.compareBytes (gp ([l,r].getD (↑i:Int).toNat none)).key k<0) != decide ((↑i:Int)=0)) True trivial (fun h35=>?_) (fun h35=>?_)
            ·skip
             refine v_al [] (al_e1 (20)) True trivial ?_
             refine v_call _ [18] (faultAt_ok (#[115,105,100,101].toList) (↑i) (Er.num 20)) ((#[(115:UInt8),(105:UInt8),(100:UInt8),(101:UInt8)].toList=#[(115:UInt8),(105:UInt8),(100:UInt8),(101:UInt8)].toList)∧((↑i:Int)=(↑i:Int))∧((20:Int)=(20:Int))∧(PE (some (Er.num 20))=PE (some (Er.num 20)))∧(false=false)) ⟨rfl,rfl,rfl,rfl,rfl⟩ (fun g36 p37=>?_)
             have p37:True:=p37
             refine v_leave .rt True trivial ?_
             exact v_ret () [19] ((wordsP=wordsP)∧(k=k)∧(l=l)∧(PLe (PPt GT 26 r) (PPt GT 26 r))∧(PE (some (Er.step #[115,105,100,101].toList (↑i) (Er.num 20)))=PE (vgP want k l r))∧(false=(vgP want k l r).isNone)) ⟨rfl,rfl,rfl,fun _ _ _ h=>h,(by(rw[VI.hit ‹_› ‹_› (by first | exact vs2 ‹_› ‹_› | exact vs3 ‹_› ‹_› (Or.inl ‹_›) | exact vs3 ‹_› ‹_› (Or.inr ‹_›))] <;> rfl)),(by(rw[VI.hit ‹_› ‹_› (by first | exact vs2 ‹_› ‹_› | exact vs3 ‹_› ‹_› (Or.inl ‹_›) | exact vs3 ‹_› ‹_› (Or.inr ‹_›))] <;> rfl))⟩ trivial
            ·skip
             exact v_back (i+1) [11] ((I64 (↑i+1))∧((↑i:Int)+1=(↑(i+1):Int))∧([l,r]=[l,r])) ⟨(by(unfold I64;omega)),rfl,rfl⟩ (show VI want k l r (i+1)∧2 - (i+1)<2 - i from(by exact VI.next ‹_› ‹_› (by first | exact vs1 ‹_› | exact vs4 ‹_› ‹_› ‹_› ‹_›)))
        ·have h23:=of_decide_eq_false h23
         refine v_leave (.ex 1) True trivial ?_
         refine v_al [] (al_e0 (vgP want k l r) (by exact VI.stop ‹_› ‹_›)) True trivial ?_
         exact v_ret () [12] ((wordsP=wordsP)∧(k=k)∧(l=l)∧(PLe (PPt GT 26 r) (PPt GT 26 r))∧(PE (vgP want k l r)=PE (vgP want k l r))∧((vgP want k l r).isNone=(vgP want k l r).isNone)) ⟨rfl,rfl,rfl,fun _ _ _ h=>h,rfl,rfl⟩ trivial
     ·skip
      exfalso;(simp_all;done)
   ·skip
    refine v_guard 41 (l.isNone) True trivial (fun h38=>?_) (fun h38=>?_)
    ·skip
     exfalso;(simp_all;done)
    ·skip
     refine v_guard 53 (r.isNone) True trivial (fun h39=>?_) (fun h39=>?_)
     ·skip
      refine v_open 2 (open_pf (l) ‹_›) ((PPt GT 26 l=PPt GT 26 l)) rfl ?_
      refine v_call _ [9] (side_ok ((gp l).turns) (true) ‹_›) ((true=true)∧((gp l).turns=(gp l).turns)) ⟨rfl,rfl⟩ (fun g40 p41=>?_)
      have p41:True:=p41
      refine v_if (!sideP true (gp l).turns) True trivial (fun h42=>?_) (fun h42=>?_)
      ·have h42:=(nt h42)
       refine v_al [] (al_e1 (20)) True trivial ?_
       refine v_call _ [10] (faultAt_ok (#[101,110,100].toList) (0) (Er.num 20)) ((#[(101:UInt8),(110:UInt8),(100:UInt8)].toList=#[(101:UInt8),(110:UInt8),(100:UInt8)].toList)∧((0:Int)=(0:Int))∧((20:Int)=(20:Int))∧(PE (some (Er.num 20))=PE (some (Er.num 20)))∧(false=false)) ⟨rfl,rfl,rfl,rfl,rfl⟩ (fun g43 p44=>?_)
       have p44:True:=p44
       exact v_ret () [11] ((wordsP=wordsP)∧(k=k)∧(PLe (PPt GT 26 l) (PPt GT 26 l))∧(r=r)∧(PE (some (Er.step #[101,110,100].toList 0 (Er.num 20)))=PE (vgP want k l r))∧(false=(vgP want k l r).isNone)) ⟨rfl,rfl,fun _ _ _ h=>h,rfl,(by(unfold vgP;(repeat' split) <;> first | rfl | (exfalso;omega) | (exfalso;simp_all;done) | (exfalso;simp_all;omega))),(by(unfold vgP;(repeat' split) <;> first | rfl | (exfalso;omega) | (exfalso;simp_all;done) | (exfalso;simp_all;omega)))⟩ trivial
      ·have h42:=(nf h42)
       refine v_plan (.fs [0,1,2,3,4,5,6,7,8,9,10,11,12,13,14,15,16,17,18] (.o 19 (.fs [20,21,22] .e))) [5,6] True trivial ?_
       refine v_guard 73 (!r.isNone) True trivial (fun h45=>?_) (fun h45=>?_)
       ·have h45:=(nt h45)
        exfalso;(simp_all;done)
       ·have h45:=(nf h45)
        refine v_loop (fun i:Nat=>([(95,.i i),(93,.n 11)],[.ow 29 [l,r]])) (fun i=>VI want k l r i) (fun i=>2 - i) 0 [10] (((0:Int)=(↑(0:Nat):Int))∧([some (Proof.mk (gp l).key (gp l).value (gp l).turns),r]=[l,r])) ⟨rfl,(by(first | rw[← gp_some (o:=l) ‹_›,← gp_some (o:=r) ‹_›] | rw[← gp_some (o:=r) ‹_›] | rw[← gp_some (o:=l) ‹_›]))⟩ (by exact VI.start (by unfold vgP;(repeat' split) <;> first | rfl | (exfalso;omega) | (exfalso;simp_all;done) | (exfalso;simp_all;omega))) (fun i hk46=>?_)
        have i1:=(‹VI want k l r i›).1
        refine v_if (decide ((↑i:Int)<(↑(2:Nat):Int))) True trivial (fun h47=>?_) (fun h47=>?_)
        ·have h47:=of_decide_eq_true h47
         refine v_if (([l,r].getD (↑i:Int).toNat none).isNone) (((0:Int)≤(↑i:Int)∧(↑i:Int)<(↑(2:Nat):Int))) (by omega) (fun h48=>?_) (fun h48=>?_)
         ·skip
          exact v_back (i+1) [11] ((I64 (↑i+1))∧((↑i:Int)+1=(↑(i+1):Int))∧([l,r]=[l,r])) ⟨(by(unfold I64;omega)),rfl,rfl⟩ (show VI want k l r (i+1)∧2 - (i+1)<2 - i from(by exact VI.next ‹_› ‹_› (by first | exact vs1 ‹_› | exact vs4 ‹_› ‹_› ‹_› ‹_›)))
         ·skip
          refine v_open 12 (open_pf ([l,r].getD (↑i:Int).toNat none) ‹_›) ((PPt GT 26 ([l,r].getD (↑i:Int).toNat none)=PPt GT 26 ([l,r].getD (↑i:Int).toNat none))) rfl ?_
          refine v_plan (.fs [0,1,2,3] (.o 4 (.fs [5] .e))) [5,6,11] True trivial ?_
          refine v_call _ [0,14,15,16] (Verify_ok (want) (gp ([l,r].getD (↑i:Int).toNat none)) ‹_›) ((want=want)∧(wordsP=wordsP)∧((gp ([l,r].getD (↑i:Int).toNat none)).key=(gp ([l,r].getD (↑i:Int).toNat none)).key)∧((gp ([l,r].getD (↑i:Int).toNat none)).value=(gp ([l,r].getD (↑i:Int).toNat none)).value)∧((gp ([l,r].getD (↑i:Int).toNat none)).turns=(gp ([l,r].getD (↑i:Int).toNat none)).turns)) ⟨rfl,rfl,rfl,rfl,rfl⟩ (fun g49 p50=>?_)
          have p50:True:=p50
          refine v_if (!(verP want (gp ([l,r].getD (↑i:Int).toNat none))).isNone) True trivial (fun h51=>?_) (fun h51=>?_)
          ·have h51:=(nt h51)
           refine v_call _ [17] (faultAt2_ok (#[115,105,100,101].toList) (↑i) (verP want (gp ([l,r].getD (↑i:Int).toNat none))) ‹_›) ((#[(115:UInt8),(105:UInt8),(100:UInt8),(101:UInt8)].toList=#[(115:UInt8),(105:UInt8),(100:UInt8),(101:UInt8)].toList)∧((↑i:Int)=(↑i:Int))∧(PE (verP want (gp ([l,r].getD (↑i:Int).toNat none)))=PE (verP want (gp ([l,r].getD (↑i:Int).toNat none))))∧((verP want (gp ([l,r].getD (↑i:Int).toNat none))).isNone=(verP want (gp ([l,r].getD (↑i:Int).toNat none))).isNone)) ⟨rfl,rfl,rfl,rfl⟩ (fun g52 p53=>?_)
           have p53:True:=p53
           refine v_leave .rt True trivial ?_
           exact v_ret () [18] ((wordsP=wordsP)∧(k=k)∧(PLe (PPt GT 26 l) (PPt GT 26 l))∧(r=r)∧(PE (some (Er.step #[115,105,100,101].toList (↑i:Int) ((verP want (gp ([l,r].getD (↑i:Int).toNat none))).getD (Er.num 0))))=PE (vgP want k l r))∧(false=(vgP want k l r).isNone)) ⟨rfl,rfl,fun _ _ _ h=>h,rfl,(by(rw[VI.hit ‹_› ‹_› (by first | exact vs2 ‹_› ‹_› | exact vs3 ‹_› ‹_› (Or.inl ‹_›) | exact vs3 ‹_› ‹_› (Or.inr ‹_›))] <;> rfl)),(by(rw[VI.hit ‹_› ‹_› (by first | exact vs2 ‹_› ‹_› | exact vs3 ‹_› ‹_› (Or.inl ‹_›) | exact vs3 ‹_› ‹_› (Or.inr ‹_›))] <;> rfl))⟩ trivial
          ·have h51:=(nf h51)
           refine v_call _ [14,1] (bcmp_ok ((gp ([l,r].getD (↑i:Int).toNat none)).key) (k)) (((gp ([l,r].getD (↑i:Int).toNat none)).key=(gp ([l,r].getD (↑i:Int).toNat none)).key)∧(k=k)) ⟨rfl,rfl⟩ (fun g54 p55=>?_)
           have p55:True:=p55
           refine v_guard 120 (decide (Lib.compareBytes (gp ([l,r].getD (↑i:Int).toNat none)).key k=0)) True trivial (fun h56=>?_) (fun h56=>?_)
           ·have h56:=of_decide_eq_true h56
            refine v_al [] (al_e1 (20)) True trivial ?_
            refine v_call _ [18] (faultAt_ok (#[115,105,100,101].toList) (↑i) (Er.num 20)) ((#[(115:UInt8),(105:UInt8),(100:UInt8),(101:UInt8)].toList=#[(115:UInt8),(105:UInt8),(100:UInt8),(101:UInt8)].toList)∧((↑i:Int)=(↑i:Int))∧((20:Int)=(20:Int))∧(PE (some (Er.num 20))=PE (some (Er.num 20)))∧(false=false)) ⟨rfl,rfl,rfl,rfl,rfl⟩ (fun g57 p58=>?_)
            have p58:True:=p58
            refine v_leave .rt True trivial ?_
            exact v_ret () [19] ((wordsP=wordsP)∧(k=k)∧(PLe (PPt GT 26 l) (PPt GT 26 l))∧(r=r)∧(PE (some (Er.step #[115,105,100,101].toList (↑i) (Er.num 20)))=PE (vgP want k l r))∧(false=(vgP want k l r).isNone)) ⟨rfl,rfl,fun _ _ _ h=>h,rfl,(by(rw[VI.hit ‹_› ‹_› (by first | exact vs2 ‹_› ‹_› | exact vs3 ‹_› ‹_› (Or.inl ‹_›) | exact vs3 ‹_› ‹_› (Or.inr ‹_›))] <;> rfl)),(by(rw[VI.hit ‹_› ‹_› (by first | exact vs2 ‹_› ‹_› | exact vs3 ‹_› ‹_› (Or.inl ‹_›) | exact vs3 ‹_› ‹_› (Or.inr ‹_›))] <;> rfl))⟩ trivial
           ·have h56:=of_decide_eq_false h56
            refine v_if (decide (Lib.compareBytes (gp ([l,r].getD (↑i:Int).toNat none)).key k<0) != decide ((↑i:Int)=0)) True trivial (fun h59=>?_) (fun h59=>?_)
            ·skip
             refine v_al [] (al_e1 (20)) True trivial ?_
             refine v_call _ [18] (faultAt_ok (#[115,105,100,101].toList) (↑i) (Er.num 20)) ((#[(115:UInt8),(105:UInt8),(100:UInt8),(101:UInt8)].toList=#[(115:UInt8),(105:UInt8),(100:UInt8),(101:UInt8)].toList)∧((↑i:Int)=(↑i:Int))∧((20:Int)=(20:Int))∧(PE (some (Er.num 20))=PE (some (Er.num 20)))∧(false=false)) ⟨rfl,rfl,rfl,rfl,rfl⟩ (fun g60 p61=>?_)
             have p61:True:=p61
             refine v_leave .rt True trivial ?_
             exact v_ret () [19] ((wordsP=wordsP)∧(k=k)∧(PLe (PPt GT 26 l) (PPt GT 26 l))∧(r=r)∧(PE (some (Er.step #[115,105,100,101].toList (↑i) (Er.num 20)))=PE (vgP want k l r))∧(false=(vgP want k l r).isNone)) ⟨rfl,rfl,fun _ _ _ h=>h,rfl,(by(rw[VI.hit ‹_› ‹_› (by first | exact vs2 ‹_› ‹_› | exact vs3 ‹_› ‹_› (Or.inl ‹_›) | exact vs3 ‹_› ‹_› (Or.inr ‹_›))] <;> rfl)),(by(rw[VI.hit ‹_› ‹_› (by first | exact vs2 ‹_› ‹_› | exact vs3 ‹_› ‹_› (Or.inl ‹_›) | exact vs3 ‹_› ‹_› (Or.inr ‹_›))] <;> rfl))⟩ trivial
            ·skip
             exact v_back (i+1) [11] ((I64 (↑i+1))∧((↑i:Int)+1=(↑(i+1):Int))∧([l,r]=[l,r])) ⟨(by(unfold I64;omega)),rfl,rfl⟩ (show VI want k l r (i+1)∧2 - (i+1)<2 - i from(by exact VI.next ‹_› ‹_› (by first | exact vs1 ‹_› | exact vs4 ‹_› ‹_› ‹_› ‹_›)))
        ·have h47:=of_decide_eq_false h47
         refine v_leave (.ex 1) True trivial ?_
         refine v_al [] (al_e0 (vgP want k l r) (by exact VI.stop ‹_› ‹_›)) True trivial ?_
         exact v_ret () [12] ((wordsP=wordsP)∧(k=k)∧(PLe (PPt GT 26 l) (PPt GT 26 l))∧(r=r)∧(PE (vgP want k l r)=PE (vgP want k l r))∧((vgP want k l r).isNone=(vgP want k l r).isNone)) ⟨rfl,rfl,fun _ _ _ h=>h,rfl,rfl,rfl⟩ trivial
     ·skip
      refine v_open 2 (open_pf (l) ‹_›) ((PPt GT 26 l=PPt GT 26 l)) rfl ?_
      refine v_open 3 (open_pf (r) ‹_›) ((PPt GT 26 r=PPt GT 26 r)) rfl ?_
      refine v_plan (.fs [0,1,2,3,4,5,6,7,8,9,10,11,12,13,14,15,16,17,18] (.o 19 (.fs [20,21,22] .e))) [5,6] True trivial ?_
      refine v_call _ [9,12] (next_ok ((gp l).turns) ((gp r).turns) ‹_› ‹_›) (((gp l).turns=(gp l).turns)∧((gp r).turns=(gp r).turns)) ⟨rfl,rfl⟩ (fun g62 p63=>?_)
      have p63:True:=p63
      refine v_if (!nextP (gp l).turns (gp r).turns) True trivial (fun h64=>?_) (fun h64=>?_)
      ·have h64:=(nt h64)
       refine v_al [] (al_e1 (20)) True trivial ?_
       refine v_call _ [13] (faultAt_ok (#[110,101,120,116].toList) (0) (Er.num 20)) ((#[(110:UInt8),(101:UInt8),(120:UInt8),(116:UInt8)].toList=#[(110:UInt8),(101:UInt8),(120:UInt8),(116:UInt8)].toList)∧((0:Int)=(0:Int))∧((20:Int)=(20:Int))∧(PE (some (Er.num 20))=PE (some (Er.num 20)))∧(false=false)) ⟨rfl,rfl,rfl,rfl,rfl⟩ (fun g65 p66=>?_)
       have p66:True:=p66
       exact v_ret () [14] ((wordsP=wordsP)∧(k=k)∧(PLe (PPt GT 26 l) (PPt GT 26 l))∧(PLe (PPt GT 26 r) (PPt GT 26 r))∧(PE (some (Er.step #[110,101,120,116].toList 0 (Er.num 20)))=PE (vgP want k l r))∧(false=(vgP want k l r).isNone)) ⟨rfl,rfl,fun _ _ _ h=>h,fun _ _ _ h=>h,(by(rw[vg_next ‹_› ‹_› ‹_› ‹_› ‹_›] <;> rfl)),(by(rw[vg_next ‹_› ‹_› ‹_› ‹_› ‹_›] <;> rfl))⟩ trivial
      ·have h64:=(nf h64)
       refine v_loop (fun i:Nat=>([(95,.i i),(93,.n 14)],[.ow 29 [l,r]])) (fun i=>VI want k l r i) (fun i=>2 - i) 0 [13] (((0:Int)=(↑(0:Nat):Int))∧([some (Proof.mk (gp l).key (gp l).value (gp l).turns),some (Proof.mk (gp r).key (gp r).value (gp r).turns)]=[l,r])) ⟨rfl,(by(first | rw[← gp_some (o:=l) ‹_›,← gp_some (o:=r) ‹_›] | rw[← gp_some (o:=r) ‹_›] | rw[← gp_some (o:=l) ‹_›]))⟩ (by exact VI.start (vg_both ‹_› ‹_› ‹_› ‹_› ‹_›)) (fun i hk67=>?_)
       have i1:=(‹VI want k l r i›).1
       refine v_if (decide ((↑i:Int)<(↑(2:Nat):Int))) True trivial (fun h68=>?_) (fun h68=>?_)
       ·have h68:=of_decide_eq_true h68
        refine v_if (([l,r].getD (↑i:Int).toNat none).isNone) (((0:Int)≤(↑i:Int)∧(↑i:Int)<(↑(2:Nat):Int))) (by omega) (fun h69=>?_) (fun h69=>?_)
        ·skip
         exact v_back (i+1) [14] ((I64 (↑i+1))∧((↑i:Int)+1=(↑(i+1):Int))∧([l,r]=[l,r])) ⟨(by(unfold I64;omega)),rfl,rfl⟩ (show VI want k l r (i+1)∧2 - (i+1)<2 - i from(by exact VI.next ‹_› ‹_› (by first | exact vs1 ‹_› | exact vs4 ‹_› ‹_› ‹_› ‹_›)))
        ·skip
         refine v_open 15 (open_pf ([l,r].getD (↑i:Int).toNat none) ‹_›) ((PPt GT 26 ([l,r].getD (↑i:Int).toNat none)=PPt GT 26 ([l,r].getD (↑i:Int).toNat none))) rfl ?_
         refine v_plan (.fs [0,1,2,3] (.o 4 (.fs [5] .e))) [5,6,14] True trivial ?_
         refine v_call _ [0,17,18,19] (Verify_ok (want) (gp ([l,r].getD (↑i:Int).toNat none)) ‹_›) ((want=want)∧(wordsP=wordsP)∧((gp ([l,r].getD (↑i:Int).toNat none)).key=(gp ([l,r].getD (↑i:Int).toNat none)).key)∧((gp ([l,r].getD (↑i:Int).toNat none)).value=(gp ([l,r].getD (↑i:Int).toNat none)).value)∧((gp ([l,r].getD (↑i:Int).toNat none)).turns=(gp ([l,r].getD (↑i:Int).toNat none)).turns)) ⟨rfl,rfl,rfl,rfl,rfl⟩ (fun g70 p71=>?_)
         have p71:True:=p71
         refine v_if (!(verP want (gp ([l,r].getD (↑i:Int).toNat none))).isNone) True trivial (fun h72=>?_) (fun h72=>?_)
         ·have h72:=(nt h72)
          refine v_call _ [20] (faultAt2_ok (#[115,105,100,101].toList) (↑i) (verP want (gp ([l,r].getD (↑i:Int).toNat none))) ‹_›) ((#[(115:UInt8),(105:UInt8),(100:UInt8),(101:UInt8)].toList=#[(115:UInt8),(105:UInt8),(100:UInt8),(101:UInt8)].toList)∧((↑i:Int)=(↑i:Int))∧(PE (verP want (gp ([l,r].getD (↑i:Int).toNat none)))=PE (verP want (gp ([l,r].getD (↑i:Int).toNat none))))∧((verP want (gp ([l,r].getD (↑i:Int).toNat none))).isNone=(verP want (gp ([l,r].getD (↑i:Int).toNat none))).isNone)) ⟨rfl,rfl,rfl,rfl⟩ (fun g73 p74=>?_)
          have p74:True:=p74
          refine v_leave .rt True trivial ?_
          exact v_ret () [21] ((wordsP=wordsP)∧(k=k)∧(PLe (PPt GT 26 l) (PPt GT 26 l))∧(PLe (PPt GT 26 r) (PPt GT 26 r))∧(PE (some (Er.step #[115,105,100,101].toList (↑i:Int) ((verP want (gp ([l,r].getD (↑i:Int).toNat none))).getD (Er.num 0))))=PE (vgP want k l r))∧(false=(vgP want k l r).isNone)) ⟨rfl,rfl,fun _ _ _ h=>h,fun _ _ _ h=>h,(by(rw[VI.hit ‹_› ‹_› (by first | exact vs2 ‹_› ‹_› | exact vs3 ‹_› ‹_› (Or.inl ‹_›) | exact vs3 ‹_› ‹_› (Or.inr ‹_›))] <;> rfl)),(by(rw[VI.hit ‹_› ‹_› (by first | exact vs2 ‹_› ‹_› | exact vs3 ‹_› ‹_› (Or.inl ‹_›) | exact vs3 ‹_› ‹_› (Or.inr ‹_›))] <;> rfl))⟩ trivial
         ·have h72:=(nf h72)
          refine v_call _ [17,1] (bcmp_ok ((gp ([l,r].getD (↑i:Int).toNat none)).key) (k)) (((gp ([l,r].getD (↑i:Int).toNat none)).key=(gp ([l,r].getD (↑i:Int).toNat none)).key)∧(k=k)) ⟨rfl,rfl⟩ (fun g75 p76=>?_)
          have p76:True:=p76
          refine v_guard 120 (decide (Lib.compareBytes (gp ([l,r].getD (↑i:Int).toNat none)).key k=0)) True trivial (fun h77=>?_) (fun h77=>?_)
          ·have h77:=of_decide_eq_true h77
           refine v_al [] (al_e1 (20)) True trivial ?_
           refine v_call _ [21] (faultAt_ok (#[115,105,100,101].toList) (↑i) (Er.num 20)) ((#[(115:UInt8),(105:UInt8),(100:UInt8),(101:UInt8)].toList=#[(115:UInt8),(105:UInt8),(100:UInt8),(101:UInt8)].toList)∧((↑i:Int)=(↑i:Int))∧((20:Int)=(20:Int))∧(PE (some (Er.num 20))=PE (some (Er.num 20)))∧(false=false)) ⟨rfl,rfl,rfl,rfl,rfl⟩ (fun g78 p79=>?_)
           have p79:True:=p79
           refine v_leave .rt True trivial ?_
           exact v_ret () [22] ((wordsP=wordsP)∧(k=k)∧(PLe (PPt GT 26 l) (PPt GT 26 l))∧(PLe (PPt GT 26 r) (PPt GT 26 r))∧(PE (some (Er.step #[115,105,100,101].toList (↑i) (Er.num 20)))=PE (vgP want k l r))∧(false=(vgP want k l r).isNone)) ⟨rfl,rfl,fun _ _ _ h=>h,fun _ _ _ h=>h,(by(rw[VI.hit ‹_› ‹_› (by first | exact vs2 ‹_› ‹_› | exact vs3 ‹_› ‹_› (Or.inl ‹_›) | exact vs3 ‹_› ‹_› (Or.inr ‹_›))] <;> rfl)),(by(rw[VI.hit ‹_› ‹_› (by first | exact vs2 ‹_› ‹_› | exact vs3 ‹_› ‹_› (Or.inl ‹_›) | exact vs3 ‹_› ‹_› (Or.inr ‹_›))] <;> rfl))⟩ trivial
          ·have h77:=of_decide_eq_false h77
           refine v_if (decide (Lib.compareBytes (gp ([l,r].getD (↑i:Int).toNat none)).key k<0) != decide ((↑i:Int)=0)) True trivial (fun h80=>?_) (fun h80=>?_)
           ·skip
            refine v_al [] (al_e1 (20)) True trivial ?_
            refine v_call _ [21] (faultAt_ok (#[115,105,100,101].toList) (↑i) (Er.num 20)) ((#[(115:UInt8),(105:UInt8),(100:UInt8),(101:UInt8)].toList=#[(115:UInt8),(105:UInt8),(100:UInt8),(101:UInt8)].toList)∧((↑i:Int)=(↑i:Int))∧((20:Int)=(20:Int))∧(PE (some (Er.num 20))=PE (some (Er.num 20)))∧(false=false)) ⟨rfl,rfl,rfl,rfl,rfl⟩ (fun g81 p82=>?_)
            have p82:True:=p82
            refine v_leave .rt True trivial ?_
            exact v_ret () [22] ((wordsP=wordsP)∧(k=k)∧(PLe (PPt GT 26 l) (PPt GT 26 l))∧(PLe (PPt GT 26 r) (PPt GT 26 r))∧(PE (some (Er.step #[115,105,100,101].toList (↑i) (Er.num 20)))=PE (vgP want k l r))∧(false=(vgP want k l r).isNone)) ⟨rfl,rfl,fun _ _ _ h=>h,fun _ _ _ h=>h,(by(rw[VI.hit ‹_› ‹_› (by first | exact vs2 ‹_› ‹_› | exact vs3 ‹_› ‹_› (Or.inl ‹_›) | exact vs3 ‹_› ‹_› (Or.inr ‹_›))] <;> rfl)),(by(rw[VI.hit ‹_› ‹_› (by first | exact vs2 ‹_› ‹_› | exact vs3 ‹_› ‹_› (Or.inl ‹_›) | exact vs3 ‹_› ‹_› (Or.inr ‹_›))] <;> rfl))⟩ trivial
           ·skip
            exact v_back (i+1) [14] ((I64 (↑i+1))∧((↑i:Int)+1=(↑(i+1):Int))∧([l,r]=[l,r])) ⟨(by(unfold I64;omega)),rfl,rfl⟩ (show VI want k l r (i+1)∧2 - (i+1)<2 - i from(by exact VI.next ‹_› ‹_› (by first | exact vs1 ‹_› | exact vs4 ‹_› ‹_› ‹_› ‹_›)))
       ·have h68:=of_decide_eq_false h68
        refine v_leave (.ex 1) True trivial ?_
        refine v_al [] (al_e0 (vgP want k l r) (by exact VI.stop ‹_› ‹_›)) True trivial ?_
        exact v_ret () [15] ((wordsP=wordsP)∧(k=k)∧(PLe (PPt GT 26 l) (PPt GT 26 l))∧(PLe (PPt GT 26 r) (PPt GT 26 r))∧(PE (vgP want k l r)=PE (vgP want k l r))∧((vgP want k l r).isNone=(vgP want k l r).isNone)) ⟨rfl,rfl,fun _ _ _ h=>h,fun _ _ _ h=>h,rfl,rfl⟩ trivial
end Go.Proofs.YtnicmjipbnhciaaDoor.X
set_option linter.unusedVariables false
set_option linter.unusedSimpArgs false
namespace Go.Proofs.YtnicmjipbnhciaaDoor.X
open Go Go.RowKit Go.Proofs Go.Proofs.YtnicmjipbnhciaaDoor.E Go.Extern.Stop Go.Stop Go.Extern
theorem as_vo (t:Addr) (w:World):(ReflectliteValue.unpack (.iface 153 (.pointer (some t)))).run Tryd.prog w
    = .ok (.agg #[.pointer (some ⟨4,153,none⟩),.pointer (some ⟨w.heap.size,0,none⟩),.int .u64 150]) (w.alloc (.cells #[.pointer (some t)] 153)):=by kernel_rfl
theorem as_type (a:Addr) (w:World):(ReflectliteValue.methodAny (ReflectliteValue.valueError "reflectlite.Value.Type" 0) (fun t _ _ _=>ReflectliteType.toType t) #[.agg #[.pointer (some ⟨4,153,none⟩),.pointer (some a),.int .u64 150]]).run Tryd.prog w
    = .ok (.iface 251 (.agg #[.pointer (some ⟨4,153,none⟩)])) w:=by kernel_rfl
theorem as_mKind (h:Value) (w:World):(Go.method 412 251 (.agg #[h]) "Kind").run Tryd.prog w=.ok (171,h) w:=by kernel_rfl
theorem as_kind153 (w:World):((ReflectliteType.abiMethod fun t=>(fun a:Nat=>Value.int IntKind.u8 (a:Int)) <$> Rtype.kind t) #[.pointer (some ⟨4,153,none⟩)]).run Tryd.prog w=.ok (.int .u8 22) w:=by kernel_rfl
theorem as_kind61 (w:World):((ReflectliteType.abiMethod fun t=>(fun a:Nat=>Value.int IntKind.u8 (a:Int)) <$> Rtype.kind t) #[.pointer (some ⟨4,61,none⟩)]).run Tryd.prog w=.ok (.int .u8 2) w:=by kernel_rfl
theorem as_rlm (z:Sem Value) (f:TypeId→Addr→Nat→Nat→Sem Value) (v:Value) :
    ReflectliteValue.method z f #[v]=(do match ← ReflectliteValue.parts v with | none=>z | some (t,a,fl)=>f t a fl (fl % 32)):=rfl
theorem as_parts153 (a:Addr) (w:World):(ReflectliteValue.parts (.agg #[.pointer (some ⟨4,153,none⟩),.pointer (some a),.int .u64 150])).run Tryd.prog w=.ok (some (153,a,150)) w:=by kernel_rfl
theorem as_und153:Tryd.prog.underlying 153=some (.pointer 61):=by kernel_rfl
theorem as_und61:Tryd.prog.underlying 61=some (.int .i64):=by kernel_rfl
theorem as_isNil (a p:Addr) (W:World) (ha:W.cell? a=some (.pointer (some p))) :
    (ReflectliteValue.method (ReflectliteValue.valueError "reflectlite.Value.IsNil" 0) ReflectliteValue.isNil #[.agg #[.pointer (some ⟨4,153,none⟩),.pointer (some a),.int .u64 150]]).run Tryd.prog W=.ok (.bool false) W:=by
  rw[as_rlm]
  simp only[Sem.run_bind,as_parts153,Result.andThen]
  simp[ReflectliteValue.isNil,loadVar,isAgg,underlying,as_und153,ha,Result.andThen]
theorem as_mElem (h:Value) (w:World):(Go.method 412 251 (.agg #[h]) "Elem").run Tryd.prog w=.ok (183,.agg #[h]) w:=by kernel_rfl
theorem as_mImpl (h:Value) (w:World):(Go.method 412 251 (.agg #[h]) "Implements").run Tryd.prog w=.ok (184,.agg #[h]) w:=by kernel_rfl
theorem as_mAss (h:Value) (w:World):(Go.method 412 251 (.agg #[h]) "AssignableTo").run Tryd.prog w=.ok (181,.agg #[h]) w:=by kernel_rfl
theorem as_mUn (h:Value) (w:World):(Go.method 412 208 h "Unwrap").run Tryd.prog w=.ok (176,h) w:=by kernel_rfl
theorem as_elem153 (w:World):(ReflectliteType.method ReflectliteType.elem #[.agg #[.pointer (some ⟨4,153,none⟩)]]).run Tryd.prog w=.ok (.iface 251 (.agg #[.pointer (some ⟨4,61,none⟩)])) w:=by kernel_rfl
theorem as_impl61 (w:World):(ReflectliteType.relation "Implements" ReflectliteType.implements_ #[.agg #[.pointer (some ⟨4,61,none⟩)],.iface 251 (.agg #[.pointer (some ⟨4,49,none⟩)])]).run Tryd.prog w=.ok (.bool true) w:=by kernel_rfl
theorem as_typeOf61 (v:Value) (w:World):(ReflectliteType.typeOf #[.iface 61 v]).run Tryd.prog w=.ok (.iface 251 (.agg #[.pointer (some ⟨4,61,none⟩)])) w:=by kernel_rfl
theorem as_typeOf208 (v:Value) (w:World):(ReflectliteType.typeOf #[.iface 208 v]).run Tryd.prog w=.ok (.iface 251 (.agg #[.pointer (some ⟨4,208,none⟩)])) w:=by kernel_rfl
theorem as_ass61 (w:World):(ReflectliteType.relation "AssignableTo" ReflectliteType.assignableTo #[.agg #[.pointer (some ⟨4,61,none⟩)],.iface 251 (.agg #[.pointer (some ⟨4,61,none⟩)])]).run Tryd.prog w=.ok (.bool true) w:=by kernel_rfl
theorem as_ass208 (w:World):(ReflectliteType.relation "AssignableTo" ReflectliteType.assignableTo #[.agg #[.pointer (some ⟨4,208,none⟩)],.iface 251 (.agg #[.pointer (some ⟨4,61,none⟩)])]).run Tryd.prog w=.ok (.bool false) w:=by kernel_rfl
theorem as_vo61 (c:Int) (w:World):(ReflectliteValue.unpack (.iface 61 (.int .i64 c))).run Tryd.prog w
    = .ok (.agg #[.pointer (some ⟨4,61,none⟩),.pointer (some ⟨w.heap.size,0,none⟩),.int .u64 130]) (w.alloc (.cells #[.int .i64 c] 61)):=by kernel_rfl
theorem as_elemOf (w:World):(Rtype.elem? 153).run Tryd.prog w=.ok (some 61) w:=by kernel_rfl
theorem as_mk61 (p:Addr) (w:World):(ReflectliteValue.mk 61 p ReflectliteValue.flagAddr).run Tryd.prog w=.ok (.agg #[.pointer (some ⟨4,61,none⟩),.pointer (some p),.int .u64 386]) w:=by kernel_rfl
theorem as_elemV (a p:Addr) (W:World) (ha:W.cell? a=some (.pointer (some p))) :
    (ReflectliteValue.method (ReflectliteValue.valueError "reflectlite.Value.Elem" 0) ReflectliteValue.elem #[.agg #[.pointer (some ⟨4,153,none⟩),.pointer (some a),.int .u64 150]]).run Tryd.prog W
      = .ok (.agg #[.pointer (some ⟨4,61,none⟩),.pointer (some p),.int .u64 386]) W:=by
  rw[as_rlm]
  simp only[Sem.run_bind,as_parts153,Result.andThen]
  simp[ReflectliteValue.elem,loadVar,isAgg,underlying,as_und153,ha,Result.andThen,as_elemOf,as_mk61]
theorem as_rls (v x:Value):ReflectliteValue.set #[v,x]=(do
    let (some (dst,a,fl),some (src,b,_)):=(← ReflectliteValue.parts v,← ReflectliteValue.parts x)
      | unsupported (.noEntry "extern/(internal/reflectlite.Value).Set.zeroValue")
    if fl / ReflectliteValue.flagAddr % 2 == 0 then unsupported (.noEntry "extern/(internal/reflectlite.Value).Set.unaddressable")
    let val ← loadVar src b
    if ← Rtype.directlyAssignable dst src then storeVar dst a val
    else if ← Rtype.implements dst src then
      if(← Rtype.kind src) == 20 then
        match val with
        | .nilIface=>unsupported (.noEntry "extern/reflectlite: a nil value of one interface type handed on as a value of another")
        | _=>storeVar dst a val
      else storeVar dst a (.iface src val)
    else panicString ("reflectlite.Set: value of type " ++ (← Rtype.spelt src) ++ " is not assignable to type " ++ (← Rtype.spelt dst))
    pure (.tuple #[])):=rfl
theorem as_p61a (a:Addr) (w:World):(ReflectliteValue.parts (.agg #[.pointer (some ⟨4,61,none⟩),.pointer (some a),.int .u64 386])).run Tryd.prog w=.ok (some (61,a,386)) w:=by kernel_rfl
theorem as_p61 (a:Addr) (w:World):(ReflectliteValue.parts (.agg #[.pointer (some ⟨4,61,none⟩),.pointer (some a),.int .u64 130])).run Tryd.prog w=.ok (some (61,a,130)) w:=by kernel_rfl
theorem as_direct (w:World):(Rtype.directlyAssignable 61 61).run Tryd.prog w=.ok true w:=by kernel_rfl
theorem as_set (ta b:Addr) (c:Int) (old:Value) (W:World) (hb:W.cell? b=some (.int .i64 c)) (ht:W.cell? ta=some old) (hf:W.frozen? ta=false) :
    (ReflectliteValue.set #[.agg #[.pointer (some ⟨4,61,none⟩),.pointer (some ta),.int .u64 386],.agg #[.pointer (some ⟨4,61,none⟩),.pointer (some b),.int .u64 130]]).run Tryd.prog W
      = .ok (.tuple #[]) (W.setCell ta (.int .i64 c)):=by
  rw[as_rls]
  simp only[Sem.run_bind,as_p61a,as_p61,Result.andThen]
  simp[ReflectliteValue.flagAddr,loadVar,isAgg,underlying,as_und61,hb,Result.andThen,as_direct,storeVar,Value.cells,storeCells,Addr.add]
  rw[run_store Tryd.prog W ta _ _ (by rfl)]
  simp[ht,hf]
theorem as_unwrap (b o:Nat) (ev:Value) (w:World) (h:w.cell? ⟨b,o+2,none⟩=some ev):Calls Tryd.prog 176 #[.pointer (some ⟨b,o,none⟩)] w fun e w'=>e=.returned ev∧w'=w:=by
  go_enter Tryd.func176,Tryd.ntmps176
  go_wp2
  go_ret
  exact⟨rfl,rfl⟩
set_option maxHeartbeats 4000000 in
theorem as113_num (c:Int) (t a:Addr) (old:Value) (w:World) (ha:w.cell? a=some (.pointer (some t))) (ht:w.cell? t=some old) (hf:w.frozen? t=false) :
    Calls Tryd.prog 113 #[.iface 61 (.int .i64 c),.iface 153 (.pointer (some t)),.agg #[.pointer (some ⟨4,153,none⟩),.pointer (some a),.int .u64 150],.iface 251 (.agg #[.pointer (some ⟨4,61,none⟩)])] w
      fun ev w'=>ev=.returned (.bool true)∧w'=((w.alloc (.cells #[.pointer (some ⟨4,153,none⟩),.pointer (some a),.int .u64 150] 214)).alloc (.cells #[.int .i64 c] 61)).setCell t (.int .i64 c):=by
  have h110:=@run_callFunc_extern Tryd.prog 110 _ (fun args=>ReflectliteValue.unpack (args.getD 0 (.tuple #[]))) Tryd.func110 (by kernel_rfl) (by kernel_rfl) (by kernel_rfl) (by kernel_rfl)
  have h134:=@run_callFunc_extern Tryd.prog 134 _ ReflectliteType.typeOf Tryd.func134 (by kernel_rfl) (by kernel_rfl) (by kernel_rfl) (by kernel_rfl)
  have h181:=@run_callFunc_extern Tryd.prog 181 _ (ReflectliteType.relation "AssignableTo" ReflectliteType.assignableTo) Tryd.func181 (by kernel_rfl) (by kernel_rfl) (by kernel_rfl) (by kernel_rfl)
  have h135:=@run_callFunc_extern Tryd.prog 135 _ (ReflectliteValue.method (ReflectliteValue.valueError "reflectlite.Value.Elem" 0) ReflectliteValue.elem) Tryd.func135 (by kernel_rfl) (by kernel_rfl) (by kernel_rfl) (by kernel_rfl)
  have h136:=@run_callFunc_extern Tryd.prog 136 _ ReflectliteValue.set Tryd.func136 (by kernel_rfl) (by kernel_rfl) (by kernel_rfl) (by kernel_rfl)
  have tO:=as_typeOf61
  have mA:=as_mAss
  have a61:=as_ass61
  have v61:=as_vo61
  have hal:a.block<w.heap.size:=by
    rcases Nat.lt_or_ge a.block w.heap.size with h | h
    · exact h
    · simp[World.cell?,Array.getElem?_eq_none h] at ha
  have htl:t.block<w.heap.size:=by
    rcases Nat.lt_or_ge t.block w.heap.size with h | h
    · exact h
    · simp[World.cell?,Array.getElem?_eq_none h] at ht
  have el:=as_elemV a t (w.alloc (.cells #[.pointer (some ⟨4,153,none⟩),.pointer (some a),.int .u64 150] 214)) (by rw[World.cell?_alloc_lt _ _ a hal];exact ha)
  have st:=as_set t ⟨w.heap.size+1,0,none⟩ c old ((w.alloc (.cells #[.pointer (some ⟨4,153,none⟩),.pointer (some a),.int .u64 150] 214)).alloc (.cells #[.int .i64 c] 61))
    (by rw[World.cell?_alloc_at _ _ _ _ (by simp)];rfl)
    (by rw[World.cell?_alloc_lt _ _ t (by simp;omega),World.cell?_alloc_lt _ _ t htl];exact ht)
    (by rw[World.frozen?_alloc_old _ _ t (by simp;omega),World.frozen?_alloc_old _ _ t (Nat.ne_of_lt htl)];exact hf)
  go_enter Tryd.func113,Tryd.ntmps113
  go_wp2
  refine wp_loop_rounds 1 ?_
  rw[rounds_succ]
  go_wp2
  go_ret
  exact⟨rfl,rfl⟩
end Go.Proofs.YtnicmjipbnhciaaDoor.X
set_option linter.unusedVariables false
set_option linter.unusedSimpArgs false
set_option maxRecDepth 100000
namespace Go.Proofs.YtnicmjipbnhciaaDoor.X
open Go Go.RowKit Go.Proofs Go.Proofs.YtnicmjipbnhciaaDoor.E Go.Extern.Stop Go.Stop Go.Extern
theorem as_tA (v:Value) (w:World):(Instr.typeAssert (.iface 208 v) 49 256 true).run Tryd.prog w=.ok (.tuple #[.nilIface,.bool false]) w :=
  run_typeAssert_lacksB (want:=(match Tryd.prog.underlying 256 with | some (.interface m)=>m | _=>#[])) (z:=.nilIface) (by kernel_rfl) (by kernel_rfl) (by kernel_rfl) v 49 w
theorem as_tU (v:Value) (w:World):(Instr.typeAssert (.iface 208 v) 49 259 true).run Tryd.prog w=.ok (.tuple #[.iface 208 v,.bool true]) w:=by kernel_rfl
set_option maxHeartbeats 16000000 in
theorem as113_s1 (c:Int) (b1 o1:Nat) (t a:Addr) (old:Value) (w:World) (ha:w.cell? a=some (.pointer (some t))) (ht:w.cell? t=some old) (hf:w.frozen? t=false) (hs1:w.cell? ⟨b1,o1+2,none⟩=some (.iface 61 (.int .i64 c))) :
    Calls Tryd.prog 113 #[.iface 208 (.pointer (some ⟨b1,o1,none⟩)),.iface 153 (.pointer (some t)),.agg #[.pointer (some ⟨4,153,none⟩),.pointer (some a),.int .u64 150],.iface 251 (.agg #[.pointer (some ⟨4,61,none⟩)])] w
      fun ev w'=>ev=.returned (.bool true)∧w'=((w.alloc (.cells #[.pointer (some ⟨4,153,none⟩),.pointer (some a),.int .u64 150] 214)).alloc (.cells #[.int .i64 c] 61)).setCell t (.int .i64 c):=by
  have h110:=@run_callFunc_extern Tryd.prog 110 _ (fun args=>ReflectliteValue.unpack (args.getD 0 (.tuple #[]))) Tryd.func110 (by kernel_rfl) (by kernel_rfl) (by kernel_rfl) (by kernel_rfl)
  have h134:=@run_callFunc_extern Tryd.prog 134 _ ReflectliteType.typeOf Tryd.func134 (by kernel_rfl) (by kernel_rfl) (by kernel_rfl) (by kernel_rfl)
  have h181:=@run_callFunc_extern Tryd.prog 181 _ (ReflectliteType.relation "AssignableTo" ReflectliteType.assignableTo) Tryd.func181 (by kernel_rfl) (by kernel_rfl) (by kernel_rfl) (by kernel_rfl)
  have h135:=@run_callFunc_extern Tryd.prog 135 _ (ReflectliteValue.method (ReflectliteValue.valueError "reflectlite.Value.Elem" 0) ReflectliteValue.elem) Tryd.func135 (by kernel_rfl) (by kernel_rfl) (by kernel_rfl) (by kernel_rfl)
  have h136:=@run_callFunc_extern Tryd.prog 136 _ ReflectliteValue.set Tryd.func136 (by kernel_rfl) (by kernel_rfl) (by kernel_rfl) (by kernel_rfl)
  have tO:=as_typeOf61
  have mA:=as_mAss
  have a61:=as_ass61
  have v61:=as_vo61
  have tS:=as_typeOf208
  have aS:=as_ass208
  have mU:=as_mUn
  have tA:=as_tA
  have tU:=as_tU
  have hal:a.block<w.heap.size:=by
    rcases Nat.lt_or_ge a.block w.heap.size with h | h
    · exact h
    · simp[World.cell?,Array.getElem?_eq_none h] at ha
  have htl:t.block<w.heap.size:=by
    rcases Nat.lt_or_ge t.block w.heap.size with h | h
    · exact h
    · simp[World.cell?,Array.getElem?_eq_none h] at ht
  have el:=as_elemV a t (w.alloc (.cells #[.pointer (some ⟨4,153,none⟩),.pointer (some a),.int .u64 150] 214)) (by rw[World.cell?_alloc_lt _ _ a hal];exact ha)
  have st:=as_set t ⟨w.heap.size+1,0,none⟩ c old ((w.alloc (.cells #[.pointer (some ⟨4,153,none⟩),.pointer (some a),.int .u64 150] 214)).alloc (.cells #[.int .i64 c] 61))
    (by rw[World.cell?_alloc_at _ _ _ _ (by simp)];rfl)
    (by rw[World.cell?_alloc_lt _ _ t (by simp;omega),World.cell?_alloc_lt _ _ t htl];exact ht)
    (by rw[World.frozen?_alloc_old _ _ t (by simp;omega),World.frozen?_alloc_old _ _ t (Nat.ne_of_lt htl)];exact hf)
  have g1:(w.alloc (.cells #[.pointer (some ⟨4,153,none⟩),.pointer (some a),.int .u64 150] 214)).cell? ⟨b1,o1+2,none⟩=some (.iface 61 (.int .i64 c)):=by
    have:b1<w.heap.size:=by
      rcases Nat.lt_or_ge b1 w.heap.size with h | h
      · exact h
      · simp[World.cell?,Array.getElem?_eq_none h] at hs1
    rw[World.cell?_alloc_lt _ _ ⟨b1,o1+2,none⟩ this];exact hs1
  go_enter Tryd.func113,Tryd.ntmps113
  go_wp2
  refine wp_loop_rounds 2 ?_
  rw[rounds_succ]
  go_wp2_with (first | (go_at_call 176;refine(as_unwrap _ _ _ _ g1).mono ?_;rintro e w' ⟨rfl,rfl⟩))
  rw[rounds_succ]
  go_wp2_with (first | (go_at_call 176;refine(as_unwrap _ _ _ _ g1).mono ?_;rintro e w' ⟨rfl,rfl⟩))
  go_ret
  exact⟨rfl,rfl⟩
set_option maxHeartbeats 16000000 in
theorem as113_s2 (c:Int) (b1 o1 b2 o2:Nat) (t a:Addr) (old:Value) (w:World) (ha:w.cell? a=some (.pointer (some t))) (ht:w.cell? t=some old) (hf:w.frozen? t=false) (hs1:w.cell? ⟨b1,o1+2,none⟩=some (.iface 208 (.pointer (some ⟨b2,o2,none⟩)))) (hs2:w.cell? ⟨b2,o2+2,none⟩=some (.iface 61 (.int .i64 c))) :
    Calls Tryd.prog 113 #[.iface 208 (.pointer (some ⟨b1,o1,none⟩)),.iface 153 (.pointer (some t)),.agg #[.pointer (some ⟨4,153,none⟩),.pointer (some a),.int .u64 150],.iface 251 (.agg #[.pointer (some ⟨4,61,none⟩)])] w
      fun ev w'=>ev=.returned (.bool true)∧w'=((w.alloc (.cells #[.pointer (some ⟨4,153,none⟩),.pointer (some a),.int .u64 150] 214)).alloc (.cells #[.int .i64 c] 61)).setCell t (.int .i64 c):=by
  have h110:=@run_callFunc_extern Tryd.prog 110 _ (fun args=>ReflectliteValue.unpack (args.getD 0 (.tuple #[]))) Tryd.func110 (by kernel_rfl) (by kernel_rfl) (by kernel_rfl) (by kernel_rfl)
  have h134:=@run_callFunc_extern Tryd.prog 134 _ ReflectliteType.typeOf Tryd.func134 (by kernel_rfl) (by kernel_rfl) (by kernel_rfl) (by kernel_rfl)
  have h181:=@run_callFunc_extern Tryd.prog 181 _ (ReflectliteType.relation "AssignableTo" ReflectliteType.assignableTo) Tryd.func181 (by kernel_rfl) (by kernel_rfl) (by kernel_rfl) (by kernel_rfl)
  have h135:=@run_callFunc_extern Tryd.prog 135 _ (ReflectliteValue.method (ReflectliteValue.valueError "reflectlite.Value.Elem" 0) ReflectliteValue.elem) Tryd.func135 (by kernel_rfl) (by kernel_rfl) (by kernel_rfl) (by kernel_rfl)
  have h136:=@run_callFunc_extern Tryd.prog 136 _ ReflectliteValue.set Tryd.func136 (by kernel_rfl) (by kernel_rfl) (by kernel_rfl) (by kernel_rfl)
  have tO:=as_typeOf61
  have mA:=as_mAss
  have a61:=as_ass61
  have v61:=as_vo61
  have tS:=as_typeOf208
  have aS:=as_ass208
  have mU:=as_mUn
  have tA:=as_tA
  have tU:=as_tU
  have hal:a.block<w.heap.size:=by
    rcases Nat.lt_or_ge a.block w.heap.size with h | h
    · exact h
    · simp[World.cell?,Array.getElem?_eq_none h] at ha
  have htl:t.block<w.heap.size:=by
    rcases Nat.lt_or_ge t.block w.heap.size with h | h
    · exact h
    · simp[World.cell?,Array.getElem?_eq_none h] at ht
  have el:=as_elemV a t (w.alloc (.cells #[.pointer (some ⟨4,153,none⟩),.pointer (some a),.int .u64 150] 214)) (by rw[World.cell?_alloc_lt _ _ a hal];exact ha)
  have st:=as_set t ⟨w.heap.size+1,0,none⟩ c old ((w.alloc (.cells #[.pointer (some ⟨4,153,none⟩),.pointer (some a),.int .u64 150] 214)).alloc (.cells #[.int .i64 c] 61))
    (by rw[World.cell?_alloc_at _ _ _ _ (by simp)];rfl)
    (by rw[World.cell?_alloc_lt _ _ t (by simp;omega),World.cell?_alloc_lt _ _ t htl];exact ht)
    (by rw[World.frozen?_alloc_old _ _ t (by simp;omega),World.frozen?_alloc_old _ _ t (Nat.ne_of_lt htl)];exact hf)
  have g1:(w.alloc (.cells #[.pointer (some ⟨4,153,none⟩),.pointer (some a),.int .u64 150] 214)).cell? ⟨b1,o1+2,none⟩=some (.iface 208 (.pointer (some ⟨b2,o2,none⟩))):=by
    have:b1<w.heap.size:=by
      rcases Nat.lt_or_ge b1 w.heap.size with h | h
      · exact h
      · simp[World.cell?,Array.getElem?_eq_none h] at hs1
    rw[World.cell?_alloc_lt _ _ ⟨b1,o1+2,none⟩ this];exact hs1
  have g2:(w.alloc (.cells #[.pointer (some ⟨4,153,none⟩),.pointer (some a),.int .u64 150] 214)).cell? ⟨b2,o2+2,none⟩=some (.iface 61 (.int .i64 c)):=by
    have:b2<w.heap.size:=by
      rcases Nat.lt_or_ge b2 w.heap.size with h | h
      · exact h
      · simp[World.cell?,Array.getElem?_eq_none h] at hs2
    rw[World.cell?_alloc_lt _ _ ⟨b2,o2+2,none⟩ this];exact hs2
  go_enter Tryd.func113,Tryd.ntmps113
  go_wp2
  refine wp_loop_rounds 3 ?_
  rw[rounds_succ]
  go_wp2_with (first | (go_at_call 176;refine(as_unwrap _ _ _ _ g1).mono ?_;rintro e w' ⟨rfl,rfl⟩) | (go_at_call 176;refine(as_unwrap _ _ _ _ g2).mono ?_;rintro e w' ⟨rfl,rfl⟩))
  rw[rounds_succ]
  go_wp2_with (first | (go_at_call 176;refine(as_unwrap _ _ _ _ g1).mono ?_;rintro e w' ⟨rfl,rfl⟩) | (go_at_call 176;refine(as_unwrap _ _ _ _ g2).mono ?_;rintro e w' ⟨rfl,rfl⟩))
  rw[rounds_succ]
  go_wp2_with (first | (go_at_call 176;refine(as_unwrap _ _ _ _ g1).mono ?_;rintro e w' ⟨rfl,rfl⟩) | (go_at_call 176;refine(as_unwrap _ _ _ _ g2).mono ?_;rintro e w' ⟨rfl,rfl⟩))
  go_ret
  exact⟨rfl,rfl⟩
set_option maxHeartbeats 16000000 in
theorem as113_s3 (c:Int) (b1 o1 b2 o2 b3 o3:Nat) (t a:Addr) (old:Value) (w:World) (ha:w.cell? a=some (.pointer (some t))) (ht:w.cell? t=some old) (hf:w.frozen? t=false) (hs1:w.cell? ⟨b1,o1+2,none⟩=some (.iface 208 (.pointer (some ⟨b2,o2,none⟩)))) (hs2:w.cell? ⟨b2,o2+2,none⟩=some (.iface 208 (.pointer (some ⟨b3,o3,none⟩)))) (hs3:w.cell? ⟨b3,o3+2,none⟩=some (.iface 61 (.int .i64 c))) :
    Calls Tryd.prog 113 #[.iface 208 (.pointer (some ⟨b1,o1,none⟩)),.iface 153 (.pointer (some t)),.agg #[.pointer (some ⟨4,153,none⟩),.pointer (some a),.int .u64 150],.iface 251 (.agg #[.pointer (some ⟨4,61,none⟩)])] w
      fun ev w'=>ev=.returned (.bool true)∧w'=((w.alloc (.cells #[.pointer (some ⟨4,153,none⟩),.pointer (some a),.int .u64 150] 214)).alloc (.cells #[.int .i64 c] 61)).setCell t (.int .i64 c):=by
  have h110:=@run_callFunc_extern Tryd.prog 110 _ (fun args=>ReflectliteValue.unpack (args.getD 0 (.tuple #[]))) Tryd.func110 (by kernel_rfl) (by kernel_rfl) (by kernel_rfl) (by kernel_rfl)
  have h134:=@run_callFunc_extern Tryd.prog 134 _ ReflectliteType.typeOf Tryd.func134 (by kernel_rfl) (by kernel_rfl) (by kernel_rfl) (by kernel_rfl)
  have h181:=@run_callFunc_extern Tryd.prog 181 _ (ReflectliteType.relation "AssignableTo" ReflectliteType.assignableTo) Tryd.func181 (by kernel_rfl) (by kernel_rfl) (by kernel_rfl) (by kernel_rfl)
  have h135:=@run_callFunc_extern Tryd.prog 135 _ (ReflectliteValue.method (ReflectliteValue.valueError "reflectlite.Value.Elem" 0) ReflectliteValue.elem) Tryd.func135 (by kernel_rfl) (by kernel_rfl) (by kernel_rfl) (by kernel_rfl)
  have h136:=@run_callFunc_extern Tryd.prog 136 _ ReflectliteValue.set Tryd.func136 (by kernel_rfl) (by kernel_rfl) (by kernel_rfl) (by kernel_rfl)
  have tO:=as_typeOf61
  have mA:=as_mAss
  have a61:=as_ass61
  have v61:=as_vo61
  have tS:=as_typeOf208
  have aS:=as_ass208
  have mU:=as_mUn
  have tA:=as_tA
  have tU:=as_tU
  have hal:a.block<w.heap.size:=by
    rcases Nat.lt_or_ge a.block w.heap.size with h | h
    · exact h
    · simp[World.cell?,Array.getElem?_eq_none h] at ha
  have htl:t.block<w.heap.size:=by
    rcases Nat.lt_or_ge t.block w.heap.size with h | h
    · exact h
    · simp[World.cell?,Array.getElem?_eq_none h] at ht
  have el:=as_elemV a t (w.alloc (.cells #[.pointer (some ⟨4,153,none⟩),.pointer (some a),.int .u64 150] 214)) (by rw[World.cell?_alloc_lt _ _ a hal];exact ha)
  have st:=as_set t ⟨w.heap.size+1,0,none⟩ c old ((w.alloc (.cells #[.pointer (some ⟨4,153,none⟩),.pointer (some a),.int .u64 150] 214)).alloc (.cells #[.int .i64 c] 61))
    (by rw[World.cell?_alloc_at _ _ _ _ (by simp)];rfl)
    (by rw[World.cell?_alloc_lt _ _ t (by simp;omega),World.cell?_alloc_lt _ _ t htl];exact ht)
    (by rw[World.frozen?_alloc_old _ _ t (by simp;omega),World.frozen?_alloc_old _ _ t (Nat.ne_of_lt htl)];exact hf)
  have g1:(w.alloc (.cells #[.pointer (some ⟨4,153,none⟩),.pointer (some a),.int .u64 150] 214)).cell? ⟨b1,o1+2,none⟩=some (.iface 208 (.pointer (some ⟨b2,o2,none⟩))):=by
    have:b1<w.heap.size:=by
      rcases Nat.lt_or_ge b1 w.heap.size with h | h
      · exact h
      · simp[World.cell?,Array.getElem?_eq_none h] at hs1
    rw[World.cell?_alloc_lt _ _ ⟨b1,o1+2,none⟩ this];exact hs1
  have g2:(w.alloc (.cells #[.pointer (some ⟨4,153,none⟩),.pointer (some a),.int .u64 150] 214)).cell? ⟨b2,o2+2,none⟩=some (.iface 208 (.pointer (some ⟨b3,o3,none⟩))):=by
    have:b2<w.heap.size:=by
      rcases Nat.lt_or_ge b2 w.heap.size with h | h
      · exact h
      · simp[World.cell?,Array.getElem?_eq_none h] at hs2
    rw[World.cell?_alloc_lt _ _ ⟨b2,o2+2,none⟩ this];exact hs2
  have g3:(w.alloc (.cells #[.pointer (some ⟨4,153,none⟩),.pointer (some a),.int .u64 150] 214)).cell? ⟨b3,o3+2,none⟩=some (.iface 61 (.int .i64 c)):=by
    have:b3<w.heap.size:=by
      rcases Nat.lt_or_ge b3 w.heap.size with h | h
      · exact h
      · simp[World.cell?,Array.getElem?_eq_none h] at hs3
    rw[World.cell?_alloc_lt _ _ ⟨b3,o3+2,none⟩ this];exact hs3
  go_enter Tryd.func113,Tryd.ntmps113
  go_wp2
  refine wp_loop_rounds 4 ?_
  rw[rounds_succ]
  go_wp2_with (first | (go_at_call 176;refine(as_unwrap _ _ _ _ g1).mono ?_;rintro e w' ⟨rfl,rfl⟩) | (go_at_call 176;refine(as_unwrap _ _ _ _ g2).mono ?_;rintro e w' ⟨rfl,rfl⟩) | (go_at_call 176;refine(as_unwrap _ _ _ _ g3).mono ?_;rintro e w' ⟨rfl,rfl⟩))
  rw[rounds_succ]
  go_wp2_with (first | (go_at_call 176;refine(as_unwrap _ _ _ _ g1).mono ?_;rintro e w' ⟨rfl,rfl⟩) | (go_at_call 176;refine(as_unwrap _ _ _ _ g2).mono ?_;rintro e w' ⟨rfl,rfl⟩) | (go_at_call 176;refine(as_unwrap _ _ _ _ g3).mono ?_;rintro e w' ⟨rfl,rfl⟩))
  rw[rounds_succ]
  go_wp2_with (first | (go_at_call 176;refine(as_unwrap _ _ _ _ g1).mono ?_;rintro e w' ⟨rfl,rfl⟩) | (go_at_call 176;refine(as_unwrap _ _ _ _ g2).mono ?_;rintro e w' ⟨rfl,rfl⟩) | (go_at_call 176;refine(as_unwrap _ _ _ _ g3).mono ?_;rintro e w' ⟨rfl,rfl⟩))
  rw[rounds_succ]
  go_wp2_with (first | (go_at_call 176;refine(as_unwrap _ _ _ _ g1).mono ?_;rintro e w' ⟨rfl,rfl⟩) | (go_at_call 176;refine(as_unwrap _ _ _ _ g2).mono ?_;rintro e w' ⟨rfl,rfl⟩) | (go_at_call 176;refine(as_unwrap _ _ _ _ g3).mono ?_;rintro e w' ⟨rfl,rfl⟩))
  go_ret
  exact⟨rfl,rfl⟩
def Er.dep:Er→Nat
  | .num _=>0
  | .step _ _ e=>e.dep+1
def Er.code:Er→Int
  | .num c=>c
  | .step _ _ e=>e.code
abbrev asW (w:World) (a:Addr) (c:Int):World:=(w.alloc (.cells #[.pointer (some ⟨4,153,none⟩),.pointer (some a),.int .u64 150] 214)).alloc (.cells #[.int .i64 c] 61)
theorem as113 {σ:Nat→Nat} {w:World}:∀(e:Er) (v:Value),e.dep≤3→ErAt σ w e v→∀(t a:Addr) (old:Value),w.cell? a=some (.pointer (some t))→w.cell? t=some old→w.frozen? t=false →
    Calls Tryd.prog 113 #[v,.iface 153 (.pointer (some t)),.agg #[.pointer (some ⟨4,153,none⟩),.pointer (some a),.int .u64 150],.iface 251 (.agg #[.pointer (some ⟨4,61,none⟩)])] w
      fun ev w'=>ev=.returned (.bool true)∧w'=(asW w a e.code).setCell t (.int .i64 e.code)
  | .num c, v, _, h, t, a, old, ha, ht, hf => by
    have h:v=.iface 61 (iv c):=h
    subst h;exact as113_num c t a old w ha ht hf
  | .step _ _ (.num c), v, _, ⟨b1, o1, e1, h1, s1, h2⟩, t, a, old, ha, ht, hf => by
    have h2:e1=.iface 61 (iv c):=h2
    subst h1;subst h2
    exact as113_s1 c b1 o1 t a old w ha ht hf (s1.h 2 _ rfl).2
  | .step _ _ (.step _ _ (.num c)), v, _, ⟨b1, o1, e1, h1, s1, b2, o2, e2, h2, s2, h3⟩, t, a, old, ha, ht, hf => by
    have h3:e2=.iface 61 (iv c):=h3
    subst h1;subst h2;subst h3
    exact as113_s2 c b1 o1 b2 o2 t a old w ha ht hf (s1.h 2 _ rfl).2 (s2.h 2 _ rfl).2
  | .step _ _ (.step _ _ (.step _ _ (.num c))), v, _, ⟨b1, o1, e1, h1, s1, b2, o2, e2, h2, s2, b3, o3, e3, h3, s3, h4⟩, t, a, old, ha, ht, hf => by
    have h4:e3=.iface 61 (iv c):=h4
    subst h1;subst h2;subst h3;subst h4
    exact as113_s3 c b1 o1 b2 o2 b3 o3 t a old w ha ht hf (s1.h 2 _ rfl).2 (s2.h 2 _ rfl).2 (s3.h 2 _ rfl).2
  | .step _ _ (.step _ _ (.step _ _ (.step _ _ e))),v,hd,_,t,a,old,ha,ht,hf=>by simp only[Er.dep] at hd;omega
theorem ErAt.ifc {σ:Nat→Nat} {w:World} {e:Er} {v:Value} (h:ErAt σ w e v):∃ ty x,v=.iface ty x:=by
  cases e with
  | num c=>exact⟨_,_,h⟩
  | step _ _ e=>obtain⟨b,o,ev,h,_⟩:=h;exact⟨_,_,h⟩
abbrev asV (w:World) (t:Addr):World:=(w.alloc (.cells #[.pointer (some t)] 153)).alloc (.cells #[.pointer (some ⟨4,153,none⟩),.pointer (some ⟨w.heap.size,0,none⟩),.int .u64 150] 214)
set_option maxHeartbeats 8000000 in
theorem as76 (c:Int) (ty:Nat) (x:Value) (t:Addr) (old:Value) (w:World) (R:Ending→World→Prop) (hg:w.cell? ⟨0,0,none⟩=some (.iface 251 (.agg #[.pointer (some ⟨4,49,none⟩)]))) (ht:w.cell? t=some old) (hf:w.frozen? t=false)
    (hc:Calls Tryd.prog 113 #[.iface ty x,.iface 153 (.pointer (some t)),.agg #[.pointer (some ⟨4,153,none⟩),.pointer (some ⟨w.heap.size,0,none⟩),.int .u64 150],.iface 251 (.agg #[.pointer (some ⟨4,61,none⟩)])] (asV w t)
      fun ev w'=>ev=.returned (.bool true)∧w'=(asW (asV w t) ⟨w.heap.size,0,none⟩ c).setCell t (.int .i64 c)) :
    Calls Tryd.prog 76 #[.iface ty x,.iface 153 (.pointer (some t))] w fun ev w'=>ev=.returned (.bool true)∧w'=(asW (asV w t) ⟨w.heap.size,0,none⟩ c).setCell t (.int .i64 c):=by
  have h110:=@run_callFunc_extern Tryd.prog 110 _ (fun args=>ReflectliteValue.unpack (args.getD 0 (.tuple #[]))) Tryd.func110 (by kernel_rfl) (by kernel_rfl) (by kernel_rfl) (by kernel_rfl)
  have h111:=@run_callFunc_extern Tryd.prog 111 _ (ReflectliteValue.methodAny (ReflectliteValue.valueError "reflectlite.Value.Type" 0) (fun t _ _ _=>ReflectliteType.toType t)) Tryd.func111 (by kernel_rfl) (by kernel_rfl) (by kernel_rfl) (by kernel_rfl)
  have h112:=@run_callFunc_extern Tryd.prog 112 _ (ReflectliteValue.method (ReflectliteValue.valueError "reflectlite.Value.IsNil" 0) ReflectliteValue.isNil) Tryd.func112 (by kernel_rfl) (by kernel_rfl) (by kernel_rfl) (by kernel_rfl)
  have h171:=@run_callFunc_extern Tryd.prog 171 _ (ReflectliteType.abiMethod fun t=>do pure (.int .u8 (← Rtype.kind t))) Tryd.func171 (by kernel_rfl) (by kernel_rfl) (by kernel_rfl) (by kernel_rfl)
  have h183:=@run_callFunc_extern Tryd.prog 183 _ (ReflectliteType.method ReflectliteType.elem) Tryd.func183 (by kernel_rfl) (by kernel_rfl) (by kernel_rfl) (by kernel_rfl)
  have h184:=@run_callFunc_extern Tryd.prog 184 _ (ReflectliteType.relation "Implements" ReflectliteType.implements_) Tryd.func184 (by kernel_rfl) (by kernel_rfl) (by kernel_rfl) (by kernel_rfl)
  have f6:=as_vo
  have f7:=as_type
  have mK:=as_mKind
  have mE:=as_mElem
  have mI:=as_mImpl
  have k1:=as_kind153
  have k2:=as_kind61
  have e1:=as_elem153
  have i1:=as_impl61
  have n8:=as_isNil ⟨w.heap.size,0,none⟩ t (asV w t) (by rw[World.cell?_alloc_lt _ _ ⟨w.heap.size,0,none⟩ (by simp)];simp)
  have hlt:0<w.heap.size:=by
    rcases Nat.eq_zero_or_pos w.heap.size with h0 | h
    · simp[World.cell?,h0] at hg
    · exact h
  have hg2:(asV w t).cell? ⟨0,0,none⟩=some (.iface 251 (.agg #[.pointer (some ⟨4,49,none⟩)])):=by
    rw[World.cell?_alloc_lt _ _ ⟨0,0,none⟩ (by simp),World.cell?_alloc_lt _ _ ⟨0,0,none⟩ hlt];exact hg
  go_enter Tryd.func76,Tryd.ntmps76
  go_wp2_with (first | (go_at_call 113;refine hc.mono ?_;rintro e w' ⟨rfl,rfl⟩))
  go_ret
  exact⟨rfl,rfl⟩
end Go.Proofs.YtnicmjipbnhciaaDoor.X
set_option linter.unusedVariables false
set_option linter.unusedSimpArgs false
set_option maxRecDepth 100000
namespace Go.Proofs.YtnicmjipbnhciaaDoor.X
open Go Go.RowKit Go.Proofs Go.Proofs.YtnicmjipbnhciaaDoor.E
def etP:PP:=⟨fun σ w _=>Seg σ w 0 0 [.iface 251 (.agg #[.pointer (some ⟨4,49,none⟩)])],fun st h=>h.step st⟩
theorem stp_setCell {σ:Nat→Nat} {w:World} {b:Nat} (hz:σ b=0) (v:Value):Stp (· = b) σ w σ (w.setCell ⟨b,0,none⟩ v):=by
  have oth:∀ x,x≠b→(w.setCell ⟨b,0,none⟩ v).heap[x]? = w.heap[x]?:=fun x hx=>by
    simp only[World.setCell,Array.getElem?_modify]
    rw[if_neg (Ne.symm hx)]
  refine⟨rfl,rfl,rfl,by simp[World.setCell],fun x _ hx=>oth x hx,fun _ _ _=>rfl,fun x o hx ho=>?_,fun _ _=>Nat.le_refl _⟩
  have hne:x≠b:=by rintro rfl;rw[hz] at ho;omega
  exact World.cell?_of_block (oth x hne)
theorem errAs_ok (e:Er) (c0:Int) (hd:e.dep≤3):FOk EN 76 ⟨[.pr etP,.pn (PE (some e)) true false,.bx 61 [.i c0]],[.n 1,.j 153 (.p 2 0)],Unit,fun _=>([.pr etP,.pn (PE (some e)) true false,.bx 61 [.i e.code]],.b true),fun _=>True⟩:=by
  refine⟨by kernel_rfl,fun ν F σ w S=>?_⟩
  obtain⟨b,hb1,hB,hFb,_⟩:=S.ent 2 _ rfl
  obtain⟨hE,_,_⟩:=S.ent 1 _ rfl
  have hE:ErAt σ w e (ν 1):=hE
  have hg:Seg σ w 0 0 [.iface 251 (.agg #[.pointer (some ⟨4,49,none⟩)])]:=S.ent 0 _ rfl
  have hg0:=(hg.h 0 _ rfl).2
  obtain⟨ty,x,hv⟩:=hE.ifc
  have hbl:=hB.lt
  have hargs:(denL ν [.n 1,.j 153 (.p 2 0)]).toArray=#[.iface ty x,.iface 153 (.pointer (some ⟨b,0,none⟩))]:=by
    simp only[denL,den,hv,hb1,padd,Nat.add_zero]
  have ht:w.cell? ⟨b,0,none⟩=some (iv c0):=by rw[hB.cell 0];rfl
  have hf:w.frozen? ⟨b,0,none⟩=false:=hB.free 0
  have s1:=Stp.alloc σ w (.cells #[.pointer (some ⟨b,0,none⟩)] 153) 0
  have s2:=s1.then (Stp.alloc _ _ (.cells #[.pointer (some ⟨4,153,none⟩),.pointer (some ⟨w.heap.size,0,none⟩),.int .u64 150] 214) 0)
  have s3:=s2.then (Stp.alloc _ _ (.cells #[.pointer (some ⟨4,153,none⟩),.pointer (some ⟨w.heap.size,0,none⟩),.int .u64 150] 214) 0)
  have s4:=s3.then (Stp.alloc _ _ (.cells #[.int .i64 e.code] 61) 0)
  have B2:=hB.step' s2
  have B4:=hB.step' s4
  have hc:=as113 e (ν 1) hd (ErAt.step s2 hE) ⟨b,0,none⟩ ⟨w.heap.size,0,none⟩ (iv c0) (by rw[World.cell?_alloc_lt _ _ ⟨w.heap.size,0,none⟩ (by simp)];simp) (by rw[B2.cell 0];rfl) (B2.free 0)
  rw[hv] at hc
  show Calls EN.P 76 (denL ν [.n 1,.j 153 (.p 2 0)]).toArray w _
  rw[hargs]
  refine Calls.mono (as76 e.code ty x ⟨b,0,none⟩ (iv c0) w (fun _ _=>True) hg0 ht hf hc) ?_
  rintro ev w' ⟨rfl,rfl⟩
  have s5:=(s4.mono (M':=(· = b)) (fun _ _ h=>h.elim)).trans (stp_setCell B4.z (.int .i64 e.code)) (M'':=(· = b)) (fun x _ h=>by rcases h with h | h <;> exact h)
  refine⟨(),ν,F,_,rfl,trivial,fun _ _=>rfl,s5.mono (fun x _ h=>⟨2,by subst h;exact hFb⟩),?_,by simp,fun i b' h=>.inl ⟨i,h⟩,rfl⟩
  refine S.gen s5 (· = 2) (fun _ _=>rfl) S.one (by simp) (fun k b' hk hm=>by subst hm;exact S.dis k 2 b' hk hFb) (fun k hk hne=>⟨?_,rfl⟩) (fun k en hk he=>?_) (fun k b' hk hb'=>?_) (fun k m b' _ _ e1 e2=>S.dis k m b' e1 e2)
  · have hk : k < 3 := hk
    match k,hk,hne with
    | 0,_,_=>rfl
    | 1,_,_=>rfl
    | 2,_,h=>exact absurd rfl h
  · rcases hk with rfl | hk
    · simp only [List.getElem?_cons_succ, List.getElem?_cons_zero, Option.some.injEq] at he
      subst he
      refine⟨⟨b,hb1,⟨?_,B4.z⟩,hFb,rfl⟩,rfl⟩
      have:=B4.h
      simp only[World.setCell,Array.getElem?_modify,if_pos]
      rw[this];rfl
    · have := (List.getElem?_eq_some_iff.1 he).1
      have hk:3≤k:=hk
      simp at this;omega
  · rcases hk with rfl | hk
    · exact⟨by simp,s5.lt (S.lt 2 b' hb').2,.inl ⟨2,rfl,hb'⟩⟩
    · have := (S.lt k b' hb').1
      have hk:3≤k:=hk
      simp at this;omega
def codeO:Option Er→Int
  | none=>0
  | some e=>e.code
def depO:Option Er→Nat
  | none=>0
  | some e=>e.dep
noncomputable def ccC7_29:Code:=(Tryd.f29.body).getD .skip
theorem Code1_aux:FOk EN 29 ⟨[.pr etP,.pn (PE none) true true],[.n 1],Unit,fun _=>([.pr etP,.pn (PE none) true true],.i 0),fun _=>True⟩:=by
 refine v_fun Tryd.f29 ccC7_29 MX (fun ν F σ w=>?_) Tryd.func29
 refine v_nl ?_
 refine v_if (true) True trivial (fun h1=>?_) (fun h1=>?_)
 ·skip
  exact v_ret () [] (((0:Int)=(0:Int))∧(etP=etP)∧(PE none=PE none)∧(true=true)) ⟨rfl,rfl,rfl,rfl⟩ trivial
 ·skip
  contradiction
theorem Code2_aux (e:Er) (h:e.dep≤3):FOk EN 29 ⟨[.pr etP,.pn (PE (some e)) true false],[.n 1],Unit,fun _=>([.pr etP,.pn (PE (some e)) true false],.i e.code),fun _=>True⟩:=by
 refine v_fun Tryd.f29 ccC7_29 MX (fun ν F σ w=>?_) Tryd.func29
 refine v_nl ?_
 refine v_if (false) True trivial (fun h1=>?_) (fun h1=>?_)
 ·skip
  contradiction
 ·skip
  refine v_call _ [0,1,3] (errAs_ok (e) (0) ‹_›) ((etP=etP)∧(PE (some e)=PE (some e))∧(false=false)∧((0:Int)=(0:Int))) ⟨rfl,rfl,rfl,rfl⟩ (fun g2 p3=>?_)
  have p3:True:=p3
  refine v_if (true) True trivial (fun h4=>?_) (fun h4=>?_)
  ·skip
   exact v_ret () [] ((e.code=e.code)∧(etP=etP)∧(PE (some e)=PE (some e))∧(false=false)) ⟨rfl,rfl,rfl,rfl⟩ trivial
  ·skip
   contradiction
theorem Code_ok (o:Option Er) (h:depO o≤3):FOk EN 29 ⟨[.pr etP,.pn (PE o) true o.isNone],[.n 1],Unit,fun _=>([.pr etP,.pn (PE o) true o.isNone],.i (codeO o)),fun _=>True⟩:=by
  cases o with
  | none=>exact Code1_aux
  | some e=>exact Code2_aux e h
theorem less_cmp:∀ a b:List UInt8,Op.bytesLess a b=decide (Lib.compareBytes a b<0)
  | [],[]=>rfl
  | [],_::_=>rfl
  | _::_,[]=>rfl
  | a :: xs, b :: ys => by
    unfold Op.bytesLess Lib.compareBytes
    by_cases h1:a<b
    · simp[h1]
    · by_cases h2 : b < a
      · have : ¬ a = b := fun e => by subst e; exact h1 h2
        simp[h1,h2,this]
      · have : a = b := UInt8.le_antisymm (UInt8.not_lt.1 h2) (UInt8.not_lt.1 h1)
        subst this
        simp[h1,less_cmp xs ys]
theorem cmp_zero:∀ {a b:List UInt8},Lib.compareBytes a b=0↔a=b
  | [],[]=>by simp[Lib.compareBytes]
  | [],_::_=>by simp[Lib.compareBytes]
  | _::_,[]=>by simp[Lib.compareBytes]
  | a :: xs, b :: ys => by
    unfold Lib.compareBytes
    by_cases h1:a<b
    · have : ¬ a = b := fun e => by subst e; exact absurd h1 (UInt8.lt_irrefl _)
      simp[h1,this]
    · by_cases h2 : b < a
      · have : ¬ a = b := fun e => by subst e; exact h1 h2
        simp[h1,h2,this]
      · have : a = b := UInt8.le_antisymm (UInt8.not_lt.1 h2) (UInt8.not_lt.1 h1)
        subst this
        simp[h1,cmp_zero (a:=xs) (b:=ys)]
theorem less_t {a b:List UInt8} (h:Op.bytesLess a b=true):Lib.compareBytes a b<0:=by rw[less_cmp] at h;simpa using h
namespace Tr
def lc:Tr→Option Tr
  | leaf _ _=>none
  | node l _=>some l
def rc:Tr→Option Tr
  | leaf _ _=>none
  | node _ r=>some r
end Tr
def rdC (t:Tr) (b:Nat):List SV:=[.n b,.n (b+1),.i t.height,.u t.size,.n (b+2),.n (b+3)]
def AtR (σ:Nat→Nat) (w:World):Tr→Value→Prop
  | .leaf k v,x=>∃ b o kv vv,x=.pointer (some ⟨b,o,none⟩)∧Rd tU8 σ w kv k∧Rd tU8 σ w vv v∧Seg σ w b o (denC (ns4 kv vv (.pointer none) (.pointer none)) (rdC (.leaf k v) 0))
  | .node l r,x=>∃ b o kv vv lv rv,x=.pointer (some ⟨b,o,none⟩)∧Rd tU8 σ w kv (Tr.node l r).key∧Rd tU8 σ w vv []∧AtR σ w l lv∧AtR σ w r rv∧Seg σ w b o (denC (ns4 kv vv lv rv) (rdC (.node l r) 0))
theorem AtR.ptr {σ:Nat→Nat} {w:World} {t:Tr} {x:Value} (h:AtR σ w t x):∃ b o,x=.pointer (some ⟨b,o,none⟩):=by
  cases t with
  | leaf k v=>obtain⟨b,o,_,_,e,_⟩:=h;exact⟨b,o,e⟩
  | node l r=>obtain⟨b,o,_,_,_,_,e,_⟩:=h;exact⟨b,o,e⟩
theorem AtR.step {M:Nat→Prop} {σ σ':Nat→Nat} {w w':World} (st:Stp M σ w σ' w'):∀ {t:Tr} {x:Value},AtR σ w t x→AtR σ' w' t x
  | .leaf _ _,_,⟨b,o,kv,vv,e,h1,h2,h3⟩=>⟨b,o,kv,vv,e,h1.step st,h2.step st,h3.step st⟩
  | .node l r,_,⟨b,o,kv,vv,lv,rv,e,h1,h2,h3,h4,h5⟩=>⟨b,o,kv,vv,lv,rv,e,h1.step st,h2.step st,AtR.step st h3,AtR.step st h4,h5.step st⟩
def gt (o:Option Tr):Tr:=o.getD (.leaf [] [])
namespace Tr
theorem kids {t:Tr} (h:0<t.height):t=node (gt t.lc) (gt t.rc)∧t.lc.isNone=false∧t.rc.isNone=false:=by
  cases t with
  | leaf a b=>simp[height] at h
  | node l r=>exact⟨rfl,rfl,rfl⟩
theorem kid_l {t:Tr} (h:0<t.height):t.lc.isNone=false:=(kids h).2.1
theorem kid_least {t:Tr} (h:0<t.height):(gt t.lc).least=t.least∧(gt t.lc).depth<t.depth:=by
  cases t with
  | leaf a b=>simp[height] at h
  | node l r=>exact⟨rfl,by show l.depth<l.depth+r.depth+1;omega⟩
end Tr
def LI (o k:Option Tr):Prop:=k.isNone=false∧(gt k).least=(gt o).least
theorem LI.next {o k:Option Tr} (h:LI o k) (hp:0<(gt k).height):LI o (gt k).lc∧(gt (gt k).lc).depth<(gt k).depth:=⟨⟨Tr.kid_l hp,by rw[(Tr.kid_least hp).1];exact h.2⟩,(Tr.kid_least hp).2⟩
def cutR (k:List UInt8) (t:Tr):Option Tr:=(t.cut k).getD none
section
variable {k:List UInt8} {t:Tr}
end
def PI (o:Option Tr) (k:List UInt8) (q:List Turn × Option Tr):Prop:=q.2.isNone=false∧q.1++(gt q.2).turns k=(gt o).turns k∧(gt q.2).fin k=(gt o).fin k∧(gt q.2).Ks∧(gt q.2).height<900∧q.1.length+(gt q.2).depth≤(gt o).depth
section
variable {o:Option Tr} {k:List UInt8} {q:List Turn × Option Tr}
theorem PI.start (ho:o.isNone=false) (hk:(gt o).Ks) (hh:(gt o).height<900):PI o k ([],o):=⟨ho,rfl,rfl,hk,hh,by simp⟩
theorem PI.step (h:PI o k q) (hp:0<(gt q.2).height):(gt q.2).turns k=(gt q.2).turn k::(if(gt q.2).rt k=true then(gt (gt q.2).rc).turns k else(gt (gt q.2).lc).turns k)∧(gt q.2).fin k=(if(gt q.2).rt k=true then(gt (gt q.2).rc).fin k else(gt (gt q.2).lc).fin k)∧(gt (gt q.2).lc).depth<(gt q.2).depth∧(gt (gt q.2).rc).depth<(gt q.2).depth:=by
  obtain⟨e,_,_⟩:=Tr.kids hp
  generalize gt (gt q.2).lc=a at *
  generalize gt (gt q.2).rc=b at *
  rw[e];exact⟨rfl,rfl,by simp[Tr.depth];omega,by simp[Tr.depth];omega⟩
theorem PI.stop (h:PI o k q) (hp:¬ 0<(gt q.2).height):(gt q.2).key=((gt o).fin k).key∧(gt q.2).value=((gt o).fin k).value∧q.1=(gt o).turns k:=by
  obtain⟨a1,a2,a3,a4,a5,a6⟩:=h
  have:=(gt q.2).height_nn
  obtain⟨a,b,e⟩:=Tr.leaf_of (s:=gt q.2) (by omega)
  rw[e] at a2 a3 ⊢
  simp only[Tr.turns,Tr.fin,List.append_nil] at a2 a3
  rw[← a3];exact⟨rfl,rfl,a2⟩
end
def findG (k:List UInt8):List Pair→Nat→Int
  | [],_=>-1
  | x::xs,i=>if x.key=k then i else findG k xs (i+1)
def findP (l:List Pair) (k:List UInt8):Int:=findG k l 0
def FI (l:List Pair) (k:List UInt8) (i:Nat):Prop:=findG k (l.drop i) i=findP l k∧i≤l.length
abbrev dP:Pair:=⟨[],[]⟩
theorem FI.hit {l:List Pair} {k:List UInt8} {i:Nat} (h:FI l k i) (hi:(i:Int)<l.length) (he:(l.getD i dP).key=k):(i:Int)=findP l k:=by
  have h:=h.1;rw[drop_cons (d:=dP) hi,findG,if_pos he] at h;exact h
theorem FI.next {l:List Pair} {k:List UInt8} {i:Nat} (h:FI l k i) (hi:(i:Int)<l.length) (he:¬ (l.getD i dP).key=k):FI l k (i+1)∧l.length - (i+1)<l.length - i:=by
  obtain⟨h,h2⟩:=h;rw[drop_cons (d:=dP) hi,findG,if_neg he] at h;exact⟨⟨h,by omega⟩,by omega⟩
theorem FI.stop {l:List Pair} {k:List UInt8} {i:Nat} (h:FI l k i) (hi:¬ (i:Int)<l.length) : -1=findP l k:=by
  have h:=h.1;rw[List.drop_of_length_le (by omega),findG] at h;exact h
def SI (a b:Proof) (i:Nat):Prop:=(a.turns.drop i=b.turns.drop i↔a=b)∧i≤a.turns.length∧a.turns.length=b.turns.length
section
variable {a b:Proof} {i:Nat}
theorem sp1 (h:a.key≠b.key):false=decide (a=b):=(decide_eq_false (fun e=>h (by rw[e]))).symm
theorem sp2 (h:a.value≠b.value):false=decide (a=b):=(decide_eq_false (fun e=>h (by rw[e]))).symm
theorem sp3 (h:(a.turns.length:Int)≠b.turns.length):false=decide (a=b):=(decide_eq_false (fun e=>h (by rw[e]))).symm
theorem SI.start (h1:¬ a.key≠b.key) (h2:¬ a.value≠b.value) (h3:¬ (a.turns.length:Int)≠b.turns.length):SI a b 0:=by
  refine⟨⟨fun h=>?_,fun h=>by rw[h]⟩,Nat.zero_le _,by omega⟩
  cases a;cases b;simp only[Decidable.not_not] at *;subst h1;subst h2;simp only[List.drop_zero] at h;rw[h]
theorem SI.ne (h:SI a b i) (hi:(i:Int)<a.turns.length) (hn:teq (a.turns.getD i dT) (b.turns.getD i dT)=false):false=decide (a=b):=by
  refine(decide_eq_false (fun e=>?_)).symm
  subst e
  have:=teq_iff.2 (rfl:a.turns.getD i dT=a.turns.getD i dT);rw[this] at hn;cases hn
theorem SI.next (h:SI a b i) (hi:(i:Int)<a.turns.length) (hn:teq (a.turns.getD i dT) (b.turns.getD i dT)=true):SI a b (i+1)∧a.turns.length - (i+1)<a.turns.length - i:=by
  obtain⟨h1,h2,h3⟩:=h
  refine⟨⟨?_,by omega,h3⟩,by omega⟩
  rw[← h1,drop_cons (d:=dT) hi,drop_cons (l:=b.turns) (i:=i) (d:=dT) (by omega),teq_iff.1 hn];simp
theorem SI.stop (h:SI a b i) (hi:¬ (i:Int)<a.turns.length):true=decide (a=b):=by
  refine(decide_eq_true (h.1.1 ?_)).symm
  obtain⟨h1,h2,h3⟩:=h
  rw[List.drop_of_length_le (by omega),List.drop_of_length_le (by omega)]
end
noncomputable def ccR7_19:Code:=(Tryd.f19.body).getD .skip
theorem SameProof_aux (a b:Proof) (ha:a.turns.length≤1000000) (hb:b.turns.length≤1000000):FOk EN 19 ⟨[.rd 5 (a.key),.rd 5 (a.value),.rd 121 a.turns,.rd 5 (b.key),.rd 5 (b.value),.rd 121 b.turns],[.a [.n 0,.n 1,.n 2],.a [.n 3,.n 4,.n 5]],Unit,fun _=>([.rd 5 (a.key),.rd 5 (a.value),.rd 121 a.turns,.rd 5 (b.key),.rd 5 (b.value),.rd 121 b.turns],.b (decide (a=b))),fun _=>True⟩:=by
 refine v_fun Tryd.f19 ccR7_19 MX (fun ν F σ w=>?_) Tryd.func19
 refine v_nl ?_
 refine v_guard 13 (decide (a.key≠b.key)) True trivial (fun h1=>?_) (fun h1=>?_)
 ·have h1:=of_decide_eq_true h1
  exact v_ret () [] ((false=decide (a=b))∧(a.key=a.key)∧(a.value=a.value)∧(a.turns=a.turns)∧(b.key=b.key)∧(b.value=b.value)∧(b.turns=b.turns)) ⟨(by exact sp1 ‹_›),rfl,rfl,rfl,rfl,rfl,rfl⟩ trivial
 ·have h1:=of_decide_eq_false h1
  refine v_guard 22 (decide (a.value≠b.value)) True trivial (fun h2=>?_) (fun h2=>?_)
  ·have h2:=of_decide_eq_true h2
   exact v_ret () [] ((false=decide (a=b))∧(a.key=a.key)∧(a.value=a.value)∧(a.turns=a.turns)∧(b.key=b.key)∧(b.value=b.value)∧(b.turns=b.turns)) ⟨(by exact sp2 ‹_›),rfl,rfl,rfl,rfl,rfl,rfl⟩ trivial
  ·have h2:=of_decide_eq_false h2
   refine v_if (decide ((↑a.turns.length:Int)≠(↑b.turns.length:Int))) True trivial (fun h3=>?_) (fun h3=>?_)
   ·have h3:=of_decide_eq_true h3
    exact v_ret () [] ((false=decide (a=b))∧(a.key=a.key)∧(a.value=a.value)∧(a.turns=a.turns)∧(b.key=b.key)∧(b.value=b.value)∧(b.turns=b.turns)) ⟨(by exact sp3 ‹_›),rfl,rfl,rfl,rfl,rfl,rfl⟩ trivial
   ·have h3:=of_decide_eq_false h3
    refine v_loop (fun i:Nat=>([(5,.i i)],[])) (fun i=>SI a b i) (fun i=>a.turns.length - i) 0 [] (((0:Int)=(↑(0:Nat):Int))) rfl (by exact SI.start ‹_› ‹_› ‹_›) (fun i hk4=>?_)
    have i1:=(‹SI a b i›).2
    refine v_if (decide ((↑i:Int)<(↑a.turns.length:Int))) True trivial (fun h5=>?_) (fun h5=>?_)
    ·have h5:=of_decide_eq_true h5
     refine v_plan (.fs [0,1,2,3,4,5,6,7,8,9,10] .e) [7,8] True trivial ?_
     refine v_if (!(decide ((a.turns.getD (↑i:Int).toNat (Turn.mk 0 0 false zero32)).height=(b.turns.getD (↑i:Int).toNat (Turn.mk 0 0 false zero32)).height) && (decide ((a.turns.getD (↑i:Int).toNat (Turn.mk 0 0 false zero32)).size=(b.turns.getD (↑i:Int).toNat (Turn.mk 0 0 false zero32)).size) && ((a.turns.getD (↑i:Int).toNat (Turn.mk 0 0 false zero32)).right == (b.turns.getD (↑i:Int).toNat (Turn.mk 0 0 false zero32)).right && (decide ((a.turns.getD (↑i:Int).toNat (Turn.mk 0 0 false zero32)).other.l=(b.turns.getD (↑i:Int).toNat (Turn.mk 0 0 false zero32)).other.l) && true))))) ((0≤(↑i:Int)∧(↑i:Int)<(↑a.turns.length:Int))∧(0≤(↑i:Int)∧(↑i:Int)<(↑b.turns.length:Int))∧(EN.P.eqGuardType EN.P.depth (121:Nat)=false)∧(noBl EN.P 121)∧((a.turns.getD (↑i:Int).toNat (Turn.mk 0 0 false zero32)).other.l.length=32)∧((b.turns.getD (↑i:Int).toNat (Turn.mk 0 0 false zero32)).other.l.length=32)) ⟨(by omega),(by omega),(by kernel_rfl),(by(unfold noBl;kernel_rfl)),(by exact Sum32.h _),(by exact Sum32.h _)⟩ (fun h6=>?_) (fun h6=>?_)
     ·have h6:=(nt h6)
      refine v_leave .rt True trivial ?_
      exact v_ret () [] ((false=decide (a=b))∧(a.key=a.key)∧(a.value=a.value)∧(a.turns=a.turns)∧(b.key=b.key)∧(b.value=b.value)∧(b.turns=b.turns)) ⟨(by exact SI.ne ‹_› ‹_› (by first | assumption | simpa using‹_›)),rfl,rfl,rfl,rfl,rfl,rfl⟩ trivial
     ·have h6:=(nf h6)
      exact v_back (i+1) [] ((I64 (↑i+1))∧((↑i:Int)+1=(↑(i+1):Int))) ⟨(by(unfold I64;omega)),rfl⟩ (show SI a b (i+1)∧a.turns.length - (i+1)<a.turns.length - i from(by exact SI.next ‹_› ‹_› (by first | assumption | simpa using‹_›)))
    ·have h5:=of_decide_eq_false h5
     refine v_leave (.ex 0) True trivial ?_
     exact v_ret () [] ((true=decide (a=b))∧(a.key=a.key)∧(a.value=a.value)∧(a.turns=a.turns)∧(b.key=b.key)∧(b.value=b.value)∧(b.turns=b.turns)) ⟨(by exact SI.stop ‹_› ‹_›),rfl,rfl,rfl,rfl,rfl,rfl⟩ trivial
theorem SameProof_ok (ka va kb vb:List UInt8) (ta tb:List Turn) (ha:ta.length≤1000000) (hb:tb.length≤1000000):FOk EN 19 ⟨[.rd 5 (ka),.rd 5 (va),.rd 121 ta,.rd 5 (kb),.rd 5 (vb),.rd 121 tb],[.a [.n 0,.n 1,.n 2],.a [.n 3,.n 4,.n 5]],Unit,fun _=>([.rd 5 (ka),.rd 5 (va),.rd 121 ta,.rd 5 (kb),.rd 5 (vb),.rd 121 tb],.b (decide ((⟨ka,va,ta⟩:Proof)=⟨kb,vb,tb⟩))),fun _=>True⟩:=SameProof_aux ⟨ka,va,ta⟩ ⟨kb,vb,tb⟩ ha hb
def ben (l:List Turn) (i:Nat):Int:=if(i:Int)<l.length then(l.getD i dT).height else 0
def bad (l:List Turn) (i:Nat):Prop:=(l.getD i dT).height≤ben l (i+1)∨64<(l.getD i dT).height
def hashN (p:Proof):List UInt8:=p.turns.foldr stepH (nsum 0 1 p.key p.value z32 z32)
section
variable {p:Proof} {want:List UInt8} {i:Nat} {x:List UInt8}
/-- no fault so far -/
def GI (l:List Turn) (i:Nat):Prop:=(∀ j,j<i→¬ bad l j)∧i≤l.length
theorem GI.next1 {l:List Turn} (h0:GI l i) (hi:(i:Int)<l.length) (hn:(i:Int)+1<l.length) (h:¬ (l.getD i dT).height≤(l.getD ((i:Int)+1).toNat dT).height) (h2:¬ 64<(l.getD i dT).height):GI l (i+1)∧l.length - (i+1)<l.length - i:=by
  refine⟨⟨fun j hj=>?_,by omega⟩,by omega⟩
  rcases Nat.lt_or_ge j i with q | q
  · exact h0.1 j q
  · have : j = i := by omega
    subst this;unfold bad ben;rw[if_pos (by omega)];rw[show((j:Int)+1).toNat=j+1 by omega] at h;omega
theorem GI.next2 {l:List Turn} (h0:GI l i) (hi:(i:Int)<l.length) (hn:¬ (i:Int)+1<l.length) (h:¬ (l.getD i dT).height≤0) (h2:¬ 64<(l.getD i dT).height):GI l (i+1)∧l.length - (i+1)<l.length - i:=by
  refine⟨⟨fun j hj=>?_,by omega⟩,by omega⟩
  rcases Nat.lt_or_ge j i with q | q
  · exact h0.1 j q
  · have : j = i := by omega
    subst this;unfold bad ben;rw[if_neg (by omega)];omega
theorem GI.start {l:List Turn}:GI l 0:=⟨fun j hj=>by omega,Nat.zero_le _⟩
theorem GI.all {l:List Turn} (h:GI l i) (hi:¬ (i:Int)<l.length):∀ j,j<l.length→¬ bad l j:=fun j hj=>h.1 j (by have:=h.2;omega)
/-- the sums so far, from the end -/
def HI (p:Proof) (q:Nat × List UInt8):Prop:=q.2=(p.turns.drop q.1).foldr stepH (nsum 0 1 p.key p.value z32 z32)∧q.1≤p.turns.length∧q.2.length=32
theorem HI.start:HI p (p.turns.length,nsum 0 1 p.key p.value z32 z32):=⟨by simp,Nat.le_refl _,show(nsum 0 1 p.key p.value z32 z32).length=32 from Tr.nsum_len _ _ _ _ _ _⟩
theorem HI.next {n:Nat} (h:HI p (n,x)) (h0:0≤(n:Int) - 1):HI p (n - 1,stepH (tAt p n) x)∧n - 1<n:=by
  obtain⟨m,rfl,e⟩:=RI.succ (p:=p) h0
  obtain⟨h1,h2,h3⟩:=h
  refine⟨⟨?_,by omega,show(stepH _ _).length=32 by unfold stepH;split <;> exact Tr.nsum_len _ _ _ _ _ _⟩,by omega⟩
  have h1:x=(p.turns.drop (m+1)).foldr stepH (nsum 0 1 p.key p.value z32 z32):=h1
  show stepH _ x=((p.turns.drop m)).foldr stepH _
  rw[e,drop_cons (l:=p.turns) (i:=m) (d:=dT) (by omega),List.foldr_cons,h1]
theorem HI.nextT {n:Nat} (h:HI p (n,x)) (h0:0≤(n:Int) - 1) (hr:(tAt p n).right=true):HI p (n - 1,nsum (tAt p n).height (tAt p n).size [] [] (tAt p n).other.l x)∧n - 1<n:=by
  have:=h.next h0;unfold stepH at this;rwa [if_pos hr] at this
theorem HI.nextF {n:Nat} (h:HI p (n,x)) (h0:0≤(n:Int) - 1) (hr:(tAt p n).right=false):HI p (n - 1,nsum (tAt p n).height (tAt p n).size [] [] x (tAt p n).other.l)∧n - 1<n:=by
  have:=h.next h0;unfold stepH at this;rwa [if_neg (by rw[hr];simp)] at this
theorem HI.stop {n:Nat} (h:HI p (n,x)) (h0:¬ 0≤(n:Int) - 1):hashN p=x:=by
  have:n=0:=by omega
  subst this;exact h.1.symm
end
theorem rootN_ok (l:List Turn) (hl:∀ j,j<l.length→¬ bad l j):∀(n:Nat) (x:List UInt8),n≤l.length→rootN l n (ben l n) x=((l.take n).foldr stepH x,none)
  | 0,x,_=>by simp[rootN]
  | n + 1, x, hn => by
    have h1:=hl n (by omega)
    unfold bad at h1
    rw[rootN,if_neg (by omega)]
    have e:(l.getD n dT).height=ben l n:=by unfold ben;rw[if_pos (by omega)]
    rw[e,rootN_ok l hl n _ (by omega),List.take_succ,List.foldr_append]
    have:l[n]?.toList=[l.getD n dT]:=by
      have hlt:n<l.length:=by omega
      simp[List.getD_eq_getElem?_getD,hlt]
    rw[this];rfl
theorem ben_end (l:List Turn):ben l l.length=0:=by unfold ben;rw[if_neg (by omega)]
theorem verP_dep (want:List UInt8) (p:Proof):depO (verP want p)≤1:=by
  have hN:∀(n:Nat) (a:Int) (x:List UInt8),depO (rootN p.turns n a x).2≤1:=by
    intro n
    induction n with
    | zero=>intro a x;simp[rootN,depO]
    | succ n ih=>intro a x;rw[rootN];split;exact Nat.le_refl _;exact ih _ _
  have hR:depO (rootP p).2≤1:=by
    unfold rootP;split
    · exact Nat.le_refl _
    · split
      · exact Nat.le_refl _
      · exact hN _ _ _
  unfold verP;split
  · split
    · exact Nat.zero_le _
    · exact Nat.le_refl _
  · exact hR
section
variable {want k:List UInt8} {l r:Option Proof} {c:Int} {e:Er}
theorem vg_left (h1:¬ (k.length:Int)<1) (h2:¬ (96:Int)<k.length) (h3:l.isNone=false) (h4:r.isNone=true) (h5:sideP true (gp l).turns=true):vgP want k l r=vgL want k l r:=by
  unfold vgP;rw[if_neg (by omega),if_neg (by simp[h3]),if_neg (by simp[h3,h5]),if_neg (by simp[h4])]
end
def keyA (a:Act):List UInt8:=if 0<a.raw.length then a.raw else[107,97+a.k % 26,97+a.k / 26]
noncomputable def ccR11_63:Code:=(Tryd.f63.body).getD .skip
theorem Key_ok (a:Act):FOk EN 63 ⟨[.rd 5 (a.raw),.rd 5 (a.value)],[.a [.c a.kind,.c a.k,.n 0,.n 1]],Unit,fun _=>([.rd 5 (a.raw),.rd 5 (a.value),.rd 5 (keyA a)],.n 2),fun _=>True⟩:=by
 refine v_fun Tryd.f63 ccR11_63 MX (fun ν F σ w=>?_) Tryd.func63
 refine v_nl ?_
 refine v_if (decide (0<(↑a.raw.length:Int))) True trivial (fun h1=>?_) (fun h1=>?_)
 ·have h1:=of_decide_eq_true h1
  exact v_ret () [0] ((a.raw=a.raw)∧(a.value=a.value)∧(a.raw=keyA a)) ⟨rfl,rfl,(by(unfold keyA;rw[if_pos (by omega)]))⟩ trivial
 ·have h1:=of_decide_eq_false h1
  exact v_ret () [4] (((26:UInt8)≠(0:UInt8))∧((26:UInt8)≠(0:UInt8))∧(a.raw=a.raw)∧(a.value=a.value)∧([107,97+a.k % 26,97+a.k / 26]=keyA a)) ⟨(by decide),(by decide),rfl,rfl,(by(unfold keyA;rw[if_neg (by omega)]))⟩ trivial
def putPair (k v:List UInt8):List Pair→List Pair
  | []=>[⟨k,v⟩]
  | x::xs=>if Op.bytesLess x.key k=true then x::putPair k v xs else⟨k,v⟩::(if x.key=k then xs else x::xs)
def cutPair (k:List UInt8) (l:List Pair):List Pair:=l.filter fun x=>decide (x.key≠k)
def UI (k v:List UInt8) (l:List Pair) (q:Nat × List Pair):Prop:=q.2++putPair k v (l.drop q.1)=putPair k v l∧q.1≤l.length∧q.2.length=q.1
section
variable {k v:List UInt8} {l xs:List Pair} {i:Nat}
theorem UI.start:UI k v l (0,[]):=⟨rfl,Nat.zero_le _,rfl⟩
theorem UI.next (h:UI k v l (i,xs)) (hi:(i:Int)<l.length) (hl:Op.bytesLess (l.getD i dP).key k=true):UI k v l (i+1,xs++[l.getD i dP])∧l.length - (i+1)<l.length - i:=by
  obtain⟨h1,h2,h3⟩:=h
  have h1:xs++putPair k v (l.drop i)=putPair k v l:=h1
  have h3:xs.length=i:=h3
  refine⟨⟨?_,by omega,by simp[h3]⟩,by omega⟩
  show(xs++[l.getD i dP])++putPair k v (l.drop (i+1))=_
  rw[← h1,drop_cons (d:=dP) hi,putPair,if_pos hl];simp
theorem UI.end0 (h:UI k v l (i,xs)) (hi:¬ (i:Int)<l.length):xs++[⟨k,v⟩]++l.drop i=putPair k v l:=by
  have h1:xs++putPair k v (l.drop i)=putPair k v l:=h.1
  rw[← h1,List.drop_of_length_le (by omega)];simp[putPair]
theorem UI.end1 (h:UI k v l (i,xs)) (hi:(i:Int)<l.length) (hl:Op.bytesLess (l.getD i dP).key k=false) (he:(l.getD i dP).key=k):xs++[⟨k,v⟩]++l.drop (i+1)=putPair k v l:=by
  have h1:xs++putPair k v (l.drop i)=putPair k v l:=h.1
  rw[← h1,drop_cons (d:=dP) hi,putPair,if_neg (by rw[hl];simp),if_pos he];simp
theorem UI.end2 (h:UI k v l (i,xs)) (hi:(i:Int)<l.length) (hl:Op.bytesLess (l.getD i dP).key k=false) (he:¬ (l.getD i dP).key=k):xs++[⟨k,v⟩]++l.drop i=putPair k v l:=by
  have h1:xs++putPair k v (l.drop i)=putPair k v l:=h.1
  rw[← h1,drop_cons (d:=dP) hi,putPair,if_neg (by rw[hl];simp),if_neg he];simp
end
noncomputable def ccR11_64:Code:=(Tryd.f64.body).getD .skip
theorem PutPair_ok (l:List Pair) (k v:List UInt8) (hl:l.length≤100000):FOk EN 64 ⟨[.rd 46 (l),.rd 5 (k),.rd 5 (v)],[.n 0,.n 1,.n 2],Unit,fun _=>([.rd 46 (l),.rd 5 (k),.rd 5 (v),.ow 46 (putPair k v l)],.n 3),fun _=>True⟩:=by
 refine v_fun Tryd.f64 ccR11_64 MX (fun ν F σ w=>?_) Tryd.func64
 refine v_nl ?_
 refine v_loop (fun q:Nat × List Pair=>([(8,.i q.1),(7,.n 4)],[.ow 46 q.2])) (fun q=>UI k v l q) (fun q=>l.length - q.1) (0,[]) [3] (((0:Int)=(↑(0:Nat):Int))∧(Eq (α:=List Pair) [] [])) ⟨rfl,rfl⟩ (by exact UI.start) (fun q hk1=>?_)
 have i1:=(‹UI k v l q›).2
 refine v_plan (.fs [0,1,2,3,4,5,6,7,8,9,10,11,12,13,14] .e) [4] True trivial ?_
 refine v_guard 13 (decide ((↑q.fst:Int)<(↑l.length:Int))) True trivial (fun h2=>?_) (fun h2=>?_)
 ·have h2:=of_decide_eq_true h2
  refine v_if (Op.bytesLess (l.getD (↑q.fst:Int).toNat (Pair.mk [] [])).key k) ((0≤(↑q.fst:Int)∧(↑q.fst:Int)<(↑l.length:Int))) (by omega) (fun h3=>?_) (fun h3=>?_)
  ·skip
   exact v_back ((q.fst+1,q.snd++[Pair.mk (l.getD (↑q.fst:Int).toNat (Pair.mk [] [])).key (l.getD (↑q.fst:Int).toNat (Pair.mk [] [])).value])) [12] ((0≤(↑q.fst:Int)∧(↑q.fst:Int)<(↑l.length:Int))∧(q.snd.length+1≤1000000)∧(I64 (↑q.fst+1))∧((↑q.fst:Int)+1=(↑(q.fst+1):Int))∧(q.snd++[Pair.mk (l.getD (↑q.fst:Int).toNat (Pair.mk [] [])).key (l.getD (↑q.fst:Int).toNat (Pair.mk [] [])).value]=q.snd++[Pair.mk (l.getD (↑q.fst:Int).toNat (Pair.mk [] [])).key (l.getD (↑q.fst:Int).toNat (Pair.mk [] [])).value])) ⟨(by omega),(by omega),(by(unfold I64;omega)),rfl,rfl⟩ (show UI k v l (q.fst+1,q.snd++[Pair.mk (l.getD (↑q.fst:Int).toNat (Pair.mk [] [])).key (l.getD (↑q.fst:Int).toNat (Pair.mk [] [])).value])∧l.length - (q.fst+1)<l.length - q.fst from(by exact UI.next ‹_› ‹_› ‹_›))
  ·skip
   refine v_leave (.ex 0) True trivial ?_
   refine v_plan (.fs [0,1,2,3,4,5,6,7,8,9,10,11,12,13,14] .e) [8,9] ((q.snd.length+1≤1000000)) (by omega) ?_
   refine v_guard 43 (decide ((↑q.fst:Int)<(↑l.length:Int))) True trivial (fun h4=>?_) (fun h4=>?_)
   ·have h4:=of_decide_eq_true h4
    refine v_if (decide ((l.getD (↑q.fst:Int).toNat (Pair.mk [] [])).key=k)) ((0≤(↑q.fst:Int)∧(↑q.fst:Int)<(↑l.length:Int))) (by omega) (fun h5=>?_) (fun h5=>?_)
    ·have h5:=of_decide_eq_true h5
     exact v_ret () [14] ((I64 (↑q.fst+1))∧(0≤(↑q.fst:Int)+1∧(↑q.fst:Int)+1≤(↑l.length:Int))∧((q.snd++[Pair.mk k v]).length+(List.drop ((↑q.fst:Int)+1).toNat l).length≤1000000)∧(l=l)∧(k=k)∧(v=v)∧(q.snd++[Pair.mk k v]++List.drop ((↑q.fst:Int)+1).toNat l=putPair k v l)) ⟨(by(unfold I64;omega)),(by omega),(by(simp;omega)),rfl,rfl,rfl,(by exact UI.end1 ‹_› ‹_› ‹_› ‹_›)⟩ trivial
    ·have h5:=of_decide_eq_false h5
     exact v_ret () [14] ((0≤(↑q.fst:Int)∧(↑q.fst:Int)≤(↑l.length:Int))∧((q.snd++[Pair.mk k v]).length+(List.drop (↑q.fst:Int).toNat l).length≤1000000)∧(l=l)∧(k=k)∧(v=v)∧(q.snd++[Pair.mk k v]++List.drop (↑q.fst:Int).toNat l=putPair k v l)) ⟨(by omega),(by(simp;omega)),rfl,rfl,rfl,(by exact UI.end2 ‹_› ‹_› ‹_› ‹_›)⟩ trivial
   ·have h4:=of_decide_eq_false h4
    omega
 ·have h2:=of_decide_eq_false h2
  refine v_leave (.ex 0) True trivial ?_
  refine v_plan (.fs [0,1,2,3,4,5,6,7,8,9,10,11,12,13,14] .e) [5,6] ((q.snd.length+1≤1000000)) (by omega) ?_
  refine v_guard 43 (decide ((↑q.fst:Int)<(↑l.length:Int))) True trivial (fun h6=>?_) (fun h6=>?_)
  ·have h6:=of_decide_eq_true h6
   omega
  ·have h6:=of_decide_eq_false h6
   exact v_ret () [8] ((0≤(↑q.fst:Int)∧(↑q.fst:Int)≤(↑l.length:Int))∧((q.snd++[Pair.mk k v]).length+(List.drop (↑q.fst:Int).toNat l).length≤1000000)∧(l=l)∧(k=k)∧(v=v)∧(q.snd++[Pair.mk k v]++List.drop (↑q.fst:Int).toNat l=putPair k v l)) ⟨(by omega),(by(simp;omega)),rfl,rfl,rfl,(by exact UI.end0 ‹_› ‹_›)⟩ trivial
def TI5 (k:List UInt8) (l:List Pair) (q:Nat × List Pair):Prop:=q.2++cutPair k (l.drop q.1)=cutPair k l∧q.1≤l.length∧q.2.length≤q.1
theorem TI5.start {k:List UInt8} {l:List Pair}:TI5 k l (0,[]):=⟨rfl,Nat.zero_le _,Nat.le_refl _⟩
theorem TI5.next {k:List UInt8} {l xs:List Pair} {i:Nat} (h:TI5 k l (i,xs)) (hi:(i:Int)<l.length) (he:(l.getD i dP).key≠k):TI5 k l (i+1,xs++[l.getD i dP])∧l.length - (i+1)<l.length - i:=by
  obtain⟨h1,h2,h3⟩:=h
  have h1:xs++cutPair k (l.drop i)=cutPair k l:=h1
  have h3:xs.length≤i:=h3
  refine⟨⟨?_,by omega,by simp;exact h3⟩,by omega⟩
  show(xs++[l.getD i dP])++cutPair k (l.drop (i+1))=_
  rw[← h1,drop_cons (d:=dP) hi];simp only[cutPair,List.filter_cons];rw[if_pos (by exact decide_eq_true he)];simp
theorem TI5.skip {k:List UInt8} {l xs:List Pair} {i:Nat} (h:TI5 k l (i,xs)) (hi:(i:Int)<l.length) (he:¬ (l.getD i dP).key≠k):TI5 k l (i+1,xs)∧l.length - (i+1)<l.length - i:=by
  obtain⟨h1,h2,h3⟩:=h
  have h1:xs++cutPair k (l.drop i)=cutPair k l:=h1
  have h3:xs.length≤i:=h3
  refine⟨⟨?_,by omega,by show xs.length≤i+1;omega⟩,by omega⟩
  show xs++cutPair k (l.drop (i+1))=_
  rw[← h1,drop_cons (d:=dP) hi];simp only[cutPair,List.filter_cons];rw[if_neg (by simpa using he)]
theorem TI5.stop {k:List UInt8} {l xs:List Pair} {i:Nat} (h:TI5 k l (i,xs)) (hi:¬ (i:Int)<l.length):xs=cutPair k l:=by
  have h1:xs++cutPair k (l.drop i)=cutPair k l:=h.1
  rw[← h1,List.drop_of_length_le (by omega)];simp[cutPair]
noncomputable def ccR11_66:Code:=(Tryd.f66.body).getD .skip
theorem CutPair_ok (l:List Pair) (k:List UInt8) (hl:l.length≤100000):FOk EN 66 ⟨[.rd 46 (l),.rd 5 (k)],[.n 0,.n 1],Unit,fun _=>([.rd 46 (l),.rd 5 (k),.ow 46 (cutPair k l)],.n 2),fun _=>True⟩:=by
 refine v_fun Tryd.f66 ccR11_66 MX (fun ν F σ w=>?_) Tryd.func66
 refine v_nl ?_
 refine v_loop (fun q:Nat × List Pair=>([(6,.i q.1),(5,.n 3)],[.ow 46 q.2])) (fun q=>TI5 k l q) (fun q=>l.length - q.1) (0,[]) [2] (((0:Int)=(↑(0:Nat):Int))∧(Eq (α:=List Pair) [] [])) ⟨rfl,rfl⟩ (by exact TI5.start) (fun q hk1=>?_)
 have i1:=(‹TI5 k l q›).2
 refine v_if (decide ((↑q.fst:Int)<(↑l.length:Int))) True trivial (fun h2=>?_) (fun h2=>?_)
 ·have h2:=of_decide_eq_true h2
  refine v_plan (.fs [0,1,2,3,4,5,6,7,8] .e) [3] True trivial ?_
  refine v_if (decide ((l.getD (↑q.fst:Int).toNat (Pair.mk [] [])).key≠k)) ((0≤(↑q.fst:Int)∧(↑q.fst:Int)<(↑l.length:Int))) (by omega) (fun h3=>?_) (fun h3=>?_)
  ·have h3:=of_decide_eq_true h3
   exact v_back ((q.fst+1,q.snd++[Pair.mk (l.getD (↑q.fst:Int).toNat (Pair.mk [] [])).key (l.getD (↑q.fst:Int).toNat (Pair.mk [] [])).value])) [11] ((0≤(↑q.fst:Int)∧(↑q.fst:Int)<(↑l.length:Int))∧(q.snd.length+1≤1000000)∧(I64 (↑q.fst+1))∧((↑q.fst:Int)+1=(↑(q.fst+1):Int))∧(q.snd++[Pair.mk (l.getD (↑q.fst:Int).toNat (Pair.mk [] [])).key (l.getD (↑q.fst:Int).toNat (Pair.mk [] [])).value]=q.snd++[Pair.mk (l.getD (↑q.fst:Int).toNat (Pair.mk [] [])).key (l.getD (↑q.fst:Int).toNat (Pair.mk [] [])).value])) ⟨(by omega),(by omega),(by(unfold I64;omega)),rfl,rfl⟩ (show TI5 k l (q.fst+1,q.snd++[Pair.mk (l.getD (↑q.fst:Int).toNat (Pair.mk [] [])).key (l.getD (↑q.fst:Int).toNat (Pair.mk [] [])).value])∧l.length - (q.fst+1)<l.length - q.fst from(by exact TI5.next ‹_› ‹_› ‹_›))
  ·have h3:=of_decide_eq_false h3
   exact v_back ((q.fst+1,q.snd)) [3] ((I64 (↑q.fst+1))∧((↑q.fst:Int)+1=(↑(q.fst+1):Int))∧(q.snd=q.snd)) ⟨(by(unfold I64;omega)),rfl,rfl⟩ (show TI5 k l (q.fst+1,q.snd)∧l.length - (q.fst+1)<l.length - q.fst from(by exact TI5.skip ‹_› ‹_› ‹_›))
 ·have h2:=of_decide_eq_false h2
  refine v_leave (.ex 0) True trivial ?_
  exact v_ret () [3] ((l=l)∧(k=k)∧(q.snd=cutPair k l)) ⟨rfl,rfl,(by exact TI5.stop ‹_› ‹_›)⟩ trivial
def isGt (a b:List UInt8):Bool:=!(Op.bytesLess a b || decide (a=b))
def bsG (k:List UInt8):List Pair→Nat→Int × Int→Int × Int
  | [],_,s=>s
  | x::xs,i,s=>bsG k xs (i+1) (if Op.bytesLess x.key k=true then(i:Int) else s.1,if isGt x.key k=true∧s.2<0 then(i:Int) else s.2)
def besideP (l:List Pair) (k:List UInt8):Int × Int:=bsG k l 0 (-1,-1)
def BI (l:List Pair) (k:List UInt8) (q:Nat × Int × Int):Prop:=bsG k (l.drop q.1) q.1 q.2=besideP l k∧q.1≤l.length
section
variable {l:List Pair} {k:List UInt8} {i:Nat} {a b:Int}
theorem BI.start:BI l k (0,-1,-1):=⟨rfl,Nat.zero_le _⟩
theorem BI.next (h:BI l k (i,a,b)) (hi:(i:Int)<l.length):BI l k (i+1,(if Op.bytesLess (l.getD i dP).key k=true then(i:Int) else a),(if isGt (l.getD i dP).key k=true∧b<0 then(i:Int) else b))∧l.length - (i+1)<l.length - i:=by
  obtain⟨h1,h2⟩:=h
  rw[drop_cons (d:=dP) hi,bsG] at h1
  exact⟨⟨h1,by omega⟩,by omega⟩
theorem BI.n1 (h:BI l k (i,a,b)) (hi:(i:Int)<l.length) (h1:Op.bytesLess (l.getD i dP).key k=true) (h2:isGt (l.getD i dP).key k=true) (h3:b<0):BI l k (i+1,(i:Int),(i:Int))∧l.length - (i+1)<l.length - i:=by
  have:=h.next hi;rwa [if_pos h1,if_pos ⟨h2,h3⟩] at this
theorem BI.n2 (h:BI l k (i,a,b)) (hi:(i:Int)<l.length) (h1:Op.bytesLess (l.getD i dP).key k=true) (h2:isGt (l.getD i dP).key k=false∨¬ b<0):BI l k (i+1,(i:Int),b)∧l.length - (i+1)<l.length - i:=by
  have:=h.next hi;rwa [if_pos h1,if_neg (by rintro ⟨x,y⟩;rcases h2 with h2 | h2;rw[h2] at x;cases x;exact h2 y)] at this
theorem BI.n3 (h:BI l k (i,a,b)) (hi:(i:Int)<l.length) (h1:Op.bytesLess (l.getD i dP).key k=false) (h2:isGt (l.getD i dP).key k=true) (h3:b<0):BI l k (i+1,a,(i:Int))∧l.length - (i+1)<l.length - i:=by
  have:=h.next hi;rwa [if_neg (by rw[h1];simp),if_pos ⟨h2,h3⟩] at this
theorem BI.n4 (h:BI l k (i,a,b)) (hi:(i:Int)<l.length) (h1:Op.bytesLess (l.getD i dP).key k=false) (h2:isGt (l.getD i dP).key k=false∨¬ b<0):BI l k (i+1,a,b)∧l.length - (i+1)<l.length - i:=by
  have:=h.next hi;rwa [if_neg (by rw[h1];simp),if_neg (by rintro ⟨x,y⟩;rcases h2 with h2 | h2;rw[h2] at x;cases x;exact h2 y)] at this
theorem BI.stop (h:BI l k (i,a,b)) (hi:¬ (i:Int)<l.length):a=(besideP l k).1∧b=(besideP l k).2:=by
  have h1:=h.1;rw[List.drop_of_length_le (by omega),bsG] at h1;rw[← h1];exact⟨rfl,rfl⟩
end
theorem sg_m {a b:Option Proof} (h:(a.isNone != b.isNone)=true):decide (a=b)=false:=by cases a <;> cases b <;> simp at h ⊢
theorem sg_2 {y v:Proof}:decide (gp (some y)=gp (some v))=(decide ((none:Option Proof)=none) && decide (some y=some v)):=by
  rw[Bool.eq_iff_iff];simp only[Bool.and_eq_true,decide_eq_true_eq];exact⟨fun h=>⟨trivial,congrArg some h⟩,fun h=>Option.some.inj h.2⟩
theorem sg_4 {x u y v:Proof} (h:gp (some x)=gp (some u)):decide (gp (some y)=gp (some v))=(decide (some x=some u) && decide (some y=some v)):=by
  rw[Bool.eq_iff_iff];simp only[Bool.and_eq_true,decide_eq_true_eq];exact⟨fun q=>⟨congrArg some h,congrArg some q⟩,fun h=>Option.some.inj h.2⟩
theorem sg_3t {x u:Proof} (h:gp (some x)=gp (some u)):true=(decide (some x=some u) && decide ((none:Option Proof)=none)):=by
  have h:x=u:=h
  subst h;simp
theorem sg_3f {x u:Proof} {c:Bool} (h:¬ gp (some x)=gp (some u)):false=(decide (some x=some u) && c):=by
  have:¬ some x=some u:=fun e=>h (congrArg gp e)
  rw[decide_eq_false this];rfl
noncomputable def ccR12_20:Code:=(Tryd.f20.body).getD .skip
theorem SameGap_m1 (al ar bl br:Option Proof)  (h:(al.isNone != bl.isNone)=true):FOk EN 20 ⟨[.pt 26 al,.pt 26 ar,.pt 26 bl,.pt 26 br],[.a [.n 0,.n 1],.a [.n 2,.n 3]],Unit,fun _=>([.pt 26 al,.pt 26 ar,.pt 26 bl,.pt 26 br],.b (decide (al=bl) && decide (ar=br))),fun _=>True⟩:=by
 refine v_fun Tryd.f20 ccR12_20 MX (fun ν F σ w=>?_) Tryd.func20
 refine v_nl ?_
 refine v_guard 12 (al.isNone != bl.isNone) True trivial (fun h1=>?_) (fun h1=>?_)
 ·skip
  exact v_ret () [] ((false=(decide (al=bl) && decide (ar=br)))∧(al=al)∧(ar=ar)∧(bl=bl)∧(br=br)) ⟨(by(rw[sg_m ‹_›];rfl)),rfl,rfl,rfl,rfl⟩ trivial
 ·skip
  exfalso;(simp_all;done)
theorem SameGap_m2 (al ar bl br:Option Proof)  (h:(ar.isNone != br.isNone)=true):FOk EN 20 ⟨[.pt 26 al,.pt 26 ar,.pt 26 bl,.pt 26 br],[.a [.n 0,.n 1],.a [.n 2,.n 3]],Unit,fun _=>([.pt 26 al,.pt 26 ar,.pt 26 bl,.pt 26 br],.b (decide (al=bl) && decide (ar=br))),fun _=>True⟩:=by
 refine v_fun Tryd.f20 ccR12_20 MX (fun ν F σ w=>?_) Tryd.func20
 refine v_nl ?_
 refine v_guard 12 (al.isNone != bl.isNone) True trivial (fun h1=>?_) (fun h1=>?_)
 ·skip
  exact v_ret () [] ((false=(decide (al=bl) && decide (ar=br)))∧(al=al)∧(ar=ar)∧(bl=bl)∧(br=br)) ⟨(by(rw[sg_m ‹_›];cases decide (al=bl) <;> rfl)),rfl,rfl,rfl,rfl⟩ trivial
 ·skip
  refine v_if (ar.isNone != br.isNone) True trivial (fun h2=>?_) (fun h2=>?_)
  ·skip
   exact v_ret () [] ((false=(decide (al=bl) && decide (ar=br)))∧(al=al)∧(ar=ar)∧(bl=bl)∧(br=br)) ⟨(by(rw[sg_m (a:=ar) (b:=br) h];cases decide (al=bl) <;> rfl)),rfl,rfl,rfl,rfl⟩ trivial
  ·skip
   exfalso;(simp_all;done)
theorem SameGap_1  : FOk EN 20 ⟨[.pt 26 (none:Option Proof),.pt 26 (none:Option Proof),.pt 26 (none:Option Proof),.pt 26 (none:Option Proof)],[.a [.n 0,.n 1],.a [.n 2,.n 3]],Unit,fun _=>([.pt 26 (none:Option Proof),.pt 26 (none:Option Proof),.pt 26 (none:Option Proof),.pt 26 (none:Option Proof)],.b (decide ((none:Option Proof)=(none:Option Proof)) && decide ((none:Option Proof)=(none:Option Proof)))),fun _=>True⟩:=by
 refine v_fun Tryd.f20 ccR12_20 MX (fun ν F σ w=>?_) Tryd.func20
 refine v_nl ?_
 refine v_guard 12 (true != true) True trivial (fun h1=>?_) (fun h1=>?_)
 ·skip
  contradiction
 ·skip
  refine v_if (true != true) True trivial (fun h2=>?_) (fun h2=>?_)
  ·skip
   contradiction
  ·skip
   refine v_plan (.fs [0,1,2,3,4,5,6,7,8,9,10,11] (.o 12 (.fs [13,14,15,16,17,18,19,20,21,22,23,24,25,26] (.o 27 (.fs [28,29,30] .e))))) [5,6] True trivial ?_
   refine v_guard 24 (true) True trivial (fun h3=>?_) (fun h3=>?_)
   ·skip
    refine v_guard 39 (true) True trivial (fun h4=>?_) (fun h4=>?_)
    ·skip
     exact v_ret () [] ((true=(decide (Eq (α:=Option Proof) none none) && decide (Eq (α:=Option Proof) none none)))∧(Eq (α:=Option Proof) none none)∧(Eq (α:=Option Proof) none none)∧(Eq (α:=Option Proof) none none)∧(Eq (α:=Option Proof) none none)) ⟨rfl,rfl,rfl,rfl,rfl⟩ trivial
    ·skip
     contradiction
   ·skip
    contradiction
theorem SameGap_2 (y v:Proof)  (hy:y.turns.length≤1000000) (hv:v.turns.length≤1000000):FOk EN 20 ⟨[.pt 26 (none:Option Proof),.pt 26 (some y),.pt 26 (none:Option Proof),.pt 26 (some v)],[.a [.n 0,.n 1],.a [.n 2,.n 3]],Unit,fun _=>([.pt 26 (none:Option Proof),.pt 26 (some y),.pt 26 (none:Option Proof),.pt 26 (some v)],.b (decide ((none:Option Proof)=(none:Option Proof)) && decide ((some y)=(some v)))),fun _=>True⟩:=by
 refine v_fun Tryd.f20 ccR12_20 MX (fun ν F σ w=>?_) Tryd.func20
 refine v_nl ?_
 refine v_guard 12 (true != true) True trivial (fun h1=>?_) (fun h1=>?_)
 ·skip
  contradiction
 ·skip
  refine v_if (false != false) True trivial (fun h2=>?_) (fun h2=>?_)
  ·skip
   contradiction
  ·skip
   refine v_open 1 (open_pf (some y) rfl) ((@Eq PP (PPt GT (@OfNat.ofNat Nat (nat_lit 26) (instOfNatNat (nat_lit 26))) (@some Proof y)) (PPt GT (@OfNat.ofNat Nat (nat_lit 26) (instOfNatNat (nat_lit 26))) (@some Proof y)))) rfl ?_
   refine v_open 3 (open_pf (some v) rfl) ((@Eq PP (PPt GT (@OfNat.ofNat Nat (nat_lit 26) (instOfNatNat (nat_lit 26))) (@some Proof v)) (PPt GT (@OfNat.ofNat Nat (nat_lit 26) (instOfNatNat (nat_lit 26))) (@some Proof v)))) rfl ?_
   refine v_plan (.fs [0,1,2,3,4,5,6,7,8,9,10,11] (.o 12 (.fs [13,14,15,16,17,18,19,20,21,22,23,24,25,26] (.o 27 (.fs [28,29,30] .e))))) [5,6] True trivial ?_
   refine v_guard 24 (true) True trivial (fun h3=>?_) (fun h3=>?_)
   ·skip
    refine v_call _ [7,8,9,10,11,12] (SameProof_ok ((gp (some y)).key) ((gp (some y)).value) ((gp (some v)).key) ((gp (some v)).value) ((gp (some y)).turns) ((gp (some v)).turns) ‹_› ‹_›) (((gp (some y)).key=(gp (some y)).key)∧((gp (some y)).value=(gp (some y)).value)∧((gp (some y)).turns=(gp (some y)).turns)∧((gp (some v)).key=(gp (some v)).key)∧((gp (some v)).value=(gp (some v)).value)∧((gp (some v)).turns=(gp (some v)).turns)) ⟨rfl,rfl,rfl,rfl,rfl,rfl⟩ (fun g4 p5=>?_)
    have p5:True:=p5
    exact v_ret () [] ((decide (Proof.mk (gp (some y)).key (gp (some y)).value (gp (some y)).turns=Proof.mk (gp (some v)).key (gp (some v)).value (gp (some v)).turns)=(decide (Eq (α:=Option Proof) none none) && decide (some y=some v)))∧(Eq (α:=Option Proof) none none)∧(PLe (PPt GT (@OfNat.ofNat Nat (nat_lit 26) (instOfNatNat (nat_lit 26))) (@some Proof y)) (PPt GT (@OfNat.ofNat Nat (nat_lit 26) (instOfNatNat (nat_lit 26))) (@some Proof y)))∧(Eq (α:=Option Proof) none none)∧(PLe (PPt GT (@OfNat.ofNat Nat (nat_lit 26) (instOfNatNat (nat_lit 26))) (@some Proof v)) (PPt GT (@OfNat.ofNat Nat (nat_lit 26) (instOfNatNat (nat_lit 26))) (@some Proof v)))) ⟨(by exact sg_2),rfl,fun _ _ _ h=>h,rfl,fun _ _ _ h=>h⟩ trivial
   ·skip
    contradiction
theorem SameGap_3 (x u:Proof)  (hx:x.turns.length≤1000000) (hu:u.turns.length≤1000000):FOk EN 20 ⟨[.pt 26 (some x),.pt 26 (none:Option Proof),.pt 26 (some u),.pt 26 (none:Option Proof)],[.a [.n 0,.n 1],.a [.n 2,.n 3]],Unit,fun _=>([.pt 26 (some x),.pt 26 (none:Option Proof),.pt 26 (some u),.pt 26 (none:Option Proof)],.b (decide ((some x)=(some u)) && decide ((none:Option Proof)=(none:Option Proof)))),fun _=>True⟩:=by
 refine v_fun Tryd.f20 ccR12_20 MX (fun ν F σ w=>?_) Tryd.func20
 refine v_nl ?_
 refine v_guard 12 (false != false) True trivial (fun h1=>?_) (fun h1=>?_)
 ·skip
  contradiction
 ·skip
  refine v_if (true != true) True trivial (fun h2=>?_) (fun h2=>?_)
  ·skip
   contradiction
  ·skip
   refine v_open 0 (open_pf (some x) rfl) ((@Eq PP (PPt GT (@OfNat.ofNat Nat (nat_lit 26) (instOfNatNat (nat_lit 26))) (@some Proof x)) (PPt GT (@OfNat.ofNat Nat (nat_lit 26) (instOfNatNat (nat_lit 26))) (@some Proof x)))) rfl ?_
   refine v_open 2 (open_pf (some u) rfl) ((@Eq PP (PPt GT (@OfNat.ofNat Nat (nat_lit 26) (instOfNatNat (nat_lit 26))) (@some Proof u)) (PPt GT (@OfNat.ofNat Nat (nat_lit 26) (instOfNatNat (nat_lit 26))) (@some Proof u)))) rfl ?_
   refine v_plan (.fs [0,1,2,3,4,5,6,7,8,9,10,11] (.o 12 (.fs [13,14,15,16,17,18,19,20,21,22,23,24,25,26] (.o 27 (.fs [28,29,30] .e))))) [5,6] True trivial ?_
   refine v_call _ [7,8,9,10,11,12] (SameProof_ok ((gp (some x)).key) ((gp (some x)).value) ((gp (some u)).key) ((gp (some u)).value) ((gp (some x)).turns) ((gp (some u)).turns) ‹_› ‹_›) (((gp (some x)).key=(gp (some x)).key)∧((gp (some x)).value=(gp (some x)).value)∧((gp (some x)).turns=(gp (some x)).turns)∧((gp (some u)).key=(gp (some u)).key)∧((gp (some u)).value=(gp (some u)).value)∧((gp (some u)).turns=(gp (some u)).turns)) ⟨rfl,rfl,rfl,rfl,rfl,rfl⟩ (fun g3 p4=>?_)
   have p4:True:=p4
   refine v_guard 35 (decide (Proof.mk (gp (some x)).key (gp (some x)).value (gp (some x)).turns=Proof.mk (gp (some u)).key (gp (some u)).value (gp (some u)).turns)) True trivial (fun h5=>?_) (fun h5=>?_)
   ·have h5:=of_decide_eq_true h5
    refine v_guard 39 (true) True trivial (fun h6=>?_) (fun h6=>?_)
    ·skip
     exact v_ret () [] ((true=(decide (some x=some u) && decide (Eq (α:=Option Proof) none none)))∧(PLe (PPt GT (@OfNat.ofNat Nat (nat_lit 26) (instOfNatNat (nat_lit 26))) (@some Proof x)) (PPt GT (@OfNat.ofNat Nat (nat_lit 26) (instOfNatNat (nat_lit 26))) (@some Proof x)))∧(Eq (α:=Option Proof) none none)∧(PLe (PPt GT (@OfNat.ofNat Nat (nat_lit 26) (instOfNatNat (nat_lit 26))) (@some Proof u)) (PPt GT (@OfNat.ofNat Nat (nat_lit 26) (instOfNatNat (nat_lit 26))) (@some Proof u)))∧(Eq (α:=Option Proof) none none)) ⟨(by exact sg_3t ‹_›),fun _ _ _ h=>h,rfl,fun _ _ _ h=>h,rfl⟩ trivial
    ·skip
     contradiction
   ·have h5:=of_decide_eq_false h5
    exact v_ret () [] ((false=(decide (some x=some u) && decide (Eq (α:=Option Proof) none none)))∧(PLe (PPt GT (@OfNat.ofNat Nat (nat_lit 26) (instOfNatNat (nat_lit 26))) (@some Proof x)) (PPt GT (@OfNat.ofNat Nat (nat_lit 26) (instOfNatNat (nat_lit 26))) (@some Proof x)))∧(Eq (α:=Option Proof) none none)∧(PLe (PPt GT (@OfNat.ofNat Nat (nat_lit 26) (instOfNatNat (nat_lit 26))) (@some Proof u)) (PPt GT (@OfNat.ofNat Nat (nat_lit 26) (instOfNatNat (nat_lit 26))) (@some Proof u)))∧(Eq (α:=Option Proof) none none)) ⟨(by exact sg_3f ‹_›),fun _ _ _ h=>h,rfl,fun _ _ _ h=>h,rfl⟩ trivial
theorem SameGap_4 (x y u v:Proof)  (hx:x.turns.length≤1000000) (hu:u.turns.length≤1000000) (hy:y.turns.length≤1000000) (hv:v.turns.length≤1000000):FOk EN 20 ⟨[.pt 26 (some x),.pt 26 (some y),.pt 26 (some u),.pt 26 (some v)],[.a [.n 0,.n 1],.a [.n 2,.n 3]],Unit,fun _=>([.pt 26 (some x),.pt 26 (some y),.pt 26 (some u),.pt 26 (some v)],.b (decide ((some x)=(some u)) && decide ((some y)=(some v)))),fun _=>True⟩:=by
 refine v_fun Tryd.f20 ccR12_20 MX (fun ν F σ w=>?_) Tryd.func20
 refine v_nl ?_
 refine v_guard 12 (false != false) True trivial (fun h1=>?_) (fun h1=>?_)
 ·skip
  contradiction
 ·skip
  refine v_if (false != false) True trivial (fun h2=>?_) (fun h2=>?_)
  ·skip
   contradiction
  ·skip
   refine v_open 0 (open_pf (some x) rfl) ((@Eq PP (PPt GT (@OfNat.ofNat Nat (nat_lit 26) (instOfNatNat (nat_lit 26))) (@some Proof x)) (PPt GT (@OfNat.ofNat Nat (nat_lit 26) (instOfNatNat (nat_lit 26))) (@some Proof x)))) rfl ?_
   refine v_open 2 (open_pf (some u) rfl) ((@Eq PP (PPt GT (@OfNat.ofNat Nat (nat_lit 26) (instOfNatNat (nat_lit 26))) (@some Proof u)) (PPt GT (@OfNat.ofNat Nat (nat_lit 26) (instOfNatNat (nat_lit 26))) (@some Proof u)))) rfl ?_
   refine v_open 1 (open_pf (some y) rfl) ((@Eq PP (PPt GT (@OfNat.ofNat Nat (nat_lit 26) (instOfNatNat (nat_lit 26))) (@some Proof y)) (PPt GT (@OfNat.ofNat Nat (nat_lit 26) (instOfNatNat (nat_lit 26))) (@some Proof y)))) rfl ?_
   refine v_open 3 (open_pf (some v) rfl) ((@Eq PP (PPt GT (@OfNat.ofNat Nat (nat_lit 26) (instOfNatNat (nat_lit 26))) (@some Proof v)) (PPt GT (@OfNat.ofNat Nat (nat_lit 26) (instOfNatNat (nat_lit 26))) (@some Proof v)))) rfl ?_
   refine v_plan (.fs [0,1,2,3,4,5,6,7,8,9,10,11] (.o 12 (.fs [13,14,15,16,17,18,19,20,21,22,23,24,25,26] (.o 27 (.fs [28,29,30] .e))))) [5,6] True trivial ?_
   refine v_call _ [7,8,9,10,11,12] (SameProof_ok ((gp (some x)).key) ((gp (some x)).value) ((gp (some u)).key) ((gp (some u)).value) ((gp (some x)).turns) ((gp (some u)).turns) ‹_› ‹_›) (((gp (some x)).key=(gp (some x)).key)∧((gp (some x)).value=(gp (some x)).value)∧((gp (some x)).turns=(gp (some x)).turns)∧((gp (some u)).key=(gp (some u)).key)∧((gp (some u)).value=(gp (some u)).value)∧((gp (some u)).turns=(gp (some u)).turns)) ⟨rfl,rfl,rfl,rfl,rfl,rfl⟩ (fun g3 p4=>?_)
   have p4:True:=p4
   refine v_guard 35 (decide (Proof.mk (gp (some x)).key (gp (some x)).value (gp (some x)).turns=Proof.mk (gp (some u)).key (gp (some u)).value (gp (some u)).turns)) True trivial (fun h5=>?_) (fun h5=>?_)
   ·have h5:=of_decide_eq_true h5
    refine v_call _ [13,14,15,16,17,18] (SameProof_ok ((gp (some y)).key) ((gp (some y)).value) ((gp (some v)).key) ((gp (some v)).value) ((gp (some y)).turns) ((gp (some v)).turns) ‹_› ‹_›) (((gp (some y)).key=(gp (some y)).key)∧((gp (some y)).value=(gp (some y)).value)∧((gp (some y)).turns=(gp (some y)).turns)∧((gp (some v)).key=(gp (some v)).key)∧((gp (some v)).value=(gp (some v)).value)∧((gp (some v)).turns=(gp (some v)).turns)) ⟨rfl,rfl,rfl,rfl,rfl,rfl⟩ (fun g6 p7=>?_)
    have p7:True:=p7
    exact v_ret () [] ((decide (Proof.mk (gp (some y)).key (gp (some y)).value (gp (some y)).turns=Proof.mk (gp (some v)).key (gp (some v)).value (gp (some v)).turns)=(decide (some x=some u) && decide (some y=some v)))∧(PLe (PPt GT (@OfNat.ofNat Nat (nat_lit 26) (instOfNatNat (nat_lit 26))) (@some Proof x)) (PPt GT (@OfNat.ofNat Nat (nat_lit 26) (instOfNatNat (nat_lit 26))) (@some Proof x)))∧(PLe (PPt GT (@OfNat.ofNat Nat (nat_lit 26) (instOfNatNat (nat_lit 26))) (@some Proof y)) (PPt GT (@OfNat.ofNat Nat (nat_lit 26) (instOfNatNat (nat_lit 26))) (@some Proof y)))∧(PLe (PPt GT (@OfNat.ofNat Nat (nat_lit 26) (instOfNatNat (nat_lit 26))) (@some Proof u)) (PPt GT (@OfNat.ofNat Nat (nat_lit 26) (instOfNatNat (nat_lit 26))) (@some Proof u)))∧(PLe (PPt GT (@OfNat.ofNat Nat (nat_lit 26) (instOfNatNat (nat_lit 26))) (@some Proof v)) (PPt GT (@OfNat.ofNat Nat (nat_lit 26) (instOfNatNat (nat_lit 26))) (@some Proof v)))) ⟨(by exact sg_4 ‹_›),fun _ _ _ h=>h,fun _ _ _ h=>h,fun _ _ _ h=>h,fun _ _ _ h=>h⟩ trivial
   ·have h5:=of_decide_eq_false h5
    exact v_ret () [] ((false=(decide (some x=some u) && decide (some y=some v)))∧(PLe (PPt GT (@OfNat.ofNat Nat (nat_lit 26) (instOfNatNat (nat_lit 26))) (@some Proof x)) (PPt GT (@OfNat.ofNat Nat (nat_lit 26) (instOfNatNat (nat_lit 26))) (@some Proof x)))∧(PLe (PPt GT (@OfNat.ofNat Nat (nat_lit 26) (instOfNatNat (nat_lit 26))) (@some Proof y)) (PPt GT (@OfNat.ofNat Nat (nat_lit 26) (instOfNatNat (nat_lit 26))) (@some Proof y)))∧(PLe (PPt GT (@OfNat.ofNat Nat (nat_lit 26) (instOfNatNat (nat_lit 26))) (@some Proof u)) (PPt GT (@OfNat.ofNat Nat (nat_lit 26) (instOfNatNat (nat_lit 26))) (@some Proof u)))∧(PLe (PPt GT (@OfNat.ofNat Nat (nat_lit 26) (instOfNatNat (nat_lit 26))) (@some Proof v)) (PPt GT (@OfNat.ofNat Nat (nat_lit 26) (instOfNatNat (nat_lit 26))) (@some Proof v)))) ⟨(by exact sg_3f ‹_›),fun _ _ _ h=>h,fun _ _ _ h=>h,fun _ _ _ h=>h,fun _ _ _ h=>h⟩ trivial
theorem SameGap_ok (al ar bl br:Option Proof) (h1:(gp al).turns.length≤1000000) (h2:(gp ar).turns.length≤1000000) (h3:(gp bl).turns.length≤1000000) (h4:(gp br).turns.length≤1000000):FOk EN 20 ⟨[.pt 26 al,.pt 26 ar,.pt 26 bl,.pt 26 br],[.a [.n 0,.n 1],.a [.n 2,.n 3]],Unit,fun _=>([.pt 26 al,.pt 26 ar,.pt 26 bl,.pt 26 br],.b (decide (al=bl) && decide (ar=br))),fun _=>True⟩:=by
  by_cases m1:(al.isNone != bl.isNone)=true
  · exact SameGap_m1 al ar bl br m1
  · by_cases m2 : (ar.isNone != br.isNone) = true
    · exact SameGap_m2 al ar bl br m2
    · cases al with
      | none => cases bl with
        | some _=>simp at m1
        | none => cases ar with
          | none => cases br with
            | some _=>simp at m2
            | none=>exact SameGap_1
          | some y => cases br with
            | none=>simp at m2
            | some v=>exact SameGap_2 y v h2 h4
      | some x => cases bl with
        | none=>simp at m1
        | some u => cases ar with
          | none => cases br with
            | some _=>simp at m2
            | none=>exact SameGap_3 x u h1 h3
          | some y => cases br with
            | none=>simp at m2
            | some v=>exact SameGap_4 x y u v h1 h3 h2 h4
namespace Tr
theorem bal_depth (l r:Tr):(l.bal r).depth=l.depth+r.depth+1:=by
  unfold bal
  split
  · cases l with
    | leaf a b=>rfl
    | node a b =>
      dsimp only
      split
      · cases b with
        | leaf c d=>rfl
        | node c d=>simp only[depth];omega
      · simp only[depth];omega
  · split
    · cases r with
      | leaf a b=>rfl
      | node a b =>
        dsimp only
        split
        · cases a with
          | leaf c d=>rfl
          | node c d=>simp only[depth];omega
        · simp only[depth];omega
    · rfl
theorem put_depth (k v:List UInt8):∀ t:Tr,(t.put k v).depth≤t.depth+1
  | leaf a b=>by unfold put;split;simp[depth];split;simp[depth];simp[depth]
  | node l r => by
    have h1:=put_depth k v l;have h2:=put_depth k v r
    unfold put;split <;> rw[bal_depth] <;> simp only[depth] <;> omega
theorem cut_depth {k:List UInt8}:∀ {t t':Tr},t.cut k=some (some t')→t'.depth≤t.depth
  | leaf a b,t',e=>by unfold cut at e;split at e <;> simp at e
  | node l r, t', e => by
    unfold cut at e
    split at e
    · split at e
      · simp at e
      · simp at e;subst e;simp only[depth];omega
      · rename_i l' hl;simp at e;subst e;rw[bal_depth];have:=cut_depth hl;simp only[depth];omega
    · split at e
      · simp at e
      · simp at e;subst e;simp only[depth];omega
      · rename_i r' hr;simp at e;subst e;rw[bal_depth];have:=cut_depth hr;simp only[depth];omega
theorem height_depth:∀ t:Tr,t.height≤t.depth
  | leaf _ _=>Int.le_refl _
  | node l r=>by have h1:=height_depth l;have h2:=height_depth r;simp only[height,depth];omega
theorem leaves_len:∀ t:Tr,t.leaves.length=t.depth+1
  | leaf _ _=>rfl
  | node l r=>by simp[leaves,leaves_len l,leaves_len r,depth];omega
end Tr
/-- A tree of at most n keys, none too long. -/
def okN (n:Nat) (o:Option Tr):Prop:=∀ t,o=some t→t.Ks∧t.depth+1≤n
theorem okN.O {n:Nat} {o:Option Tr} (h:okN n o) (hn:n≤600):okO o:=fun t e=>by
  obtain⟨h1,h2⟩:=h t e
  have:=t.height_depth
  exact⟨h1,by omega,by omega⟩
theorem okN.leaves {n:Nat} {o:Option Tr} (h:okN n o):(leavesO o).length≤n:=by
  cases o with
  | none=>exact Nat.zero_le _
  | some t=>obtain⟨_,h2⟩:=h t rfl;show t.leaves.length≤n;rw[t.leaves_len];exact h2
theorem okN.put {n:Nat} {o:Option Tr} {k v:List UInt8} (h:okN n o) (hk:k.length≤1000) (hv:v.length≤1000):okN (n+1) (putO k v o):=fun t e=>by
  cases o with
  | none=>injection e with e;subst e;exact⟨⟨hk,hv⟩,by simp[Tr.depth]⟩
  | some s =>
    injection e with e;subst e
    obtain⟨h1,h2⟩:=h s rfl
    have:=s.put_depth k v
    exact⟨Tr.put_Ks ⟨hk,hv⟩ h1,by omega⟩
theorem okN.cut {n:Nat} {o:Option Tr} {k:List UInt8} (h:okN n o):okN (n+1) (cutO k o):=fun t e=>by
  cases o with
  | none=>simp[cutO] at e
  | some s =>
    obtain⟨h1,h2⟩:=h s rfl
    have e:(match s.cut k with | none=>some s | some r=>r)=some t:=e
    cases c:s.cut k with
    | none=>rw[c] at e;injection e with e;subst e;exact⟨h1,by omega⟩
    | some r=>rw[c] at e;have e:r=some t:=e;subst e;exact⟨Tr.cut_Ks h1 c,by have:=Tr.cut_depth c;omega⟩
theorem putPair_len (k v:List UInt8):∀ l:List Pair,(putPair k v l).length≤l.length+1
  | []=>Nat.le_refl _
  | x::xs=>by have:=putPair_len k v xs;unfold putPair;split;simpa using this;split <;> simp
def valA (a:Act):List UInt8:=a.value.take (if 100<(a.value.length:Int) then 100 else(a.value.length:Int)).toNat
def stepA (a:Act) (s:Option Tr × List Pair):Option Tr × List Pair :=
  if a.kind % 6<4 then(putO (keyA a) (valA a) s.1,putPair (keyA a) (valA a) s.2) else(cutO (keyA a) s.1,cutPair (keyA a) s.2)
def growG:Nat→List Act→Option Tr × List Pair→Option Tr × List Pair
  | 0,_,s=>s
  | _,[],s=>s
  | n+1,a::l,s=>if 90<(keyA a).length then s else growG n l (stepA a s)
def growT (acts:List Act) (most:Nat):Option Tr × List Pair:=growG most acts (none,[])
abbrev dA:Act:=⟨0,0,[],[]⟩
def GrI (acts:List Act) (m:Nat) (q:Nat × Option Tr × List Pair):Prop:=growG (m - q.1) (acts.drop q.1) q.2=growT acts m∧q.1≤m∧q.1≤acts.length∧okN q.1 q.2.1∧q.2.2.length≤q.1
theorem keyA_pos (a:Act):1≤(keyA a).length:=by unfold keyA;split;assumption;simp
theorem valA_len (a:Act):(valA a).length≤100:=by unfold valA;rw[List.length_take];split <;> omega
section
variable {acts:List Act} {m i:Nat} {o:Option Tr} {l:List Pair}
theorem GrI.start:GrI acts m (0,none,[]):=⟨rfl,Nat.zero_le _,Nat.zero_le _,fun t e=>by simp at e,Nat.le_refl _⟩
theorem GrI.stop1 (h:GrI acts m (i,o,l)) (hi:¬ (i:Int)<acts.length):growT acts m=(o,l):=by
  have h:=h.1;rw[List.drop_of_length_le (by omega)] at h;rw[← h];cases(m - i) <;> rfl
theorem GrI.stop2 (h:GrI acts m (i,o,l)) (hi:(m:Int)≤i):growT acts m=(o,l):=by
  have h:=h.1;rw[show m - i=0 by omega] at h;rw[← h];rfl
theorem GrI.stop3 (h:GrI acts m (i,o,l)) (hi:(i:Int)<acts.length) (hm:¬ (m:Int)≤i) (hk:90<((keyA (acts.getD i dA)).length:Int)):growT acts m=(o,l):=by
  have h:=h.1;rw[show m - i=(m - i - 1)+1 by omega,drop_cons (d:=dA) hi,growG,if_pos (by omega)] at h;rw[← h]
theorem GrI.next (h:GrI acts m (i,o,l)) (hi:(i:Int)<acts.length) (hm:¬ (m:Int)≤i) (hk:¬ 90<((keyA (acts.getD i dA)).length:Int)):growG (m - (i+1)) (acts.drop (i+1)) (stepA (acts.getD i dA) (o,l))=growT acts m:=by
  have h:=h.1;rw[show m - i=(m - i - 1)+1 by omega,drop_cons (d:=dA) hi,growG,if_neg (by omega)] at h
  rw[← h,show m - (i+1)=m - i - 1 by omega]
theorem GrI.put (h:GrI acts m (i,o,l)) (hi:(i:Int)<acts.length) (hm:¬ (m:Int)≤i) (hk:¬ 90<((keyA (acts.getD i dA)).length:Int)) (h6:(acts.getD i dA).kind % 6<4):GrI acts m (i+1,putO (keyA (acts.getD i dA)) (valA (acts.getD i dA)) o,putPair (keyA (acts.getD i dA)) (valA (acts.getD i dA)) l)∧acts.length - (i+1)<acts.length - i:=by
  have hn:=h.next hi hm hk
  obtain⟨a1,a2,a3,a4,a5⟩:=h
  rw[stepA,if_pos h6] at hn
  have a5:l.length≤i:=a5
  have:=putPair_len (keyA (acts.getD i dA)) (valA (acts.getD i dA)) l
  refine⟨⟨hn,by show i+1≤m;omega,by show i+1≤acts.length;omega,okN.put a4 (by omega) (by have:=valA_len (acts.getD i dA);omega),by show(putPair _ _ l).length≤i+1;omega⟩,by omega⟩
theorem GrI.cut (h:GrI acts m (i,o,l)) (hi:(i:Int)<acts.length) (hm:¬ (m:Int)≤i) (hk:¬ 90<((keyA (acts.getD i dA)).length:Int)) (h6:¬ (acts.getD i dA).kind % 6<4):GrI acts m (i+1,cutO (keyA (acts.getD i dA)) o,cutPair (keyA (acts.getD i dA)) l)∧acts.length - (i+1)<acts.length - i:=by
  have hn:=h.next hi hm hk
  obtain⟨a1,a2,a3,a4,a5⟩:=h
  rw[stepA,if_neg h6] at hn
  have a5:l.length≤i:=a5
  have:(cutPair (keyA (acts.getD i dA)) l).length≤l.length:=List.length_filter_le ..
  refine⟨⟨hn,by show i+1≤m;omega,by show i+1≤acts.length;omega,okN.cut a4,by show(cutPair _ l).length≤i+1;omega⟩,by omega⟩
end
noncomputable def ccR13_21:Code:=(Tryd.f21.body).getD .skip
theorem Grow_ok (acts:List Act) (m:Nat) (hm:m≤100):FOk EN 21 ⟨[.pr wordsP,.rd 133 acts],[.n 1,.i m],Unit,fun _=>([.pr wordsP,.rd 133 acts,.pn (PTO (growT acts m).1) false false,.ow 46 ((growT acts m).2)],.t [.p 2 0,.n 3]),fun _=>True⟩:=by
 refine v_fun Tryd.f21 ccR13_21 MX (fun ν F σ w=>?_) Tryd.func21
 refine v_nl ?_
 refine v_call _ [0] (new_ok) ((wordsP=wordsP)) rfl (fun g1 p2=>?_)
 have p2:True:=p2
 refine v_loop (fun q:Nat × Option Tr × List Pair=>([(15,.i q.1),(6,.p 4 0),(7,.n 5)],[.pn (PTO q.2.1) false false,.ow 46 q.2.2])) (fun q=>GrI acts m q) (fun q=>acts.length - q.1) (0,none,[]) [3,2] (((0:Int)=(↑(0:Nat):Int))∧(PTO none=PTO none)∧(false=false)∧(Eq (α:=List Pair) [] [])) ⟨rfl,rfl,rfl,rfl⟩ (by exact GrI.start) (fun q hk3=>?_)
 have i1:=(‹GrI acts m q›).2
 refine v_if (decide ((↑q.fst:Int)<(↑acts.length:Int))) True trivial (fun h4=>?_) (fun h4=>?_)
 ·have h4:=of_decide_eq_true h4
  refine v_plan (.fs [0,2,3,4,5,6,7,8] (.o 1 (.fs [9,10] .e))) [5,9] ((0≤(↑q.fst:Int)∧(↑q.fst:Int)<(↑acts.length:Int))) (by omega) ?_
  refine v_call _ [6,7] (Key_ok (acts.getD (↑q.fst:Int).toNat (Act.mk 0 0 [] []))) (((0≤if 100<(↑(acts.getD (↑q.fst:Int).toNat (Act.mk 0 0 [] [])).value.length:Int) then 100 else(↑(acts.getD (↑q.fst:Int).toNat (Act.mk 0 0 [] [])).value.length:Int))∧(if 100<(↑(acts.getD (↑q.fst:Int).toNat (Act.mk 0 0 [] [])).value.length:Int) then 100 else(↑(acts.getD (↑q.fst:Int).toNat (Act.mk 0 0 [] [])).value.length:Int))≤(↑(acts.getD (↑q.fst:Int).toNat (Act.mk 0 0 [] [])).value.length:Int))∧((acts.getD (↑q.fst:Int).toNat (Act.mk 0 0 [] [])).kind=(acts.getD (↑q.fst:Int).toNat (Act.mk 0 0 [] [])).kind)∧((acts.getD (↑q.fst:Int).toNat (Act.mk 0 0 [] [])).k=(acts.getD (↑q.fst:Int).toNat (Act.mk 0 0 [] [])).k)∧((acts.getD (↑q.fst:Int).toNat (Act.mk 0 0 [] [])).raw=(acts.getD (↑q.fst:Int).toNat (Act.mk 0 0 [] [])).raw)∧((acts.getD (↑q.fst:Int).toNat (Act.mk 0 0 [] [])).value=(acts.getD (↑q.fst:Int).toNat (Act.mk 0 0 [] [])).value)) ⟨(by omega),rfl,rfl,rfl,rfl⟩ (fun g5 p6=>?_)
  have p6:True:=p6
  refine v_guard 32 (decide ((↑m:Int)≤(↑q.fst:Int))) True trivial (fun h7=>?_) (fun h7=>?_)
  ·have h7:=of_decide_eq_true h7
   refine v_leave (.ex 0) True trivial ?_
   exact v_ret () [4,5] ((wordsP=wordsP)∧(acts=acts)∧(PTO q.snd.fst=PTO (growT acts m).fst)∧(false=false)∧(q.snd.snd=(growT acts m).snd)) ⟨rfl,rfl,(by(rw[GrI.stop2 ‹_› ‹_›])),rfl,(by(rw[GrI.stop2 ‹_› ‹_›]))⟩ trivial
  ·have h7:=of_decide_eq_false h7
   refine v_if (decide (90<(↑(keyA (acts.getD (↑q.fst:Int).toNat (Act.mk 0 0 [] []))).length:Int))) True trivial (fun h8=>?_) (fun h8=>?_)
   ·have h8:=of_decide_eq_true h8
    refine v_leave (.ex 0) True trivial ?_
    exact v_ret () [4,5] ((wordsP=wordsP)∧(acts=acts)∧(PTO q.snd.fst=PTO (growT acts m).fst)∧(false=false)∧(q.snd.snd=(growT acts m).snd)) ⟨rfl,rfl,(by(rw[GrI.stop3 ‹_› ‹_› ‹_› ‹_›])),rfl,(by(rw[GrI.stop3 ‹_› ‹_› ‹_› ‹_›]))⟩ trivial
   ·have h8:=of_decide_eq_false h8
    refine v_if (decide ((acts.getD (↑q.fst:Int).toNat (Act.mk 0 0 [] [])).kind % 6<4)) (((6:UInt8)≠(0:UInt8))) (by decide) (fun h9=>?_) (fun h9=>?_)
    ·have h9:=of_decide_eq_true h9
     refine v_call _ [0,11,10,4] (Put_ok (q.snd.fst) (keyA (acts.getD (↑q.fst:Int).toNat (Act.mk 0 0 [] []))) (List.take (if 100<(↑(acts.getD (↑q.fst:Int).toNat (Act.mk 0 0 [] [])).value.length:Int) then 100 else(↑(acts.getD (↑q.fst:Int).toNat (Act.mk 0 0 [] [])).value.length:Int)).toNat (acts.getD (↑q.fst:Int).toNat (Act.mk 0 0 [] [])).value) (by exact i1.2.2.1.O (by omega)) (by exact⟨keyA_pos _,by omega⟩) (by(simp;omega))) ((wordsP=wordsP)∧(keyA (acts.getD (↑q.fst:Int).toNat (Act.mk 0 0 [] []))=keyA (acts.getD (↑q.fst:Int).toNat (Act.mk 0 0 [] [])))∧(List.take (if 100<(↑(acts.getD (↑q.fst:Int).toNat (Act.mk 0 0 [] [])).value.length:Int) then 100 else(↑(acts.getD (↑q.fst:Int).toNat (Act.mk 0 0 [] [])).value.length:Int)).toNat (acts.getD (↑q.fst:Int).toNat (Act.mk 0 0 [] [])).value=List.take (if 100<(↑(acts.getD (↑q.fst:Int).toNat (Act.mk 0 0 [] [])).value.length:Int) then 100 else(↑(acts.getD (↑q.fst:Int).toNat (Act.mk 0 0 [] [])).value.length:Int)).toNat (acts.getD (↑q.fst:Int).toNat (Act.mk 0 0 [] [])).value)∧(PTO q.snd.fst=PTO q.snd.fst)∧(false=false)) ⟨rfl,rfl,rfl,rfl,rfl⟩ (fun g10 p11=>?_)
     have p11:True:=p11
     refine v_call _ [5,11,10] (PutPair_ok (q.snd.snd) (keyA (acts.getD (↑q.fst:Int).toNat (Act.mk 0 0 [] []))) (List.take (if 100<(↑(acts.getD (↑q.fst:Int).toNat (Act.mk 0 0 [] [])).value.length:Int) then 100 else(↑(acts.getD (↑q.fst:Int).toNat (Act.mk 0 0 [] [])).value.length:Int)).toNat (acts.getD (↑q.fst:Int).toNat (Act.mk 0 0 [] [])).value) (by omega)) ((q.snd.snd=q.snd.snd)∧(keyA (acts.getD (↑q.fst:Int).toNat (Act.mk 0 0 [] []))=keyA (acts.getD (↑q.fst:Int).toNat (Act.mk 0 0 [] [])))∧(List.take (if 100<(↑(acts.getD (↑q.fst:Int).toNat (Act.mk 0 0 [] [])).value.length:Int) then 100 else(↑(acts.getD (↑q.fst:Int).toNat (Act.mk 0 0 [] [])).value.length:Int)).toNat (acts.getD (↑q.fst:Int).toNat (Act.mk 0 0 [] [])).value=List.take (if 100<(↑(acts.getD (↑q.fst:Int).toNat (Act.mk 0 0 [] [])).value.length:Int) then 100 else(↑(acts.getD (↑q.fst:Int).toNat (Act.mk 0 0 [] [])).value.length:Int)).toNat (acts.getD (↑q.fst:Int).toNat (Act.mk 0 0 [] [])).value)) ⟨rfl,rfl,rfl⟩ (fun g12 p13=>?_)
     have p13:True:=p13
     exact v_back ((q.fst+1,putO (keyA (acts.getD (↑q.fst:Int).toNat (Act.mk 0 0 [] []))) (List.take (if 100<(↑(acts.getD (↑q.fst:Int).toNat (Act.mk 0 0 [] [])).value.length:Int) then 100 else(↑(acts.getD (↑q.fst:Int).toNat (Act.mk 0 0 [] [])).value.length:Int)).toNat (acts.getD (↑q.fst:Int).toNat (Act.mk 0 0 [] [])).value) q.snd.fst,putPair (keyA (acts.getD (↑q.fst:Int).toNat (Act.mk 0 0 [] []))) (List.take (if 100<(↑(acts.getD (↑q.fst:Int).toNat (Act.mk 0 0 [] [])).value.length:Int) then 100 else(↑(acts.getD (↑q.fst:Int).toNat (Act.mk 0 0 [] [])).value.length:Int)).toNat (acts.getD (↑q.fst:Int).toNat (Act.mk 0 0 [] [])).value) q.snd.snd)) [12,13] ((I64 (↑q.fst+1))∧((↑q.fst:Int)+1=(↑(q.fst+1):Int))∧(PTO (putO (keyA (acts.getD (↑q.fst:Int).toNat (Act.mk 0 0 [] []))) (List.take (if 100<(↑(acts.getD (↑q.fst:Int).toNat (Act.mk 0 0 [] [])).value.length:Int) then 100 else(↑(acts.getD (↑q.fst:Int).toNat (Act.mk 0 0 [] [])).value.length:Int)).toNat (acts.getD (↑q.fst:Int).toNat (Act.mk 0 0 [] [])).value) q.snd.fst)=PTO (putO (keyA (acts.getD (↑q.fst:Int).toNat (Act.mk 0 0 [] []))) (List.take (if 100<(↑(acts.getD (↑q.fst:Int).toNat (Act.mk 0 0 [] [])).value.length:Int) then 100 else(↑(acts.getD (↑q.fst:Int).toNat (Act.mk 0 0 [] [])).value.length:Int)).toNat (acts.getD (↑q.fst:Int).toNat (Act.mk 0 0 [] [])).value) q.snd.fst))∧(false=false)∧(putPair (keyA (acts.getD (↑q.fst:Int).toNat (Act.mk 0 0 [] []))) (List.take (if 100<(↑(acts.getD (↑q.fst:Int).toNat (Act.mk 0 0 [] [])).value.length:Int) then 100 else(↑(acts.getD (↑q.fst:Int).toNat (Act.mk 0 0 [] [])).value.length:Int)).toNat (acts.getD (↑q.fst:Int).toNat (Act.mk 0 0 [] [])).value) q.snd.snd=putPair (keyA (acts.getD (↑q.fst:Int).toNat (Act.mk 0 0 [] []))) (List.take (if 100<(↑(acts.getD (↑q.fst:Int).toNat (Act.mk 0 0 [] [])).value.length:Int) then 100 else(↑(acts.getD (↑q.fst:Int).toNat (Act.mk 0 0 [] [])).value.length:Int)).toNat (acts.getD (↑q.fst:Int).toNat (Act.mk 0 0 [] [])).value) q.snd.snd)) ⟨(by(unfold I64;omega)),rfl,rfl,rfl,rfl⟩ (show GrI acts m (q.fst+1,putO (keyA (acts.getD (↑q.fst:Int).toNat (Act.mk 0 0 [] []))) (List.take (if 100<(↑(acts.getD (↑q.fst:Int).toNat (Act.mk 0 0 [] [])).value.length:Int) then 100 else(↑(acts.getD (↑q.fst:Int).toNat (Act.mk 0 0 [] [])).value.length:Int)).toNat (acts.getD (↑q.fst:Int).toNat (Act.mk 0 0 [] [])).value) q.snd.fst,putPair (keyA (acts.getD (↑q.fst:Int).toNat (Act.mk 0 0 [] []))) (List.take (if 100<(↑(acts.getD (↑q.fst:Int).toNat (Act.mk 0 0 [] [])).value.length:Int) then 100 else(↑(acts.getD (↑q.fst:Int).toNat (Act.mk 0 0 [] [])).value.length:Int)).toNat (acts.getD (↑q.fst:Int).toNat (Act.mk 0 0 [] [])).value) q.snd.snd)∧acts.length - (q.fst+1)<acts.length - q.fst from(by exact GrI.put ‹_› ‹_› ‹_› ‹_› ‹_›))
    ·have h9:=of_decide_eq_false h9
     refine v_call _ [0,11,4] (Cut_ok (q.snd.fst) (keyA (acts.getD (↑q.fst:Int).toNat (Act.mk 0 0 [] []))) (by exact i1.2.2.1.O (by omega))) ((wordsP=wordsP)∧(keyA (acts.getD (↑q.fst:Int).toNat (Act.mk 0 0 [] []))=keyA (acts.getD (↑q.fst:Int).toNat (Act.mk 0 0 [] [])))∧(PTO q.snd.fst=PTO q.snd.fst)∧(false=false)) ⟨rfl,rfl,rfl,rfl⟩ (fun g14 p15=>?_)
     have p15:True:=p15
     refine v_call _ [5,11] (CutPair_ok (q.snd.snd) (keyA (acts.getD (↑q.fst:Int).toNat (Act.mk 0 0 [] []))) (by omega)) ((q.snd.snd=q.snd.snd)∧(keyA (acts.getD (↑q.fst:Int).toNat (Act.mk 0 0 [] []))=keyA (acts.getD (↑q.fst:Int).toNat (Act.mk 0 0 [] [])))) ⟨rfl,rfl⟩ (fun g16 p17=>?_)
     have p17:True:=p17
     exact v_back ((q.fst+1,cutO (keyA (acts.getD (↑q.fst:Int).toNat (Act.mk 0 0 [] []))) q.snd.fst,cutPair (keyA (acts.getD (↑q.fst:Int).toNat (Act.mk 0 0 [] []))) q.snd.snd)) [12,13] ((I64 (↑q.fst+1))∧((↑q.fst:Int)+1=(↑(q.fst+1):Int))∧(PTO (cutO (keyA (acts.getD (↑q.fst:Int).toNat (Act.mk 0 0 [] []))) q.snd.fst)=PTO (cutO (keyA (acts.getD (↑q.fst:Int).toNat (Act.mk 0 0 [] []))) q.snd.fst))∧(false=false)∧(cutPair (keyA (acts.getD (↑q.fst:Int).toNat (Act.mk 0 0 [] []))) q.snd.snd=cutPair (keyA (acts.getD (↑q.fst:Int).toNat (Act.mk 0 0 [] []))) q.snd.snd)) ⟨(by(unfold I64;omega)),rfl,rfl,rfl,rfl⟩ (show GrI acts m (q.fst+1,cutO (keyA (acts.getD (↑q.fst:Int).toNat (Act.mk 0 0 [] []))) q.snd.fst,cutPair (keyA (acts.getD (↑q.fst:Int).toNat (Act.mk 0 0 [] []))) q.snd.snd)∧acts.length - (q.fst+1)<acts.length - q.fst from(by exact GrI.cut ‹_› ‹_› ‹_› ‹_› ‹_›))
 ·have h4:=of_decide_eq_false h4
  refine v_leave (.ex 0) True trivial ?_
  exact v_ret () [4,5] ((wordsP=wordsP)∧(acts=acts)∧(PTO q.snd.fst=PTO (growT acts m).fst)∧(false=false)∧(q.snd.snd=(growT acts m).snd)) ⟨rfl,rfl,(by(rw[GrI.stop1 ‹_› ‹_›])),rfl,(by(rw[GrI.stop1 ‹_› ‹_›]))⟩ trivial
abbrev klt (a b:List UInt8):Prop:=Lib.compareBytes a b<0
theorem cmp_anti:∀ a b:List UInt8,Lib.compareBytes b a = - Lib.compareBytes a b
  | [],[]=>rfl
  | [],_::_=>rfl
  | _::_,[]=>rfl
  | a :: xs, b :: ys => by
    unfold Lib.compareBytes
    by_cases h1:a<b
    · have h2 : ¬ b < a := fun h => absurd (UInt8.lt_trans h1 h) (UInt8.lt_irrefl _)
      simp[h1,h2]
    · by_cases h2 : b < a
      · simp[h1,h2]
      · simp only[if_neg h1,if_neg h2];exact cmp_anti xs ys
theorem klt_trans:∀ {a b c:List UInt8},klt a b→klt b c→klt a c
  | [],[],_,h,_=>by simp[klt,Lib.compareBytes] at h
  | [],_::_,[],_,h=>by simp[klt,Lib.compareBytes] at h
  | [],_::_,_::_,_,_=>by simp[klt,Lib.compareBytes]
  | _::_,[],_,h,_=>by simp[klt,Lib.compareBytes] at h
  | _::_,_::_,[],_,h=>by simp[klt,Lib.compareBytes] at h
  | a :: xs, b :: ys, c :: zs, h1, h2 => by
    unfold klt at h1 h2 ⊢
    unfold Lib.compareBytes at h1 h2 ⊢
    by_cases p:a<b
    · by_cases q : b < c
      · rw[if_pos (UInt8.lt_trans p q)];decide
      · rw [if_neg q] at h2
        by_cases q2:c<b
        · rw[if_pos q2] at h2;exact absurd h2 (by decide)
        · have : b = c := UInt8.le_antisymm (UInt8.not_lt.1 q2) (UInt8.not_lt.1 q)
          subst this;rw[if_pos p];decide
    · rw [if_neg p] at h1
      by_cases p2:b<a
      · rw[if_pos p2] at h1;exact absurd h1 (by decide)
      · have : a = b := UInt8.le_antisymm (UInt8.not_lt.1 p2) (UInt8.not_lt.1 p)
        subst this
        rw[if_neg p2] at h1
        by_cases q:a<c
        · rw[if_pos q];decide
        · rw [if_neg q] at h2 ⊢
          by_cases q2:c<a
          · rw[if_pos q2] at h2;exact absurd h2 (by decide)
          · rw[if_neg q2] at h2 ⊢;exact klt_trans h1 h2
theorem klt_irr (a:List UInt8):¬ klt a a:=by have:=cmp_anti a a;unfold klt;omega
theorem kge {a b:List UInt8} (h:¬ klt a b):a=b∨klt b a:=by
  have:=cmp_anti a b
  unfold klt at *
  by_cases e:Lib.compareBytes a b=0
  · exact .inl (cmp_zero.1 e)
  · exact .inr (by omega)
def Srt (l:List Pair):Prop:=l.Pairwise fun p q=>klt p.key q.key
namespace Tr
theorem leaves_ne:∀ t:Tr,∃ v l,t.leaves=⟨t.least,v⟩::l
  | leaf k v=>⟨v,[],rfl⟩
  | node l r => by
    obtain⟨v,x,e⟩:=leaves_ne l
    exact⟨v,x++r.leaves,by simp[leaves,e,least]⟩
theorem bal_leaves (l r:Tr):(l.bal r).leaves=l.leaves++r.leaves:=by
  unfold bal
  split
  · cases l with
    | leaf a b=>rfl
    | node a b =>
      dsimp only
      split
      · cases b with
        | leaf c d=>rfl
        | node c d=>simp[leaves]
      · simp[leaves]
  · split
    · cases r with
      | leaf a b=>rfl
      | node a b =>
        dsimp only
        split
        · cases a with
          | leaf c d=>rfl
          | node c d=>simp[leaves]
        · simp[leaves]
    · rfl
/-- where a key belongs -/
theorem left_of {l r:Tr} (h:Srt (node l r).leaves) {p:Pair} (hp:p∈l.leaves):klt p.key r.least:=by
  obtain⟨v,x,e⟩:=leaves_ne r
  have:=(List.pairwise_append.1 h).2.2 p hp ⟨r.least,v⟩ (by rw[e];exact List.mem_cons_self ..)
  exact this
theorem right_of {r:Tr} (h:Srt r.leaves) {p:Pair} (hp:p∈r.leaves):¬ klt p.key r.least:=by
  obtain⟨v,x,e⟩:=leaves_ne r
  rw[e] at h hp
  rcases List.mem_cons.1 hp with rfl | hp
  · exact klt_irr _
  · have := (List.pairwise_cons.1 h).1 p hp
    exact fun q=>klt_irr _ (klt_trans this q)
end Tr
theorem less_klt {a b:List UInt8}:Op.bytesLess a b=true↔klt a b:=by rw[less_cmp];simp
theorem putPair_left (k v:List UInt8):∀(l r:List Pair),(∀ p∈r,¬ klt p.key k∧p.key≠k)→putPair k v (l++r)=putPair k v l++r
  | [], r, h => by
    cases r with
    | nil=>rfl
    | cons x r =>
      have h1:=h x (List.mem_cons_self ..)
      show(if Op.bytesLess x.key k=true then _ else _)=_
      rw[if_neg (fun q=>h1.1 (less_klt.1 q)),if_neg h1.2];rfl
  | x :: l, r, h => by
    show(if Op.bytesLess x.key k=true then _ else _)=(if Op.bytesLess x.key k=true then _ else _)++r
    split
    · show x :: putPair k v (l ++ r) = x :: (putPair k v l ++ r)
      rw[putPair_left k v l r h]
    · split <;> simp
theorem putPair_right (k v:List UInt8):∀(l r:List Pair),(∀ p∈l,klt p.key k)→putPair k v (l++r)=l++putPair k v r
  | [],r,h=>rfl
  | x :: l, r, h => by
    show(if Op.bytesLess x.key k=true then _ else _)=_
    rw[if_pos (less_klt.2 (h x (List.mem_cons_self ..)))]
    show x::putPair k v (l++r)=x::(l++putPair k v r)
    rw[putPair_right k v l r (fun p hp=>h p (List.mem_cons_of_mem _ hp))]
theorem mem_putPair {k v:List UInt8}:∀ {l:List Pair} {p:Pair},p∈putPair k v l→p=⟨k,v⟩∨p∈l
  | [],p,h=>.inl (by simpa [putPair] using h)
  | x :: l, p, h => by
    unfold putPair at h
    split at h
    · rcases List.mem_cons.1 h with rfl | h
      · exact .inr (List.mem_cons_self ..)
      · rcases mem_putPair h with h | h
        · exact .inl h
        · exact .inr (List.mem_cons_of_mem _ h)
    · split at h
      · rcases List.mem_cons.1 h with h | h
        · exact .inl h
        · exact .inr (List.mem_cons_of_mem _ h)
      · rcases List.mem_cons.1 h with h | h
        · exact .inl h
        · exact .inr h
theorem Srt.put {k v:List UInt8}:∀ {l:List Pair},Srt l→Srt (putPair k v l)
  | [],h=>List.pairwise_singleton ..
  | x :: l, h => by
    obtain⟨h1,h2⟩:=List.pairwise_cons.1 h
    unfold putPair
    split
    · rename_i q
      have q:=less_klt.1 q
      refine List.pairwise_cons.2 ⟨fun p hp=>?_,Srt.put h2⟩
      rcases mem_putPair hp with rfl | hp
      · exact q
      · exact h1 p hp
    · rename_i q
      have q:¬ klt x.key k:=fun e=>q (less_klt.2 e)
      split
      · rename_i e
        exact List.pairwise_cons.2 ⟨fun p hp=>by have:=h1 p hp;rw[e] at this;exact this,h2⟩
      · rename_i e
        have hx:klt k x.key:=(kge q).resolve_left e
        exact List.pairwise_cons.2 ⟨fun p hp=>by
          rcases List.mem_cons.1 hp with rfl | hp
          · exact hx
          · exact klt_trans hx (h1 p hp),h⟩
theorem Srt.cut {k:List UInt8} {l:List Pair} (h:Srt l):Srt (cutPair k l):=List.Pairwise.sublist List.filter_sublist h
namespace Tr
theorem put_leaves (k v:List UInt8):∀ t:Tr,Srt t.leaves→(t.put k v).leaves=putPair k v t.leaves
  | leaf a b, _ => by
    unfold put
    show _=(if Op.bytesLess a k=true then _ else _)
    have:=cmp_anti k a
    by_cases h1:Lib.compareBytes k a<0
    · rw[if_pos h1,if_neg (fun q=>by have:=less_t q;omega),if_neg (fun e=>by subst e;exact klt_irr _ h1)];rfl
    · rw [if_neg h1]
      by_cases h2:0<Lib.compareBytes k a
      · rw[if_pos h2,if_pos (less_klt.2 (by unfold klt;omega))];rfl
      · have e : k = a := cmp_zero.1 (by omega)
        rw[if_neg h2,if_neg (fun q=>by have:=less_t q;omega),if_pos e.symm];rfl
  | node l r, h => by
    have hl:Srt l.leaves:=(List.pairwise_append.1 h).1
    have hr:Srt r.leaves:=(List.pairwise_append.1 h).2.1
    unfold put
    split
    · rename_i q
      rw[bal_leaves,put_leaves k v l hl]
      refine(putPair_left k v l.leaves r.leaves fun p hp=>?_).symm
      have h2:=right_of hr hp
      exact⟨fun e=>h2 (klt_trans e q),fun e=>h2 (by rw[e];exact q)⟩
    · rename_i q
      rw[bal_leaves,put_leaves k v r hr]
      refine(putPair_right k v l.leaves r.leaves fun p hp=>?_).symm
      have h2:=left_of h hp
      rcases kge q with e | e
      · rw[e];exact h2
      · exact klt_trans h2 e
theorem cut_leaves (k:List UInt8):∀ t:Tr,Srt t.leaves→(t.cut k=none∧∀ p∈t.leaves,p.key≠k)∨∃ r,t.cut k=some r∧leavesO r=cutPair k t.leaves∧∃ p∈t.leaves,p.key=k
  | leaf a b, _ => by
    unfold cut
    by_cases e:a=k
    · rw[if_pos e];exact .inr ⟨none,rfl,by simp[leavesO,cutPair,leaves,e],_,List.mem_singleton_self _,e⟩
    · rw[if_neg e];exact .inl ⟨rfl,fun p hp=>by rw[List.mem_singleton.1 hp];exact e⟩
  | node l r, h => by
    have hl:Srt l.leaves:=(List.pairwise_append.1 h).1
    have hr:Srt r.leaves:=(List.pairwise_append.1 h).2.1
    unfold cut
    by_cases q:Lib.compareBytes k r.least<0
    · rw [if_pos q]
      have nr:∀ p∈r.leaves,p.key≠k:=fun p hp e=>right_of hr hp (by rw[e];exact q)
      have er:cutPair k r.leaves=r.leaves:=List.filter_eq_self.2 fun p hp=>decide_eq_true (nr p hp)
      rcases cut_leaves k l hl with⟨e,hn⟩ | ⟨x,e,e2,p,hp,hk⟩
      · rw[e];exact .inl ⟨rfl,fun p hp=>by rcases List.mem_append.1 hp with hp | hp;exact hn p hp;exact nr p hp⟩
      · rw [e]
        refine .inr ?_
        have e3:cutPair k (node l r).leaves=leavesO x++r.leaves:=by
          show cutPair k (l.leaves++r.leaves)=_
          rw[e2,← er];simp[cutPair,List.filter_append]
        cases x with
        | none=>exact⟨some r,rfl,by rw[e3];rfl,p,List.mem_append_left _ hp,hk⟩
        | some l'=>exact⟨some (l'.bal r),rfl,by rw[e3];exact bal_leaves _ _,p,List.mem_append_left _ hp,hk⟩
    · rw [if_neg q]
      have nl:∀ p∈l.leaves,p.key≠k:=fun p hp e=>q (by have:=left_of h hp;rw[e] at this;exact this)
      have el:cutPair k l.leaves=l.leaves:=List.filter_eq_self.2 fun p hp=>decide_eq_true (nl p hp)
      rcases cut_leaves k r hr with⟨e,hn⟩ | ⟨x,e,e2,p,hp,hk⟩
      · rw[e];exact .inl ⟨rfl,fun p hp=>by rcases List.mem_append.1 hp with hp | hp;exact nl p hp;exact hn p hp⟩
      · rw [e]
        refine .inr ?_
        have e3:cutPair k (node l r).leaves=l.leaves++leavesO x:=by
          show cutPair k (l.leaves++r.leaves)=_
          rw[e2,← el];simp[cutPair,List.filter_append]
        cases x with
        | none=>exact⟨some l,rfl,by rw[e3];simp[leavesO],p,List.mem_append_right _ hp,hk⟩
        | some r'=>exact⟨some (l.bal r'),rfl,by rw[e3];exact bal_leaves _ _,p,List.mem_append_right _ hp,hk⟩
end Tr
theorem putO_leaves {k v:List UInt8} {o:Option Tr} (h:Srt (leavesO o)):leavesO (putO k v o)=putPair k v (leavesO o):=by
  cases o with
  | none=>rfl
  | some t=>exact Tr.put_leaves k v t h
theorem cutO_leaves {k:List UInt8} {o:Option Tr} (h:Srt (leavesO o)):leavesO (cutO k o)=cutPair k (leavesO o):=by
  cases o with
  | none=>rfl
  | some t =>
    rcases Tr.cut_leaves k t h with⟨e,hn⟩ | ⟨r,e,e2,_⟩
    · rw [show cutO k (some t) = some t by simp [cutO, e]]
      exact(List.filter_eq_self.2 fun p hp=>decide_eq_true (hn p hp)).symm
    · rw[show cutO k (some t)=r by simp[cutO,e]];exact e2
theorem growG_ok:∀(n:Nat) (acts:List Act) (s:Option Tr × List Pair),Srt (leavesO s.1)→s.2=leavesO s.1→Srt (leavesO (growG n acts s).1)∧(growG n acts s).2=leavesO (growG n acts s).1
  | 0,acts,s,h,e=>by unfold growG;exact⟨h,e⟩
  | n+1,[],s,h,e=>by unfold growG;exact⟨h,e⟩
  | n + 1, a :: l, s, h, e => by
    unfold growG
    split
    · exact⟨h,e⟩
    · refine growG_ok n l _ ?_ ?_ <;> unfold stepA <;> split
      · rw[putO_leaves h];exact h.put
      · rw[cutO_leaves h];exact h.cut
      · rw[putO_leaves h,e]
      · rw[cutO_leaves h,e]
theorem growT_ok (acts:List Act) (m:Nat):Srt (leavesO (growT acts m).1)∧(growT acts m).2=leavesO (growT acts m).1:=growG_ok m acts (none,[]) List.Pairwise.nil rfl
theorem findG_ge {k:List UInt8}:∀ {l:List Pair} {i:Nat},0≤findG k l i↔∃ p∈l,p.key=k
  | [],i=>by simp[findG]
  | x :: xs, i => by
    unfold findG
    split
    · rename_i h;exact⟨fun _=>⟨x,List.mem_cons_self ..,h⟩,fun _=>by omega⟩
    · rename_i h
      rw[findG_ge (l:=xs)]
      exact⟨fun⟨p,a,b⟩=>⟨p,List.mem_cons_of_mem _ a,b⟩,fun⟨p,a,b⟩=>by rcases List.mem_cons.1 a with rfl | a;exact absurd b h;exact⟨p,a,b⟩⟩
theorem find_ge {k:List UInt8} {l:List Pair}:0≤findP l k↔∃ p∈l,p.key=k:=findG_ge
theorem cut_there {k:List UInt8} {o:Option Tr} (h:Srt (leavesO o)) (hf:0≤findP (leavesO o) k):o.isNone=false∧((gt o).cut k).isSome=true∧cutR k (gt o)=cutO k o:=by
  obtain⟨p,hp,hk⟩:=find_ge.1 hf
  cases o with
  | none=>simp[leavesO] at hp
  | some t =>
    rcases Tr.cut_leaves k t h with⟨e,hn⟩ | ⟨r,e,e2,_⟩
    · exact absurd hk (hn p hp)
    · exact⟨rfl,by show(t.cut k).isSome=true;rw[e];rfl,by show(t.cut k).getD none=_;rw[e,show cutO k (some t)=r by simp[cutO,e]];rfl⟩
theorem cut_not {k:List UInt8} {o:Option Tr} (h:Srt (leavesO o)) (hf:¬ 0≤findP (leavesO o) k):cutO k o=o:=by
  cases o with
  | none=>rfl
  | some t =>
    rcases Tr.cut_leaves k t h with⟨e,hn⟩ | ⟨r,e,e2,p,hp,hk⟩
    · simp[cutO,e]
    · exact absurd (find_ge.2 ⟨p,hp,hk⟩) hf
def GrN (acts:List Act) (m:Nat) (q:Nat × Option Tr):Prop:=GrI acts m (q.1,q.2,leavesO q.2)∧Srt (leavesO q.2)
section
variable {acts:List Act} {m i:Nat} {o:Option Tr}
theorem GrN.start:GrN acts m (0,none):=⟨GrI.start,List.Pairwise.nil⟩
theorem GrN.put (h:GrN acts m (i,o)) (hi:(i:Int)<acts.length) (hm:¬ (m:Int)≤i) (hk:¬ 90<((keyA (acts.getD i dA)).length:Int)) (h6:(acts.getD i dA).kind % 6<4):GrN acts m (i+1,putO (keyA (acts.getD i dA)) (valA (acts.getD i dA)) o)∧acts.length - (i+1)<acts.length - i:=by
  have g:=h.1.put hi hm hk h6
  have e:leavesO (putO (keyA (acts.getD i dA)) (valA (acts.getD i dA)) o)=putPair (keyA (acts.getD i dA)) (valA (acts.getD i dA)) (leavesO o):=putO_leaves h.2
  refine⟨⟨by show GrI acts m (i+1,_,leavesO (putO _ _ o));rw[e];exact g.1,by show Srt (leavesO (putO _ _ o));rw[e];exact h.2.put⟩,by omega⟩
theorem GrN.cutO (h:GrN acts m (i,o)) (hi:(i:Int)<acts.length) (hm:¬ (m:Int)≤i) (hk:¬ 90<((keyA (acts.getD i dA)).length:Int)) (h6:¬ (acts.getD i dA).kind % 6<4):GrN acts m (i+1,X.cutO (keyA (acts.getD i dA)) o)∧acts.length - (i+1)<acts.length - i:=by
  have g:=h.1.cut hi hm hk h6
  have e:leavesO (X.cutO (keyA (acts.getD i dA)) o)=cutPair (keyA (acts.getD i dA)) (leavesO o):=cutO_leaves h.2
  refine⟨⟨by show GrI acts m (i+1,_,leavesO (X.cutO _ o));rw[e];exact g.1,by show Srt (leavesO (X.cutO _ o));rw[e];exact h.2.cut⟩,by omega⟩
theorem GrN.cut (h:GrN acts m (i,o)) (hi:(i:Int)<acts.length) (hm:¬ (m:Int)≤i) (hk:¬ 90<((keyA (acts.getD i dA)).length:Int)) (h6:¬ (acts.getD i dA).kind % 6<4) (hf:0≤findP (leavesO o) (keyA (acts.getD i dA))):GrN acts m (i+1,cutR (keyA (acts.getD i dA)) (gt o))∧acts.length - (i+1)<acts.length - i:=by
  rw[(cut_there h.2 hf).2.2];exact h.cutO hi hm hk h6
theorem GrN.skip (h:GrN acts m (i,o)) (hi:(i:Int)<acts.length) (hm:¬ (m:Int)≤i) (hk:¬ 90<((keyA (acts.getD i dA)).length:Int)) (h6:¬ (acts.getD i dA).kind % 6<4) (hf:¬ 0≤findP (leavesO o) (keyA (acts.getD i dA))):GrN acts m (i+1,o)∧acts.length - (i+1)<acts.length - i:=by
  have:=h.cutO hi hm hk h6;rwa [cut_not h.2 hf] at this
theorem GrN.hh (h:GrN acts m (i,o)) (hm:m≤100):(gt o).height<700∧(leavesO o).length≤100000:=by
  obtain⟨⟨_,a2,_,a4,_⟩,_⟩:=h
  have a2:i≤m:=a2
  have l:=a4.leaves
  have l:(leavesO o).length≤i:=l
  refine⟨?_,by omega⟩
  cases o with
  | none=>decide
  | some t=>have:=(a4 t rfl).2;have:=t.height_depth;show t.height<700;have q:t.depth+1≤i:=(a4 t rfl).2;omega
end
section
variable {acts:List Act} {m i:Nat} {o:Option Tr}
theorem GrN.s1 (h:GrN acts m (i,o)) (hi:¬ (i:Int)<acts.length):(growT acts m).1=o:=by rw[h.1.stop1 hi]
theorem GrN.s2 (h:GrN acts m (i,o)) (hi:(m:Int)≤i):(growT acts m).1=o:=by rw[h.1.stop2 hi]
theorem GrN.s3 (h:GrN acts m (i,o)) (hi:(i:Int)<acts.length) (hm:¬ (m:Int)≤i) (hk:90<((keyA (acts.getD i dA)).length:Int)):(growT acts m).1=o:=by rw[h.1.stop3 hi hm hk]
end
namespace Tr
theorem fin_mem (k:List UInt8):∀ t:Tr,(⟨(t.fin k).key,(t.fin k).value⟩:Pair)∈t.leaves
  | leaf a b=>List.mem_singleton_self _
  | node l r => by
    unfold fin;split
    · exact List.mem_append_right _ (fin_mem k r)
    · exact List.mem_append_left _ (fin_mem k l)
end Tr
theorem ben_cons (x:Turn) (l:List Turn) (i:Nat):ben (x::l) (i+1)=ben l i:=by
  unfold ben
  by_cases h:(i:Int)<l.length
  · rw[if_pos h,if_pos (by simp;omega)];simp
  · rw[if_neg h,if_neg (by simp;omega)]
theorem ben_zero (x:Turn) (l:List Turn):ben (x::l) 0=x.height:=by unfold ben;rw[if_pos (by simp)];rfl
theorem bad_cons (x:Turn) (l:List Turn) (i:Nat):bad (x::l) (i+1)↔bad l i:=by unfold bad;rw[ben_cons];simp
namespace Tr
theorem ben_turns (k:List UInt8):∀ t:Tr,ben (t.turns k) 0=t.height
  | leaf a b=>rfl
  | node l r=>by unfold turns;rw[ben_zero];rfl
theorem turns_good (k:List UInt8):∀ t:Tr,t.height≤64→∀ i,i<(t.turns k).length→¬ bad (t.turns k) i
  | leaf a b,_,i,hi=>by simp[turns] at hi
  | node l r, h, i, hi => by
    have hh:(node l r).height=1+max l.height r.height:=rfl
    have hc:∀ j,j<(if(node l r).rt k then r.turns k else l.turns k).length→¬ bad (if(node l r).rt k then r.turns k else l.turns k) j:=by
      split
      · exact turns_good k r (by omega)
      · exact turns_good k l (by omega)
    have hb:ben (if(node l r).rt k then r.turns k else l.turns k) 0<(node l r).height:=by
      split <;> rw[ben_turns] <;> omega
    unfold turns at hi ⊢
    cases i with
    | zero =>
      unfold bad;rw[ben_cons]
      show ¬ ((node l r).height≤_∨64<(node l r).height);omega
    | succ i=>rw[bad_cons];exact hc i (by simpa using hi)
theorem turns_len (k:List UInt8):∀ t:Tr,((t.turns k).length:Int)≤t.height
  | leaf a b=>Int.le_refl _
  | node l r => by
    have h1:=turns_len k l;have h2:=turns_len k r
    have hh:(node l r).height=1+max l.height r.height:=rfl
    unfold turns;rw[List.length_cons];split <;> omega
theorem turns_hash (k:List UInt8):∀ t:Tr,(t.turns k).foldr stepH (nsum 0 1 (t.fin k).key (t.fin k).value z32 z32)=t.hash
  | leaf a b=>rfl
  | node l r => by
    unfold turns fin
    rw[List.foldr_cons]
    have hp:¬ (node l r).height=0:=by have:=height_pos (l:=l) (r:=r);omega
    have ns:∀(x y:List UInt8),nsum (node l r).height (node l r).size [] [] x y=nsum (node l r).height (node l r).size r.least [] x y:=fun x y=>by
      unfold nsum;rw[if_neg hp,if_neg hp]
    have l1:(mk32 (node l r).lh).l=l.hash:=mk32_of l.hash_len
    have l2:(mk32 (node l r).rh).l=r.hash:=mk32_of r.hash_len
    cases e:(node l r).rt k
    · simp only [Bool.false_eq_true, if_false]
      rw[turns_hash k l]
      unfold stepH turn;rw[e];simp only[Bool.false_eq_true,if_false]
      rw[l2,ns];rfl
    · simp only [if_true]
      rw[turns_hash k r]
      unfold stepH turn;rw[e];simp only[if_true]
      rw[l1,ns];rfl
end Tr
/-- Leaves as they come from calls. -/
def lvOk (l:List Pair):Prop:=∀ p∈l,(1≤p.key.length∧p.key.length≤90)∧p.value.length≤100
theorem growG_lv:∀(n:Nat) (acts:List Act) (s:Option Tr × List Pair),lvOk s.2→lvOk (growG n acts s).2
  | 0,acts,s,h=>by unfold growG;exact h
  | n+1,[],s,h=>by unfold growG;exact h
  | n + 1, a :: l, s, h => by
    unfold growG
    split
    · exact h
    · rename_i hk
      refine growG_lv n l _ ?_
      unfold stepA;split
      · intro p hp
        rcases mem_putPair hp with rfl | hp
        · exact⟨⟨keyA_pos a,by show(keyA a).length≤90;omega⟩,valA_len a⟩
        · exact h p hp
      · intro p hp;exact h p (List.mem_filter.1 hp).1
theorem growT_lv (acts:List Act) (m:Nat):lvOk (leavesO (growT acts m).1):=by rw[← (growT_ok acts m).2];exact growG_lv m acts _ (fun p hp=>by simp at hp)
theorem growG_okN:∀(n i:Nat) (acts:List Act) (s:Option Tr × List Pair),okN i s.1→okN (n+i) (growG n acts s).1
  | 0,i,acts,s,h=>by unfold growG;rw[Nat.zero_add];exact h
  | n+1,i,[],s,h=>by unfold growG;exact fun t e=>⟨(h t e).1,by have:=(h t e).2;omega⟩
  | n + 1, i, a :: l, s, h => by
    unfold growG
    split
    · exact fun t e=>⟨(h t e).1,by have:=(h t e).2;omega⟩
    · rename_i hk
      rw[show n+1+i=n+(i+1) by omega]
      refine growG_okN n (i+1) l _ ?_
      unfold stepA;split
      · exact okN.put h (by omega) (by have:=valA_len a;omega)
      · exact okN.cut h
theorem growT_okN (acts:List Act) (m:Nat):okN m (growT acts m).1:=by have:=growG_okN m 0 acts (none,[]) (fun t e=>by simp at e);exact this
/-- A tree as calls make it: sorted, small. -/
def fine (o:Option Tr):Prop:=Srt (leavesO o)∧lvOk (leavesO o)∧okN 64 o
theorem growT_fine (acts:List Act) (m:Nat) (hm:m≤64):fine (growT acts m).1:=⟨(growT_ok acts m).1,growT_lv acts m,fun t e=>⟨(growT_okN acts m t e).1,by have:=(growT_okN acts m t e).2;omega⟩⟩
theorem fine.O {o:Option Tr} (h:fine o):okO o:=h.2.2.O (by decide)
/-- What is made leads to the root. -/
theorem verify_make {o:Option Tr} {k:List UInt8} (h:fine o) (hk:mkB k o=true):rootP (mkP k o)=(hashO o,none):=by
  cases o with
  | none=>simp[mkB] at hk
  | some t =>
    simp only[mkB,decide_eq_true_eq] at hk
    have hl:=h.2.1 _ (Tr.fin_mem k t)
    have hh:t.height≤64:=by have:=(h.2.2 t rfl).2;have:=t.height_depth;omega
    have hg:=Tr.turns_good k t hh
    have h1:¬ 64<(t.turns k).length:=by have:=Tr.turns_len k t;omega
    have e2:=rootN_ok (t.turns k) hg _ (nsum 0 1 (t.fin k).key (t.fin k).value z32 z32) (Nat.le_refl _)
    rw[ben_end,List.take_length,Tr.turns_hash] at e2
    simp only[mkP,if_pos hk]
    unfold rootP
    simp only
    rw[if_neg h1,if_neg (by simp only at hl;omega)];exact e2
theorem verP_make {o:Option Tr} {k:List UInt8} (h:fine o) (hk:mkB k o=true):verP (hashO o) (mkP k o)=none:=by
  unfold verP;rw[verify_make h hk];simp
noncomputable def ccW1_15:Code:=(Tryd.f15.body).getD .skip
theorem Awake9_aux (o0:okO none) (o1:okO (putO [97] [49] none)) (o2:okO (putO [98] [50] (putO [97] [49] none))) (m1:mkB [98] (putO [98] [50] (putO [97] [49] none))=true) (n1:(noneR [99] (putO [98] [50] (putO [97] [49] none))).isSome=true)
  (lv:(leavesO (putO [98] [50] (putO [97] [49] none))).length≤900000) (tl:(mkP [98] (putO [98] [50] (putO [97] [49] none))).turns.length=1) (tr:((mkP [98] (putO [98] [50] (putO [97] [49] none))).turns.getD 0 ⟨0,0,false,zero32⟩).right=true)
  (v1:verP (hashO (putO [98] [50] (putO [97] [49] none))) (mkP [98] (putO [98] [50] (putO [97] [49] none)))=none) (v2:codeO (verP (sum256 []) (mkP [98] (putO [98] [50] (putO [97] [49] none))))=21)
  (g1:(gapL [99] (putO [98] [50] (putO [97] [49] none))).1.isNone=false) (g2:(gapL [99] (putO [98] [50] (putO [97] [49] none))).2.isNone=true)
  (v3:vgP (hashO (putO [98] [50] (putO [97] [49] none))) [99] (gapL [99] (putO [98] [50] (putO [97] [49] none))).1 (gapL [99] (putO [98] [50] (putO [97] [49] none))).2=none)
  (l1:(gp (gapL [99] (putO [98] [50] (putO [97] [49] none))).1).turns.length≤1000000) (l2:(gp (gapL [99] (putO [98] [50] (putO [97] [49] none))).2).turns.length≤1000000):FOk EN 15 ⟨[.pr wordsP,.pr etP],[],Unit,fun _=>([.pr wordsP,.pr etP],.b true),fun _=>True⟩:=by
 refine v_fun Tryd.f15 ccW1_15 MX (fun ν F σ w=>?_) Tryd.func15
 refine v_nl ?_
 refine v_call _ [0] (new_ok) ((wordsP=wordsP)) rfl (fun g1 p2=>?_)
 have p2:True:=p2
 refine v_call _ [0,4,5,3] (Put_ok (none) ([97]) ([49]) ‹_› (by decide) (by decide)) ((0<1)∧(0<1)∧(wordsP=wordsP)∧([(97:UInt8)]=[(97:UInt8)])∧([(49:UInt8)]=[(49:UInt8)])∧(PTO none=PTO none)∧(false=false)) ⟨(by decide),(by decide),rfl,rfl,rfl,rfl,rfl⟩ (fun g3 p4=>?_)
 have p4:True:=p4
 refine v_call _ [0,7,8,6] (Put_ok (putO [97] [49] none) ([98]) ([50]) ‹_› (by decide) (by decide)) ((0<1)∧(0<1)∧(wordsP=wordsP)∧([(98:UInt8)]=[(98:UInt8)])∧([(50:UInt8)]=[(50:UInt8)])∧(PTO (putO [97] [49] none)=PTO (putO [97] [49] none))∧(false=false)) ⟨(by decide),(by decide),rfl,rfl,rfl,rfl,rfl⟩ (fun g5 p6=>?_)
 have p6:True:=p6
 refine v_call _ [10,9] (Make_ok (putO [98] [50] (putO [97] [49] none)) ([98]) ‹_›) ((0<1)∧([(98:UInt8)]=[(98:UInt8)])∧(PTO (putO [98] [50] (putO [97] [49] none))=PTO (putO [98] [50] (putO [97] [49] none)))∧(false=false)) ⟨(by decide),rfl,rfl,rfl⟩ (fun g7 p8=>?_)
 have p8:True:=p8
 refine v_call _ [15,9] (None_ok (putO [98] [50] (putO [97] [49] none)) ([99]) ‹_› (by decide)) ((0<1)∧([(99:UInt8)]=[(99:UInt8)])∧(PTO (putO [98] [50] (putO [97] [49] none))=PTO (putO [98] [50] (putO [97] [49] none)))∧(false=false)) ⟨(by decide),rfl,rfl,rfl⟩ (fun g9 p10=>?_)
 have p10:True:=p10
 refine v_join [39,40,41,42,43,44,45,46,47,48,49,50,51,52,53,54,55,56,57,58,59,60,61,62,63,64,65,66,67,68,69,70,71,72,73,74,75,76,77,78,79,80,81,82,83,84,85,86,87,88,0] [] (fun _:Unit=>([(0,SV.b (vgP (hashO (putO [98] [50] (putO [97] [49] none))) [99] (gapL [99] (putO [98] [50] (putO [97] [49] none))).fst (gapL [99] (putO [98] [50] (putO [97] [49] none))).snd).isNone)],[])) (fun _=>True) ?_ (fun _ _=>?_) True trivial
 ·skip
  refine v_plan (.fs [0,1,2,3,4,5,6,7,8,9,10,11,12,13,14,15,16,17,18,20] (.o 19 (.o 21 (.fs [22,23,24,26] (.o 25 (.o 27 (.o 28 (.fs [29,30,31,32,33,34,35,36,37,38,39,40,41,42,46] (.c 43 (.o 44 (.o 45 (.o 47 (.fs [48,49,50] .e)))) (.o 44 (.c 43 (.o 45 (.o 47 (.fs [48,49,50] .e))) (.o 45 (.o 43 (.o 47 (.fs [48,49,50] .e))))))))))))))) [14,18] True trivial ?_
  refine v_guard 40 (mkB [98] (putO [98] [50] (putO [97] [49] none))) True trivial (fun h11=>?_) (fun h11=>?_)
  ·skip
   refine v_guard 43 ((noneR [99] (putO [98] [50] (putO [97] [49] none))).isSome) True trivial (fun h12=>?_) (fun h12=>?_)
   ·skip
    refine v_guard 49 (decide ((↑(mkP [98] (putO [98] [50] (putO [97] [49] none))).turns.length:Int)=1)) True trivial (fun h13=>?_) (fun h13=>?_)
    ·have h13:=of_decide_eq_true h13
     refine v_guard 56 (((mkP [98] (putO [98] [50] (putO [97] [49] none))).turns.getD 0 (Turn.mk 0 0 false zero32)).right) (((0:Int)≤(0:Int)∧(0:Int)<(↑(mkP [(98:UInt8)] (putO [(98:UInt8)] [(50:UInt8)] (putO [(97:UInt8)] [(49:UInt8)] none))).turns.length:Int))) (by decide) (fun h14=>?_) (fun h14=>?_)
     ·skip
      refine v_call _ [0,9] (Root_ok (putO [98] [50] (putO [97] [49] none))) ((wordsP=wordsP)∧(PTO (putO [98] [50] (putO [97] [49] none))=PTO (putO [98] [50] (putO [97] [49] none)))∧(false=false)) ⟨rfl,rfl,rfl⟩ (fun g15 p16=>?_)
      have p16:True:=p16
      refine v_call _ [0,11,12,13] (Verify_ok (hashO (putO [98] [50] (putO [97] [49] none))) (mkP [98] (putO [98] [50] (putO [97] [49] none))) rfl) ((hashO (putO [98] [50] (putO [97] [49] none))=hashO (putO [98] [50] (putO [97] [49] none)))∧(wordsP=wordsP)∧((mkP [98] (putO [98] [50] (putO [97] [49] none))).key=(mkP [98] (putO [98] [50] (putO [97] [49] none))).key)∧((mkP [98] (putO [98] [50] (putO [97] [49] none))).value=(mkP [98] (putO [98] [50] (putO [97] [49] none))).value)∧((mkP [98] (putO [98] [50] (putO [97] [49] none))).turns=(mkP [98] (putO [98] [50] (putO [97] [49] none))).turns)) ⟨rfl,rfl,rfl,rfl,rfl⟩ (fun g17 p18=>?_)
      have p18:True:=p18
      refine v_guard 63 ((verP (hashO (putO [98] [50] (putO [97] [49] none))) (mkP [98] (putO [98] [50] (putO [97] [49] none)))).isNone) True trivial (fun h19=>?_) (fun h19=>?_)
      ·skip
       refine v_call _ [0] (Empty_ok) ((wordsP=wordsP)) rfl (fun g20 p21=>?_)
       have p21:True:=p21
       refine v_call _ [0,11,12,13] (Verify_ok (sum256 []) (mkP [98] (putO [98] [50] (putO [97] [49] none))) rfl) ((sum256 []=sum256 [])∧(wordsP=wordsP)∧((mkP [98] (putO [98] [50] (putO [97] [49] none))).key=(mkP [98] (putO [98] [50] (putO [97] [49] none))).key)∧((mkP [98] (putO [98] [50] (putO [97] [49] none))).value=(mkP [98] (putO [98] [50] (putO [97] [49] none))).value)∧((mkP [98] (putO [98] [50] (putO [97] [49] none))).turns=(mkP [98] (putO [98] [50] (putO [97] [49] none))).turns)) ⟨rfl,rfl,rfl,rfl,rfl⟩ (fun g22 p23=>?_)
       have p23:True:=p23
       refine v_call _ [1,21] (Code_ok (verP (sum256 []) (mkP [98] (putO [98] [50] (putO [97] [49] none)))) (by exact Nat.le_trans (verP_dep _ _) (by decide))) ((etP=etP)∧(PE (verP (sum256 []) (mkP [98] (putO [98] [50] (putO [97] [49] none))))=PE (verP (sum256 []) (mkP [98] (putO [98] [50] (putO [97] [49] none)))))∧((verP (sum256 []) (mkP [98] (putO [98] [50] (putO [97] [49] none)))).isNone=(verP (sum256 []) (mkP [98] (putO [98] [50] (putO [97] [49] none)))).isNone)) ⟨rfl,rfl,rfl⟩ (fun g24 p25=>?_)
       have p25:True:=p25
       refine v_guard 70 (decide (codeO (verP (sum256 []) (mkP [98] (putO [98] [50] (putO [97] [49] none))))=21)) True trivial (fun h26=>?_) (fun h26=>?_)
       ·have h26:=of_decide_eq_true h26
        refine v_guard 75 (!(gapL [99] (putO [98] [50] (putO [97] [49] none))).fst.isNone) True trivial (fun h27=>?_) (fun h27=>?_)
        ·have h27:=(nt h27)
         refine v_guard 80 ((gapL [99] (putO [98] [50] (putO [97] [49] none))).snd.isNone) True trivial (fun h28=>?_) (fun h28=>?_)
         ·skip
          refine v_pick True trivial ?_ ?_
          ·skip
           refine v_call _ [0,9] (Root_ok (putO [98] [50] (putO [97] [49] none))) ((wordsP=wordsP)∧(PTO (putO [98] [50] (putO [97] [49] none))=PTO (putO [98] [50] (putO [97] [49] none)))∧(false=false)) ⟨rfl,rfl,rfl⟩ (fun g29 p30=>?_)
           have p30:True:=p30
           refine v_call _ [0,22,16,17] (VerifyGap_ok (hashO (putO [98] [50] (putO [97] [49] none))) ([99]) ((gapL [99] (putO [98] [50] (putO [97] [49] none))).fst) ((gapL [99] (putO [98] [50] (putO [97] [49] none))).snd) rfl (by decide) (by decide)) ((0<1)∧(hashO (putO [98] [50] (putO [97] [49] none))=hashO (putO [98] [50] (putO [97] [49] none)))∧(wordsP=wordsP)∧([(99:UInt8)]=[(99:UInt8)])∧((gapL [99] (putO [98] [50] (putO [97] [49] none))).fst=(gapL [99] (putO [98] [50] (putO [97] [49] none))).fst)∧((gapL [99] (putO [98] [50] (putO [97] [49] none))).snd=(gapL [99] (putO [98] [50] (putO [97] [49] none))).snd)) ⟨(by decide),rfl,rfl,rfl,rfl,rfl⟩ (fun g31 p32=>?_)
           have p32:True:=p32
           exact v_back (()) [] (((vgP (hashO (putO [98] [50] (putO [97] [49] none))) [99] (gapL [99] (putO [98] [50] (putO [97] [49] none))).fst (gapL [99] (putO [98] [50] (putO [97] [49] none))).snd).isNone=(vgP (hashO (putO [98] [50] (putO [97] [49] none))) [99] (gapL [99] (putO [98] [50] (putO [97] [49] none))).fst (gapL [99] (putO [98] [50] (putO [97] [49] none))).snd).isNone)) rfl (show True from trivial)
          ·skip
           refine v_pick True trivial ?_ ?_
           ·skip
            refine v_call _ [0,9] (Root_ok (putO [98] [50] (putO [97] [49] none))) ((wordsP=wordsP)∧(PTO (putO [98] [50] (putO [97] [49] none))=PTO (putO [98] [50] (putO [97] [49] none)))∧(false=false)) ⟨rfl,rfl,rfl⟩ (fun g33 p34=>?_)
            have p34:True:=p34
            refine v_call _ [0,22,16,17] (VerifyGap_ok (hashO (putO [98] [50] (putO [97] [49] none))) ([99]) ((gapL [99] (putO [98] [50] (putO [97] [49] none))).fst) ((gapL [99] (putO [98] [50] (putO [97] [49] none))).snd) rfl (by decide) (by decide)) ((0<1)∧(hashO (putO [98] [50] (putO [97] [49] none))=hashO (putO [98] [50] (putO [97] [49] none)))∧(wordsP=wordsP)∧([(99:UInt8)]=[(99:UInt8)])∧((gapL [99] (putO [98] [50] (putO [97] [49] none))).fst=(gapL [99] (putO [98] [50] (putO [97] [49] none))).fst)∧((gapL [99] (putO [98] [50] (putO [97] [49] none))).snd=(gapL [99] (putO [98] [50] (putO [97] [49] none))).snd)) ⟨(by decide),rfl,rfl,rfl,rfl,rfl⟩ (fun g35 p36=>?_)
            have p36:True:=p36
            exact v_back (()) [] (((vgP (hashO (putO [98] [50] (putO [97] [49] none))) [99] (gapL [99] (putO [98] [50] (putO [97] [49] none))).fst (gapL [99] (putO [98] [50] (putO [97] [49] none))).snd).isNone=(vgP (hashO (putO [98] [50] (putO [97] [49] none))) [99] (gapL [99] (putO [98] [50] (putO [97] [49] none))).fst (gapL [99] (putO [98] [50] (putO [97] [49] none))).snd).isNone)) rfl (show True from trivial)
           ·skip
            refine v_call _ [0,9] (Root_ok (putO [98] [50] (putO [97] [49] none))) ((0<1)∧(wordsP=wordsP)∧(PTO (putO [98] [50] (putO [97] [49] none))=PTO (putO [98] [50] (putO [97] [49] none)))∧(false=false)) ⟨(by decide),rfl,rfl,rfl⟩ (fun g37 p38=>?_)
            have p38:True:=p38
            refine v_call _ [0,22,16,17] (VerifyGap_ok (hashO (putO [98] [50] (putO [97] [49] none))) ([99]) ((gapL [99] (putO [98] [50] (putO [97] [49] none))).fst) ((gapL [99] (putO [98] [50] (putO [97] [49] none))).snd) rfl (by decide) (by decide)) ((hashO (putO [98] [50] (putO [97] [49] none))=hashO (putO [98] [50] (putO [97] [49] none)))∧(wordsP=wordsP)∧([(99:UInt8)]=[(99:UInt8)])∧((gapL [99] (putO [98] [50] (putO [97] [49] none))).fst=(gapL [99] (putO [98] [50] (putO [97] [49] none))).fst)∧((gapL [99] (putO [98] [50] (putO [97] [49] none))).snd=(gapL [99] (putO [98] [50] (putO [97] [49] none))).snd)) ⟨rfl,rfl,rfl,rfl,rfl⟩ (fun g39 p40=>?_)
            have p40:True:=p40
            exact v_back (()) [] (((vgP (hashO (putO [98] [50] (putO [97] [49] none))) [99] (gapL [99] (putO [98] [50] (putO [97] [49] none))).fst (gapL [99] (putO [98] [50] (putO [97] [49] none))).snd).isNone=(vgP (hashO (putO [98] [50] (putO [97] [49] none))) [99] (gapL [99] (putO [98] [50] (putO [97] [49] none))).fst (gapL [99] (putO [98] [50] (putO [97] [49] none))).snd).isNone)) rfl (show True from trivial)
         ·skip
          exfalso;(simp_all;done)
        ·have h27:=(nf h27)
         exfalso;(simp_all;done)
       ·have h26:=of_decide_eq_false h26
        omega
      ·skip
       exfalso;(rw[v1] at *;simp at *;done)
     ·skip
      exfalso;(simp_all;done)
    ·have h13:=of_decide_eq_false h13
     omega
   ·skip
    exfalso;(simp_all;done)
  ·skip
   exfalso;(simp_all;done)
 ·skip
  exact v_ret () [] (((vgP (hashO (putO [98] [50] (putO [97] [49] none))) [99] (gapL [99] (putO [98] [50] (putO [97] [49] none))).fst (gapL [99] (putO [98] [50] (putO [97] [49] none))).snd).isNone=true)∧(wordsP=wordsP)∧(etP=etP)) ⟨(by(simp;omega)),rfl,rfl⟩ trivial
theorem aw_fine:fine (putO [98] [50] (putO [97] [49] none)):=by
  refine⟨?_,?_,?_⟩
  · show Srt [⟨[97], [49]⟩, ⟨[98], [50]⟩]
    exact List.pairwise_cons.2 ⟨fun p hp=>by rw[List.mem_singleton.1 hp];decide,List.pairwise_singleton ..⟩
  · show lvOk [⟨[97], [49]⟩, ⟨[98], [50]⟩]
    intro p hp
    rcases List.mem_cons.1 hp with rfl | hp
    · decide
    · rw[List.mem_singleton.1 hp];decide
  · have h := okN.put (k := [98]) (v := [50]) (okN.put (k := [97]) (v := [49]) (n := 0) (o := none) (fun t e => by simp at e) (by decide) (by decide)) (by decide) (by decide)
    exact fun t e=>⟨(h t e).1,by have:=(h t e).2;omega⟩
theorem aw_hash:hashO (putO [98] [50] (putO [97] [49] none))≠sum256 []:=by
  intro h
  have h1:((hashO (putO [98] [50] (putO [97] [49] none))).getD 0 0 == (sum256 []).getD 0 0)=false:=by decide +kernel
  rw[h] at h1;simp at h1
theorem aw_m:mkB [98] (putO [98] [50] (putO [97] [49] none))=true:=by decide
theorem aw_v1:verP (hashO (putO [98] [50] (putO [97] [49] none))) (mkP [98] (putO [98] [50] (putO [97] [49] none)))=none:=verP_make aw_fine aw_m
theorem aw_v2:codeO (verP (sum256 []) (mkP [98] (putO [98] [50] (putO [97] [49] none))))=21:=by
  unfold verP;rw[verify_make aw_fine aw_m]
  show codeO (if hashO (putO [98] [50] (putO [97] [49] none))=sum256 [] then none else some (.step ((#[114,111,111,116]:Array UInt8).toList) 0 (.num 21)))=21
  rw[if_neg aw_hash];rfl
theorem aw_gap:gapL [99] (putO [98] [50] (putO [97] [49] none))=(some (mkP [98] (putO [98] [50] (putO [97] [49] none))),none):=by rfl
theorem aw_v3:vgP (hashO (putO [98] [50] (putO [97] [49] none))) [99] (some (mkP [98] (putO [98] [50] (putO [97] [49] none)))) none=none:=by
  have hs:vgS (hashO (putO [98] [50] (putO [97] [49] none))) [99] 0 (some (mkP [98] (putO [98] [50] (putO [97] [49] none))))=none :=
    vs4 rfl (by show(verP (hashO (putO [98] [50] (putO [97] [49] none))) (mkP [98] (putO [98] [50] (putO [97] [49] none)))).isNone=true;rw[aw_v1];rfl) (by decide) (by decide)
  rw[vg_left (by decide) (by decide) rfl rfl (by decide)]
  unfold vgL;rw[hs];rfl
theorem Awake9_ok:FOk EN 15 ⟨[.pr wordsP,.pr etP],[],Unit,fun _=>([.pr wordsP,.pr etP],.b true),fun _=>True⟩:=by
  refine Awake9_aux (fun t e=>by simp at e) ?_ aw_fine.O aw_m (by decide) (by decide) (by decide) (by decide) aw_v1 aw_v2 (by decide) (by decide) ?_ (by decide) (by decide)
  · have h := okN.put (k := [97]) (v := [49]) (n := 0) (o := none) (fun t e => by simp at e) (by decide) (by decide)
    exact h.O (by decide)
  · rw[aw_gap];exact aw_v3
theorem grow_lv (acts:List Act) (m:Nat):(growT acts m).2=leavesO (growT acts m).1:=(growT_ok acts m).2
theorem growT_le (acts:List Act) {m:Nat}:(growT acts m).2.length≤m:=by rw[grow_lv];exact(growT_okN acts m).leaves
section
variable {acts:List Act} {m i:Nat}
theorem turns_le (k:List UInt8) (hm:m≤64):(mkP k (growT acts m).1).turns.length≤100:=by
  cases e:(growT acts m).1 with
  | none=>exact Nat.zero_le _
  | some t =>
    have h:=(growT_okN acts m) t e
    simp only[mkP];split
    · have:=t.turns_len k;have:=t.height_depth;show(t.turns k).length≤100;omega
    · exact Nat.zero_le _
end
end Go.Proofs.YtnicmjipbnhciaaDoor.X
set_option linter.unusedVariables false
set_option linter.unusedSimpArgs false
namespace Go.Proofs.YtnicmjipbnhciaaDoor.X
open Go Go.RowKit Go.Proofs.YtnicmjipbnhciaaDoor.E
def OpF {α:Type} (P:Program) (t:TypeId) (fs:Array Go.Field) (off:Nat) (T:Ty α):Prop :=
  ∀(w:World) (cs:List Value),cs.length=P.cellsOf t→(∀(i:Nat) (f:Go.Field),fs[i]? = some f→∀ {β:Type} {U:Ty β},E.Opens P f.type U→∀ o sz,f.offset=o→P.cellsOf f.type=sz→∃ a,U.rep (sig0 w) w a ((cs.drop o).take sz))→∃ a,T.rep (sig0 w) w a (cs.drop off)
section
variable {α β:Type} {P:Program} {t:TypeId} {fs:Array Go.Field} {off n:Nat} {A:Ty α} {B:Ty β} {f:Go.Field}
theorem opF_cons (i:Nat) (hf:fs[i]? = some f) (ho:f.offset=off) (O:E.Opens P f.type A) (hs:P.cellsOf f.type=n) (hB:OpF P t fs (off+n) B):OpF P t fs off (tProd A B):=by
  intro w cs hl h
  obtain⟨a,ha⟩:=h i f hf O off n ho hs
  obtain⟨b,hb⟩:=hB w cs hl h
  exact⟨(a,b),_,_,by rw[← List.drop_drop];exact(List.take_append_drop n _).symm,ha,hb⟩
theorem opF_last (i:Nat) (hf:fs[i]? = some f) (ho:f.offset=off) (O:E.Opens P f.type A) (hs:P.cellsOf f.type=n) (tot:P.cellsOf t=off+n):OpF P t fs off A:=by
  intro w cs hl h
  obtain⟨a,ha⟩:=h i f hf O off n ho hs
  rw[List.take_of_length_le (by rw[List.length_drop];omega)] at ha
  exact⟨a,ha⟩
theorem opens_rec (ht:P.underlying t=some (.struct fs)) (h:OpF P t fs 0 A):E.Opens P t A:=by
  intro H enc w sp held fuel cs x hx hw
  obtain⟨hl,hf⟩:=opens_field ht hx hw
  obtain⟨a,ha⟩:=h w cs hl (fun i f hi β U O o sz ho hs=>hf i f hi O o sz ho hs)
  exact⟨a,by simpa using ha⟩
theorem opens_by (n:Nat) (h:E.Opens P t A):E.Opens P t (tBy A n):=h
theorem opens_iso {g:β→α} (k:α→β) (hg:∀ b,g (k b)=b) (h:E.Opens P t A):E.Opens P t (tIso g A):=by
  intro H enc w sp held fuel cs x hx hw
  obtain⟨b,hb⟩:=h hx hw
  exact⟨k b,by show A.rep _ _ (g (k b)) _;rw[hg];exact hb⟩
end
def u8Of:Option Value→UInt8
  | some (.int .u8 n)=>UInt8.ofNat n.toNat
  | _=>0
theorem u8Of_bv (b:UInt8):u8Of (some (bv b))=b:=by simp[u8Of,bv]
theorem opens_hash {P:Program} {t e:TypeId} (ht:P.underlying t=some (.array 32 e)) (he:P.underlying e=some (.int .u8)) (hc:P.cellsOf e=1) (hct:P.cellsOf t=32):E.Opens P t tHash:=by
  intro H enc w sp held fuel cs x hx hw
  obtain⟨xs,m,rfl,rfl,hl,hn,hel⟩:=DataW.trod_array ht hx
  rw[hct] at hl
  have hb:∀ i,i<32→∃ b:UInt8,cs[i]? = some (bv b):=fun i hi=>by
    have h:=hel i hi
    rw[hc,Nat.mul_one,List.getElem?_eq_getElem (by omega)] at h
    obtain⟨n,e1,_,hw⟩:=DataW.trod_int he h
    obtain⟨b,rfl⟩:=wf_u8 hw
    refine⟨b,?_⟩
    have:((cs.drop i).take 1)[0]? = some (.int .u8 (b.toNat:Int)):=by rw[e1];rfl
    simpa using this
  refine⟨mk32 ((List.range 32).map fun i=>u8Of cs[i]?),?_⟩
  show cs=hk 32 (mk32 _).l
  rw[mk32_hk]
  apply List.ext_getElem?
  intro i
  by_cases hi:i<32
  · obtain ⟨b, e1⟩ := hb i hi
    rw[e1]
    simp[hk,hi,e1,List.getD_eq_getElem?_getD,u8Of_bv]
  · rw[List.getElem?_eq_none (by omega),List.getElem?_eq_none (by rw[hk_len];omega)]
theorem opens_ptr {α:Type} {P:Program} {t e:TypeId} {T:Ty α} (ht:P.underlying t=some (.pointer e)) (hsz:P.cellsOf e=T.sz) (h0:0<T.sz) (O:E.Opens P e T):E.Opens P t (tPtr T):=by
  intro H enc w sp held fuel cs x hx hw
  rcases DataW.trod_pointer ht hx with⟨rfl,rfl⟩ | ⟨a,cs',y,n,rfl,rfl,rfl,hc,hy⟩
  · exact⟨none,_,rfl,rfl⟩
  · obtain ⟨hcl, hcc⟩ := cells_some hc
    have hp:0<cs'.length:=by omega
    have h2:=hcc 0 _ (List.getElem?_eq_getElem hp)
    have h3:a.add 0=a:=by simp[Addr.add]
    rw[h3] at h2
    have hplain:∃ b o,a=⟨b,o,none⟩:=by
      refine⟨a.block,a.off,?_⟩
      cases hs:a.spot with
      | none=>cases a;simp_all
      | some s =>
        unfold World.cell? at h2
        rw[hs] at h2
        simp only[Option.isSome_some,if_true] at h2
        split at h2 <;> simp at h2
    obtain⟨b,o,rfl⟩:=hplain
    obtain⟨z,hz⟩:=O hy (fun m hm=>hw m (by simp only[DataW.weights,ht];first | exact hm | exact List.mem_cons_of_mem _ hm))
    refine⟨some z,_,rfl,b,o,cs',rfl,⟨.inr (World.block_lt_of_cell? w _ h2),fun j v hv=>?_⟩,hz⟩
    have:=hcc j v hv
    rw[Addr.add_lit] at this
    exact⟨sig0_lt this,this⟩
/-- An argument of any kind. -/
theorem arg_any {α:Type} {H:Type} {P:Program} {enc:TypeId × Value→H} {w:World} {sp:Nat→Bool} {held:Bool} {t:TypeId} {T:Ty α} {v:Value} {d:DataW H} {ps:List MemPlace} {ts:List TypeId} {ds:List (DataW H)} {j:Nat} (O:E.Opens P t T)
    (h:DataW.Trod enc P w 0 sp held t v d ps) (hsz:(DataW.weightsEach P ts ds).all (·≤reachBytes)=true) (ht:ts[j]? = some t) (hd:ds[j]? = some d):∃ x,T.rep (sig0 w) w x v.cells.toList:=by
  obtain⟨fuel,hf⟩:=h
  exact O hf (fun n hn=>by
    have:=List.all_eq_true.1 hsz n (DataW.weights_mem_each ht hd n hn)
    simpa using this)
theorem pt_one1 {α:Type} {T:Ty α} {σ:Nat→Nat} {w:World} {v:Value} {o:Option α} (h:Pt T σ w v o):v.oneCell'=true:=by
  cases o with
  | none=>rw[show v=_ from h];rfl
  | some x=>obtain⟨b,i,cs,e,_⟩:=h;rw[e];rfl
theorem rd_u8_len {σ:Nat→Nat} {w:World} {v:Value} {xs:List UInt8} (h:Rd tU8 σ w v xs):xs.length≤140737488355328:=by
  have:=h.bd;rwa [show tU8.by_=1 from rfl,Nat.mul_one] at this
end Go.Proofs.YtnicmjipbnhciaaDoor.X
set_option linter.unusedVariables false
set_option linter.unusedSimpArgs false
set_option maxRecDepth 100000
namespace Go.Proofs.YtnicmjipbnhciaaDoor.X
open Go Go.RowKit Go.Proofs Go.Proofs.YtnicmjipbnhciaaDoor.E
set_option maxHeartbeats 4000000
def GS (l r:Option Proof) (i:Nat):Prop:=i≤2∧(1≤i→(gp l).turns.length≤100)∧(2≤i→(gp r).turns.length≤100)
section
variable {l r:Option Proof} {i:Nat}
theorem GS.start:GS l r 0:=⟨by omega,by omega,by omega⟩
theorem GS.next (h:GS l r i) (hi:(i:Int)<2) (hs:(gp ([l,r].getD i none)).turns.length≤100):GS l r (i+1)∧2 - (i+1)<2 - i:=by
  refine⟨?_,by omega⟩
  have:i=0∨i=1:=by omega
  rcases this with rfl | rfl
  · exact⟨by omega,fun _=>hs,by omega⟩
  · exact⟨by omega,fun _=>h.2.1 (by omega),fun _=>hs⟩
theorem GS.nil {o:Option Proof} (h:o.isNone=true):(gp o).turns.length≤100:=by
  cases o with
  | none=>decide
  | some x=>simp at h
theorem GS.next1 (h:GS l r i) (hi:(i:Int)<(2:Nat)) (hs:¬ (100:Int)<((gp ([l,r].getD (i:Int).toNat none)).turns.length:Int)):GS l r (i+1)∧2 - (i+1)<2 - i:=h.next hi (by rw[Int.toNat_natCast] at hs;omega)
theorem GS.next2 (h:GS l r i) (hi:(i:Int)<(2:Nat)) (hs:([l,r].getD (i:Int).toNat none).isNone=true):GS l r (i+1)∧2 - (i+1)<2 - i:=h.next hi (GS.nil hs)
theorem GS.lt (h:GS l r i) (hi:¬ (i:Int)<2):(gp l).turns.length≤1000000:=Nat.le_trans (h.2.1 (by omega)) (by decide)
theorem GS.rt (h:GS l r i) (hi:¬ (i:Int)<2):(gp r).turns.length≤1000000:=Nat.le_trans (h.2.2 (by omega)) (by decide)
end
theorem GS.ln {l r:Option Proof} {q:Nat} {c:Nat} (h3:(gp l).key.length≤c∧(gp l).value.length≤c) (h4:(gp r).key.length≤c∧(gp r).value.length≤c) (hi:(q:Int)<2):(gp ([l,r].getD (q:Int).toNat none)).key.length≤c∧(gp ([l,r].getD (q:Int).toNat none)).value.length≤c:=by
  have:q=0∨q=1:=by omega
  rcases this with rfl | rfl
  · exact h3
  · exact h4
theorem Tr.fin_le {k:List UInt8}:∀ {t:Tr},t.Ks→(t.fin k).key.length≤1000
  | .leaf _ _,h=>h.1
  | .node l r,h=>by unfold Tr.fin;split <;> first | exact Tr.fin_le (t:=l) h.1 | exact Tr.fin_le (t:=r) h.2
theorem gp_len {σ:Nat→Nat} {w:World} {v:Value} {o:Option Proof} (h:Pt tProof σ w v o):(gp o).key.length≤140737488355328∧(gp o).value.length≤140737488355328:=by
  cases o with
  | none=>exact⟨Nat.zero_le _,Nat.zero_le _⟩
  | some x =>
    obtain⟨b,i,cs,_,_,hr⟩:=h
    obtain⟨c1,c2,e,⟨a,rfl,ha⟩,c3,c4,rfl,⟨b,rfl,hb⟩,_⟩:=hr
    exact⟨rd_u8_len ha,rd_u8_len hb⟩
end Go.Proofs.YtnicmjipbnhciaaDoor.X
