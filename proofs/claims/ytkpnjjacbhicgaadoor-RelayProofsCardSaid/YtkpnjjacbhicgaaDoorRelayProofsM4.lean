/- What the law RelayProofs needs: the engine, the walks of what it reaches, plain laws; part 4. -/
import Derived.Test.YtkpnjjacbhicgaaDoorRelayProofsM3
import Derived.Shelf.SlSortCmp.NoneTotal
set_option linter.unnecessarySimpa false
set_option linter.deprecated false
set_option linter.unusedVariables false
set_option linter.unusedSimpArgs false
set_option maxRecDepth 100000
namespace Go.Proofs.YtkpnjjacbhicgaaDoor.X
open Go Go.RowKit Go.Proofs Go.Proofs.YtkpnjjacbhicgaaDoor.E
namespace Tr
def put (k v:List UInt8):Tr→Tr
  | leaf a b=>if Lib.compareBytes k a<0 then node (leaf k v) (leaf a b) else if 0<Lib.compareBytes k a then node (leaf a b) (leaf k v) else leaf k v
  | node l r=>if Lib.compareBytes k r.least<0 then(l.put k v).bal r else l.bal (r.put k v)
theorem bal_Ks {l r:Tr} (h1:l.Ks) (h2:r.Ks):(l.bal r).Ks:=by
  unfold bal
  split
  · cases l with
    | leaf a b=>exact⟨h1,h2⟩
    | node a b =>
      dsimp only
      split
      · cases b with
        | leaf c d=>exact⟨h1,h2⟩
        | node c d=>exact⟨⟨h1.1,h1.2.1⟩,h1.2.2,h2⟩
      · exact⟨h1.1,h1.2,h2⟩
  · split
    · cases r with
      | leaf a b=>exact⟨h1,h2⟩
      | node a b =>
        dsimp only
        split
        · cases a with
          | leaf c d=>exact⟨h1,h2⟩
          | node c d=>exact⟨⟨h1,h2.1.1⟩,h2.1.2,h2.2⟩
        · exact⟨⟨h1,h2.1⟩,h2.2⟩
    · exact⟨h1,h2⟩
theorem bal_height (l r:Tr):(l.bal r).height≤1+max l.height r.height:=by
  unfold bal
  split
  · cases l with
    | leaf a b=>exact Int.le_refl _
    | node a b =>
      dsimp only
      split
      · cases b with
        | leaf c d=>exact Int.le_refl _
        | node c d=>simp only[height] at *;omega
      · simp only[height] at *;omega
  · split
    · cases r with
      | leaf a b=>exact Int.le_refl _
      | node a b =>
        dsimp only
        split
        · cases a with
          | leaf c d=>exact Int.le_refl _
          | node c d=>simp only[height] at *;omega
        · simp only[height] at *;omega
    · exact Int.le_refl _
theorem put_Ks {k v:List UInt8} (hk:k.length≤1000∧v.length≤1000):∀ {t:Tr},t.Ks→(t.put k v).Ks
  | leaf a b,h=>by unfold put;split;exact⟨hk,h⟩;split;exact⟨h,hk⟩;exact hk
  | node l r,h=>by unfold put;split;exact bal_Ks (put_Ks hk h.1) h.2;exact bal_Ks h.1 (put_Ks hk h.2)
theorem put_height (k v:List UInt8):∀ t:Tr,(t.put k v).height≤t.height+1
  | leaf a b=>by unfold put;split;simp[height];split;simp[height];simp[height]
  | node l r => by
    have h1:=put_height k v l;have h2:=put_height k v r
    unfold put;split
    · have:=bal_height (l.put k v) r;simp only[height];omega
    · have:=bal_height l (r.put k v);simp only[height];omega
end Tr
noncomputable def c41:Code:=(Tryd.f41.body).getD .skip
theorem putnil_ok (k v:List UInt8) (hk:k.length≤1000) (hv:v.length≤1000):FOk EN 41 ⟨[.pr wordsP,.rd 5 k,.rd 5 v],[.v (.pointer none),.n 1,.n 2],Unit,fun _=>([.pr wordsP,.rd 5 k,.rd 5 v,.pn (PT (.leaf k v)) false false],.p 3 0),fun _=>True⟩:=by
 refine v_fun Tryd.f41 c41 MX (fun ν F σ w=>?_) Tryd.func41
 refine v_nl ?_
 refine v_call _ [0,1,2] (leaf_ok (k) (v) ‹_› ‹_›) ((wordsP=wordsP)∧(k=k)∧(v=v)) ⟨rfl,rfl,rfl⟩ (fun g1 p2=>?_)
 have p2:True:=p2
 exact v_ret () [4] ((wordsP=wordsP)∧(k=k)∧(v=v)∧(PT (Tr.leaf k v)=PT (Tr.leaf k v))∧(false=false)) ⟨rfl,rfl,rfl,rfl,rfl⟩ trivial
theorem put_leaf_aux (k v a b:List UInt8) (hk:k.length≤1000) (hv:v.length≤1000) (hab:(Tr.leaf a b).Ks):FOk EN 41 ⟨[.pr wordsP,.rd 5 k,.rd 5 v,.pn (PT (.leaf a b)) false false],[.p 3 0,.n 1,.n 2],Unit,fun _=>([.pr wordsP,.rd 5 k,.rd 5 v,.pn (PT (.leaf a b)) false false,.pn (PT ((Tr.leaf a b).put k v)) false false],.p 4 0),fun _=>True⟩:=by
 refine v_fun Tryd.f41 c41 MX (fun ν F σ w=>?_) Tryd.func41
 refine v_nl ?_
 refine v_if (false) True trivial (fun h1=>?_) (fun h1=>?_)
 ·skip
  contradiction
 ·skip
  refine v_open 3 (open_leaf (a) (b)) ((false=false)∧(PT (Tr.leaf a b)=PT (Tr.leaf a b))) ⟨rfl,rfl⟩ ?_
  refine v_call _ [1,5] (bcmp_ok (k) (a)) ((k=k)∧(a=a)) ⟨rfl,rfl⟩ (fun g2 p3=>?_)
  have p3:True:=p3
  refine v_guard 27 (decide ((0:Int)<(0:Int))) True trivial (fun h4=>?_) (fun h4=>?_)
  ·have h4:=of_decide_eq_true h4
   omega
  ·have h4:=of_decide_eq_false h4
   refine v_if (decide ((0:Int)<(0:Int))) True trivial (fun h5=>?_) (fun h5=>?_)
   ·have h5:=of_decide_eq_true h5
    omega
   ·have h5:=of_decide_eq_false h5
    refine v_if (decide (Lib.compareBytes k a<0)) True trivial (fun h6=>?_) (fun h6=>?_)
    ·have h6:=of_decide_eq_true h6
     refine v_call _ [0,1,2] (leaf_ok (k) (v) ‹_› ‹_›) ((wordsP=wordsP)∧(k=k)∧(v=v)) ⟨rfl,rfl,rfl⟩ (fun g7 p8=>?_)
     have p8:True:=p8
     refine v_call _ [0,7,3] (inner_ok (Tr.leaf k v) (Tr.leaf a b) (by exact Tr.ok (by first | exact hab | exact⟨hk,hv⟩) (by simp only[Tr.height];decide)) (by exact Tr.ok (by first | exact hab | exact⟨hk,hv⟩) (by simp only[Tr.height];decide))) ((wordsP=wordsP)∧(PT (Tr.leaf k v)=PT (Tr.leaf k v))∧(false=false)∧(PLe (PT (Tr.leaf a b)) (PT (Tr.leaf a b)))∧(false=false)) ⟨rfl,rfl,rfl,fun _ _ _ h=>h,rfl⟩ (fun g9 p10=>?_)
     have p10:True:=p10
     exact v_ret () [8] ((wordsP=wordsP)∧(k=k)∧(v=v)∧(PLe (PT (Tr.leaf a b)) (PT (Tr.leaf a b)))∧(false=false)∧(PT ((Tr.leaf k v).node (Tr.leaf a b))=PT (Tr.put k v (Tr.leaf a b)))∧(false=false)) ⟨rfl,rfl,rfl,fun _ _ _ h=>h,rfl,(by(simp only[Tr.put];(repeat first | rw[if_pos (by omega)] | rw[if_neg (by omega)]);done)),rfl⟩ trivial
    ·have h6:=of_decide_eq_false h6
     refine v_if (decide (0<Lib.compareBytes k a)) True trivial (fun h11=>?_) (fun h11=>?_)
     ·have h11:=of_decide_eq_true h11
      refine v_call _ [0,1,2] (leaf_ok (k) (v) ‹_› ‹_›) ((wordsP=wordsP)∧(k=k)∧(v=v)) ⟨rfl,rfl,rfl⟩ (fun g12 p13=>?_)
      have p13:True:=p13
      refine v_call _ [0,3,7] (inner_ok (Tr.leaf a b) (Tr.leaf k v) (by exact Tr.ok (by first | exact hab | exact⟨hk,hv⟩) (by simp only[Tr.height];decide)) (by exact Tr.ok (by first | exact hab | exact⟨hk,hv⟩) (by simp only[Tr.height];decide))) ((wordsP=wordsP)∧(PLe (PT (Tr.leaf a b)) (PT (Tr.leaf a b)))∧(false=false)∧(PT (Tr.leaf k v)=PT (Tr.leaf k v))∧(false=false)) ⟨rfl,fun _ _ _ h=>h,rfl,rfl,rfl⟩ (fun g14 p15=>?_)
      have p15:True:=p15
      exact v_ret () [8] ((wordsP=wordsP)∧(k=k)∧(v=v)∧(PLe (PT (Tr.leaf a b)) (PT (Tr.leaf a b)))∧(false=false)∧(PT ((Tr.leaf a b).node (Tr.leaf k v))=PT (Tr.put k v (Tr.leaf a b)))∧(false=false)) ⟨rfl,rfl,rfl,fun _ _ _ h=>h,rfl,(by(simp only[Tr.put];(repeat first | rw[if_pos (by omega)] | rw[if_neg (by omega)]);done)),rfl⟩ trivial
     ·have h11:=of_decide_eq_false h11
      refine v_call _ [0,1,2] (leaf_ok (k) (v) ‹_› ‹_›) ((wordsP=wordsP)∧(k=k)∧(v=v)) ⟨rfl,rfl,rfl⟩ (fun g16 p17=>?_)
      have p17:True:=p17
      exact v_ret () [7] ((wordsP=wordsP)∧(k=k)∧(v=v)∧(PLe (PT (Tr.leaf a b)) (PT (Tr.leaf a b)))∧(false=false)∧(PT (Tr.leaf k v)=PT (Tr.put k v (Tr.leaf a b)))∧(false=false)) ⟨rfl,rfl,rfl,fun _ _ _ h=>h,rfl,(by(simp only[Tr.put];(repeat first | rw[if_pos (by omega)] | rw[if_neg (by omega)]);done)),rfl⟩ trivial
theorem put_node_aux (k v:List UInt8) (l r:Tr) (hk:k.length≤1000) (hv:v.length≤1000) (hlr:(Tr.node l r).Ks) (hh:(Tr.node l r).height<700) (hpos:0<(Tr.node l r).height)
  (ihl:FOk EN 41 ⟨[.pr wordsP,.rd 5 k,.rd 5 v,.pn (PT l) false false],[.p 3 0,.n 1,.n 2],Unit,fun _=>([.pr wordsP,.rd 5 k,.rd 5 v,.pn (PT l) false false,.pn (PT (l.put k v)) false false],.p 4 0),fun _=>True⟩)
  (ihr:FOk EN 41 ⟨[.pr wordsP,.rd 5 k,.rd 5 v,.pn (PT r) false false],[.p 3 0,.n 1,.n 2],Unit,fun _=>([.pr wordsP,.rd 5 k,.rd 5 v,.pn (PT r) false false,.pn (PT (r.put k v)) false false],.p 4 0),fun _=>True⟩) :
  FOk EN 41 ⟨[.pr wordsP,.rd 5 k,.rd 5 v,.pn (PT (.node l r)) false false],[.p 3 0,.n 1,.n 2],Unit,fun _=>([.pr wordsP,.rd 5 k,.rd 5 v,.pn (PT (.node l r)) false false,.pn (PT ((Tr.node l r).put k v)) false false],.p 4 0),fun _=>True⟩:=by
 refine v_fun Tryd.f41 c41 MX (fun ν F σ w=>?_) Tryd.func41
 refine v_nl ?_
 refine v_if (false) True trivial (fun h1=>?_) (fun h1=>?_)
 ·skip
  contradiction
 ·skip
  refine v_open 3 (open_node (l) (r)) ((false=false)∧(PT (l.node r)=PT (l.node r))) ⟨rfl,rfl⟩ ?_
  refine v_call _ [1,5] (bcmp_ok (k) ((l.node r).key)) ((k=k)∧((l.node r).key=(l.node r).key)) ⟨rfl,rfl⟩ (fun g2 p3=>?_)
  have p3:True:=p3
  refine v_guard 27 (decide (0<(l.node r).height)) True trivial (fun h4=>?_) (fun h4=>?_)
  ·have h4:=of_decide_eq_true h4
   refine v_if (decide (Lib.compareBytes k (l.node r).key<0)) True trivial (fun h5=>?_) (fun h5=>?_)
   ·have h5:=of_decide_eq_true h5
    refine v_plan (.fs [0,1,2,3,4,5,7,8,9,10] (.o 6 (.o 11 (.fs [12] .e)))) [] True trivial ?_
    refine v_call _ [0,1,2,6] (ihl) ((wordsP=wordsP)∧(k=k)∧(v=v)∧(PT l=PT l)∧(false=false)) ⟨rfl,rfl,rfl,rfl,rfl⟩ (fun g6 p7=>?_)
    have p7:True:=p7
    refine v_call _ [0,8,7] (bal_ok (Tr.put k v l) (r) (by exact Tr.put_Ks ⟨hk,hv⟩ hlr.1) (by exact hlr.2) (by(have h1:=Tr.put_height k v l;have h2:=Tr.put_height k v r;simp only[Tr.height] at hh;omega)) (by(have h1:=Tr.put_height k v l;have h2:=Tr.put_height k v r;simp only[Tr.height] at hh;omega))) ((wordsP=wordsP)∧(PT (Tr.put k v l)=PT (Tr.put k v l))∧(false=false)∧(PT r=PT r)∧(false=false)) ⟨rfl,rfl,rfl,rfl,rfl⟩ (fun g8 p9=>?_)
    have p9:True:=p9
    exact v_ret () [9] ((wordsP=wordsP)∧(k=k)∧(v=v)∧(PLe (PT (l.node r)) (PT (l.node r)))∧(false=false)∧(PT ((Tr.put k v l).bal r)=PT (Tr.put k v (l.node r)))∧(false=false)) ⟨rfl,rfl,rfl,fun _ _ _ h=>h,rfl,(by exact congrArg PT (Eq.symm (by rw[Tr.put];first | exact if_pos ‹_› | exact if_neg ‹_›))),rfl⟩ trivial
   ·have h5:=of_decide_eq_false h5
    refine v_if (decide (0<(l.node r).height)) True trivial (fun h10=>?_) (fun h10=>?_)
    ·have h10:=of_decide_eq_true h10
     refine v_plan (.fs [0,1,2,3,4,5,6,7,8,9] (.o 10 (.o 11 (.fs [12] .e)))) [] True trivial ?_
     refine v_call _ [0,1,2,7] (ihr) ((wordsP=wordsP)∧(k=k)∧(v=v)∧(PT r=PT r)∧(false=false)) ⟨rfl,rfl,rfl,rfl,rfl⟩ (fun g11 p12=>?_)
     have p12:True:=p12
     refine v_call _ [0,6,8] (bal_ok (l) (Tr.put k v r) (by exact hlr.1) (by exact Tr.put_Ks ⟨hk,hv⟩ hlr.2) (by(have h1:=Tr.put_height k v l;have h2:=Tr.put_height k v r;simp only[Tr.height] at hh;omega)) (by(have h1:=Tr.put_height k v l;have h2:=Tr.put_height k v r;simp only[Tr.height] at hh;omega))) ((wordsP=wordsP)∧(PT l=PT l)∧(false=false)∧(PT (Tr.put k v r)=PT (Tr.put k v r))∧(false=false)) ⟨rfl,rfl,rfl,rfl,rfl⟩ (fun g13 p14=>?_)
     have p14:True:=p14
     exact v_ret () [9] ((wordsP=wordsP)∧(k=k)∧(v=v)∧(PLe (PT (l.node r)) (PT (l.node r)))∧(false=false)∧(PT (l.bal (Tr.put k v r))=PT (Tr.put k v (l.node r)))∧(false=false)) ⟨rfl,rfl,rfl,fun _ _ _ h=>h,rfl,(by exact congrArg PT (Eq.symm (by rw[Tr.put];first | exact if_pos ‹_› | exact if_neg ‹_›))),rfl⟩ trivial
    ·have h10:=of_decide_eq_false h10
     omega
  ·have h4:=of_decide_eq_false h4
   omega
theorem tput_ok (k v:List UInt8) (hk:k.length≤1000) (hv:v.length≤1000):∀(t:Tr),t.Ks→t.height<700→FOk EN 41 ⟨[.pr wordsP,.rd 5 k,.rd 5 v,.pn (PT t) false false],[.p 3 0,.n 1,.n 2],Unit,fun _=>([.pr wordsP,.rd 5 k,.rd 5 v,.pn (PT t) false false,.pn (PT (t.put k v)) false false],.p 4 0),fun _=>True⟩
  | .leaf a b,h,_=>put_leaf_aux k v a b hk hv h
  | .node l r,h,hh=>put_node_aux k v l r hk hv h hh (by have h1:=l.height_nn;have h2:=r.height_nn;simp only[Tr.height];omega) (tput_ok k v hk hv l h.1 (by simp only[Tr.height] at hh;omega)) (tput_ok k v hk hv r h.2 (by simp only[Tr.height] at hh;omega))
namespace Tr
def leaves:Tr→List Pair
  | leaf k v=>[⟨k,v⟩]
  | node l r=>l.leaves++r.leaves
end Tr
noncomputable def c45:Code:=(Tryd.f45.body).getD .skip
theorem walk_leaf_aux (a b:List UInt8) (xs:List Pair) (hab:(Tr.leaf a b).Ks) (hx:xs.length≤900000):FOk EN 45 ⟨[.pn (PT (.leaf a b)) false false,.ow 31 xs],[.p 0 0,.n 1],Unit,fun _=>([.pn (PT (.leaf a b)) false false,.no,.ow 31 (xs++(Tr.leaf a b).leaves)],.n 2),fun _=>True⟩:=by
 refine v_fun Tryd.f45 c45 MX (fun ν F σ w=>?_) Tryd.func45
 refine v_nl ?_
 refine v_if (false) True trivial (fun h1=>?_) (fun h1=>?_)
 ·skip
  contradiction
 ·skip
  refine v_open 0 (open_leaf (a) (b)) ((false=false)∧(PT (Tr.leaf a b)=PT (Tr.leaf a b))) ⟨rfl,rfl⟩ ?_
  refine v_if (decide ((0:Int)=(0:Int))) True trivial (fun h2=>?_) (fun h2=>?_)
  ·have h2:=of_decide_eq_true h2
   refine v_plan (.fs [0,1,2,3,4,5,7,8,9,10,11] (.o 6 (.o 12 (.fs [13] (.o 14 (.o 15 (.fs [16] .e))))))) [] True trivial ?_
   refine v_call _ [3] (clone_ok (a) (by(have h1:=hab;simp only[Tr.Ks] at h1;omega))) ((a=a)) rfl (fun g3 p4=>?_)
   have p4:True:=p4
   refine v_call _ [4] (clone_ok (b) (by(have h1:=hab;simp only[Tr.Ks] at h1;omega))) ((b=b)) rfl (fun g5 p6=>?_)
   have p6:True:=p6
   exact v_ret () [8] ((xs.length+1≤1000000)∧(PLe (PT (Tr.leaf a b)) (PT (Tr.leaf a b)))∧(false=false)∧(xs++[Pair.mk a b]=xs++(Tr.leaf a b).leaves)) ⟨(by omega),fun _ _ _ h=>h,rfl,rfl⟩ trivial
  ·have h2:=of_decide_eq_false h2
   omega
theorem walk_node_aux (l r:Tr) (xs:List Pair) (hpos:0<(Tr.node l r).height)
  (ihl:FOk EN 45 ⟨[.pn (PT l) false false,.ow 31 xs],[.p 0 0,.n 1],Unit,fun _=>([.pn (PT l) false false,.no,.ow 31 (xs++l.leaves)],.n 2),fun _=>True⟩)
  (ihr:FOk EN 45 ⟨[.pn (PT r) false false,.ow 31 (xs++l.leaves)],[.p 0 0,.n 1],Unit,fun _=>([.pn (PT r) false false,.no,.ow 31 (xs++l.leaves++r.leaves)],.n 2),fun _=>True⟩) :
  FOk EN 45 ⟨[.pn (PT (.node l r)) false false,.ow 31 xs],[.p 0 0,.n 1],Unit,fun _=>([.pn (PT (.node l r)) false false,.no,.ow 31 (xs++(Tr.node l r).leaves)],.n 2),fun _=>True⟩:=by
 refine v_fun Tryd.f45 c45 MX (fun ν F σ w=>?_) Tryd.func45
 refine v_nl ?_
 refine v_if (false) True trivial (fun h1=>?_) (fun h1=>?_)
 ·skip
  contradiction
 ·skip
  refine v_open 0 (open_node (l) (r)) ((false=false)∧(PT (l.node r)=PT (l.node r))) ⟨rfl,rfl⟩ ?_
  refine v_if (decide ((l.node r).height=0)) True trivial (fun h2=>?_) (fun h2=>?_)
  ·have h2:=of_decide_eq_true h2
   omega
  ·have h2:=of_decide_eq_false h2
   refine v_plan (.fs [0,1,2,3,4,5,6,7,8] (.o 9 (.o 10 (.fs [11] .e)))) [] True trivial ?_
   refine v_call _ [4,1] (ihl) ((PT l=PT l)∧(false=false)∧(xs=xs)) ⟨rfl,rfl,rfl⟩ (fun g3 p4=>?_)
   have p4:True:=p4
   refine v_call _ [5,6] (ihr) ((PT r=PT r)∧(false=false)∧(xs++l.leaves=xs++l.leaves)) ⟨rfl,rfl,rfl⟩ (fun g5 p6=>?_)
   have p6:True:=p6
   exact v_ret () [7] ((PLe (PT (l.node r)) (PT (l.node r)))∧(false=false)∧(xs++l.leaves++r.leaves=xs++(l.node r).leaves)) ⟨fun _ _ _ h=>h,rfl,(by exact(List.append_assoc ..))⟩ trivial
theorem walk_ok:∀(t:Tr) (xs:List Pair),t.Ks→xs.length+t.leaves.length≤900000→FOk EN 45 ⟨[.pn (PT t) false false,.ow 31 xs],[.p 0 0,.n 1],Unit,fun _=>([.pn (PT t) false false,.no,.ow 31 (xs++t.leaves)],.n 2),fun _=>True⟩
  | .leaf a b,xs,h,hx=>walk_leaf_aux a b xs h (by omega)
  | .node l r, xs, h, hx => by
    have e:(Tr.node l r).leaves.length=l.leaves.length+r.leaves.length:=by simp[Tr.leaves]
    exact walk_node_aux l r xs (by have h1:=l.height_nn;have h2:=r.height_nn;simp only[Tr.height];omega) (walk_ok l xs h.1 (by omega)) (walk_ok r _ h.2 (by simp only[List.length_append];omega))
namespace Tr
/-- Without a key: none: it isn't there. -/
def cut (k:List UInt8):Tr→Option (Option Tr)
  | leaf a b=>if a=k then some none else none
  | node l r=>if Lib.compareBytes k r.least<0 then match l.cut k with
      | none=>none
      | some none=>some (some r)
      | some (some l')=>some (some (l'.bal r))
    else match r.cut k with
      | none=>none
      | some none=>some (some l)
      | some (some r')=>some (some (l.bal r'))
end Tr
noncomputable def c42:Code:=(Tryd.f42.body).getD .skip
theorem cut1_aux (k:List UInt8) (a b:List UInt8) (h:¬ a=k):FOk EN 42 ⟨[.pr wordsP,.rd 5 k,.pn (PT (.leaf a b)) false false],[.p 2 0,.n 1],Unit,fun _=>([.pr wordsP,.rd 5 k,.pn (PT (.leaf a b)) false false],.t [.p 2 0,.b false]),fun _=>True⟩:=by
 refine v_fun Tryd.f42 c42 MX (fun ν F σ w=>?_) Tryd.func42
 refine v_nl ?_
 refine v_guard 11 (false) True trivial (fun h1=>?_) (fun h1=>?_)
 ·skip
  contradiction
 ·skip
  refine v_open 2 (open_leaf (a) (b)) ((false=false)∧(PT (Tr.leaf a b)=PT (Tr.leaf a b))) ⟨rfl,rfl⟩ ?_
  refine v_guard 18 (decide ((0:Int)=(0:Int))) True trivial (fun h2=>?_) (fun h2=>?_)
  ·have h2:=of_decide_eq_true h2
   refine v_call _ [4,1] (beq_ok (a) (k)) ((a=a)∧(k=k)) ⟨rfl,rfl⟩ (fun g3 p4=>?_)
   have p4:True:=p4
   refine v_if (!decide (a=k)) True trivial (fun h5=>?_) (fun h5=>?_)
   ·have h5:=of_decide_eq_false (nt h5)
    exact v_ret () [] ((false=false)∧(wordsP=wordsP)∧(k=k)∧(PLe (PT (Tr.leaf a b)) (PT (Tr.leaf a b)))∧(false=false)) ⟨rfl,rfl,rfl,fun _ _ _ h=>h,rfl⟩ trivial
   ·have h5:=of_decide_eq_true (nf h5)
    contradiction
  ·have h2:=of_decide_eq_false h2
   omega
theorem cut2_aux (k:List UInt8) (a b:List UInt8) (h:a=k):FOk EN 42 ⟨[.pr wordsP,.rd 5 k,.pn (PT (.leaf a b)) false false],[.p 2 0,.n 1],Unit,fun _=>([.pr wordsP,.rd 5 k,.pn (PT (.leaf a b)) false false],.t [.v (.pointer none),.b true]),fun _=>True⟩:=by
 refine v_fun Tryd.f42 c42 MX (fun ν F σ w=>?_) Tryd.func42
 refine v_nl ?_
 refine v_guard 11 (false) True trivial (fun h1=>?_) (fun h1=>?_)
 ·skip
  contradiction
 ·skip
  refine v_open 2 (open_leaf (a) (b)) ((false=false)∧(PT (Tr.leaf a b)=PT (Tr.leaf a b))) ⟨rfl,rfl⟩ ?_
  refine v_guard 18 (decide ((0:Int)=(0:Int))) True trivial (fun h2=>?_) (fun h2=>?_)
  ·have h2:=of_decide_eq_true h2
   refine v_call _ [4,1] (beq_ok (a) (k)) ((a=a)∧(k=k)) ⟨rfl,rfl⟩ (fun g3 p4=>?_)
   have p4:True:=p4
   refine v_if (!decide (a=k)) True trivial (fun h5=>?_) (fun h5=>?_)
   ·have h5:=of_decide_eq_false (nt h5)
    contradiction
   ·have h5:=of_decide_eq_true (nf h5)
    refine v_if (decide ((0:Int)=(0:Int))) True trivial (fun h6=>?_) (fun h6=>?_)
    ·have h6:=of_decide_eq_true h6
     exact v_ret () [] ((Value.pointer none=Value.pointer none)∧(true=true)∧(wordsP=wordsP)∧(k=k)∧(PLe (PT (Tr.leaf a b)) (PT (Tr.leaf a b)))∧(false=false)) ⟨rfl,rfl,rfl,rfl,fun _ _ _ h=>h,rfl⟩ trivial
    ·have h6:=of_decide_eq_false h6
     omega
  ·have h2:=of_decide_eq_false h2
   omega
theorem cut3_aux (k:List UInt8) (l r:Tr) (hpos:0<(Tr.node l r).height) (hc:Lib.compareBytes k (Tr.node l r).key<0) (ih:FOk EN 42 ⟨[.pr wordsP,.rd 5 k,.pn (PT l) false false],[.p 2 0,.n 1],Unit,fun _=>([.pr wordsP,.rd 5 k,.pn (PT l) false false],.t [.p 2 0,.b false]),fun _=>True⟩):FOk EN 42 ⟨[.pr wordsP,.rd 5 k,.pn (PT (.node l r)) false false],[.p 2 0,.n 1],Unit,fun _=>([.pr wordsP,.rd 5 k,.pn (PT (.node l r)) false false],.t [.p 2 0,.b false]),fun _=>True⟩:=by
 refine v_fun Tryd.f42 c42 MX (fun ν F σ w=>?_) Tryd.func42
 refine v_nl ?_
 refine v_guard 11 (false) True trivial (fun h1=>?_) (fun h1=>?_)
 ·skip
  contradiction
 ·skip
  refine v_open 2 (open_node (l) (r)) ((false=false)∧(PT (l.node r)=PT (l.node r))) ⟨rfl,rfl⟩ ?_
  refine v_guard 18 (decide ((l.node r).height=0)) True trivial (fun h2=>?_) (fun h2=>?_)
  ·have h2:=of_decide_eq_true h2
   omega
  ·have h2:=of_decide_eq_false h2
   refine v_if (decide ((l.node r).height=0)) True trivial (fun h3=>?_) (fun h3=>?_)
   ·have h3:=of_decide_eq_true h3
    omega
   ·have h3:=of_decide_eq_false h3
    refine v_plan (.fs [0,1,2,3,4,5,6,7,8,9,10] .e) [] True trivial ?_
    refine v_call _ [1,4] (bcmp_ok (k) ((l.node r).key)) ((k=k)∧((l.node r).key=(l.node r).key)) ⟨rfl,rfl⟩ (fun g4 p5=>?_)
    have p5:True:=p5
    refine v_if (decide (Lib.compareBytes k (l.node r).key<0)) True trivial (fun h6=>?_) (fun h6=>?_)
    ·have h6:=of_decide_eq_true h6
     refine v_call _ [0,1,5] (ih) ((wordsP=wordsP)∧(k=k)∧(PT l=PT l)∧(false=false)) ⟨rfl,rfl,rfl,rfl⟩ (fun g7 p8=>?_)
     have p8:True:=p8
     refine v_if (!false) True trivial (fun h9=>?_) (fun h9=>?_)
     ·have h9:=(nt h9)
      exact v_ret () [] ((false=false)∧(wordsP=wordsP)∧(k=k)∧(PLe (PT (l.node r)) (PT (l.node r)))∧(false=false)) ⟨rfl,rfl,rfl,fun _ _ _ h=>h,rfl⟩ trivial
     ·have h9:=(nf h9)
      contradiction
    ·have h6:=of_decide_eq_false h6
     omega
theorem cut4_aux (k:List UInt8) (l r:Tr) (hpos:0<(Tr.node l r).height) (hc:Lib.compareBytes k (Tr.node l r).key<0) (ih:FOk EN 42 ⟨[.pr wordsP,.rd 5 k,.pn (PT l) false false],[.p 2 0,.n 1],Unit,fun _=>([.pr wordsP,.rd 5 k,.pn (PT l) false false],.t [.v (.pointer none),.b true]),fun _=>True⟩):FOk EN 42 ⟨[.pr wordsP,.rd 5 k,.pn (PT (.node l r)) false false],[.p 2 0,.n 1],Unit,fun _=>([.pr wordsP,.rd 5 k,.pn (PT (.node l r)) false false,.pn (PT r) false false],.t [.p 3 0,.b true]),fun _=>True⟩:=by
 refine v_fun Tryd.f42 c42 MX (fun ν F σ w=>?_) Tryd.func42
 refine v_nl ?_
 refine v_guard 11 (false) True trivial (fun h1=>?_) (fun h1=>?_)
 ·skip
  contradiction
 ·skip
  refine v_open 2 (open_node (l) (r)) ((false=false)∧(PT (l.node r)=PT (l.node r))) ⟨rfl,rfl⟩ ?_
  refine v_guard 18 (decide ((l.node r).height=0)) True trivial (fun h2=>?_) (fun h2=>?_)
  ·have h2:=of_decide_eq_true h2
   omega
  ·have h2:=of_decide_eq_false h2
   refine v_if (decide ((l.node r).height=0)) True trivial (fun h3=>?_) (fun h3=>?_)
   ·have h3:=of_decide_eq_true h3
    omega
   ·have h3:=of_decide_eq_false h3
    refine v_plan (.fs [0,1,2,3,4,5,6,7,8,9,10] .e) [] True trivial ?_
    refine v_call _ [1,4] (bcmp_ok (k) ((l.node r).key)) ((k=k)∧((l.node r).key=(l.node r).key)) ⟨rfl,rfl⟩ (fun g4 p5=>?_)
    have p5:True:=p5
    refine v_if (decide (Lib.compareBytes k (l.node r).key<0)) True trivial (fun h6=>?_) (fun h6=>?_)
    ·have h6:=of_decide_eq_true h6
     refine v_call _ [0,1,5] (ih) ((wordsP=wordsP)∧(k=k)∧(PT l=PT l)∧(false=false)) ⟨rfl,rfl,rfl,rfl⟩ (fun g7 p8=>?_)
     have p8:True:=p8
     refine v_if (!true) True trivial (fun h9=>?_) (fun h9=>?_)
     ·have h9:=(nt h9)
      contradiction
     ·have h9:=(nf h9)
      exact v_ret () [6] ((true=true)∧(wordsP=wordsP)∧(k=k)∧(PLe (PT (l.node r)) (PT (l.node r)))∧(false=false)∧(PT r=PT r)∧(false=false)) ⟨rfl,rfl,rfl,fun _ _ _ h=>h,rfl,rfl,rfl⟩ trivial
    ·have h6:=of_decide_eq_false h6
     omega
theorem cut5_aux (k:List UInt8) (l r l2:Tr) (hpos:0<(Tr.node l r).height) (hc:Lib.compareBytes k (Tr.node l r).key<0) (h1:l2.Ks) (h2:r.Ks) (h3:l2.height<800) (h4:r.height<800) (ih:FOk EN 42 ⟨[.pr wordsP,.rd 5 k,.pn (PT l) false false],[.p 2 0,.n 1],Unit,fun _=>([.pr wordsP,.rd 5 k,.pn (PT l) false false,.pn (PT l2) false false],.t [.p 3 0,.b true]),fun _=>True⟩):FOk EN 42 ⟨[.pr wordsP,.rd 5 k,.pn (PT (.node l r)) false false],[.p 2 0,.n 1],Unit,fun _=>([.pr wordsP,.rd 5 k,.pn (PT (.node l r)) false false,.pn (PT (l2.bal r)) false false],.t [.p 3 0,.b true]),fun _=>True⟩:=by
 refine v_fun Tryd.f42 c42 MX (fun ν F σ w=>?_) Tryd.func42
 refine v_nl ?_
 refine v_guard 11 (false) True trivial (fun h1=>?_) (fun h1=>?_)
 ·skip
  contradiction
 ·skip
  refine v_open 2 (open_node (l) (r)) ((false=false)∧(PT (l.node r)=PT (l.node r))) ⟨rfl,rfl⟩ ?_
  refine v_guard 18 (decide ((l.node r).height=0)) True trivial (fun h2=>?_) (fun h2=>?_)
  ·have h2:=of_decide_eq_true h2
   omega
  ·have h2:=of_decide_eq_false h2
   refine v_if (decide ((l.node r).height=0)) True trivial (fun h3=>?_) (fun h3=>?_)
   ·have h3:=of_decide_eq_true h3
    omega
   ·have h3:=of_decide_eq_false h3
    refine v_plan (.fs [0,1,2,3,4,5,6,7,8,9,10] .e) [] True trivial ?_
    refine v_call _ [1,4] (bcmp_ok (k) ((l.node r).key)) ((k=k)∧((l.node r).key=(l.node r).key)) ⟨rfl,rfl⟩ (fun g4 p5=>?_)
    have p5:True:=p5
    refine v_if (decide (Lib.compareBytes k (l.node r).key<0)) True trivial (fun h6=>?_) (fun h6=>?_)
    ·have h6:=of_decide_eq_true h6
     refine v_call _ [0,1,5] (ih) ((wordsP=wordsP)∧(k=k)∧(PT l=PT l)∧(false=false)) ⟨rfl,rfl,rfl,rfl⟩ (fun g7 p8=>?_)
     have p8:True:=p8
     refine v_if (!true) True trivial (fun h9=>?_) (fun h9=>?_)
     ·have h9:=(nt h9)
      contradiction
     ·have h9:=(nf h9)
      refine v_if (false) True trivial (fun h10=>?_) (fun h10=>?_)
      ·skip
       contradiction
      ·skip
       refine v_if (false) True trivial (fun h11=>?_) (fun h11=>?_)
       ·skip
        contradiction
       ·skip
        refine v_call _ [0,7,6] (bal_ok (l2) (r) ‹_› ‹_› ‹_› ‹_›) ((wordsP=wordsP)∧(PT l2=PT l2)∧(false=false)∧(PT r=PT r)∧(false=false)) ⟨rfl,rfl,rfl,rfl,rfl⟩ (fun g12 p13=>?_)
        have p13:True:=p13
        exact v_ret () [8] ((true=true)∧(wordsP=wordsP)∧(k=k)∧(PLe (PT (l.node r)) (PT (l.node r)))∧(false=false)∧(PT (l2.bal r)=PT (l2.bal r))∧(false=false)) ⟨rfl,rfl,rfl,fun _ _ _ h=>h,rfl,rfl,rfl⟩ trivial
    ·have h6:=of_decide_eq_false h6
     omega
theorem cut6_aux (k:List UInt8) (l r:Tr) (hpos:0<(Tr.node l r).height) (hc:¬ Lib.compareBytes k (Tr.node l r).key<0) (ih:FOk EN 42 ⟨[.pr wordsP,.rd 5 k,.pn (PT r) false false],[.p 2 0,.n 1],Unit,fun _=>([.pr wordsP,.rd 5 k,.pn (PT r) false false],.t [.p 2 0,.b false]),fun _=>True⟩):FOk EN 42 ⟨[.pr wordsP,.rd 5 k,.pn (PT (.node l r)) false false],[.p 2 0,.n 1],Unit,fun _=>([.pr wordsP,.rd 5 k,.pn (PT (.node l r)) false false],.t [.p 2 0,.b false]),fun _=>True⟩:=by
 refine v_fun Tryd.f42 c42 MX (fun ν F σ w=>?_) Tryd.func42
 refine v_nl ?_
 refine v_guard 11 (false) True trivial (fun h1=>?_) (fun h1=>?_)
 ·skip
  contradiction
 ·skip
  refine v_open 2 (open_node (l) (r)) ((false=false)∧(PT (l.node r)=PT (l.node r))) ⟨rfl,rfl⟩ ?_
  refine v_guard 18 (decide ((l.node r).height=0)) True trivial (fun h2=>?_) (fun h2=>?_)
  ·have h2:=of_decide_eq_true h2
   omega
  ·have h2:=of_decide_eq_false h2
   refine v_if (decide ((l.node r).height=0)) True trivial (fun h3=>?_) (fun h3=>?_)
   ·have h3:=of_decide_eq_true h3
    omega
   ·have h3:=of_decide_eq_false h3
    refine v_plan (.fs [0,1,2,3,4,5,6,7,8,9,10] .e) [] True trivial ?_
    refine v_call _ [1,4] (bcmp_ok (k) ((l.node r).key)) ((k=k)∧((l.node r).key=(l.node r).key)) ⟨rfl,rfl⟩ (fun g4 p5=>?_)
    have p5:True:=p5
    refine v_if (decide (Lib.compareBytes k (l.node r).key<0)) True trivial (fun h6=>?_) (fun h6=>?_)
    ·have h6:=of_decide_eq_true h6
     omega
    ·have h6:=of_decide_eq_false h6
     refine v_call _ [0,1,6] (ih) ((wordsP=wordsP)∧(k=k)∧(PT r=PT r)∧(false=false)) ⟨rfl,rfl,rfl,rfl⟩ (fun g7 p8=>?_)
     have p8:True:=p8
     refine v_if (!false) True trivial (fun h9=>?_) (fun h9=>?_)
     ·have h9:=(nt h9)
      exact v_ret () [] ((false=false)∧(wordsP=wordsP)∧(k=k)∧(PLe (PT (l.node r)) (PT (l.node r)))∧(false=false)) ⟨rfl,rfl,rfl,fun _ _ _ h=>h,rfl⟩ trivial
     ·have h9:=(nf h9)
      contradiction
theorem cut7_aux (k:List UInt8) (l r:Tr) (hpos:0<(Tr.node l r).height) (hc:¬ Lib.compareBytes k (Tr.node l r).key<0) (ih:FOk EN 42 ⟨[.pr wordsP,.rd 5 k,.pn (PT r) false false],[.p 2 0,.n 1],Unit,fun _=>([.pr wordsP,.rd 5 k,.pn (PT r) false false],.t [.v (.pointer none),.b true]),fun _=>True⟩):FOk EN 42 ⟨[.pr wordsP,.rd 5 k,.pn (PT (.node l r)) false false],[.p 2 0,.n 1],Unit,fun _=>([.pr wordsP,.rd 5 k,.pn (PT (.node l r)) false false,.pn (PT l) false false],.t [.p 3 0,.b true]),fun _=>True⟩:=by
 refine v_fun Tryd.f42 c42 MX (fun ν F σ w=>?_) Tryd.func42
 refine v_nl ?_
 refine v_guard 11 (false) True trivial (fun h1=>?_) (fun h1=>?_)
 ·skip
  contradiction
 ·skip
  refine v_open 2 (open_node (l) (r)) ((false=false)∧(PT (l.node r)=PT (l.node r))) ⟨rfl,rfl⟩ ?_
  refine v_guard 18 (decide ((l.node r).height=0)) True trivial (fun h2=>?_) (fun h2=>?_)
  ·have h2:=of_decide_eq_true h2
   omega
  ·have h2:=of_decide_eq_false h2
   refine v_if (decide ((l.node r).height=0)) True trivial (fun h3=>?_) (fun h3=>?_)
   ·have h3:=of_decide_eq_true h3
    omega
   ·have h3:=of_decide_eq_false h3
    refine v_plan (.fs [0,1,2,3,4,5,6,7,8,9,10] .e) [] True trivial ?_
    refine v_call _ [1,4] (bcmp_ok (k) ((l.node r).key)) ((k=k)∧((l.node r).key=(l.node r).key)) ⟨rfl,rfl⟩ (fun g4 p5=>?_)
    have p5:True:=p5
    refine v_if (decide (Lib.compareBytes k (l.node r).key<0)) True trivial (fun h6=>?_) (fun h6=>?_)
    ·have h6:=of_decide_eq_true h6
     omega
    ·have h6:=of_decide_eq_false h6
     refine v_call _ [0,1,6] (ih) ((wordsP=wordsP)∧(k=k)∧(PT r=PT r)∧(false=false)) ⟨rfl,rfl,rfl,rfl⟩ (fun g7 p8=>?_)
     have p8:True:=p8
     refine v_if (!true) True trivial (fun h9=>?_) (fun h9=>?_)
     ·have h9:=(nt h9)
      contradiction
     ·have h9:=(nf h9)
      refine v_if (false) True trivial (fun h10=>?_) (fun h10=>?_)
      ·skip
       contradiction
      ·skip
       exact v_ret () [5] ((true=true)∧(wordsP=wordsP)∧(k=k)∧(PLe (PT (l.node r)) (PT (l.node r)))∧(false=false)∧(PT l=PT l)∧(false=false)) ⟨rfl,rfl,rfl,fun _ _ _ h=>h,rfl,rfl,rfl⟩ trivial
theorem cut8_aux (k:List UInt8) (l r r2:Tr) (hpos:0<(Tr.node l r).height) (hc:¬ Lib.compareBytes k (Tr.node l r).key<0) (h1:l.Ks) (h2:r2.Ks) (h3:l.height<800) (h4:r2.height<800) (ih:FOk EN 42 ⟨[.pr wordsP,.rd 5 k,.pn (PT r) false false],[.p 2 0,.n 1],Unit,fun _=>([.pr wordsP,.rd 5 k,.pn (PT r) false false,.pn (PT r2) false false],.t [.p 3 0,.b true]),fun _=>True⟩):FOk EN 42 ⟨[.pr wordsP,.rd 5 k,.pn (PT (.node l r)) false false],[.p 2 0,.n 1],Unit,fun _=>([.pr wordsP,.rd 5 k,.pn (PT (.node l r)) false false,.pn (PT (l.bal r2)) false false],.t [.p 3 0,.b true]),fun _=>True⟩:=by
 refine v_fun Tryd.f42 c42 MX (fun ν F σ w=>?_) Tryd.func42
 refine v_nl ?_
 refine v_guard 11 (false) True trivial (fun h1=>?_) (fun h1=>?_)
 ·skip
  contradiction
 ·skip
  refine v_open 2 (open_node (l) (r)) ((false=false)∧(PT (l.node r)=PT (l.node r))) ⟨rfl,rfl⟩ ?_
  refine v_guard 18 (decide ((l.node r).height=0)) True trivial (fun h2=>?_) (fun h2=>?_)
  ·have h2:=of_decide_eq_true h2
   omega
  ·have h2:=of_decide_eq_false h2
   refine v_if (decide ((l.node r).height=0)) True trivial (fun h3=>?_) (fun h3=>?_)
   ·have h3:=of_decide_eq_true h3
    omega
   ·have h3:=of_decide_eq_false h3
    refine v_plan (.fs [0,1,2,3,4,5,6,7,8,9,10] .e) [] True trivial ?_
    refine v_call _ [1,4] (bcmp_ok (k) ((l.node r).key)) ((k=k)∧((l.node r).key=(l.node r).key)) ⟨rfl,rfl⟩ (fun g4 p5=>?_)
    have p5:True:=p5
    refine v_if (decide (Lib.compareBytes k (l.node r).key<0)) True trivial (fun h6=>?_) (fun h6=>?_)
    ·have h6:=of_decide_eq_true h6
     omega
    ·have h6:=of_decide_eq_false h6
     refine v_call _ [0,1,6] (ih) ((wordsP=wordsP)∧(k=k)∧(PT r=PT r)∧(false=false)) ⟨rfl,rfl,rfl,rfl⟩ (fun g7 p8=>?_)
     have p8:True:=p8
     refine v_if (!true) True trivial (fun h9=>?_) (fun h9=>?_)
     ·have h9:=(nt h9)
      contradiction
     ·have h9:=(nf h9)
      refine v_if (false) True trivial (fun h10=>?_) (fun h10=>?_)
      ·skip
       contradiction
      ·skip
       refine v_if (false) True trivial (fun h11=>?_) (fun h11=>?_)
       ·skip
        contradiction
       ·skip
        refine v_call _ [0,5,7] (bal_ok (l) (r2) ‹_› ‹_› ‹_› ‹_›) ((wordsP=wordsP)∧(PT l=PT l)∧(false=false)∧(PT r2=PT r2)∧(false=false)) ⟨rfl,rfl,rfl,rfl,rfl⟩ (fun g12 p13=>?_)
        have p13:True:=p13
        exact v_ret () [8] ((true=true)∧(wordsP=wordsP)∧(k=k)∧(PLe (PT (l.node r)) (PT (l.node r)))∧(false=false)∧(PT (l.bal r2)=PT (l.bal r2))∧(false=false)) ⟨rfl,rfl,rfl,fun _ _ _ h=>h,rfl,rfl,rfl⟩ trivial
namespace Tr
theorem cut_Ks {k:List UInt8}:∀ {t t':Tr},t.Ks→t.cut k=some (some t')→t'.Ks
  | leaf a b,t',h,e=>by unfold cut at e;split at e <;> simp at e
  | node l r, t', h, e => by
    unfold cut at e
    split at e
    · split at e
      · simp at e
      · simp at e;subst e;exact h.2
      · rename_i l' hl;simp at e;subst e;exact bal_Ks (cut_Ks h.1 hl) h.2
    · split at e
      · simp at e
      · simp at e;subst e;exact h.1
      · rename_i r' hr;simp at e;subst e;exact bal_Ks h.1 (cut_Ks h.2 hr)
theorem cut_height {k:List UInt8}:∀ {t t':Tr},t.cut k=some (some t')→t'.height≤t.height
  | leaf a b,t',e=>by unfold cut at e;split at e <;> simp at e
  | node l r, t', e => by
    unfold cut at e
    have h1:=l.height_nn;have h2:=r.height_nn
    split at e
    · split at e
      · simp at e
      · simp at e;subst e;simp only[height];omega
      · rename_i l' hl;simp at e;subst e;have:=bal_height l' r;have:=cut_height hl;simp only[height];omega
    · split at e
      · simp at e
      · simp at e;subst e;simp only[height];omega
      · rename_i r' hr;simp at e;subst e;have:=bal_height l r';have:=cut_height hr;simp only[height];omega
end Tr
theorem tcut (k:List UInt8):∀(t:Tr),t.Ks→t.height<700 →
    (t.cut k=none→FOk EN 42 ⟨[.pr wordsP,.rd 5 (k),.pn (PT (t)) false false],[.p 2 0,.n 1],Unit,fun _=>([.pr wordsP,.rd 5 (k),.pn (PT (t)) false false],.t [.p 2 0,.b false]),fun _=>True⟩) ∧
    (t.cut k=some none→FOk EN 42 ⟨[.pr wordsP,.rd 5 (k),.pn (PT (t)) false false],[.p 2 0,.n 1],Unit,fun _=>([.pr wordsP,.rd 5 (k),.pn (PT (t)) false false],.t [.v (.pointer none),.b true]),fun _=>True⟩) ∧
    (∀ t',t.cut k=some (some t')→FOk EN 42 ⟨[.pr wordsP,.rd 5 (k),.pn (PT (t)) false false],[.p 2 0,.n 1],Unit,fun _=>([.pr wordsP,.rd 5 (k),.pn (PT (t)) false false,.pn (PT (t')) false false],.t [.p 3 0,.b true]),fun _=>True⟩)
  | .leaf a b, _, _ => by
    unfold Tr.cut
    refine⟨fun h=>cut1_aux k a b ?_,fun h=>cut2_aux k a b ?_,fun t' h=>?_⟩
    · split at h <;> simp_all
    · split at h <;> simp_all
    · split at h <;> simp at h
  | .node l r, hk, hh => by
    have h1:=l.height_nn;have h2:=r.height_nn
    have hpos:0<(Tr.node l r).height:=by simp only[Tr.height];omega
    have hl:l.height<700:=by simp only[Tr.height] at hh;omega
    have hr:r.height<700:=by simp only[Tr.height] at hh;omega
    obtain⟨l1,l2,l3⟩:=tcut k l hk.1 hl
    obtain⟨r1,r2,r3⟩:=tcut k r hk.2 hr
    unfold Tr.cut
    by_cases hc:Lib.compareBytes k r.least<0
    · rw [if_pos hc]
      cases e:l.cut k with
      | none=>exact⟨fun _=>cut3_aux k l r hpos hc (l1 e),fun h=>by simp at h,fun t' h=>by simp at h⟩
      | some o => cases o with
        | none=>refine⟨fun h=>by simp at h,fun h=>by simp at h,fun t' h=>?_⟩;simp at h;subst h;exact cut4_aux k l r hpos hc (l2 e)
        | some x =>
          refine⟨fun h=>by simp at h,fun h=>by simp at h,fun t' h=>?_⟩;simp at h;subst h
          exact cut5_aux k l r x hpos hc (Tr.cut_Ks hk.1 e) hk.2 (by have:=Tr.cut_height e;omega) (by omega) (l3 x e)
    · rw [if_neg hc]
      cases e:r.cut k with
      | none=>exact⟨fun _=>cut6_aux k l r hpos hc (r1 e),fun h=>by simp at h,fun t' h=>by simp at h⟩
      | some o => cases o with
        | none=>refine⟨fun h=>by simp at h,fun h=>by simp at h,fun t' h=>?_⟩;simp at h;subst h;exact cut7_aux k l r hpos hc (r2 e)
        | some x =>
          refine⟨fun h=>by simp at h,fun h=>by simp at h,fun t' h=>?_⟩;simp at h;subst h
          exact cut8_aux k l r x hpos hc hk.1 (Tr.cut_Ks hk.2 e) (by omega) (by have:=Tr.cut_height e;omega) (r3 x e)
def PTOh (σ:Nat→Nat) (w:World):Option Tr→Value→Prop
  | none,v=>∃ b o,v=.pointer (some ⟨b,o,none⟩)∧Seg σ w b o [.pointer none]
  | some t,v=>∃ b o x,v=.pointer (some ⟨b,o,none⟩)∧Seg σ w b o [x]∧At σ w t x
def PTO (t:Option Tr):PP:=⟨fun σ w v=>PTOh σ w t v,fun {M σ w σ' w' v} st h=>by
  cases t with
  | none=>obtain⟨b,o,e,hs⟩:=h;exact⟨b,o,e,hs.step st⟩
  | some t=>obtain⟨b,o,x,e,hs,ha⟩:=h;exact⟨b,o,x,e,hs.step st,ha.step st⟩⟩
theorem open_tn:Opens (G:=GT) (PTO none) (fun _=>[]) (fun _=>[.v (.pointer none)]):=by
  rintro base σ w x ⟨b,o,e,h⟩
  refine⟨fun _=>.bool false,fun _=>rfl,fun ν hν=>⟨fun i en hi=>by simp at hi,b,o,e,?_⟩⟩
  simpa [denC,den] using h
theorem open_ts (t:Tr):Opens (G:=GT) (PTO (some t)) (fun _=>[.pn (PT (t)) false false]) (fun b=>[.p b 0]):=by
  rintro base σ w x ⟨b,o,y,e,h,ha⟩
  obtain⟨yb,yo,ye⟩:=ha.ptr
  refine⟨fun n=>if n=0 then y else .bool false,fun n=>by dsimp only;split;rw[ye];rfl;rfl,fun ν hν=>⟨fun i en hi=>?_,b,o,e,?_⟩⟩
  · match i, hi with
    | 0,hi=>simp only[List.getElem?_cons_zero,Option.some.injEq] at hi;subst hi;exact⟨ha,by simp,fun _=>⟨yb,yo,ye⟩⟩
    | i+1,hi=>simp at hi
  · have e0 := hν 0 (by simp)
    simp only[Nat.add_zero,if_true] at e0
    subst ye
    simpa [denC,den,e0,padd] using h
theorem close_tn:Closes (G:=GT) (PTO none) [] [.v (.pointer none)]:=by
  intro ν σ w x b hE e hS
  exact⟨b,0,e,by simpa [denC,den] using hS⟩
theorem close_ts (t:Tr):Closes (G:=GT) (PTO (some t)) [.pn (PT (t)) false false] [.p 0 0]:=by
  intro ν σ w x b hE e hS
  have h0:=(hE 0 _ rfl).1
  obtain⟨yb,yo,ye⟩:=At.ptr h0
  refine⟨b,0,ν 0,e,?_,h0⟩
  rw[ye]
  simpa [denC,den,ye,padd] using hS
theorem al_ptr (p:PP):AlOk (G:=GT) p false false [.pn p false false] (.p 0 0):=fun ν σ w h=>by
  obtain⟨h1,_,h2⟩:=h 0 _ rfl
  obtain⟨b,o,e⟩:=h2 rfl
  have e2:den ν (.p 0 0)=ν 0:=by simp only[den,e,padd,Nat.add_zero]
  rw[e2];exact⟨h1,fun h=>by simp at h,fun _=>⟨b,o,e⟩⟩
def okO (o:Option Tr):Prop:=∀ t,o=some t→t.Ks∧t.height<700∧t.depth≤100000
def putO (k v:List UInt8):Option Tr→Option Tr
  | none=>some (.leaf k v)
  | some t=>some (t.put k v)
def cutO (k:List UInt8):Option Tr→Option Tr
  | none=>none
  | some t=>match t.cut k with | none=>some t | some r=>r
def wasO (k:List UInt8):Option Tr→Bool
  | none=>false
  | some t=>(t.cut k).isSome
def leavesO:Option Tr→List Pair
  | none=>[]
  | some t=>t.leaves
noncomputable def ccB8_19:Code:=(Tryd.f19.body).getD .skip
theorem new_ok:FOk EN 19 ⟨[.pr wordsP],[],Unit,fun _=>([.pr wordsP,.pn (PTO none) false false],.p 1 0),fun _=>True⟩:=by
 refine v_fun Tryd.f19 ccB8_19 MX (fun ν F σ w=>?_) Tryd.func19
 refine v_nl ?_
 refine v_close 2 [] (close_tn) ((Value.pointer none=Value.pointer none)) rfl ?_
 exact v_ret () [2] ((wordsP=wordsP)∧(PLe (PTO none) (PTO none))∧(false=false)) ⟨rfl,fun _ _ _ h=>h,rfl⟩ trivial
noncomputable def ccB8_21:Code:=(Tryd.f21.body).getD .skip
theorem Put1_aux (k v:List UInt8) (h1:1≤k.length∧k.length≤96) (h2:v.length≤256):FOk EN 21 ⟨[.pr wordsP,.rd 5 (k),.rd 5 (v),.pn (PTO none) false false],[.p 3 0,.n 1,.n 2],Unit,fun _=>([.pr wordsP,.rd 5 (k),.rd 5 (v),.pn (PTO none) false false,.pn (PTO (some (.leaf k v))) false false],.t [.p 4 0,.i 0]),fun _=>True⟩:=by
 refine v_fun Tryd.f21 ccB8_21 MX (fun ν F σ w=>?_) Tryd.func21
 refine v_nl ?_
 refine v_if (false) True trivial (fun h1=>?_) (fun h1=>?_)
 ·skip
  contradiction
 ·skip
  refine v_guard 15 (decide ((↑k.length:Int)=0)) True trivial (fun h2=>?_) (fun h2=>?_)
  ·have h2:=of_decide_eq_true h2
   omega
  ·have h2:=of_decide_eq_false h2
   refine v_if (decide (96<(↑k.length:Int))) True trivial (fun h3=>?_) (fun h3=>?_)
   ·have h3:=of_decide_eq_true h3
    omega
   ·have h3:=of_decide_eq_false h3
    refine v_if (decide (256<(↑v.length:Int))) True trivial (fun h4=>?_) (fun h4=>?_)
    ·have h4:=of_decide_eq_true h4
     omega
    ·have h4:=of_decide_eq_false h4
     refine v_open 3 (open_tn) ((false=false)∧(PTO none=PTO none)) ⟨rfl,rfl⟩ ?_
     refine v_call _ [0,1,2] (putnil_ok (k) (v) (by omega) (by omega)) ((Value.pointer none=Value.pointer none)∧(wordsP=wordsP)∧(k=k)∧(v=v)) ⟨rfl,rfl,rfl,rfl⟩ (fun g5 p6=>?_)
     have p6:True:=p6
     refine v_close 6 [5] (close_ts (Tr.leaf k v)) ((PT (Tr.leaf k v)=PT (Tr.leaf k v))∧(false=false)) ⟨rfl,rfl⟩ ?_
     exact v_ret () [6] (((0:Int)=(0:Int))∧(wordsP=wordsP)∧(k=k)∧(v=v)∧(PLe (PTO none) (PTO none))∧(false=false)∧(PLe (PTO (some (Tr.leaf k v))) (PTO (some (Tr.leaf k v))))∧(false=false)) ⟨rfl,rfl,rfl,rfl,fun _ _ _ h=>h,rfl,fun _ _ _ h=>h,rfl⟩ trivial
theorem Put2_aux (t:Tr) (k v:List UInt8) (ht:t.Ks) (hh:t.height<700) (h1:1≤k.length∧k.length≤96) (h2:v.length≤256):FOk EN 21 ⟨[.pr wordsP,.rd 5 (k),.rd 5 (v),.pn (PTO (some t)) false false],[.p 3 0,.n 1,.n 2],Unit,fun _=>([.pr wordsP,.rd 5 (k),.rd 5 (v),.pn (PTO (some t)) false false,.pn (PTO (some (t.put k v))) false false],.t [.p 4 0,.i 0]),fun _=>True⟩:=by
 refine v_fun Tryd.f21 ccB8_21 MX (fun ν F σ w=>?_) Tryd.func21
 refine v_nl ?_
 refine v_if (false) True trivial (fun h1=>?_) (fun h1=>?_)
 ·skip
  contradiction
 ·skip
  refine v_guard 15 (decide ((↑k.length:Int)=0)) True trivial (fun h2=>?_) (fun h2=>?_)
  ·have h2:=of_decide_eq_true h2
   omega
  ·have h2:=of_decide_eq_false h2
   refine v_if (decide (96<(↑k.length:Int))) True trivial (fun h3=>?_) (fun h3=>?_)
   ·have h3:=of_decide_eq_true h3
    omega
   ·have h3:=of_decide_eq_false h3
    refine v_if (decide (256<(↑v.length:Int))) True trivial (fun h4=>?_) (fun h4=>?_)
    ·have h4:=of_decide_eq_true h4
     omega
    ·have h4:=of_decide_eq_false h4
     refine v_open 3 (open_ts (t)) ((false=false)∧(PTO (some t)=PTO (some t))) ⟨rfl,rfl⟩ ?_
     refine v_call _ [0,1,2,5] (tput_ok (k) (v) (by omega) (by omega) (t) ‹_› ‹_›) ((wordsP=wordsP)∧(k=k)∧(v=v)∧(PT t=PT t)∧(false=false)) ⟨rfl,rfl,rfl,rfl,rfl⟩ (fun g5 p6=>?_)
     have p6:True:=p6
     refine v_close 7 [6] (close_ts (Tr.put k v t)) ((PT (Tr.put k v t)=PT (Tr.put k v t))∧(false=false)) ⟨rfl,rfl⟩ ?_
     exact v_ret () [7] (((0:Int)=(0:Int))∧(wordsP=wordsP)∧(k=k)∧(v=v)∧(PLe (PTO (some t)) (PTO (some t)))∧(false=false)∧(PLe (PTO (some (Tr.put k v t))) (PTO (some (Tr.put k v t))))∧(false=false)) ⟨rfl,rfl,rfl,rfl,fun _ _ _ h=>h,rfl,fun _ _ _ h=>h,rfl⟩ trivial
theorem Put_ok (o:Option Tr) (k v:List UInt8) (ho:okO o) (h1:1≤k.length∧k.length≤96) (h2:v.length≤256):FOk EN 21 ⟨[.pr wordsP,.rd 5 (k),.rd 5 (v),.pn (PTO o) false false],[.p 3 0,.n 1,.n 2],Unit,fun _=>([.pr wordsP,.rd 5 (k),.rd 5 (v),.pn (PTO o) false false,.pn (PTO (putO k v o)) false false],.t [.p 4 0,.i 0]),fun _=>True⟩:=by
  cases o with
  | none=>exact Put1_aux k v h1 h2
  | some t=>exact Put2_aux t k v (ho t rfl).1 (ho t rfl).2.1 h1 h2
noncomputable def ccB9_42:Code:=(Tryd.f42.body).getD .skip
theorem cutnil_ok (k:List UInt8):FOk EN 42 ⟨[.pr wordsP,.rd 5 (k)],[.v (.pointer none),.n 1],Unit,fun _=>([.pr wordsP,.rd 5 (k)],.t [.v (.pointer none),.b false]),fun _=>True⟩:=by
 refine v_fun Tryd.f42 ccB9_42 MX (fun ν F σ w=>?_) Tryd.func42
 refine v_nl ?_
 exact v_ret () [] ((Value.pointer none=Value.pointer none)∧(false=false)∧(wordsP=wordsP)∧(k=k)) ⟨rfl,rfl,rfl,rfl⟩ trivial
noncomputable def ccB9_23:Code:=(Tryd.f23.body).getD .skip
theorem Cut1_aux (k:List UInt8):FOk EN 23 ⟨[.pr wordsP,.rd 5 (k),.pn (PTO none) false false],[.p 2 0,.n 1],Unit,fun _=>([.pr wordsP,.rd 5 (k),.pn (PTO none) false false,.pn (PTO none) false false],.t [.p 3 0,.b false]),fun _=>True⟩:=by
 refine v_fun Tryd.f23 ccB9_23 MX (fun ν F σ w=>?_) Tryd.func23
 refine v_nl ?_
 refine v_if (false) True trivial (fun h1=>?_) (fun h1=>?_)
 ·skip
  contradiction
 ·skip
  refine v_open 2 (open_tn) ((false=false)∧(PTO none=PTO none)) ⟨rfl,rfl⟩ ?_
  refine v_call _ [0,1] (cutnil_ok (k)) ((Value.pointer none=Value.pointer none)∧(wordsP=wordsP)∧(k=k)) ⟨rfl,rfl,rfl⟩ (fun g2 p3=>?_)
  have p3:True:=p3
  refine v_close 4 [] (close_tn) ((Value.pointer none=Value.pointer none)) rfl ?_
  exact v_ret () [4] ((false=false)∧(wordsP=wordsP)∧(k=k)∧(PLe (PTO none) (PTO none))∧(false=false)∧(PLe (PTO none) (PTO none))∧(false=false)) ⟨rfl,rfl,rfl,fun _ _ _ h=>h,rfl,fun _ _ _ h=>h,rfl⟩ trivial
theorem Cut2_aux (t:Tr) (k:List UInt8) (ih:FOk EN 42 ⟨[.pr wordsP,.rd 5 (k),.pn (PT (t)) false false],[.p 2 0,.n 1],Unit,fun _=>([.pr wordsP,.rd 5 (k),.pn (PT (t)) false false],.t [.p 2 0,.b false]),fun _=>True⟩):FOk EN 23 ⟨[.pr wordsP,.rd 5 (k),.pn (PTO (some t)) false false],[.p 2 0,.n 1],Unit,fun _=>([.pr wordsP,.rd 5 (k),.pn (PTO (some t)) false false,.pn (PTO (some t)) false false],.t [.p 3 0,.b false]),fun _=>True⟩:=by
 refine v_fun Tryd.f23 ccB9_23 MX (fun ν F σ w=>?_) Tryd.func23
 refine v_nl ?_
 refine v_if (false) True trivial (fun h1=>?_) (fun h1=>?_)
 ·skip
  contradiction
 ·skip
  refine v_open 2 (open_ts (t)) ((false=false)∧(PTO (some t)=PTO (some t))) ⟨rfl,rfl⟩ ?_
  refine v_call _ [0,1,4] (ih) ((wordsP=wordsP)∧(k=k)∧(PT t=PT t)∧(false=false)) ⟨rfl,rfl,rfl,rfl⟩ (fun g2 p3=>?_)
  have p3:True:=p3
  refine v_close 5 [4] (close_ts (t)) ((PT t=PT t)∧(false=false)) ⟨rfl,rfl⟩ ?_
  exact v_ret () [5] ((false=false)∧(wordsP=wordsP)∧(k=k)∧(PLe (PTO (some t)) (PTO (some t)))∧(false=false)∧(PLe (PTO (some t)) (PTO (some t)))∧(false=false)) ⟨rfl,rfl,rfl,fun _ _ _ h=>h,rfl,fun _ _ _ h=>h,rfl⟩ trivial
theorem Cut3_aux (t:Tr) (k:List UInt8) (ih:FOk EN 42 ⟨[.pr wordsP,.rd 5 (k),.pn (PT (t)) false false],[.p 2 0,.n 1],Unit,fun _=>([.pr wordsP,.rd 5 (k),.pn (PT (t)) false false],.t [.v (.pointer none),.b true]),fun _=>True⟩):FOk EN 23 ⟨[.pr wordsP,.rd 5 (k),.pn (PTO (some t)) false false],[.p 2 0,.n 1],Unit,fun _=>([.pr wordsP,.rd 5 (k),.pn (PTO (some t)) false false,.pn (PTO none) false false],.t [.p 3 0,.b true]),fun _=>True⟩:=by
 refine v_fun Tryd.f23 ccB9_23 MX (fun ν F σ w=>?_) Tryd.func23
 refine v_nl ?_
 refine v_if (false) True trivial (fun h1=>?_) (fun h1=>?_)
 ·skip
  contradiction
 ·skip
  refine v_open 2 (open_ts (t)) ((false=false)∧(PTO (some t)=PTO (some t))) ⟨rfl,rfl⟩ ?_
  refine v_call _ [0,1,4] (ih) ((wordsP=wordsP)∧(k=k)∧(PT t=PT t)∧(false=false)) ⟨rfl,rfl,rfl,rfl⟩ (fun g2 p3=>?_)
  have p3:True:=p3
  refine v_close 5 [] (close_tn) ((Value.pointer none=Value.pointer none)) rfl ?_
  exact v_ret () [5] ((true=true)∧(wordsP=wordsP)∧(k=k)∧(PLe (PTO (some t)) (PTO (some t)))∧(false=false)∧(PLe (PTO none) (PTO none))∧(false=false)) ⟨rfl,rfl,rfl,fun _ _ _ h=>h,rfl,fun _ _ _ h=>h,rfl⟩ trivial
theorem Cut4_aux (t t':Tr) (k:List UInt8) (ih:FOk EN 42 ⟨[.pr wordsP,.rd 5 (k),.pn (PT (t)) false false],[.p 2 0,.n 1],Unit,fun _=>([.pr wordsP,.rd 5 (k),.pn (PT (t)) false false,.pn (PT (t')) false false],.t [.p 3 0,.b true]),fun _=>True⟩):FOk EN 23 ⟨[.pr wordsP,.rd 5 (k),.pn (PTO (some t)) false false],[.p 2 0,.n 1],Unit,fun _=>([.pr wordsP,.rd 5 (k),.pn (PTO (some t)) false false,.pn (PTO (some t')) false false],.t [.p 3 0,.b true]),fun _=>True⟩:=by
 refine v_fun Tryd.f23 ccB9_23 MX (fun ν F σ w=>?_) Tryd.func23
 refine v_nl ?_
 refine v_if (false) True trivial (fun h1=>?_) (fun h1=>?_)
 ·skip
  contradiction
 ·skip
  refine v_open 2 (open_ts (t)) ((false=false)∧(PTO (some t)=PTO (some t))) ⟨rfl,rfl⟩ ?_
  refine v_call _ [0,1,4] (ih) ((wordsP=wordsP)∧(k=k)∧(PT t=PT t)∧(false=false)) ⟨rfl,rfl,rfl,rfl⟩ (fun g2 p3=>?_)
  have p3:True:=p3
  refine v_close 6 [5] (close_ts (t')) ((PT t'=PT t')∧(false=false)) ⟨rfl,rfl⟩ ?_
  exact v_ret () [6] ((true=true)∧(wordsP=wordsP)∧(k=k)∧(PLe (PTO (some t)) (PTO (some t)))∧(false=false)∧(PLe (PTO (some t')) (PTO (some t')))∧(false=false)) ⟨rfl,rfl,rfl,fun _ _ _ h=>h,rfl,fun _ _ _ h=>h,rfl⟩ trivial
theorem Cut_ok (o:Option Tr) (k:List UInt8) (ho:okO o):FOk EN 23 ⟨[.pr wordsP,.rd 5 (k),.pn (PTO o) false false],[.p 2 0,.n 1],Unit,fun _=>([.pr wordsP,.rd 5 (k),.pn (PTO o) false false,.pn (PTO (cutO k o)) false false],.t [.p 3 0,.b (wasO k o)]),fun _=>True⟩:=by
  cases o with
  | none=>exact Cut1_aux k
  | some t =>
    obtain⟨h1,h2,h3⟩:=tcut k t (ho t rfl).1 (ho t rfl).2.1
    cases e:t.cut k with
    | none=>rw[show cutO k (some t)=some t by simp[cutO,e],show wasO k (some t)=false by simp[wasO,e]];exact Cut2_aux t k (h1 e)
    | some r =>
      rw[show cutO k (some t)=r by simp[cutO,e],show wasO k (some t)=true by simp[wasO,e]]
      cases r with
      | none=>exact Cut3_aux t k (h2 e)
      | some t'=>exact Cut4_aux t t' k (h3 t' e)
noncomputable def ccB9_45:Code:=(Tryd.f45.body).getD .skip
theorem walknil_ok:FOk EN 45 ⟨[],[.v (.pointer none),.v (.slice none 0 0)],Unit,fun _=>([],.v (.slice none 0 0)),fun _=>True⟩:=by
 refine v_fun Tryd.f45 ccB9_45 MX (fun ν F σ w=>?_) Tryd.func45
 refine v_nl ?_
 exact v_ret () [] ((Value.slice none 0 0=Value.slice none 0 0)) rfl trivial
noncomputable def ccB9_29:Code:=(Tryd.f29.body).getD .skip
theorem All1_aux:FOk EN 29 ⟨[.pn (PTO none) false false],[.p 0 0],Unit,fun _=>([.pn (PTO none) false false,.ow 31 ([])],.n 1),fun _=>True⟩:=by
 refine v_fun Tryd.f29 ccB9_29 MX (fun ν F σ w=>?_) Tryd.func29
 refine v_nl ?_
 refine v_if (false) True trivial (fun h1=>?_) (fun h1=>?_)
 ·skip
  contradiction
 ·skip
  refine v_open 0 (open_tn) ((false=false)∧(PTO none=PTO none)) ⟨rfl,rfl⟩ ?_
  refine v_call _ [] (walknil_ok) ((Value.pointer none=Value.pointer none)∧(Value.slice none 0 0=Value.slice none 0 0)) ⟨rfl,rfl⟩ (fun g2 p3=>?_)
  have p3:True:=p3
  exact v_ret () [1] ((PLe (PTO none) (PTO none))∧(false=false)∧(Eq (α:=List Pair) [] [])) ⟨fun _ _ _ h=>h,rfl,rfl⟩ trivial
theorem All2_aux (t:Tr) (h:t.Ks) (hl:t.leaves.length≤900000):FOk EN 29 ⟨[.pn (PTO (some t)) false false],[.p 0 0],Unit,fun _=>([.pn (PTO (some t)) false false,.ow 31 (t.leaves)],.n 1),fun _=>True⟩:=by
 refine v_fun Tryd.f29 ccB9_29 MX (fun ν F σ w=>?_) Tryd.func29
 refine v_nl ?_
 refine v_if (false) True trivial (fun h1=>?_) (fun h1=>?_)
 ·skip
  contradiction
 ·skip
  refine v_open 0 (open_ts (t)) ((false=false)∧(PTO (some t)=PTO (some t))) ⟨rfl,rfl⟩ ?_
  refine v_call _ [2,1] (walk_ok (t) ([]) ‹_› (by(simp;omega))) ((PT t=PT t)∧(false=false)∧(Eq (α:=List Pair) [] [])) ⟨rfl,rfl,rfl⟩ (fun g2 p3=>?_)
  have p3:True:=p3
  exact v_ret () [3] ((PLe (PTO (some t)) (PTO (some t)))∧(false=false)∧([]++t.leaves=t.leaves)) ⟨fun _ _ _ h=>h,rfl,rfl⟩ trivial
theorem All_ok (o:Option Tr) (ho:okO o) (hl:(leavesO o).length≤900000):FOk EN 29 ⟨[.pn (PTO o) false false],[.p 0 0],Unit,fun _=>([.pn (PTO o) false false,.ow 31 (leavesO o)],.n 1),fun _=>True⟩:=by
  cases o with
  | none=>exact All1_aux
  | some t=>exact All2_aux t (ho t rfl).1 hl
namespace Tr
def lo:Tr→Tr
  | leaf k v=>leaf k v
  | node l _=>l
def ro:Tr→Tr
  | leaf k v=>leaf k v
  | node _ r=>r
def child (t:Tr) (b:Bool):Tr:=if b then t.ro else t.lo
def at':Tr→List Bool→Option Tr
  | t,[]=>some t
  | leaf _ _,_::_=>none
  | node l r,b::w=>if b then r.at' w else l.at' w
theorem height_pos {l r:Tr}:0<(node l r).height:=by
  have h1:=l.height_nn;have h2:=r.height_nn;simp only[height];omega
theorem at_leaf {k v:List UInt8} {w:List Bool} {i:Nat} {s:Tr} (h:(leaf k v).at' (w.drop i)=some s) (hi:(i:Int)<w.length):False:=by
  have:w.drop i=w.getD i false::w.drop (i+1):=by
    have hl:i<w.length:=by omega
    rw[List.drop_eq_getElem_cons hl]
    simp[List.getD_eq_getElem?_getD,hl]
  rw[this] at h;simp[at'] at h
theorem at_leaf' {k v:List UInt8} {w:List Bool} {i:Nat} {s:Tr} {X:Prop} (h:(leaf k v).at' (w.drop i)=some s∧X) (hi:(i:Int)<w.length):False:=at_leaf h.1 hi
theorem at_end' {t:Tr} {w:List Bool} {i:Nat} {s:Tr} {X:Prop} (h:t.at' (w.drop i)=some s∧X) (hi:¬ (i:Int)<w.length):t=s:=by
  have h:=h.1
  rw[List.drop_of_length_le (by omega)] at h
  cases t <;> simpa [at'] using h
theorem at_node {l r:Tr} {w:List Bool} {i:Nat} {s:Tr} (h:(node l r).at' (w.drop i)=some s) (hi:(i:Int)<w.length):(w.getD i false=true→r.at' (w.drop (i+1))=some s)∧(w.getD i false=false→l.at' (w.drop (i+1))=some s):=by
  have:w.drop i=w.getD i false::w.drop (i+1):=by
    have hl:i<w.length:=by omega
    rw[List.drop_eq_getElem_cons hl]
    simp[List.getD_eq_getElem?_getD,hl]
  rw[this] at h
  constructor <;> intro e <;> rw[e] at h <;> simpa [at'] using h
end Tr
noncomputable def ccB10_61:Code:=(Tryd.f61.body).getD .skip
theorem copied_ok (k v l r:List UInt8) (h:Int) (s:UInt64) (hk:k.length≤1000) (hv:v.length≤1000) (hl:l.length=32) (hr:r.length=32):FOk EN 61 ⟨[.rd 5 (k),.rd 5 (v)],[.a [.n 0,.n 1,.i h,.u s,.h 32 l,.h 32 r]],Unit,fun _=>([.rd 5 (k),.rd 5 (v),.rd 5 (k),.rd 5 (v)],.a [.n 2,.n 3,.i h,.u s,.h 32 l,.h 32 r]),fun _=>True⟩:=by
 refine v_fun Tryd.f61 ccB10_61 MX (fun ν F σ w=>?_) Tryd.func61
 refine v_nl ?_
 refine v_join [3,4,5,6,7,8,9,10,1] [3] (fun _:Unit=>([(1,SV.p 5 0)],[Ent.bx 82 [SV.n 6,SV.n 7,SV.i h,SV.u s,SV.h 32 l,SV.h 32 r],Ent.ow 5 k,Ent.ow 5 v])) (fun _=>True) ?_ (fun _ _=>?_) True trivial
 ·skip
  refine v_plan (.fs [0,3] (.c 1 (.c 2 (.o 4 (.fs [6] (.o 5 (.o 7 (.fs [8] (.o 9 .e)))))) (.o 4 (.o 2 (.fs [6] (.o 5 (.o 7 (.fs [8] (.o 9 .e)))))))) (.o 4 (.o 1 (.o 2 (.fs [6] (.o 5 (.o 7 (.fs [8] (.o 9 .e)))))))))) [4] True trivial ?_
  refine v_pick True trivial ?_ ?_
  ·skip
   refine v_pick True trivial ?_ ?_
   ·skip
    refine v_call _ [0] (clone_ok (k) (by omega)) ((k=k)) rfl (fun g1 p2=>?_)
    have p2:True:=p2
    refine v_call _ [1] (clone_ok (v) (by omega)) ((v=v)) rfl (fun g3 p4=>?_)
    have p4:True:=p4
    exact v_back (()) [3,5,6] ((h=h)∧(s=s)∧(l=l)∧(r=r)∧(k=k)∧(v=v)) ⟨rfl,rfl,rfl,rfl,rfl,rfl⟩ (show True from trivial)
   ·skip
    refine v_call _ [0] (clone_ok (k) (by omega)) ((k=k)) rfl (fun g5 p6=>?_)
    have p6:True:=p6
    refine v_call _ [1] (clone_ok (v) (by omega)) ((v=v)) rfl (fun g7 p8=>?_)
    have p8:True:=p8
    exact v_back (()) [3,5,6] ((h=h)∧(s=s)∧(l=l)∧(r=r)∧(k=k)∧(v=v)) ⟨rfl,rfl,rfl,rfl,rfl,rfl⟩ (show True from trivial)
  ·skip
   refine v_call _ [0] (clone_ok (k) (by omega)) ((k=k)) rfl (fun g9 p10=>?_)
   have p10:True:=p10
   refine v_call _ [1] (clone_ok (v) (by omega)) ((v=v)) rfl (fun g11 p12=>?_)
   have p12:True:=p12
   exact v_back (()) [3,5,6] ((h=h)∧(s=s)∧(l=l)∧(r=r)∧(k=k)∧(v=v)) ⟨rfl,rfl,rfl,rfl,rfl,rfl⟩ (show True from trivial)
 ·skip
  exact v_ret () [6,7] ((h=h)∧(s=s)∧(l=l)∧(r=r)∧(k=k)∧(v=v)∧(k=k)∧(v=v)) ⟨rfl,rfl,rfl,rfl,rfl,rfl,rfl,rfl⟩ trivial
noncomputable def ccB10_43:Code:=(Tryd.f43.body).getD .skip
theorem Nodenone_ok (ws:List Bool):FOk EN 43 ⟨[.rd 4 ws,.pn (PTO none) false false],[.p 1 0,.n 0],Unit,fun _=>([.rd 4 ws,.pn (PTO none) false false],.t [.a [.v (.slice none 0 0),.v (.slice none 0 0),.i 0,.u 0,.h 32 z32,.h 32 z32],.b false]),fun _=>True⟩:=by
 refine v_fun Tryd.f43 ccB10_43 MX (fun ν F σ w=>?_) Tryd.func43
 refine v_nl ?_
 refine v_guard 11 (false) True trivial (fun h1=>?_) (fun h1=>?_)
 ·skip
  contradiction
 ·skip
  refine v_open 1 (open_tn) ((false=false)∧(PTO none=PTO none)) ⟨rfl,rfl⟩ ?_
  exact v_ret () [] ((Value.slice none 0 0=Value.slice none 0 0)∧(Value.slice none 0 0=Value.slice none 0 0)∧((0:Int)=(0:Int))∧((0:UInt64)=(0:UInt64))∧(List.replicate 32 0=z32)∧(List.replicate 32 0=z32)∧(false=false)∧(ws=ws)∧(PLe (PTO none) (PTO none))∧(false=false)) ⟨rfl,rfl,rfl,rfl,rfl,rfl,rfl,rfl,fun _ _ _ h=>h,rfl⟩ trivial
theorem chT {l r:Tr} {b:Bool} (h:b=true):PT r=PT ((Tr.node l r).child b):=by rw[h];rfl
theorem chF {l r:Tr} {b:Bool} (h:b=false):PT l=PT ((Tr.node l r).child b):=by rw[h];rfl
theorem chBT {l r s:Tr} {ws:List Bool} {i:Nat} (hk:(Tr.node l r).at' (ws.drop i)=some s∧i≤ws.length) (hi:(i:Int)<ws.length) (h:ws.getD i false=true):(((Tr.node l r).child (ws.getD i false)).at' (ws.drop (i+1))=some s∧i+1≤ws.length)∧ws.length - (i+1)<ws.length - i:=by
  rw[h];exact⟨⟨(Tr.at_node hk.1 hi).1 h,by omega⟩,by omega⟩
theorem chBF {l r s:Tr} {ws:List Bool} {i:Nat} (hk:(Tr.node l r).at' (ws.drop i)=some s∧i≤ws.length) (hi:(i:Int)<ws.length) (h:ws.getD i false=false):(((Tr.node l r).child (ws.getD i false)).at' (ws.drop (i+1))=some s∧i+1≤ws.length)∧ws.length - (i+1)<ws.length - i:=by
  rw[h];exact⟨⟨(Tr.at_node hk.1 hi).2 h,by omega⟩,by omega⟩
theorem Node_ok (t s:Tr) (ws:List Bool) (hw:ws.length≤1000000) (hs:t.at' ws=some s) (hk:s.key.length≤1000) (hv:s.value.length≤1000):FOk EN 43 ⟨[.rd 4 ws,.pn (PTO (some t)) false false],[.p 1 0,.n 0],Unit,fun _=>([.rd 4 ws,.pn (PTO (some t)) false false,.rd 5 (s.key),.rd 5 (s.value)],.t [.a [.n 2,.n 3,.i s.height,.u s.size,.h 32 s.lh,.h 32 s.rh],.b true]),fun _=>True⟩:=by
 refine v_fun Tryd.f43 ccB10_43 MX (fun ν F σ w=>?_) Tryd.func43
 refine v_nl ?_
 refine v_guard 11 (false) True trivial (fun h1=>?_) (fun h1=>?_)
 ·skip
  contradiction
 ·skip
  refine v_open 1 (open_ts (t)) ((false=false)∧(PTO (some t)=PTO (some t))) ⟨rfl,rfl⟩ ?_
  refine v_if (false) True trivial (fun h2=>?_) (fun h2=>?_)
  ·skip
   contradiction
  ·skip
   refine v_loop (fun k:Nat × Tr=>([(25,.i k.1),(6,.p 5 0)],[.pn (PT (k.2)) false false])) (fun k=>k.2.at' (ws.drop k.1)=some s∧k.1≤ws.length) (fun k=>ws.length - k.1) (0,t) [4] (((0:Int)=(↑(0:Nat):Int))∧(PT t=PT t)∧(false=false)) ⟨rfl,rfl,rfl⟩ (by(simp;omega)) (fun k hk3=>?_)
   obtain⟨i,t2⟩:=k
   cases t2 with
   | leaf a b =>
    refine v_if (decide ((↑i:Int)<(↑ws.length:Int))) True trivial (fun h4=>?_) (fun h4=>?_)
    ·have h4:=of_decide_eq_true h4
     exfalso;exact Tr.at_leaf' ‹_› ‹_›
    ·have h4:=of_decide_eq_false h4
     refine v_leave (.ex 0) True trivial ?_
     refine v_open 5 (open_leaf (a) (b)) ((false=false)∧(PT (Tr.leaf a b)=PT (Tr.leaf a b))) ⟨rfl,rfl⟩ ?_
     refine v_call _ [6,7] (copied_ok (a) (b) (z32) (z32) (0) (1) (by(cases Tr.at_end' ‹_› ‹_›;first | rfl | assumption | exact Tr.hash_len _)) (by(cases Tr.at_end' ‹_› ‹_›;first | rfl | assumption | exact Tr.hash_len _)) rfl rfl) (((0:Int)=(0:Int))∧((1:UInt64)=(1:UInt64))∧(z32=z32)∧(z32=z32)∧(a=a)∧(b=b)) ⟨rfl,rfl,rfl,rfl,rfl,rfl⟩ (fun g5 p6=>?_)
     have p6:True:=p6
     exact v_ret () [8,9] ((0=s.height)∧(1=s.size)∧(z32=s.lh)∧(z32=s.rh)∧(true=true)∧(ws=ws)∧(PLe (PTO (some t)) (PTO (some t)))∧(false=false)∧(a=s.key)∧(b=s.value)) ⟨(by(cases Tr.at_end' ‹_› ‹_›;first | rfl | assumption | exact Tr.hash_len _)),(by(cases Tr.at_end' ‹_› ‹_›;first | rfl | assumption | exact Tr.hash_len _)),(by(cases Tr.at_end' ‹_› ‹_›;first | rfl | assumption | exact Tr.hash_len _)),(by(cases Tr.at_end' ‹_› ‹_›;first | rfl | assumption | exact Tr.hash_len _)),rfl,rfl,fun _ _ _ h=>h,rfl,(by(cases Tr.at_end' ‹_› ‹_›;first | rfl | assumption | exact Tr.hash_len _)),(by(cases Tr.at_end' ‹_› ‹_›;first | rfl | assumption | exact Tr.hash_len _))⟩ trivial
   | node l r =>
    refine v_if (decide ((↑i:Int)<(↑ws.length:Int))) True trivial (fun h7=>?_) (fun h7=>?_)
    ·have h7:=of_decide_eq_true h7
     refine v_open 5 (open_node (l) (r)) ((0≤(↑i:Int)∧(↑i:Int)<(↑ws.length:Int))∧(false=false)∧(PT (l.node r)=PT (l.node r))) ⟨(by omega),rfl,rfl⟩ ?_
     refine v_if (decide ((l.node r).height=0)) True trivial (fun h8=>?_) (fun h8=>?_)
     ·have h8:=of_decide_eq_true h8
      exfalso;(have:=Tr.height_pos (l:=l) (r:=r);omega)
     ·have h8:=of_decide_eq_false h8
      refine v_if (ws.getD (↑i:Int).toNat false) True trivial (fun h9=>?_) (fun h9=>?_)
      ·skip
       exact v_back (((i,l.node r).fst+1,(i,l.node r).snd.child (ws.getD (i,l.node r).fst false))) [9] ((I64 (↑i+1))∧((↑i:Int)+1=(↑(i+1):Int))∧(PT r=PT ((l.node r).child (ws.getD i false)))∧(false=false)) ⟨(by(unfold I64;omega)),rfl,(by exact chT ‹_›),rfl⟩ (show(((l.node r).child (ws.getD i false)).at' (List.drop (i+1) ws)=some s∧i+1≤ws.length)∧ws.length - (i+1)<ws.length - i from(by exact chBT ‹_› ‹_› ‹_›))
      ·skip
       exact v_back (((i,l.node r).fst+1,(i,l.node r).snd.child (ws.getD (i,l.node r).fst false))) [8] ((I64 (↑i+1))∧((↑i:Int)+1=(↑(i+1):Int))∧(PT l=PT ((l.node r).child (ws.getD i false)))∧(false=false)) ⟨(by(unfold I64;omega)),rfl,(by exact chF ‹_›),rfl⟩ (show(((l.node r).child (ws.getD i false)).at' (List.drop (i+1) ws)=some s∧i+1≤ws.length)∧ws.length - (i+1)<ws.length - i from(by exact chBF ‹_› ‹_› ‹_›))
    ·have h7:=of_decide_eq_false h7
     refine v_leave (.ex 0) True trivial ?_
     refine v_open 5 (open_node (l) (r)) ((false=false)∧(PT (l.node r)=PT (l.node r))) ⟨rfl,rfl⟩ ?_
     refine v_call _ [6,2] (copied_ok ((l.node r).key) ([]) (l.hash) (r.hash) ((l.node r).height) ((l.node r).size) (by(cases Tr.at_end' ‹_› ‹_›;first | rfl | assumption | exact Tr.hash_len _)) (by decide) (by(cases Tr.at_end' ‹_› ‹_›;first | rfl | assumption | exact Tr.hash_len _)) (by(cases Tr.at_end' ‹_› ‹_›;first | rfl | assumption | exact Tr.hash_len _))) (((l.node r).height=(l.node r).height)∧((l.node r).size=(l.node r).size)∧(l.hash=l.hash)∧(r.hash=r.hash)∧((l.node r).key=(l.node r).key)∧(Eq (α:=List UInt8) [] [])) ⟨rfl,rfl,rfl,rfl,rfl,rfl⟩ (fun g10 p11=>?_)
     have p11:True:=p11
     exact v_ret () [9,10] (((l.node r).height=s.height)∧((l.node r).size=s.size)∧(l.hash=s.lh)∧(r.hash=s.rh)∧(true=true)∧(ws=ws)∧(PLe (PTO (some t)) (PTO (some t)))∧(false=false)∧((l.node r).key=s.key)∧([]=s.value)) ⟨(by(cases Tr.at_end' ‹_› ‹_›;first | rfl | assumption | exact Tr.hash_len _)),(by(cases Tr.at_end' ‹_› ‹_›;first | rfl | assumption | exact Tr.hash_len _)),(by(cases Tr.at_end' ‹_› ‹_›;first | rfl | assumption | exact Tr.hash_len _)),(by(cases Tr.at_end' ‹_› ‹_›;first | rfl | assumption | exact Tr.hash_len _)),rfl,rfl,fun _ _ _ h=>h,rfl,(by(cases Tr.at_end' ‹_› ‹_›;first | rfl | assumption | exact Tr.hash_len _)),(by(cases Tr.at_end' ‹_› ‹_›;first | rfl | assumption | exact Tr.hash_len _))⟩ trivial
namespace Tr
def rt (k:List UInt8) (t:Tr):Bool:=decide (0≤Lib.compareBytes k t.key)
def turn (k:List UInt8) (t:Tr):Turn:=⟨t.height,t.size,t.rt k,if t.rt k then mk32 t.lh else mk32 t.rh⟩
def turns (k:List UInt8):Tr→List Turn
  | leaf _ _=>[]
  | node l r=>(node l r).turn k::(if(node l r).rt k then r.turns k else l.turns k)
def fin (k:List UInt8):Tr→Tr
  | leaf a b=>leaf a b
  | node l r=>if(node l r).rt k then r.fin k else l.fin k
end Tr
namespace Tr
theorem at_snoc {b:Bool}:∀ {t s:Tr} {ws:List Bool},t.at' ws=some s→0<s.height→t.at' (ws++[b])=some (s.child b)
  | leaf _ _,s,[],h,hp=>by simp[at'] at h;subst h;simp[height] at hp
  | leaf _ _,s,_::_,h,hp=>by simp[at'] at h
  | node l r,s,[],h,hp=>by simp[at'] at h;subst h;cases b <;> simp[at',child,lo,ro] <;> (first | cases r <;> rfl | cases l <;> rfl)
  | node l r, s, c :: ws, h, hp => by
    simp only[at'] at h
    simp only[List.cons_append,at']
    cases c with
    | true=>rw[if_pos rfl] at h ⊢;exact at_snoc h hp
    | false=>rw[if_neg (by simp)] at h ⊢;exact at_snoc h hp
theorem leaf_of {s:Tr} (h:s.height=0):∃ a b,s=leaf a b:=by
  cases s with
  | leaf a b=>exact⟨a,b,rfl⟩
  | node l r=>have:=height_pos (l:=l) (r:=r);omega
theorem turns_in (k:List UInt8) {s:Tr} (h:¬ s.height=0):s.turns k=s.turn k::(s.child (s.rt k)).turns k∧s.fin k=(s.child (s.rt k)).fin k∧(s.child (s.rt k)).depth<s.depth∧(s.Ks→(s.child (s.rt k)).Ks):=by
  cases s with
  | leaf a b=>exact absurd rfl h
  | node l r =>
    simp only[turns,fin,child,lo,ro]
    cases(node l r).rt k
    · exact⟨rfl,rfl,by simp[depth];omega,fun h=>h.1⟩
    · exact⟨rfl,rfl,by simp[depth];omega,fun h=>h.2⟩
theorem key_le {s:Tr} (h:s.Ks):s.key.length≤1000:=by
  cases s with
  | leaf a b=>exact h.1
  | node l r=>exact least_le h.2
theorem value_le {s:Tr} (h:s.Ks):s.value.length≤1000:=by
  cases s with
  | leaf a b=>exact h.2
  | node l r=>simp[value]
end Tr
def DI (k:List UInt8) (t:Tr) (q:List Bool × List Turn × Tr):Prop:=t.at' q.1=some q.2.2∧q.2.1++q.2.2.turns k=t.turns k∧q.2.2.fin k=t.fin k∧q.2.2.Ks∧q.1.length+q.2.2.depth≤t.depth∧q.2.1.length=q.1.length
theorem DI.start {k:List UInt8} {t:Tr} (h:t.Ks):DI k t ([],[],t):=⟨by cases t <;> rfl,rfl,rfl,h,by simp,rfl⟩
theorem DI.next {k:List UInt8} {t:Tr} {q:List Bool × List Turn × Tr} (h:DI k t q) (h0:¬ q.2.2.height=0):DI k t (q.1++[q.2.2.rt k],q.2.1++[q.2.2.turn k],q.2.2.child (q.2.2.rt k))∧(q.2.2.child (q.2.2.rt k)).depth<q.2.2.depth:=by
  obtain⟨a1,a2,a3,a4,a5,a6⟩:=h
  obtain⟨b1,b2,b3,b4⟩:=Tr.turns_in k h0
  have:=q.2.2.height_nn
  refine⟨⟨Tr.at_snoc a1 (by omega),?_,by rw[← b2];exact a3,b4 a4,by simp;omega,by simp[a6]⟩,b3⟩
  rw[← a2,b1];simp
theorem DI.stop {k:List UInt8} {t:Tr} {q:List Bool × List Turn × Tr} (h:DI k t q) (h0:q.2.2.height=0):q.2.2.key=(t.fin k).key∧q.2.2.value=(t.fin k).value∧q.2.1=t.turns k:=by
  obtain⟨a1,a2,a3,a4,a5,a6⟩:=h
  obtain⟨a,b,e⟩:=Tr.leaf_of h0
  rw[e] at a2 a3 ⊢
  simp only[Tr.turns,Tr.fin,List.append_nil] at a2 a3
  rw[← a3];exact⟨rfl,rfl,a2⟩
noncomputable def ccC1_26:Code:=(Tryd.f26.body).getD .skip
theorem mk1_ok (k a b l r:List UInt8) (h:Int) (s:UInt64):FOk EN 26 ⟨[.rd 5 (k),.rd 5 (a),.rd 5 (b),.bx 23 [.n 0]],[.a [.n 1,.n 2,.i h,.u s,.h 32 l,.h 32 r],.p 3 0],Unit,fun _=>([.rd 5 (k),.rd 5 (a),.rd 5 (b),.bx 23 [.n 0]],.b (decide (0≤Lib.compareBytes k a))),fun _=>True⟩:=by
 refine v_fun Tryd.f26 ccC1_26 MX (fun ν F σ w=>?_) Tryd.func26
 refine v_nl ?_
 refine v_call _ [0,1] (bcmp_ok (k) (a)) ((k=k)∧(a=a)) ⟨rfl,rfl⟩ (fun g1 p2=>?_)
 have p2:True:=p2
 exact v_ret () [] ((decide (0≤Lib.compareBytes k a)=decide (0≤Lib.compareBytes k a))∧(k=k)∧(a=a)∧(b=b)) ⟨rfl,rfl,rfl,rfl⟩ trivial
noncomputable def ccC1_25:Code:=(Tryd.f25.body).getD .skip
theorem down_ok (k:List UInt8) (t:Tr) (hk:t.Ks) (hd:t.depth≤100000):FOk EN 25 ⟨[.rd 5 (k),.bx 23 [.n 0],.pn (PTO (some t)) false false],[.p 2 0,.f 26 [] [.p 1 0]],Unit,fun _=>([.rd 5 (k),.bx 23 [.n 0],.pn (PTO (some t)) false false,.rd 5 ((t.fin k).key),.rd 5 ((t.fin k).value),.ow 88 (t.turns k)],.t [.a [.n 3,.n 4,.n 5],.b true]),fun _=>True⟩:=by
 refine v_fun Tryd.f25 ccC1_25 MX (fun ν F σ w=>?_) Tryd.func25
 refine v_nl ?_
 refine v_run True trivial ?_
 refine v_nl ?_
 refine v_loop (fun q:List Bool × List Turn × Tr=>([(6,.p 7 0),(7,.n 8)],[.bx 35 [.v (.slice none 0 0),.v (.slice none 0 0),.n 9],.ow 4 q.1,.ow 88 q.2.1])) (fun q=>DI k t q) (fun q=>q.2.2.depth) ([],[],t) [5,3,6] ((Value.slice none 0 0=Value.slice none 0 0)∧(Value.slice none 0 0=Value.slice none 0 0)∧(Eq (α:=List Bool) [] [])∧(Eq (α:=List Turn) [] [])) ⟨rfl,rfl,rfl,rfl⟩ (by exact DI.start hk) (fun q hk1=>?_)
 have h2:=(‹DI k t q›).1
 have h3:=(‹DI k t q›).2.2.2.1
 have h4:=(‹DI k t q›).2.2.2.2
 refine v_call _ [8,2] (Node_ok (t) (q.snd.snd) (q.fst) (by omega) (h2) (by exact Tr.key_le h3) (by exact Tr.value_le h3)) ((q.fst=q.fst)∧(PTO (some t)=PTO (some t))∧(false=false)) ⟨rfl,rfl,rfl⟩ (fun g2 p3=>?_)
 have p3:True:=p3
 refine v_if (!true) True trivial (fun h4=>?_) (fun h4=>?_)
 ·have h4:=(nt h4)
  contradiction
 ·have h4:=(nf h4)
  refine v_if (decide (q.snd.snd.height=0)) True trivial (fun h5=>?_) (fun h5=>?_)
  ·have h5:=of_decide_eq_true h5
   refine v_plan (.fs [0,1,2,3,4] (.o 5 (.fs [6] (.o 7 .e)))) [1,4,8,9,12] True trivial ?_
   refine v_leave .rt True trivial ?_
   exact v_ret () [10,11,9] ((true=true)∧(k=k)∧(PTO (some t)=PTO (some t))∧(false=false)∧(q.snd.snd.key=(Tr.fin k t).key)∧(q.snd.snd.value=(Tr.fin k t).value)∧(q.snd.fst=Tr.turns k t)) ⟨rfl,rfl,rfl,rfl,(by exact(DI.stop ‹_› ‹_›).1),(by exact(DI.stop ‹_› ‹_›).2.1),(by exact(DI.stop ‹_› ‹_›).2.2)⟩ trivial
  ·have h5:=of_decide_eq_false h5
   refine v_call _ [0,10,11,1] (mk1_ok (k) (q.snd.snd.key) (q.snd.snd.value) (q.snd.snd.lh) (q.snd.snd.rh) (q.snd.snd.height) (q.snd.snd.size)) ((q.snd.snd.height=q.snd.snd.height)∧(q.snd.snd.size=q.snd.snd.size)∧(q.snd.snd.lh=q.snd.snd.lh)∧(q.snd.snd.rh=q.snd.snd.rh)∧(k=k)∧(q.snd.snd.key=q.snd.snd.key)∧(q.snd.snd.value=q.snd.snd.value)) ⟨rfl,rfl,rfl,rfl,rfl,rfl,rfl⟩ (fun g6 p7=>?_)
   have p7:True:=p7
   refine v_if (decide (0≤Lib.compareBytes k q.snd.snd.key)) True trivial (fun h8=>?_) (fun h8=>?_)
   ·have h8:=of_decide_eq_true h8
    exact v_back ((q.fst++[Tr.rt k q.snd.snd],q.snd.fst++[Tr.turn k q.snd.snd],q.snd.snd.child (Tr.rt k q.snd.snd))) [7,17,15] ((q.snd.fst.length+1≤1000000)∧(q.fst.length+1≤1000000)∧(Value.slice none 0 0=Value.slice none 0 0)∧(Value.slice none 0 0=Value.slice none 0 0)∧(q.fst++[decide (0≤Lib.compareBytes k q.snd.snd.key)]=q.fst++[Tr.rt k q.snd.snd])∧(q.snd.fst++[Turn.mk q.snd.snd.height q.snd.snd.size (decide (0≤Lib.compareBytes k q.snd.snd.key)) (mk32 q.snd.snd.lh)]=q.snd.fst++[Tr.turn k q.snd.snd])) ⟨(by omega),(by omega),rfl,rfl,rfl,(by(simp[Tr.turn,Tr.rt, *];done))⟩ (show DI k t (q.fst++[Tr.rt k q.snd.snd],q.snd.fst++[Tr.turn k q.snd.snd],q.snd.snd.child (Tr.rt k q.snd.snd))∧(q.snd.snd.child (Tr.rt k q.snd.snd)).depth<q.snd.snd.depth from(by exact DI.next ‹_› ‹_›))
   ·have h8:=of_decide_eq_false h8
    exact v_back ((q.fst++[Tr.rt k q.snd.snd],q.snd.fst++[Tr.turn k q.snd.snd],q.snd.snd.child (Tr.rt k q.snd.snd))) [7,17,15] ((q.snd.fst.length+1≤1000000)∧(q.fst.length+1≤1000000)∧(Value.slice none 0 0=Value.slice none 0 0)∧(Value.slice none 0 0=Value.slice none 0 0)∧(q.fst++[decide (0≤Lib.compareBytes k q.snd.snd.key)]=q.fst++[Tr.rt k q.snd.snd])∧(q.snd.fst++[Turn.mk q.snd.snd.height q.snd.snd.size (decide (0≤Lib.compareBytes k q.snd.snd.key)) (mk32 q.snd.snd.rh)]=q.snd.fst++[Tr.turn k q.snd.snd])) ⟨(by omega),(by omega),rfl,rfl,rfl,(by(simp[Tr.turn,Tr.rt, *];done))⟩ (show DI k t (q.fst++[Tr.rt k q.snd.snd],q.snd.fst++[Tr.turn k q.snd.snd],q.snd.snd.child (Tr.rt k q.snd.snd))∧(q.snd.snd.child (Tr.rt k q.snd.snd)).depth<q.snd.snd.depth from(by exact DI.next ‹_› ‹_›))
def mkP (k:List UInt8):Option Tr→Proof
  | none=>⟨[],[],[]⟩
  | some t=>if(t.fin k).key=k then⟨(t.fin k).key,(t.fin k).value,t.turns k⟩ else⟨[],[],[]⟩
def mkB (k:List UInt8):Option Tr→Bool
  | none=>false
  | some t=>decide ((t.fin k).key=k)
theorem downnone_ok (k:List UInt8):FOk EN 25 ⟨[.rd 5 (k),.bx 23 [.n 0],.pn (PTO none) false false],[.p 2 0,.f 26 [] [.p 1 0]],Unit,fun _=>([.rd 5 (k),.bx 23 [.n 0],.pn (PTO none) false false],.t [.a [.v (.slice none 0 0),.v (.slice none 0 0),.v (.slice none 0 0)],.b false]),fun _=>True⟩:=by
 refine v_fun Tryd.f25 ccC1_25 MX (fun ν F σ w=>?_) Tryd.func25
 refine v_nl ?_
 refine v_loop (fun q:Unit=>([(6,.p 6 0),(7,.v (.slice none 0 0))],[.bx 35 [.v (.slice none 0 0),.v (.slice none 0 0),.v (.slice none 0 0)]])) (fun q=>True) (fun q=>0) () [5] ((Value.slice none 0 0=Value.slice none 0 0)∧(Value.slice none 0 0=Value.slice none 0 0)∧(Value.slice none 0 0=Value.slice none 0 0)∧(Value.slice none 0 0=Value.slice none 0 0)) ⟨rfl,rfl,rfl,rfl⟩ trivial (fun q hk1=>?_)
 refine v_call _ [3,2] (Nodenone_ok ([])) ((Eq (α:=List Bool) [] [])∧(PTO none=PTO none)∧(false=false)) ⟨rfl,rfl,rfl⟩ (fun g2 p3=>?_)
 have p3:True:=p3
 refine v_if (!false) True trivial (fun h4=>?_) (fun h4=>?_)
 ·have h4:=(nt h4)
  refine v_leave .rt True trivial ?_
  exact v_ret () [] ((Value.slice none 0 0=Value.slice none 0 0)∧(Value.slice none 0 0=Value.slice none 0 0)∧(Value.slice none 0 0=Value.slice none 0 0)∧(false=false)∧(k=k)∧(PTO none=PTO none)∧(false=false)) ⟨rfl,rfl,rfl,rfl,rfl,rfl,rfl⟩ trivial
 ·have h4:=(nf h4)
  contradiction
noncomputable def ccC1_8:Code:=(Tryd.f8.body).getD .skip
theorem Make1_aux (k:List UInt8):FOk EN 8 ⟨[.rd 5 (k),.pn (PTO none) false false],[.p 1 0,.n 0],Unit,fun _=>([.rd 5 (k),.pn (PTO none) false false,.rd 5 ([]),.rd 5 ([]),.rd 88 []],.t [.a [.n 2,.n 3,.n 4],.b false]),fun _=>True⟩:=by
 refine v_fun Tryd.f8 ccC1_8 MX (fun ν F σ w=>?_) Tryd.func8
 refine v_nl ?_
 refine v_call _ [0,3,1] (downnone_ok (k)) ((26=26)∧(k=k)∧(PTO none=PTO none)∧(false=false)) ⟨rfl,rfl,rfl,rfl⟩ (fun g1 p2=>?_)
 have p2:True:=p2
 refine v_guard 16 (!false) True trivial (fun h3=>?_) (fun h3=>?_)
 ·have h3:=(nt h3)
  exact v_ret () [2,2,2] ((false=false)∧(k=k)∧(PTO none=PTO none)∧(false=false)∧(Eq (α:=List UInt8) [] [])∧(Eq (α:=List UInt8) [] [])∧(Eq (α:=List Turn) [] [])) ⟨rfl,rfl,rfl,rfl,rfl,rfl,rfl⟩ trivial
 ·have h3:=(nf h3)
  contradiction
theorem Make2_aux (t:Tr) (k:List UInt8) (hk:t.Ks) (hd:t.depth≤100000) (he:(t.fin k).key=k):FOk EN 8 ⟨[.rd 5 (k),.pn (PTO (some t)) false false],[.p 1 0,.n 0],Unit,fun _=>([.rd 5 (k),.pn (PTO (some t)) false false,.rd 5 ((t.fin k).key),.rd 5 ((t.fin k).value),.rd 88 (t.turns k)],.t [.a [.n 2,.n 3,.n 4],.b true]),fun _=>True⟩:=by
 refine v_fun Tryd.f8 ccC1_8 MX (fun ν F σ w=>?_) Tryd.func8
 refine v_nl ?_
 refine v_call _ [0,3,1] (down_ok (k) (t) ‹_› ‹_›) ((26=26)∧(k=k)∧(PTO (some t)=PTO (some t))∧(false=false)) ⟨rfl,rfl,rfl,rfl⟩ (fun g1 p2=>?_)
 have p2:True:=p2
 refine v_guard 16 (!true) True trivial (fun h3=>?_) (fun h3=>?_)
 ·have h3:=(nt h3)
  contradiction
 ·have h3:=(nf h3)
  refine v_call _ [5,0] (beq_ok ((Tr.fin k t).key) (k)) (((Tr.fin k t).key=(Tr.fin k t).key)∧(k=k)) ⟨rfl,rfl⟩ (fun g4 p5=>?_)
  have p5:True:=p5
  refine v_if (!decide ((Tr.fin k t).key=k)) True trivial (fun h6=>?_) (fun h6=>?_)
  ·have h6:=of_decide_eq_false (nt h6)
   contradiction
  ·have h6:=of_decide_eq_true (nf h6)
   exact v_ret () [5,6,7] ((true=true)∧(k=k)∧(PTO (some t)=PTO (some t))∧(false=false)∧((Tr.fin k t).key=(Tr.fin k t).key)∧((Tr.fin k t).value=(Tr.fin k t).value)∧(Tr.turns k t=Tr.turns k t)) ⟨rfl,rfl,rfl,rfl,rfl,rfl,rfl⟩ trivial
theorem Make3_aux (t:Tr) (k:List UInt8) (hk:t.Ks) (hd:t.depth≤100000) (he:¬ (t.fin k).key=k):FOk EN 8 ⟨[.rd 5 (k),.pn (PTO (some t)) false false],[.p 1 0,.n 0],Unit,fun _=>([.rd 5 (k),.pn (PTO (some t)) false false,.rd 5 ([]),.rd 5 ([]),.rd 88 []],.t [.a [.n 2,.n 3,.n 4],.b false]),fun _=>True⟩:=by
 refine v_fun Tryd.f8 ccC1_8 MX (fun ν F σ w=>?_) Tryd.func8
 refine v_nl ?_
 refine v_call _ [0,3,1] (down_ok (k) (t) ‹_› ‹_›) ((26=26)∧(k=k)∧(PTO (some t)=PTO (some t))∧(false=false)) ⟨rfl,rfl,rfl,rfl⟩ (fun g1 p2=>?_)
 have p2:True:=p2
 refine v_guard 16 (!true) True trivial (fun h3=>?_) (fun h3=>?_)
 ·have h3:=(nt h3)
  contradiction
 ·have h3:=(nf h3)
  refine v_call _ [5,0] (beq_ok ((Tr.fin k t).key) (k)) (((Tr.fin k t).key=(Tr.fin k t).key)∧(k=k)) ⟨rfl,rfl⟩ (fun g4 p5=>?_)
  have p5:True:=p5
  refine v_if (!decide ((Tr.fin k t).key=k)) True trivial (fun h6=>?_) (fun h6=>?_)
  ·have h6:=of_decide_eq_false (nt h6)
   exact v_ret () [2,2,2] ((false=false)∧(k=k)∧(PTO (some t)=PTO (some t))∧(false=false)∧(Eq (α:=List UInt8) [] [])∧(Eq (α:=List UInt8) [] [])∧(Eq (α:=List Turn) [] [])) ⟨rfl,rfl,rfl,rfl,rfl,rfl,rfl⟩ trivial
  ·have h6:=of_decide_eq_true (nf h6)
   contradiction
theorem Make_ok (o:Option Tr) (k:List UInt8) (ho:okO o):FOk EN 8 ⟨[.rd 5 (k),.pn (PTO o) false false],[.p 1 0,.n 0],Unit,fun _=>([.rd 5 (k),.pn (PTO o) false false,.rd 5 ((mkP k o).key),.rd 5 ((mkP k o).value),.rd 88 (mkP k o).turns],.t [.a [.n 2,.n 3,.n 4],.b (mkB k o)]),fun _=>True⟩:=by
  cases o with
  | none=>exact Make1_aux k
  | some t =>
    by_cases h:(t.fin k).key=k
    · rw [show mkP k (some t) = ⟨(t.fin k).key, (t.fin k).value, t.turns k⟩ by simp [mkP, h], show mkB k (some t) = true by simp [mkB, h]]
      exact Make2_aux t k (ho t rfl).1 (ho t rfl).2.2 h
    · rw [show mkP k (some t) = ⟨[], [], []⟩ by simp [mkP, h], show mkB k (some t) = false by simp [mkB, h]]
      exact Make3_aux t k (ho t rfl).1 (ho t rfl).2.2 h
def gp (o:Option Proof):Proof:=o.getD ⟨[],[],[]⟩
theorem gp_some {o:Option Proof} (h:o.isNone=false):o=some (gp o):=by cases o with | none=>simp at h | some x=>rfl
theorem open_pf (o:Option Proof) (h:o.isNone=false):Opens (G:=GT) (PPt GT 35 o) (fun _=>[.rd 5 ((gp o).key),.rd 5 ((gp o).value),.rd 88 (gp o).turns]) (fun b=>[.n b,.n (b+1),.n (b+2)]):=opens_pt (En:=EN) (gp_some h) _ _ (fun _=>rfl)
theorem close_pf (k v:List UInt8) (t:List Turn):Closes (G:=GT) (PPt GT 35 (some (⟨k,v,t⟩:Proof))) [.rd 5 (k),.rd 5 (v),.rd 88 t] [.n 0,.n 1,.n 2]:=closes_pt (En:=EN) _ _ rfl
def noneG (k:List UInt8) (o:Option Tr):List Pair→Option Proof × Option Proof→Option (Option Proof × Option Proof)
  | [],g=>some g
  | x::xs,g=>if Lib.compareBytes x.key k=0 then none else if Lib.compareBytes x.key k<0 then noneG k o xs (some (mkP x.key o),g.2) else if g.2.isNone then noneG k o xs (g.1,some (mkP x.key o)) else noneG k o xs g
def noneR (k:List UInt8) (o:Option Tr):Option (Option Proof × Option Proof):=noneG k o (leavesO o) (none,none)
theorem drop_cons {α:Type} {l:List α} {i:Nat} {d:α} (hi:(i:Int)<l.length):l.drop i=l.getD i d::l.drop (i+1):=by
  have hl:i<l.length:=by omega
  rw[List.drop_eq_getElem_cons hl]
  simp[List.getD_eq_getElem?_getD,hl]
def NI (k:List UInt8) (o:Option Tr) (q:Nat × Option Proof × Option Proof):Prop:=noneG k o ((leavesO o).drop q.1) q.2=noneR k o∧q.1≤(leavesO o).length
section
variable {k:List UInt8} {o:Option Tr} {i:Nat} {l r l' r':Option Proof}
theorem NI.hit (h:NI k o (i,l,r)) (hi:(i:Int)<(leavesO o).length) (hc:Lib.compareBytes ((leavesO o).getD i ⟨[],[]⟩).key k=0):noneR k o=none:=by
  have h:=h.1;rw[drop_cons (d:=⟨[],[]⟩) hi,noneG,if_pos hc] at h;exact h.symm
theorem NI.below (h:NI k o (i,l,r)) (hi:(i:Int)<(leavesO o).length) (hc:Lib.compareBytes ((leavesO o).getD i ⟨[],[]⟩).key k<0):NI k o (i+1,some (mkP ((leavesO o).getD i ⟨[],[]⟩).key o),r)∧(leavesO o).length - (i+1)<(leavesO o).length - i:=by
  obtain⟨h,h2⟩:=h;rw[drop_cons (d:=⟨[],[]⟩) hi,noneG,if_neg (by omega),if_pos hc] at h;exact⟨⟨h,by omega⟩,by omega⟩
theorem NI.above (h:NI k o (i,l,r)) (hi:(i:Int)<(leavesO o).length) (hc:¬ Lib.compareBytes ((leavesO o).getD i ⟨[],[]⟩).key k=0) (hd:¬ Lib.compareBytes ((leavesO o).getD i ⟨[],[]⟩).key k<0) (hr:r.isNone=true):NI k o (i+1,l,some (mkP ((leavesO o).getD i ⟨[],[]⟩).key o))∧(leavesO o).length - (i+1)<(leavesO o).length - i:=by
  obtain⟨h,h2⟩:=h;rw[drop_cons (d:=⟨[],[]⟩) hi,noneG,if_neg (by omega),if_neg (by omega),if_pos hr] at h;exact⟨⟨h,by omega⟩,by omega⟩
theorem NI.same (h:NI k o (i,l,r)) (hi:(i:Int)<(leavesO o).length) (hc:¬ Lib.compareBytes ((leavesO o).getD i ⟨[],[]⟩).key k=0) (hd:¬ Lib.compareBytes ((leavesO o).getD i ⟨[],[]⟩).key k<0) (hr:r.isNone=false):NI k o (i+1,l,r)∧(leavesO o).length - (i+1)<(leavesO o).length - i:=by
  obtain⟨h,h2⟩:=h;rw[drop_cons (d:=⟨[],[]⟩) hi,noneG,if_neg (by omega),if_neg (by omega),if_neg (by simp[hr])] at h;exact⟨⟨h,by omega⟩,by omega⟩
theorem NI.stop (h:NI k o (i,l,r)) (hi:¬ (i:Int)<(leavesO o).length):noneR k o=some (l,r):=by
  have h:=h.1;rw[List.drop_of_length_le (by omega),noneG] at h;exact h.symm
theorem NI.stop' (hs:noneR k o=some (l',r')) (h:NI k o (i,l,r)) (hi:¬ (i:Int)<(leavesO o).length):l=l'∧r=r':=by
  have:=h.stop hi;rw[hs] at this;injection this with this;injection this with a b;exact⟨a.symm,b.symm⟩
theorem NI.start:NI k o (0,none,none):=⟨rfl,Nat.zero_le _⟩
end
noncomputable def ccC2_9:Code:=(Tryd.f9.body).getD .skip
theorem None1_aux (o:Option Tr) (k:List UInt8) (ho:okO o) (hl:(leavesO o).length≤900000) (hn:noneR k o=none):FOk EN 9 ⟨[.rd 5 (k),.pn (PTO o) false false],[.p 1 0,.n 0],Unit,fun _=>([.rd 5 (k),.pn (PTO o) false false,.pt 35 none,.pt 35 none],.t [.a [.n 2,.n 3],.b false]),fun _=>True⟩:=by
 refine v_fun Tryd.f9 ccC2_9 MX (fun ν F σ w=>?_) Tryd.func9
 refine v_nl ?_
 refine v_call _ [1] (All_ok (o) ‹_› ‹_›) ((PTO o=PTO o)∧(false=false)) ⟨rfl,rfl⟩ (fun g1 p2=>?_)
 have p2:True:=p2
 refine v_al [] (al_pt0 (35)) True trivial ?_
 refine v_loop (fun q:Nat × Option Proof × Option Proof=>([(15,.i q.1),(6,.p 7 0)],[.bx 40 [.n 8,.n 9],.pt 35 q.2.1,.pt 35 q.2.2])) (fun q=>NI k o q) (fun q=>(leavesO o).length - q.1) (0,none,none) [4,6,6] (((0:Int)=(↑(0:Nat):Int))∧(@Eq PP (PPt GT (@OfNat.ofNat Nat (nat_lit 35) (instOfNatNat (nat_lit 35))) (@none Proof)) (PPt GT (@OfNat.ofNat Nat (nat_lit 35) (instOfNatNat (nat_lit 35))) (@none Proof)))∧(@Eq PP (PPt GT (@OfNat.ofNat Nat (nat_lit 35) (instOfNatNat (nat_lit 35))) (@none Proof)) (PPt GT (@OfNat.ofNat Nat (nat_lit 35) (instOfNatNat (nat_lit 35))) (@none Proof)))) ⟨rfl,rfl,rfl⟩ (by exact⟨rfl,Nat.zero_le _⟩) (fun q hk3=>?_)
 refine v_if (decide ((↑q.fst:Int)<(↑(leavesO o).length:Int))) True trivial (fun h4=>?_) (fun h4=>?_)
 ·have h4:=of_decide_eq_true h4
  refine v_call _ [10,1] (Make_ok (o) (((leavesO o).getD (↑q.fst:Int).toNat (Pair.mk [] [])).key) ‹_›) ((0≤(↑q.fst:Int)∧(↑q.fst:Int)<(↑(leavesO o).length:Int))∧(((leavesO o).getD (↑q.fst:Int).toNat (Pair.mk [] [])).key=((leavesO o).getD (↑q.fst:Int).toNat (Pair.mk [] [])).key)∧(PTO o=PTO o)∧(false=false)) ⟨(by omega),rfl,rfl,rfl⟩ (fun g5 p6=>?_)
  have p6:True:=p6
  refine v_call _ [10,0] (bcmp_ok (((leavesO o).getD (↑q.fst:Int).toNat (Pair.mk [] [])).key) (k)) ((((leavesO o).getD (↑q.fst:Int).toNat (Pair.mk [] [])).key=((leavesO o).getD (↑q.fst:Int).toNat (Pair.mk [] [])).key)∧(k=k)) ⟨rfl,rfl⟩ (fun g7 p8=>?_)
  have p8:True:=p8
  refine v_if (decide (Lib.compareBytes ((leavesO o).getD (↑q.fst:Int).toNat (Pair.mk [] [])).key k=0)) True trivial (fun h9=>?_) (fun h9=>?_)
  ·have h9:=of_decide_eq_true h9
   refine v_leave .rt True trivial ?_
   exact v_ret () [6,6] ((false=false)∧(k=k)∧(PTO o=PTO o)∧(false=false)∧(@Eq PP (PPt GT (@OfNat.ofNat Nat (nat_lit 35) (instOfNatNat (nat_lit 35))) (@none Proof)) (PPt GT (@OfNat.ofNat Nat (nat_lit 35) (instOfNatNat (nat_lit 35))) (@none Proof)))∧(@Eq PP (PPt GT (@OfNat.ofNat Nat (nat_lit 35) (instOfNatNat (nat_lit 35))) (@none Proof)) (PPt GT (@OfNat.ofNat Nat (nat_lit 35) (instOfNatNat (nat_lit 35))) (@none Proof)))) ⟨rfl,rfl,rfl,rfl,rfl,rfl⟩ trivial
  ·have h9:=of_decide_eq_false h9
   refine v_if (decide (Lib.compareBytes ((leavesO o).getD (↑q.fst:Int).toNat (Pair.mk [] [])).key k<0)) True trivial (fun h10=>?_) (fun h10=>?_)
   ·have h10:=of_decide_eq_true h10
    refine v_close 17 [14,15,16] (close_pf ((mkP ((leavesO o).getD (↑q.fst:Int).toNat (Pair.mk [] [])).key o).key) ((mkP ((leavesO o).getD (↑q.fst:Int).toNat (Pair.mk [] [])).key o).value) ((mkP ((leavesO o).getD (↑q.fst:Int).toNat (Pair.mk [] [])).key o).turns)) ((I64 (↑q.fst+1))∧((mkP ((leavesO o).getD (↑q.fst:Int).toNat (Pair.mk [] [])).key o).key=(mkP ((leavesO o).getD (↑q.fst:Int).toNat (Pair.mk [] [])).key o).key)∧((mkP ((leavesO o).getD (↑q.fst:Int).toNat (Pair.mk [] [])).key o).value=(mkP ((leavesO o).getD (↑q.fst:Int).toNat (Pair.mk [] [])).key o).value)∧((mkP ((leavesO o).getD (↑q.fst:Int).toNat (Pair.mk [] [])).key o).turns=(mkP ((leavesO o).getD (↑q.fst:Int).toNat (Pair.mk [] [])).key o).turns)) ⟨(by(unfold I64;omega)),rfl,rfl,rfl⟩ ?_
    refine v_al [17] (al_ptr (PPt GT (35:Nat) (some (Proof.mk (mkP ((leavesO o).getD (↑q.fst:Int).toNat (Pair.mk [] [])).key o).key (mkP ((leavesO o).getD (↑q.fst:Int).toNat (Pair.mk [] [])).key o).value (mkP ((leavesO o).getD (↑q.fst:Int).toNat (Pair.mk [] [])).key o).turns)))) ((PLe (PPt GT (35:Nat) (some (Proof.mk (mkP ((leavesO o).getD (↑q.fst:Int).toNat (Pair.mk [] [])).key o).key (mkP ((leavesO o).getD (↑q.fst:Int).toNat (Pair.mk [] [])).key o).value (mkP ((leavesO o).getD (↑q.fst:Int).toNat (Pair.mk [] [])).key o).turns))) (PPt GT (35:Nat) (some (Proof.mk (mkP ((leavesO o).getD (↑q.fst:Int).toNat (Pair.mk [] [])).key o).key (mkP ((leavesO o).getD (↑q.fst:Int).toNat (Pair.mk [] [])).key o).value (mkP ((leavesO o).getD (↑q.fst:Int).toNat (Pair.mk [] [])).key o).turns))))∧(false=false)) ⟨fun _ _ _ h=>h,rfl⟩ ?_
    exact v_back ((q.fst+1,some (Proof.mk (mkP ((leavesO o).getD (↑q.fst:Int).toNat (Pair.mk [] [])).key o).key (mkP ((leavesO o).getD (↑q.fst:Int).toNat (Pair.mk [] [])).key o).value (mkP ((leavesO o).getD (↑q.fst:Int).toNat (Pair.mk [] [])).key o).turns),q.snd.snd)) [7,18,9] (((↑q.fst:Int)+1=(↑(q.fst+1):Int))∧(PPt GT (35:Nat) (some (Proof.mk (mkP ((leavesO o).getD (↑q.fst:Int).toNat (Pair.mk [] [])).key o).key (mkP ((leavesO o).getD (↑q.fst:Int).toNat (Pair.mk [] [])).key o).value (mkP ((leavesO o).getD (↑q.fst:Int).toNat (Pair.mk [] [])).key o).turns))=PPt GT (35:Nat) (some (Proof.mk (mkP ((leavesO o).getD (↑q.fst:Int).toNat (Pair.mk [] [])).key o).key (mkP ((leavesO o).getD (↑q.fst:Int).toNat (Pair.mk [] [])).key o).value (mkP ((leavesO o).getD (↑q.fst:Int).toNat (Pair.mk [] [])).key o).turns)))∧(q.snd.snd=q.snd.snd)) ⟨rfl,rfl,rfl⟩ (show NI k o (q.fst+1,some (Proof.mk (mkP ((leavesO o).getD (↑q.fst:Int).toNat (Pair.mk [] [])).key o).key (mkP ((leavesO o).getD (↑q.fst:Int).toNat (Pair.mk [] [])).key o).value (mkP ((leavesO o).getD (↑q.fst:Int).toNat (Pair.mk [] [])).key o).turns),q.snd.snd)∧(leavesO o).length - (q.fst+1)<(leavesO o).length - q.fst from(by exact NI.below ‹_› ‹_› ‹_›))
   ·have h10:=of_decide_eq_false h10
    refine v_if (q.snd.snd.isNone) True trivial (fun h11=>?_) (fun h11=>?_)
    ·skip
     refine v_close 17 [14,15,16] (close_pf ((mkP ((leavesO o).getD (↑q.fst:Int).toNat (Pair.mk [] [])).key o).key) ((mkP ((leavesO o).getD (↑q.fst:Int).toNat (Pair.mk [] [])).key o).value) ((mkP ((leavesO o).getD (↑q.fst:Int).toNat (Pair.mk [] [])).key o).turns)) ((I64 (↑q.fst+1))∧((mkP ((leavesO o).getD (↑q.fst:Int).toNat (Pair.mk [] [])).key o).key=(mkP ((leavesO o).getD (↑q.fst:Int).toNat (Pair.mk [] [])).key o).key)∧((mkP ((leavesO o).getD (↑q.fst:Int).toNat (Pair.mk [] [])).key o).value=(mkP ((leavesO o).getD (↑q.fst:Int).toNat (Pair.mk [] [])).key o).value)∧((mkP ((leavesO o).getD (↑q.fst:Int).toNat (Pair.mk [] [])).key o).turns=(mkP ((leavesO o).getD (↑q.fst:Int).toNat (Pair.mk [] [])).key o).turns)) ⟨(by(unfold I64;omega)),rfl,rfl,rfl⟩ ?_
     refine v_al [17] (al_ptr (PPt GT (35:Nat) (some (Proof.mk (mkP ((leavesO o).getD (↑q.fst:Int).toNat (Pair.mk [] [])).key o).key (mkP ((leavesO o).getD (↑q.fst:Int).toNat (Pair.mk [] [])).key o).value (mkP ((leavesO o).getD (↑q.fst:Int).toNat (Pair.mk [] [])).key o).turns)))) ((PLe (PPt GT (35:Nat) (some (Proof.mk (mkP ((leavesO o).getD (↑q.fst:Int).toNat (Pair.mk [] [])).key o).key (mkP ((leavesO o).getD (↑q.fst:Int).toNat (Pair.mk [] [])).key o).value (mkP ((leavesO o).getD (↑q.fst:Int).toNat (Pair.mk [] [])).key o).turns))) (PPt GT (35:Nat) (some (Proof.mk (mkP ((leavesO o).getD (↑q.fst:Int).toNat (Pair.mk [] [])).key o).key (mkP ((leavesO o).getD (↑q.fst:Int).toNat (Pair.mk [] [])).key o).value (mkP ((leavesO o).getD (↑q.fst:Int).toNat (Pair.mk [] [])).key o).turns))))∧(false=false)) ⟨fun _ _ _ h=>h,rfl⟩ ?_
     exact v_back ((q.fst+1,q.snd.fst,some (Proof.mk (mkP ((leavesO o).getD (↑q.fst:Int).toNat (Pair.mk [] [])).key o).key (mkP ((leavesO o).getD (↑q.fst:Int).toNat (Pair.mk [] [])).key o).value (mkP ((leavesO o).getD (↑q.fst:Int).toNat (Pair.mk [] [])).key o).turns))) [7,8,18] (((↑q.fst:Int)+1=(↑(q.fst+1):Int))∧(q.snd.fst=q.snd.fst)∧(PPt GT (35:Nat) (some (Proof.mk (mkP ((leavesO o).getD (↑q.fst:Int).toNat (Pair.mk [] [])).key o).key (mkP ((leavesO o).getD (↑q.fst:Int).toNat (Pair.mk [] [])).key o).value (mkP ((leavesO o).getD (↑q.fst:Int).toNat (Pair.mk [] [])).key o).turns))=PPt GT (35:Nat) (some (Proof.mk (mkP ((leavesO o).getD (↑q.fst:Int).toNat (Pair.mk [] [])).key o).key (mkP ((leavesO o).getD (↑q.fst:Int).toNat (Pair.mk [] [])).key o).value (mkP ((leavesO o).getD (↑q.fst:Int).toNat (Pair.mk [] [])).key o).turns)))) ⟨rfl,rfl,rfl⟩ (show NI k o (q.fst+1,q.snd.fst,some (Proof.mk (mkP ((leavesO o).getD (↑q.fst:Int).toNat (Pair.mk [] [])).key o).key (mkP ((leavesO o).getD (↑q.fst:Int).toNat (Pair.mk [] [])).key o).value (mkP ((leavesO o).getD (↑q.fst:Int).toNat (Pair.mk [] [])).key o).turns))∧(leavesO o).length - (q.fst+1)<(leavesO o).length - q.fst from(by exact NI.above ‹_› ‹_› ‹_› ‹_› ‹_›))
    ·skip
     exact v_back ((q.fst+1,q.snd.fst,q.snd.snd)) [7,8,9] ((I64 (↑q.fst+1))∧((↑q.fst:Int)+1=(↑(q.fst+1):Int))∧(q.snd.fst=q.snd.fst)∧(q.snd.snd=q.snd.snd)) ⟨(by(unfold I64;omega)),rfl,rfl,rfl⟩ (show NI k o (q.fst+1,q.snd.fst,q.snd.snd)∧(leavesO o).length - (q.fst+1)<(leavesO o).length - q.fst from(by exact NI.same ‹_› ‹_› ‹_› ‹_› ‹_›))
 ·have h4:=of_decide_eq_false h4
  exfalso;exact absurd (NI.stop ‹_› ‹_›) (by rw[hn];simp)
theorem None2_aux (o:Option Tr) (k:List UInt8) (l r:Option Proof) (ho:okO o) (hl:(leavesO o).length≤900000) (hn:noneR k o=some (l,r)):FOk EN 9 ⟨[.rd 5 (k),.pn (PTO o) false false],[.p 1 0,.n 0],Unit,fun _=>([.rd 5 (k),.pn (PTO o) false false,.pt 35 l,.pt 35 r],.t [.a [.n 2,.n 3],.b true]),fun _=>True⟩:=by
 refine v_fun Tryd.f9 ccC2_9 MX (fun ν F σ w=>?_) Tryd.func9
 refine v_nl ?_
 refine v_call _ [1] (All_ok (o) ‹_› ‹_›) ((PTO o=PTO o)∧(false=false)) ⟨rfl,rfl⟩ (fun g1 p2=>?_)
 have p2:True:=p2
 refine v_al [] (al_pt0 (35)) True trivial ?_
 refine v_loop (fun q:Nat × Option Proof × Option Proof=>([(15,.i q.1),(6,.p 7 0)],[.bx 40 [.n 8,.n 9],.pt 35 q.2.1,.pt 35 q.2.2])) (fun q=>NI k o q) (fun q=>(leavesO o).length - q.1) (0,none,none) [4,6,6] (((0:Int)=(↑(0:Nat):Int))∧(@Eq PP (PPt GT (@OfNat.ofNat Nat (nat_lit 35) (instOfNatNat (nat_lit 35))) (@none Proof)) (PPt GT (@OfNat.ofNat Nat (nat_lit 35) (instOfNatNat (nat_lit 35))) (@none Proof)))∧(@Eq PP (PPt GT (@OfNat.ofNat Nat (nat_lit 35) (instOfNatNat (nat_lit 35))) (@none Proof)) (PPt GT (@OfNat.ofNat Nat (nat_lit 35) (instOfNatNat (nat_lit 35))) (@none Proof)))) ⟨rfl,rfl,rfl⟩ (by exact⟨rfl,Nat.zero_le _⟩) (fun q hk3=>?_)
 refine v_if (decide ((↑q.fst:Int)<(↑(leavesO o).length:Int))) True trivial (fun h4=>?_) (fun h4=>?_)
 ·have h4:=of_decide_eq_true h4
  refine v_call _ [10,1] (Make_ok (o) (((leavesO o).getD (↑q.fst:Int).toNat (Pair.mk [] [])).key) ‹_›) ((0≤(↑q.fst:Int)∧(↑q.fst:Int)<(↑(leavesO o).length:Int))∧(((leavesO o).getD (↑q.fst:Int).toNat (Pair.mk [] [])).key=((leavesO o).getD (↑q.fst:Int).toNat (Pair.mk [] [])).key)∧(PTO o=PTO o)∧(false=false)) ⟨(by omega),rfl,rfl,rfl⟩ (fun g5 p6=>?_)
  have p6:True:=p6
  refine v_call _ [10,0] (bcmp_ok (((leavesO o).getD (↑q.fst:Int).toNat (Pair.mk [] [])).key) (k)) ((((leavesO o).getD (↑q.fst:Int).toNat (Pair.mk [] [])).key=((leavesO o).getD (↑q.fst:Int).toNat (Pair.mk [] [])).key)∧(k=k)) ⟨rfl,rfl⟩ (fun g7 p8=>?_)
  have p8:True:=p8
  refine v_if (decide (Lib.compareBytes ((leavesO o).getD (↑q.fst:Int).toNat (Pair.mk [] [])).key k=0)) True trivial (fun h9=>?_) (fun h9=>?_)
  ·have h9:=of_decide_eq_true h9
   exfalso;exact absurd (NI.hit ‹_› ‹_› ‹_›) (by rw[hn];simp)
  ·have h9:=of_decide_eq_false h9
   refine v_if (decide (Lib.compareBytes ((leavesO o).getD (↑q.fst:Int).toNat (Pair.mk [] [])).key k<0)) True trivial (fun h10=>?_) (fun h10=>?_)
   ·have h10:=of_decide_eq_true h10
    refine v_close 17 [14,15,16] (close_pf ((mkP ((leavesO o).getD (↑q.fst:Int).toNat (Pair.mk [] [])).key o).key) ((mkP ((leavesO o).getD (↑q.fst:Int).toNat (Pair.mk [] [])).key o).value) ((mkP ((leavesO o).getD (↑q.fst:Int).toNat (Pair.mk [] [])).key o).turns)) ((I64 (↑q.fst+1))∧((mkP ((leavesO o).getD (↑q.fst:Int).toNat (Pair.mk [] [])).key o).key=(mkP ((leavesO o).getD (↑q.fst:Int).toNat (Pair.mk [] [])).key o).key)∧((mkP ((leavesO o).getD (↑q.fst:Int).toNat (Pair.mk [] [])).key o).value=(mkP ((leavesO o).getD (↑q.fst:Int).toNat (Pair.mk [] [])).key o).value)∧((mkP ((leavesO o).getD (↑q.fst:Int).toNat (Pair.mk [] [])).key o).turns=(mkP ((leavesO o).getD (↑q.fst:Int).toNat (Pair.mk [] [])).key o).turns)) ⟨(by(unfold I64;omega)),rfl,rfl,rfl⟩ ?_
    refine v_al [17] (al_ptr (PPt GT (35:Nat) (some (Proof.mk (mkP ((leavesO o).getD (↑q.fst:Int).toNat (Pair.mk [] [])).key o).key (mkP ((leavesO o).getD (↑q.fst:Int).toNat (Pair.mk [] [])).key o).value (mkP ((leavesO o).getD (↑q.fst:Int).toNat (Pair.mk [] [])).key o).turns)))) ((PLe (PPt GT (35:Nat) (some (Proof.mk (mkP ((leavesO o).getD (↑q.fst:Int).toNat (Pair.mk [] [])).key o).key (mkP ((leavesO o).getD (↑q.fst:Int).toNat (Pair.mk [] [])).key o).value (mkP ((leavesO o).getD (↑q.fst:Int).toNat (Pair.mk [] [])).key o).turns))) (PPt GT (35:Nat) (some (Proof.mk (mkP ((leavesO o).getD (↑q.fst:Int).toNat (Pair.mk [] [])).key o).key (mkP ((leavesO o).getD (↑q.fst:Int).toNat (Pair.mk [] [])).key o).value (mkP ((leavesO o).getD (↑q.fst:Int).toNat (Pair.mk [] [])).key o).turns))))∧(false=false)) ⟨fun _ _ _ h=>h,rfl⟩ ?_
    exact v_back ((q.fst+1,some (Proof.mk (mkP ((leavesO o).getD (↑q.fst:Int).toNat (Pair.mk [] [])).key o).key (mkP ((leavesO o).getD (↑q.fst:Int).toNat (Pair.mk [] [])).key o).value (mkP ((leavesO o).getD (↑q.fst:Int).toNat (Pair.mk [] [])).key o).turns),q.snd.snd)) [7,18,9] (((↑q.fst:Int)+1=(↑(q.fst+1):Int))∧(PPt GT (35:Nat) (some (Proof.mk (mkP ((leavesO o).getD (↑q.fst:Int).toNat (Pair.mk [] [])).key o).key (mkP ((leavesO o).getD (↑q.fst:Int).toNat (Pair.mk [] [])).key o).value (mkP ((leavesO o).getD (↑q.fst:Int).toNat (Pair.mk [] [])).key o).turns))=PPt GT (35:Nat) (some (Proof.mk (mkP ((leavesO o).getD (↑q.fst:Int).toNat (Pair.mk [] [])).key o).key (mkP ((leavesO o).getD (↑q.fst:Int).toNat (Pair.mk [] [])).key o).value (mkP ((leavesO o).getD (↑q.fst:Int).toNat (Pair.mk [] [])).key o).turns)))∧(q.snd.snd=q.snd.snd)) ⟨rfl,rfl,rfl⟩ (show NI k o (q.fst+1,some (Proof.mk (mkP ((leavesO o).getD (↑q.fst:Int).toNat (Pair.mk [] [])).key o).key (mkP ((leavesO o).getD (↑q.fst:Int).toNat (Pair.mk [] [])).key o).value (mkP ((leavesO o).getD (↑q.fst:Int).toNat (Pair.mk [] [])).key o).turns),q.snd.snd)∧(leavesO o).length - (q.fst+1)<(leavesO o).length - q.fst from(by exact NI.below ‹_› ‹_› ‹_›))
   ·have h10:=of_decide_eq_false h10
    refine v_if (q.snd.snd.isNone) True trivial (fun h11=>?_) (fun h11=>?_)
    ·skip
     refine v_close 17 [14,15,16] (close_pf ((mkP ((leavesO o).getD (↑q.fst:Int).toNat (Pair.mk [] [])).key o).key) ((mkP ((leavesO o).getD (↑q.fst:Int).toNat (Pair.mk [] [])).key o).value) ((mkP ((leavesO o).getD (↑q.fst:Int).toNat (Pair.mk [] [])).key o).turns)) ((I64 (↑q.fst+1))∧((mkP ((leavesO o).getD (↑q.fst:Int).toNat (Pair.mk [] [])).key o).key=(mkP ((leavesO o).getD (↑q.fst:Int).toNat (Pair.mk [] [])).key o).key)∧((mkP ((leavesO o).getD (↑q.fst:Int).toNat (Pair.mk [] [])).key o).value=(mkP ((leavesO o).getD (↑q.fst:Int).toNat (Pair.mk [] [])).key o).value)∧((mkP ((leavesO o).getD (↑q.fst:Int).toNat (Pair.mk [] [])).key o).turns=(mkP ((leavesO o).getD (↑q.fst:Int).toNat (Pair.mk [] [])).key o).turns)) ⟨(by(unfold I64;omega)),rfl,rfl,rfl⟩ ?_
     refine v_al [17] (al_ptr (PPt GT (35:Nat) (some (Proof.mk (mkP ((leavesO o).getD (↑q.fst:Int).toNat (Pair.mk [] [])).key o).key (mkP ((leavesO o).getD (↑q.fst:Int).toNat (Pair.mk [] [])).key o).value (mkP ((leavesO o).getD (↑q.fst:Int).toNat (Pair.mk [] [])).key o).turns)))) ((PLe (PPt GT (35:Nat) (some (Proof.mk (mkP ((leavesO o).getD (↑q.fst:Int).toNat (Pair.mk [] [])).key o).key (mkP ((leavesO o).getD (↑q.fst:Int).toNat (Pair.mk [] [])).key o).value (mkP ((leavesO o).getD (↑q.fst:Int).toNat (Pair.mk [] [])).key o).turns))) (PPt GT (35:Nat) (some (Proof.mk (mkP ((leavesO o).getD (↑q.fst:Int).toNat (Pair.mk [] [])).key o).key (mkP ((leavesO o).getD (↑q.fst:Int).toNat (Pair.mk [] [])).key o).value (mkP ((leavesO o).getD (↑q.fst:Int).toNat (Pair.mk [] [])).key o).turns))))∧(false=false)) ⟨fun _ _ _ h=>h,rfl⟩ ?_
     exact v_back ((q.fst+1,q.snd.fst,some (Proof.mk (mkP ((leavesO o).getD (↑q.fst:Int).toNat (Pair.mk [] [])).key o).key (mkP ((leavesO o).getD (↑q.fst:Int).toNat (Pair.mk [] [])).key o).value (mkP ((leavesO o).getD (↑q.fst:Int).toNat (Pair.mk [] [])).key o).turns))) [7,8,18] (((↑q.fst:Int)+1=(↑(q.fst+1):Int))∧(q.snd.fst=q.snd.fst)∧(PPt GT (35:Nat) (some (Proof.mk (mkP ((leavesO o).getD (↑q.fst:Int).toNat (Pair.mk [] [])).key o).key (mkP ((leavesO o).getD (↑q.fst:Int).toNat (Pair.mk [] [])).key o).value (mkP ((leavesO o).getD (↑q.fst:Int).toNat (Pair.mk [] [])).key o).turns))=PPt GT (35:Nat) (some (Proof.mk (mkP ((leavesO o).getD (↑q.fst:Int).toNat (Pair.mk [] [])).key o).key (mkP ((leavesO o).getD (↑q.fst:Int).toNat (Pair.mk [] [])).key o).value (mkP ((leavesO o).getD (↑q.fst:Int).toNat (Pair.mk [] [])).key o).turns)))) ⟨rfl,rfl,rfl⟩ (show NI k o (q.fst+1,q.snd.fst,some (Proof.mk (mkP ((leavesO o).getD (↑q.fst:Int).toNat (Pair.mk [] [])).key o).key (mkP ((leavesO o).getD (↑q.fst:Int).toNat (Pair.mk [] [])).key o).value (mkP ((leavesO o).getD (↑q.fst:Int).toNat (Pair.mk [] [])).key o).turns))∧(leavesO o).length - (q.fst+1)<(leavesO o).length - q.fst from(by exact NI.above ‹_› ‹_› ‹_› ‹_› ‹_›))
    ·skip
     exact v_back ((q.fst+1,q.snd.fst,q.snd.snd)) [7,8,9] ((I64 (↑q.fst+1))∧((↑q.fst:Int)+1=(↑(q.fst+1):Int))∧(q.snd.fst=q.snd.fst)∧(q.snd.snd=q.snd.snd)) ⟨(by(unfold I64;omega)),rfl,rfl,rfl⟩ (show NI k o (q.fst+1,q.snd.fst,q.snd.snd)∧(leavesO o).length - (q.fst+1)<(leavesO o).length - q.fst from(by exact NI.same ‹_› ‹_› ‹_› ‹_› ‹_›))
 ·have h4:=of_decide_eq_false h4
  refine v_leave (.ex 0) True trivial ?_
  exact v_ret () [8,9] ((true=true)∧(k=k)∧(PTO o=PTO o)∧(false=false)∧(q.snd.fst=l)∧(q.snd.snd=r)) ⟨rfl,rfl,rfl,rfl,(by exact(NI.stop' hn ‹_› ‹_›).1),(by exact(NI.stop' hn ‹_› ‹_›).2)⟩ trivial
def gapL (k:List UInt8) (o:Option Tr):Option Proof × Option Proof:=(noneR k o).getD (none,none)
theorem None_ok (o:Option Tr) (k:List UInt8) (ho:okO o) (hl:(leavesO o).length≤900000):FOk EN 9 ⟨[.rd 5 (k),.pn (PTO o) false false],[.p 1 0,.n 0],Unit,fun _=>([.rd 5 (k),.pn (PTO o) false false,.pt 35 (gapL k o).1,.pt 35 (gapL k o).2],.t [.a [.n 2,.n 3],.b (noneR k o).isSome]),fun _=>True⟩:=by
  cases e:noneR k o with
  | none=>rw[show gapL k o=(none,none) by simp[gapL,e]];exact None1_aux o k ho hl e
  | some q=>rw[show gapL k o=q by simp[gapL,e]];exact None2_aux o k q.1 q.2 ho hl e
def encV (v:List UInt8):List UInt8:=[hi v.length,lo v.length]++v
def packTo (l:List (List UInt8)) (k:Nat):List UInt8:=((l.take k).map encV).flatten
theorem packTo_succ {l:List (List UInt8)} {k:Nat} (hk:k<l.length):packTo l (k+1)=packTo l k++encV (l.getD k []):=by
  unfold packTo
  rw[List.take_add_one,List.getD_eq_getElem?_getD,List.getElem?_eq_getElem hk]
  simp only[Option.toList,List.map_append,List.flatten_append,List.map_cons,List.map_nil,List.flatten_cons,List.flatten_nil,List.append_nil,Option.getD_some]
theorem packTo_mono (l:List (List UInt8)):∀(d k:Nat),(packTo l k).length≤(packTo l (k+d)).length
  | 0,k=>Nat.le_refl _
  | d + 1, k => by
    refine Nat.le_trans (packTo_mono l d k) ?_
    rcases Nat.lt_or_ge (k+d) l.length with c | c
    · rw[show k+(d+1)=k+d+1 by omega,packTo_succ c];simp
    · unfold packTo;rw[List.take_of_length_le (by omega),List.take_of_length_le (by omega)];exact Nat.le_refl _
theorem packTo_le {l:List (List UInt8)} {k:Nat} (hk:k<l.length):(packTo l k).length+2+(l.getD k []).length≤(packTo l l.length).length:=by
  have:=packTo_mono l (l.length - (k+1)) (k+1)
  rw[show k+1+(l.length - (k+1))=l.length by omega,packTo_succ hk] at this
  simp only[encV,List.length_append,List.length_cons,List.length_nil] at this
  omega
theorem packTo_two (l:List (List UInt8)):∀ k,k≤l.length→2*k≤(packTo l k).length
  | 0,_=>Nat.zero_le _
  | k + 1, h => by
    have:=packTo_two l k (by omega)
    rw[packTo_succ (by omega)]
    simp only[encV,List.length_append,List.length_cons,List.length_nil];omega
def packL (l:List (List UInt8)):Bool:=l.any fun v=>decide (65535<v.length)
def packE (l:List (List UInt8)):Int:=if packL l=true then 3 else 0
def packR (l:List (List UInt8)):List UInt8:=if packL l=true then[] else packTo l l.length
def QI (l:List (List UInt8)) (k:Nat):Prop:=k≤l.length∧∀ j,j<k→(l.getD j []).length≤65535
section
variable {l:List (List UInt8)} {k:Nat}
theorem QI.start:QI l 0:=⟨Nat.zero_le _,fun j h=>absurd h (by omega)⟩
theorem QI.next (h:QI l k) (hk:(k:Int)<l.length) (hs:¬ (65535:Int)<(l.getD (k:Int).toNat []).length):QI l (k+1)∧l.length - (k+1)<l.length - k:=by
  rw[Int.toNat_natCast] at hs
  refine⟨⟨by omega,fun j hj=>?_⟩,by omega⟩
  rcases Nat.lt_or_ge j k with c | c
  · exact h.2 j c
  · have : j = k := by omega
    subst this;omega
theorem QI.hit (hk:(k:Int)<l.length) (hs:(65535:Int)<(l.getD (k:Int).toNat []).length):packL l=true:=by
  rw[Int.toNat_natCast] at hs
  unfold packL
  rw[List.any_eq_true]
  have hk':k<l.length:=by omega
  refine⟨l[k],List.getElem_mem hk',?_⟩
  rw[List.getD_eq_getElem?_getD,List.getElem?_eq_getElem hk'] at hs
  simp only[Option.getD_some] at hs
  exact decide_eq_true (by omega)
theorem QI.stop (h:QI l k) (hk:¬ (k:Int)<l.length):packL l=false:=by
  unfold packL
  rw[List.any_eq_false]
  intro v hv
  obtain⟨j,hj,rfl⟩:=List.getElem_of_mem hv
  have:=h.2 j (by have:=h.1;omega)
  rw[List.getD_eq_getElem?_getD,List.getElem?_eq_getElem hj] at this
  simp only[Option.getD_some] at this
  simp;omega
theorem pk1 (hk:(k:Int)<l.length) (hs:(65535:Int)<(l.getD (k:Int).toNat []).length):[]=packR l∧3=packE l:=by unfold packR packE;rw[if_pos (QI.hit hk hs),if_pos (QI.hit hk hs)];exact⟨rfl,rfl⟩
theorem pk2 (h:QI l k) (hk:¬ (k:Int)<l.length):packTo l k=packR l∧0=packE l:=by
  have e:k=l.length:=by have:=h.1;omega
  unfold packR packE;rw[if_neg (by rw[h.stop hk];decide),if_neg (by rw[h.stop hk];decide),e];exact⟨rfl,rfl⟩
theorem pk3 (hk:(k:Int)<l.length):packTo l k++[ofI8 (((l.getD (k:Int).toNat []).length:Int) / 256),ofI8 ((l.getD (k:Int).toNat []).length:Int)]++l.getD (k:Int).toNat []=packTo l (k+1):=by
  rw[packTo_succ (by omega),Int.toNat_natCast];simp[encV,hi,lo]
end
noncomputable def ccK1_32:Code:=(Tryd.f32.body).getD .skip
theorem pack_ok (l:List (List UInt8)) (hp:(packTo l l.length).length≤900000):FOk EN 32 ⟨[.rd 23 l],[.n 0],Unit,fun _=>([.rd 23 l,.ow 5 (packR l)],.t [.n 1,.i (packE l)]),fun _=>True⟩:=by
 refine v_fun Tryd.f32 ccK1_32 MX (fun ν F σ w=>?_) Tryd.func32
 refine v_nl ?_
 refine v_loop (fun k:Nat=>([(9,.i k),(4,.n 2)],[.ow 5 (packTo l k)])) (fun k=>QI l k) (fun k=>l.length - k) 0 [1] (((0:Int)=(↑(0:Nat):Int))∧([]=packTo l 0)) ⟨rfl,rfl⟩ (by exact QI.start) (fun k hk1=>?_)
 refine v_if (decide ((↑k:Int)<(↑l.length:Int))) True trivial (fun h2=>?_) (fun h2=>?_)
 ·have h2:=of_decide_eq_true h2
  refine v_if (decide (65535<(↑(l.getD (↑k:Int).toNat []).length:Int))) ((0≤(↑k:Int)∧(↑k:Int)<(↑l.length:Int))) (by omega) (fun h3=>?_) (fun h3=>?_)
  ·have h3:=of_decide_eq_true h3
   refine v_leave .rt True trivial ?_
   exact v_ret () [1] ((3=packE l)∧(l=l)∧([]=packR l)) ⟨(by exact(pk1 ‹_› ‹_›).2),rfl,(by exact(pk1 ‹_› ‹_›).1)⟩ trivial
  ·have h3:=of_decide_eq_false h3
   exact v_back (k+1) [7] ((0≤(↑(l.getD (↑k:Int).toNat []).length:Int))∧((8:UInt64)<(64:UInt64))∧((packTo l k).length+2≤1000000)∧((packTo l k++[ofI8 ((↑(l.getD (↑k:Int).toNat []).length:Int) / 256),ofI8 (↑(l.getD (↑k:Int).toNat []).length:Int)]).length+(l.getD (↑k:Int).toNat []).length≤1000000)∧(I64 (↑k+1))∧((↑k:Int)+1=(↑(k+1):Int))∧(packTo l k++[ofI8 ((↑(l.getD (↑k:Int).toNat []).length:Int) / 256),ofI8 (↑(l.getD (↑k:Int).toNat []).length:Int)]++l.getD (↑k:Int).toNat []=packTo l (k+1))) ⟨(by omega),(by decide),(by(have:=packTo_le (l:=l) (k:=k) (by omega);omega)),(by(have:=packTo_le (l:=l) (k:=k) (by omega);simp only[List.length_append,List.length_cons,List.length_nil,Int.toNat_natCast] at *;omega)),(by(have:=packTo_two l l.length (Nat.le_refl _);unfold I64;omega)),rfl,(by exact pk3 ‹_›)⟩ (show QI l (k+1)∧l.length - (k+1)<l.length - k from(by exact QI.next ‹_› ‹_› ‹_›))
 ·have h2:=of_decide_eq_false h2
  refine v_leave (.ex 0) True trivial ?_
  exact v_ret () [2] ((0=packE l)∧(l=l)∧(packTo l k=packR l)) ⟨(by exact(pk2 ‹_› ‹_›).2),rfl,(by exact(pk2 ‹_› ‹_›).1)⟩ trivial
theorem pcR_lt {b:List UInt8} (h:¬ b.length=0):(pcR b).length<b.length:=by
  unfold pcR;split
  · simp;omega
  · simp;omega
def unpk (out:List (List UInt8)) (b:List UInt8):List (List UInt8) × Int :=
  if h:b.length=0 then(out,0)
  else if pcE b≠0 then([],pcE b)
  else unpk (out++[pcV b]) (pcR b)
termination_by b.length
decreasing_by exact pcR_lt h
section
variable {X:List (List UInt8) × Int} {out:List (List UInt8)} {b b0:List UInt8}
end
abbrev kT:Turn:=⟨0,0,false,zero32⟩
def tnB (t:Turn):List UInt8:=putF (if t.right=true then putF (putF (putF [] 1 (numTo (ofI t.height) 8)) 2 (numTo t.size 8)) 3 [1] else putF (putF [] 1 (numTo (ofI t.height) 8)) 2 (numTo t.size 8)) 4 t.other.l
def tnBad (t:Turn):Bool:=decide (t.height<1∨64<t.height)
theorem putF_len (b:List UInt8) (t:UInt8) (v:List UInt8):(putF b t v).length≤b.length+v.length+3:=by
  unfold putF;split
  · simp
  · split
    · omega
    · simp;omega
section
variable {n m:UInt64} {o:Sum32} {b:List UInt8}
theorem q1:(putF [] 1 (numTo n 8)).length≤11:=by have:=putF_len [] 1 (numTo n 8);have:=numTo_len n 8;simp only[List.length_nil] at *;omega
theorem q2:(putF (putF [] 1 (numTo n 8)) 2 (numTo m 8)).length≤22:=by have:=putF_len (putF [] 1 (numTo n 8)) 2 (numTo m 8);have:=numTo_len m 8;have:=q1 (n:=n);omega
theorem q3:(putF (putF (putF [] 1 (numTo n 8)) 2 (numTo m 8)) 3 [1]).length≤26:=by have:=putF_len (putF (putF [] 1 (numTo n 8)) 2 (numTo m 8)) 3 [1];have:=q2 (n:=n) (m:=m);simp only[List.length_cons,List.length_nil] at *;omega
theorem f1:([]:List UInt8).length+(numTo n 8).length≤900000:=by have:=numTo_len n 8;simp only[List.length_nil];omega
theorem f2:(putF [] 1 (numTo n 8)).length+(numTo m 8).length≤900000:=by have:=numTo_len m 8;have:=q1 (n:=n);omega
theorem f3:(putF (putF [] 1 (numTo n 8)) 2 (numTo m 8)).length+([1]:List UInt8).length≤900000:=by have:=q2 (n:=n) (m:=m);simp only[List.length_cons,List.length_nil];omega
theorem f4:(putF (putF (putF [] 1 (numTo n 8)) 2 (numTo m 8)) 3 [1]).length+o.l.length≤900000:=by have:=q3 (n:=n) (m:=m);have:=o.h;omega
theorem f5:(putF (putF [] 1 (numTo n 8)) 2 (numTo m 8)).length+o.l.length≤900000:=by have:=q2 (n:=n) (m:=m);have:=o.h;omega
theorem tnB_len (t:Turn):(tnB t).length≤61:=by
  unfold tnB
  split
  · have := putF_len (putF (putF (putF [] 1 (numTo (ofI t.height) 8)) 2 (numTo t.size 8)) 3 [1]) 4 t.other.l
    have:=q3 (n:=ofI t.height) (m:=t.size);have:=t.other.h;omega
  · have := putF_len (putF (putF [] 1 (numTo (ofI t.height) 8)) 2 (numTo t.size 8)) 4 t.other.l
    have:=q2 (n:=ofI t.height) (m:=t.size);have:=t.other.h;omega
end
theorem packTo_tn (ts:List Turn):∀ k,k≤ts.length→(packTo (ts.map tnB) k).length≤63*k
  | 0,_=>Nat.le_refl _
  | k + 1, h => by
    have:=packTo_tn ts k (by omega)
    rw[packTo_succ (by rw[List.length_map];omega)]
    have e:(ts.map tnB).getD k []=tnB (ts[k]'(by omega)):=by rw[List.getD_eq_getElem?_getD,List.getElem?_map,List.getElem?_eq_getElem (by omega)];rfl
    have:=tnB_len (ts[k]'(by omega))
    simp only[encV,List.length_append,List.length_cons,List.length_nil,e] at *;omega
theorem pack_tn {ts:List Turn} (h:ts.length≤64):(packTo (ts.map tnB) (ts.map tnB).length).length≤4032:=by
  rw[List.length_map];have:=packTo_tn ts ts.length (Nat.le_refl _);omega
theorem packL_tn (ts:List Turn):packL (ts.map tnB)=false:=by
  unfold packL
  rw[List.any_eq_false]
  intro v hv
  obtain⟨t,_,rfl⟩:=List.mem_map.1 hv
  have:=tnB_len t
  simp;omega
def tnP (p:Proof):List UInt8:=packTo (p.turns.map tnB) p.turns.length
def encE (p:Proof):Int:=if 64<p.turns.length then 3 else if p.turns.any tnBad=true then 12 else if putE p.key≠0 then 3 else if putE p.value≠0 then 3 else 0
def encB (p:Proof):List UInt8:=if 64<p.turns.length then[] else if p.turns.any tnBad=true then[] else if putE p.key≠0 then[] else if putE p.value≠0 then[] else putF (putF (putF [] 1 p.key) 2 p.value) 3 (tnP p)
def NJ (ts:List Turn) (k:Nat):Prop:=ts.length≤64∧k≤ts.length∧∀ j,j<k→tnBad (ts.getD j kT)=false
section
variable {ts:List Turn} {k:Nat} {p:Proof}
theorem NJ.start (h:¬ (64:Int)<ts.length):NJ ts 0:=⟨by omega,Nat.zero_le _,fun j h=>absurd h (by omega)⟩
theorem NJ.next (h:NJ ts k) (hk:(k:Int)<ts.length) (h1:¬ (ts.getD (k:Int).toNat kT).height<1) (h2:¬ 64<(ts.getD (k:Int).toNat kT).height):NJ ts (k+1)∧ts.length - (k+1)<ts.length - k:=by
  rw[Int.toNat_natCast] at h1 h2
  refine⟨⟨h.1,by omega,fun j hj=>?_⟩,by omega⟩
  rcases Nat.lt_or_ge j k with c | c
  · exact h.2.2 j c
  · have : j = k := by omega
    subst this;exact decide_eq_false (by omega)
theorem NJ.hit (h:NJ ts k) (hk:(k:Int)<ts.length) (hb:tnBad (ts.getD (k:Int).toNat kT)=true):ts.any tnBad=true:=by
  rw[Int.toNat_natCast] at hb
  have hk':k<ts.length:=by omega
  rw[List.any_eq_true]
  refine⟨ts[k],List.getElem_mem hk',?_⟩
  rw[List.getD_eq_getElem?_getD,List.getElem?_eq_getElem hk'] at hb;exact hb
theorem NJ.stop (h:NJ ts k) (hk:¬ (k:Int)<ts.length):ts.any tnBad=false:=by
  rw[List.any_eq_false]
  intro v hv
  obtain⟨j,hj,rfl⟩:=List.getElem_of_mem hv
  have:=h.2.2 j (by have:=h.2.1;omega)
  rw[List.getD_eq_getElem?_getD,List.getElem?_eq_getElem hj] at this
  simpa using this
theorem tn_step (hk:(k:Int)<ts.length) {x:List UInt8} (hx:x=tnB (ts.getD (k:Int).toNat kT)):(ts.take k).map tnB++[x]=(ts.take (k+1)).map tnB:=by
  rw[hx,Int.toNat_natCast,List.take_add_one,List.getD_eq_getElem?_getD,List.getElem?_eq_getElem (by omega)];simp only[Option.toList,List.map_append,List.map_cons,List.map_nil,Option.getD_some]
theorem tn_r (hk:(k:Int)<ts.length) (h:(ts.getD (k:Int).toNat kT).right=true):(ts.take k).map tnB++[putF (putF (putF (putF [] 1 (numTo (ofI (ts.getD (k:Int).toNat kT).height) 8)) 2 (numTo (ts.getD (k:Int).toNat kT).size 8)) 3 [1]) 4 (ts.getD (k:Int).toNat kT).other.l]=(ts.take (k+1)).map tnB :=
  tn_step hk (by unfold tnB;rw[if_pos h])
theorem tn_l (hk:(k:Int)<ts.length) (h:(ts.getD (k:Int).toNat kT).right=false):(ts.take k).map tnB++[putF (putF (putF [] 1 (numTo (ofI (ts.getD (k:Int).toNat kT).height) 8)) 2 (numTo (ts.getD (k:Int).toNat kT).size 8)) 4 (ts.getD (k:Int).toNat kT).other.l]=(ts.take (k+1)).map tnB :=
  tn_step hk (by unfold tnB;rw[if_neg (by rw[h];decide)])
theorem NJ.all (h:NJ ts k) (hk:¬ (k:Int)<ts.length):(ts.take k).map tnB=ts.map tnB:=by rw[List.take_of_length_le (by omega)]
theorem NJ.pk (h:NJ ts k) (hk:¬ (k:Int)<ts.length):(packTo ((ts.take k).map tnB) ((ts.take k).map tnB).length).length≤900000:=by rw[h.all hk];exact Nat.le_trans (pack_tn h.1) (by decide)
theorem NJ.pr (h:NJ ts k) (hk:¬ (k:Int)<ts.length):packR ((ts.take k).map tnB)=packTo (ts.map tnB) ts.length:=by
  rw[h.all hk];unfold packR;rw[if_neg (by rw[packL_tn];decide),List.length_map]
theorem NJ.pl (h:NJ ts k) (hk:¬ (k:Int)<ts.length):(packR ((ts.take k).map tnB)).length≤4032:=by
  rw[h.pr hk];have:=pack_tn h.1;rwa [List.length_map] at this
theorem en0 (h:(64:Int)<p.turns.length):[]=encB p∧3=encE p:=by
  refine⟨?_,?_⟩
  · unfold encB;rw[if_pos (by omega)]
  · unfold encE;rw[if_pos (by omega)]
theorem en1 (h:NJ p.turns k) (hk:(k:Int)<p.turns.length) (hb:(p.turns.getD (k:Int).toNat kT).height<1∨64<(p.turns.getD (k:Int).toNat kT).height):[]=encB p∧12=encE p:=by
  have:=h.hit hk (decide_eq_true hb)
  refine⟨?_,?_⟩
  · unfold encB;rw[if_neg (by have:=h.1;omega),if_pos this]
  · unfold encE;rw[if_neg (by have:=h.1;omega),if_pos this]
theorem putE_ne {v:List UInt8}:putE v≠0↔65535<v.length:=by unfold putE;split <;> simp_all
theorem putE_3 {v:List UInt8} (h:putE v≠0):putE v=3:=by unfold putE at *;split <;> simp_all
theorem en2 (h:NJ p.turns k) (hk:¬ (k:Int)<p.turns.length) (hb:¬ putE p.key=0):putF [] 1 p.key=encB p∧putE p.key=encE p:=by
  have:=h.stop hk
  have e:putF [] 1 p.key=[]:=by unfold putF;rw[if_pos (putE_ne.1 hb)]
  refine⟨?_,?_⟩
  · unfold encB;rw[if_neg (by have:=h.1;omega),if_neg (by rw[this];decide),if_pos hb];exact e
  · unfold encE;rw[if_neg (by have:=h.1;omega),if_neg (by rw[this];decide),if_pos hb];exact putE_3 hb
theorem en3 (h:NJ p.turns k) (hk:¬ (k:Int)<p.turns.length) (h1:putE p.key=0) (hb:¬ putE p.value=0):putF (putF [] 1 p.key) 2 p.value=encB p∧putE p.value=encE p:=by
  have:=h.stop hk
  have e:∀ b,putF b 2 p.value=[]:=fun b=>by unfold putF;rw[if_pos (putE_ne.1 hb)]
  refine⟨?_,?_⟩
  · unfold encB;rw[if_neg (by have:=h.1;omega),if_neg (by rw[this];decide),if_neg (fun q=>q h1),if_pos hb];exact e _
  · unfold encE;rw[if_neg (by have:=h.1;omega),if_neg (by rw[this];decide),if_neg (fun q=>q h1),if_pos hb];exact putE_3 hb
theorem en4 (h:NJ p.turns k) (hk:¬ (k:Int)<p.turns.length) (h1:putE p.key=0) (h2:putE p.value=0):putF (putF (putF [] 1 p.key) 2 p.value) 3 (packR ((p.turns.take k).map tnB))=encB p∧putE (packR ((p.turns.take k).map tnB))=encE p:=by
  have:=h.stop hk
  have hl:=h.pl hk
  have e:putE (packR ((p.turns.take k).map tnB))=0:=by unfold putE;rw[if_neg (by omega)]
  rw[e,h.pr hk]
  refine⟨?_,?_⟩
  · unfold encB;rw[if_neg (by have:=h.1;omega),if_neg (by rw[this];decide),if_neg (fun q=>q h1),if_neg (fun q=>q h2)];rfl
  · unfold encE;rw[if_neg (by have:=h.1;omega),if_neg (by rw[this];decide),if_neg (fun q=>q h1),if_neg (fun q=>q h2)]
end
noncomputable def ccK2_10:Code:=(Tryd.f10.body).getD .skip
theorem Encode_ok (p:Proof) (h1:p.key.length≤200000) (h2:p.value.length≤200000) (h3:p.turns.length≤1000000):FOk EN 10 ⟨[.rd 5 (p.key),.rd 5 (p.value),.rd 88 p.turns],[.a [.n 0,.n 1,.n 2]],Unit,fun _=>([.rd 5 (p.key),.rd 5 (p.value),.rd 88 p.turns,.ow 5 (encB p)],.t [.n 3,.i (encE p)]),fun _=>True⟩:=by
 refine v_fun Tryd.f10 ccK2_10 MX (fun ν F σ w=>?_) Tryd.func10
 refine v_nl ?_
 refine v_if (decide (64<(↑p.turns.length:Int))) True trivial (fun h1=>?_) (fun h1=>?_)
 ·have h1:=of_decide_eq_true h1
  exact v_ret () [3] ((3=encE p)∧(p.key=p.key)∧(p.value=p.value)∧(p.turns=p.turns)∧([]=encB p)) ⟨(by exact(en0 ‹_›).2),rfl,rfl,rfl,(by exact(en0 ‹_›).1)⟩ trivial
 ·have h1:=of_decide_eq_false h1
  refine v_loop (fun k:Nat=>([(20,.i k),(4,.n 5)],[.ow 23 ((p.turns.take k).map tnB)])) (fun k=>NJ p.turns k) (fun k=>p.turns.length - k) 0 [3] (((0:Int)=(↑(0:Nat):Int))∧([]=List.map tnB (List.take 0 p.turns))) ⟨rfl,rfl⟩ (by exact(NJ.start ‹_›)) (fun k hk2=>?_)
  refine v_if (decide ((↑k:Int)<(↑p.turns.length:Int))) True trivial (fun h3=>?_) (fun h3=>?_)
  ·have h3:=of_decide_eq_true h3
   refine v_guard 27 (decide ((p.turns.getD (↑k:Int).toNat (Turn.mk 0 0 false zero32)).height<1)) ((0≤(↑k:Int)∧(↑k:Int)<(↑p.turns.length:Int))) (by omega) (fun h4=>?_) (fun h4=>?_)
   ·have h4:=of_decide_eq_true h4
    refine v_leave .rt True trivial ?_
    exact v_ret () [3] ((12=encE p)∧(p.key=p.key)∧(p.value=p.value)∧(p.turns=p.turns)∧([]=encB p)) ⟨(by exact(en1 ‹_› ‹_› (Or.inl ‹_›)).2),rfl,rfl,rfl,(by exact(en1 ‹_› ‹_› (Or.inl ‹_›)).1)⟩ trivial
   ·have h4:=of_decide_eq_false h4
    refine v_if (decide (64<(p.turns.getD (↑k:Int).toNat (Turn.mk 0 0 false zero32)).height)) True trivial (fun h5=>?_) (fun h5=>?_)
    ·have h5:=of_decide_eq_true h5
     refine v_leave .rt True trivial ?_
     exact v_ret () [3] ((12=encE p)∧(p.key=p.key)∧(p.value=p.value)∧(p.turns=p.turns)∧([]=encB p)) ⟨(by exact(en1 ‹_› ‹_› (Or.inr ‹_›)).2),rfl,rfl,rfl,(by exact(en1 ‹_› ‹_› (Or.inr ‹_›)).1)⟩ trivial
    ·have h5:=of_decide_eq_false h5
     refine v_call _ [] (num_ok (ofI (p.turns.getD (↑k:Int).toNat (Turn.mk 0 0 false zero32)).height)) ((ofI (p.turns.getD (↑k:Int).toNat (Turn.mk 0 0 false zero32)).height=ofI (p.turns.getD (↑k:Int).toNat (Turn.mk 0 0 false zero32)).height)) rfl (fun g6 p7=>?_)
     have p7:True:=p7
     refine v_call _ [3,8] (put_ok ([]) (1) (numTo (ofI (p.turns.getD (↑k:Int).toNat (Turn.mk 0 0 false zero32)).height) 8) (by exact f1)) (((1:UInt8)=(1:UInt8))∧(Eq (α:=List UInt8) [] [])∧(numTo (ofI (p.turns.getD (↑k:Int).toNat (Turn.mk 0 0 false zero32)).height) 8=numTo (ofI (p.turns.getD (↑k:Int).toNat (Turn.mk 0 0 false zero32)).height) 8)) ⟨rfl,rfl,rfl⟩ (fun g8 p9=>?_)
     have p9:True:=p9
     refine v_call _ [] (num_ok ((p.turns.getD (↑k:Int).toNat (Turn.mk 0 0 false zero32)).size)) (((p.turns.getD (↑k:Int).toNat (Turn.mk 0 0 false zero32)).size=(p.turns.getD (↑k:Int).toNat (Turn.mk 0 0 false zero32)).size)) rfl (fun g10 p11=>?_)
     have p11:True:=p11
     refine v_call _ [9,10] (put_ok (putF [] 1 (numTo (ofI (p.turns.getD (↑k:Int).toNat (Turn.mk 0 0 false zero32)).height) 8)) (2) (numTo (p.turns.getD (↑k:Int).toNat (Turn.mk 0 0 false zero32)).size 8) (by exact f2)) (((2:UInt8)=(2:UInt8))∧(putF [] 1 (numTo (ofI (p.turns.getD (↑k:Int).toNat (Turn.mk 0 0 false zero32)).height) 8)=putF [] 1 (numTo (ofI (p.turns.getD (↑k:Int).toNat (Turn.mk 0 0 false zero32)).height) 8))∧(numTo (p.turns.getD (↑k:Int).toNat (Turn.mk 0 0 false zero32)).size 8=numTo (p.turns.getD (↑k:Int).toNat (Turn.mk 0 0 false zero32)).size 8)) ⟨rfl,rfl,rfl⟩ (fun g12 p13=>?_)
     have p13:True:=p13
     refine v_if ((p.turns.getD (↑k:Int).toNat (Turn.mk 0 0 false zero32)).right) True trivial (fun h14=>?_) (fun h14=>?_)
     ·skip
      refine v_call _ [11,12] (put_ok (putF (putF [] 1 (numTo (ofI (p.turns.getD (↑k:Int).toNat (Turn.mk 0 0 false zero32)).height) 8)) 2 (numTo (p.turns.getD (↑k:Int).toNat (Turn.mk 0 0 false zero32)).size 8)) (3) ([1]) (by exact f3)) (((3:UInt8)=(3:UInt8))∧(putF (putF [] 1 (numTo (ofI (p.turns.getD (↑k:Int).toNat (Turn.mk 0 0 false zero32)).height) 8)) 2 (numTo (p.turns.getD (↑k:Int).toNat (Turn.mk 0 0 false zero32)).size 8)=putF (putF [] 1 (numTo (ofI (p.turns.getD (↑k:Int).toNat (Turn.mk 0 0 false zero32)).height) 8)) 2 (numTo (p.turns.getD (↑k:Int).toNat (Turn.mk 0 0 false zero32)).size 8))∧([(1:UInt8)]=[(1:UInt8)])) ⟨rfl,rfl,rfl⟩ (fun g15 p16=>?_)
      have p16:True:=p16
      refine v_call _ [13,14] (put_ok (putF (putF (putF [] 1 (numTo (ofI (p.turns.getD (↑k:Int).toNat (Turn.mk 0 0 false zero32)).height) 8)) 2 (numTo (p.turns.getD (↑k:Int).toNat (Turn.mk 0 0 false zero32)).size 8)) 3 [1]) (4) ((p.turns.getD (↑k:Int).toNat (Turn.mk 0 0 false zero32)).other.l) (by exact f4)) (((p.turns.getD (↑k:Int).toNat (Turn.mk 0 0 false zero32)).other.l.length=32∧32≤1000000)∧((4:UInt8)=(4:UInt8))∧(putF (putF (putF [] 1 (numTo (ofI (p.turns.getD (↑k:Int).toNat (Turn.mk 0 0 false zero32)).height) 8)) 2 (numTo (p.turns.getD (↑k:Int).toNat (Turn.mk 0 0 false zero32)).size 8)) 3 [1]=putF (putF (putF [] 1 (numTo (ofI (p.turns.getD (↑k:Int).toNat (Turn.mk 0 0 false zero32)).height) 8)) 2 (numTo (p.turns.getD (↑k:Int).toNat (Turn.mk 0 0 false zero32)).size 8)) 3 [1])∧((p.turns.getD (↑k:Int).toNat (Turn.mk 0 0 false zero32)).other.l=(p.turns.getD (↑k:Int).toNat (Turn.mk 0 0 false zero32)).other.l)) ⟨(by exact⟨Sum32.h _,by decide⟩),rfl,rfl,rfl⟩ (fun g17 p18=>?_)
      have p18:True:=p18
      exact v_back (k+1) [17] (((List.map tnB (List.take k p.turns)).length+1≤1000000)∧(I64 (↑k+1))∧((↑k:Int)+1=(↑(k+1):Int))∧(List.map tnB (List.take k p.turns)++[putF (putF (putF (putF [] 1 (numTo (ofI (p.turns.getD (↑k:Int).toNat (Turn.mk 0 0 false zero32)).height) 8)) 2 (numTo (p.turns.getD (↑k:Int).toNat (Turn.mk 0 0 false zero32)).size 8)) 3 [1]) 4 (p.turns.getD (↑k:Int).toNat (Turn.mk 0 0 false zero32)).other.l]=List.map tnB (List.take (k+1) p.turns))) ⟨(by(simp;omega)),(by(unfold I64;omega)),rfl,(by exact tn_r ‹_› ‹_›)⟩ (show NJ p.turns (k+1)∧p.turns.length - (k+1)<p.turns.length - k from(by exact NJ.next ‹_› ‹_› ‹_› ‹_›))
     ·skip
      refine v_call _ [11,12] (put_ok (putF (putF [] 1 (numTo (ofI (p.turns.getD (↑k:Int).toNat (Turn.mk 0 0 false zero32)).height) 8)) 2 (numTo (p.turns.getD (↑k:Int).toNat (Turn.mk 0 0 false zero32)).size 8)) (4) ((p.turns.getD (↑k:Int).toNat (Turn.mk 0 0 false zero32)).other.l) (by exact f5)) (((p.turns.getD (↑k:Int).toNat (Turn.mk 0 0 false zero32)).other.l.length=32∧32≤1000000)∧((4:UInt8)=(4:UInt8))∧(putF (putF [] 1 (numTo (ofI (p.turns.getD (↑k:Int).toNat (Turn.mk 0 0 false zero32)).height) 8)) 2 (numTo (p.turns.getD (↑k:Int).toNat (Turn.mk 0 0 false zero32)).size 8)=putF (putF [] 1 (numTo (ofI (p.turns.getD (↑k:Int).toNat (Turn.mk 0 0 false zero32)).height) 8)) 2 (numTo (p.turns.getD (↑k:Int).toNat (Turn.mk 0 0 false zero32)).size 8))∧((p.turns.getD (↑k:Int).toNat (Turn.mk 0 0 false zero32)).other.l=(p.turns.getD (↑k:Int).toNat (Turn.mk 0 0 false zero32)).other.l)) ⟨(by exact⟨Sum32.h _,by decide⟩),rfl,rfl,rfl⟩ (fun g19 p20=>?_)
      have p20:True:=p20
      exact v_back (k+1) [15] (((List.map tnB (List.take k p.turns)).length+1≤1000000)∧(I64 (↑k+1))∧((↑k:Int)+1=(↑(k+1):Int))∧(List.map tnB (List.take k p.turns)++[putF (putF (putF [] 1 (numTo (ofI (p.turns.getD (↑k:Int).toNat (Turn.mk 0 0 false zero32)).height) 8)) 2 (numTo (p.turns.getD (↑k:Int).toNat (Turn.mk 0 0 false zero32)).size 8)) 4 (p.turns.getD (↑k:Int).toNat (Turn.mk 0 0 false zero32)).other.l]=List.map tnB (List.take (k+1) p.turns))) ⟨(by(simp;omega)),(by(unfold I64;omega)),rfl,(by exact tn_l ‹_› ‹_›)⟩ (show NJ p.turns (k+1)∧p.turns.length - (k+1)<p.turns.length - k from(by exact NJ.next ‹_› ‹_› ‹_› ‹_›))
  ·have h3:=of_decide_eq_false h3
   refine v_leave (.ex 0) True trivial ?_
   refine v_call _ [5] (pack_ok (List.map tnB (List.take k p.turns)) (by exact NJ.pk ‹_› ‹_›)) ((List.map tnB (List.take k p.turns)=List.map tnB (List.take k p.turns))) rfl (fun g21 p22=>?_)
   have p22:True:=p22
   refine v_call _ [3,0] (put_ok ([]) (1) (p.key) (by(simp;omega))) (((1:UInt8)=(1:UInt8))∧(Eq (α:=List UInt8) [] [])∧(p.key=p.key)) ⟨rfl,rfl,rfl⟩ (fun g23 p24=>?_)
   have p24:True:=p24
   refine v_if (decide (putE p.key=0)) True trivial (fun h25=>?_) (fun h25=>?_)
   ·have h25:=of_decide_eq_true h25
    refine v_call _ [7,1] (put_ok (putF [] 1 p.key) (2) (p.value) (by(have hz:=putF_len [] 1 p.key;rw[List.length_nil] at hz;omega))) (((2:UInt8)=(2:UInt8))∧(putF [] 1 p.key=putF [] 1 p.key)∧(p.value=p.value)) ⟨rfl,rfl,rfl⟩ (fun g26 p27=>?_)
    have p27:True:=p27
    refine v_if (decide (putE p.value=0)) True trivial (fun h28=>?_) (fun h28=>?_)
    ·have h28:=of_decide_eq_true h28
     refine v_call _ [8,6] (put_ok (putF (putF [] 1 p.key) 2 p.value) (3) (packR (List.map tnB (List.take k p.turns))) (by(have hz:=putF_len [] 1 p.key;rw[List.length_nil] at hz;have hy:=putF_len (putF [] 1 p.key) 2 p.value;have hx:=NJ.pl (ts:=p.turns) (k:=k) ‹_› ‹_›;omega))) (((3:UInt8)=(3:UInt8))∧(putF (putF [] 1 p.key) 2 p.value=putF (putF [] 1 p.key) 2 p.value)∧(packR (List.map tnB (List.take k p.turns))=packR (List.map tnB (List.take k p.turns)))) ⟨rfl,rfl,rfl⟩ (fun g29 p30=>?_)
     have p30:True:=p30
     exact v_ret () [9] ((putE (packR (List.map tnB (List.take k p.turns)))=encE p)∧(p.key=p.key)∧(p.value=p.value)∧(p.turns=p.turns)∧(putF (putF (putF [] 1 p.key) 2 p.value) 3 (packR (List.map tnB (List.take k p.turns)))=encB p)) ⟨(by exact(en4 ‹_› ‹_› ‹_› ‹_›).2),rfl,rfl,rfl,(by exact(en4 ‹_› ‹_› ‹_› ‹_›).1)⟩ trivial
    ·have h28:=of_decide_eq_false h28
     exact v_ret () [8] ((putE p.value=encE p)∧(p.key=p.key)∧(p.value=p.value)∧(p.turns=p.turns)∧(putF (putF [] 1 p.key) 2 p.value=encB p)) ⟨(by exact(en3 ‹_› ‹_› ‹_› ‹_›).2),rfl,rfl,rfl,(by exact(en3 ‹_› ‹_› ‹_› ‹_›).1)⟩ trivial
   ·have h25:=of_decide_eq_false h25
    refine v_if (decide (putE p.key=0)) True trivial (fun h31=>?_) (fun h31=>?_)
    ·have h31:=of_decide_eq_true h31
     omega
    ·have h31:=of_decide_eq_false h31
     exact v_ret () [7] ((putE p.key=encE p)∧(p.key=p.key)∧(p.value=p.value)∧(p.turns=p.turns)∧(putF [] 1 p.key=encB p)) ⟨(by exact(en2 ‹_› ‹_› ‹_›).2),rfl,rfl,rfl,(by exact(en2 ‹_› ‹_› ‹_›).1)⟩ trivial
theorem dropZ_snoc (x:UInt8):∀ l:List UInt8,dropZ (l++[x])=if dropZ l=[] then(if x=0 then[] else[x]) else dropZ l++[x]
  | []=>by simp[dropZ]
  | y :: l => by
    by_cases h:y=0
    · have := dropZ_snoc x l
      simp only[List.cons_append,dropZ,if_pos h];exact this
    · simp only[List.cons_append,dropZ,if_neg h,List.cons_ne_nil,if_false]
theorem numTo_eq (n:UInt64):∀ k:Nat,numTo n k=dropZ (eightTo n k)
  | 0=>rfl
  | k + 1 => by
    have e:(8*(7 - (k:Int))).toNat=(56 - 8*(k:Int)).toNat:=by omega
    have ih:=numTo_eq n k
    unfold numTo eightTo
    rw[dropZ_snoc,← ih,numStep,e]
    by_cases hl:numTo n k=[]
    · rw [hl, if_pos rfl]
      by_cases hx:(n >>> (56 - 8*(k:Int)).toNat.toUInt64).toUInt8=0
      · rw[if_neg (by simp[hx]),if_pos hx]
      · rw[if_pos (.inl hx),if_neg hx];rfl
    · rw[if_neg hl,if_pos (.inr (List.length_pos_iff.2 hl))]
section
variable {n m:UInt64} {o:Sum32} {ts:List Turn} {k:Nat} {p:Proof}
theorem dz (n:UInt64):(dropZ (eightTo n 8)).length≤8:=by rw[← numTo_eq];exact numTo_len n 8
theorem putR_len (b:List UInt8) (t:UInt8) (v:List UInt8):(putR b t v).length≤b.length+v.length+3:=by
  unfold putR;split
  · omega
  · simp;omega
theorem r1:(putR [] 1 (dropZ (eightTo n 8))).length≤11:=by have:=putR_len [] 1 (dropZ (eightTo n 8));have:=dz n;simp only[List.length_nil] at *;omega
theorem r2:(putR (putR [] 1 (dropZ (eightTo n 8))) 2 (dropZ (eightTo m 8))).length≤22:=by have:=putR_len (putR [] 1 (dropZ (eightTo n 8))) 2 (dropZ (eightTo m 8));have:=dz m;have:=r1 (n:=n);omega
theorem r3:(putR (putR (putR [] 1 (dropZ (eightTo n 8))) 2 (dropZ (eightTo m 8))) 3 [1]).length≤26:=by have:=putR_len (putR (putR [] 1 (dropZ (eightTo n 8))) 2 (dropZ (eightTo m 8))) 3 [1];have:=r2 (n:=n) (m:=m);simp only[List.length_cons,List.length_nil] at *;omega
theorem g1:([]:List UInt8).length+(dropZ (eightTo n 8)).length≤900000:=by have:=dz n;simp only[List.length_nil];omega
theorem g2:(putR [] 1 (dropZ (eightTo n 8))).length+(dropZ (eightTo m 8)).length≤900000:=by have:=dz m;have:=r1 (n:=n);omega
theorem g3:(putR (putR [] 1 (dropZ (eightTo n 8))) 2 (dropZ (eightTo m 8))).length+([1]:List UInt8).length≤900000:=by have:=r2 (n:=n) (m:=m);simp only[List.length_cons,List.length_nil];omega
theorem g4:(putR (putR (putR [] 1 (dropZ (eightTo n 8))) 2 (dropZ (eightTo m 8))) 3 [1]).length+o.l.length≤900000:=by have:=r3 (n:=n) (m:=m);have:=o.h;omega
theorem g5:(putR (putR [] 1 (dropZ (eightTo n 8))) 2 (dropZ (eightTo m 8))).length+o.l.length≤900000:=by have:=r2 (n:=n) (m:=m);have:=o.h;omega
end
section
variable {X:List Field × Int} {out:List Field} {b b0:List UInt8}
end
def sumR (b:List UInt8):List UInt8:=if b.length=32 then b else List.replicate 32 0
theorem or256 (x:UInt64) (c:UInt8):x <<< 8 ||| c.toUInt64=x*256+c.toUInt64:=by
  apply UInt64.toNat_inj.1
  rw[UInt64.toNat_or,UInt64.toNat_shiftLeft,UInt64.toNat_add,UInt64.toNat_mul,UInt8.toNat_toUInt64]
  have hc:=c.toNat_lt
  have e8:(8:UInt64).toNat % 64=8:=rfl
  have e256:(256:UInt64).toNat=256:=rfl
  rw[e8,e256]
  have h1:x.toNat <<< 8 % 2 ^ 64=(x.toNat % 2 ^ 56) <<< 8:=by rw[Nat.shiftLeft_eq,Nat.shiftLeft_eq];omega
  rw[h1,← Nat.shiftLeft_add_eq_or_of_lt (by omega),Nat.shiftLeft_eq]
  omega
theorem valTo_eq (b:List UInt8):∀ k,valRTo b k=valTo b k
  | 0=>rfl
  | k+1=>by unfold valRTo valTo;rw[valTo_eq b k,or256]
theorem valRV_eq (b:List UInt8):valRV b=valV b:=by unfold valRV valV;rw[valTo_eq]
theorem valB_eq (b:List UInt8):valB b=decide (valE b=0):=by
  unfold valB valE;split
  · rfl
  · split <;> rfl
abbrev kF:Field:=⟨0,[]⟩
def hMin (n:UInt64):Int:=if n<1048576 then(n.toNat:Int) else 1048576
def fErr (f:Field):Int :=
  if f.tag=1 then valE f.value else if f.tag=2 then valE f.value
  else if f.tag=3 then(if valV f.value≠1 then 7 else valE f.value)
  else if f.tag=4 then(if(f.value.length:Int)≠32 then 7 else 0) else 8
def fSet (t:Turn) (f:Field):Turn :=
  if f.tag=1 then⟨hMin (valV f.value),t.size,t.right,t.other⟩ else if f.tag=2 then⟨t.height,valV f.value,t.right,t.other⟩
  else if f.tag=3 then⟨t.height,t.size,true,t.other⟩ else if f.tag=4 then⟨t.height,t.size,t.right,mk32 f.value⟩ else t
def fTo (l:List Field) (k:Nat):Turn:=(l.take k).foldl fSet kT
theorem fTo_succ {l:List Field} {k:Nat} (hk:(k:Int)<l.length):fTo l (k+1)=fSet (fTo l k) (l.getD (k:Int).toNat kF):=by
  unfold fTo
  rw[Int.toNat_natCast,List.take_add_one,List.getD_eq_getElem?_getD,List.getElem?_eq_getElem (by omega)]
  simp only[Option.toList,List.foldl_append,List.foldl_cons,List.foldl_nil,Option.getD_some]
def fFirst:List Field→Int
  | []=>0
  | f::l=>if fErr f≠0 then fErr f else fFirst l
def fEnd (l:List Field):Bool:=decide (0<l.length) && decide ((l.getD ((l.length:Int) - 1).toNat kF).tag=4)
def tnE (b:List UInt8):Int:=if(parse [] b).2≠0 then(parse [] b).2 else if fFirst (parse [] b).1≠0 then fFirst (parse [] b).1 else if fEnd (parse [] b).1=true then 0 else 8
def tnV (b:List UInt8):Turn:=if(parse [] b).2≠0 then kT else if fFirst (parse [] b).1≠0 then kT else if fEnd (parse [] b).1=true then fTo (parse [] b).1 (parse [] b).1.length else kT
def FJ (l:List Field) (k:Nat):Prop:=k≤l.length∧fFirst l=fFirst (l.drop k)
section
variable {b:List UInt8} {l:List Field} {k:Nat}
theorem FJ.start:FJ l 0:=⟨Nat.zero_le _,rfl⟩
theorem FJ.at (h:FJ l k) (hk:(k:Int)<l.length):fFirst l=if fErr (l.getD (k:Int).toNat kF)≠0 then fErr (l.getD (k:Int).toNat kF) else fFirst (l.drop (k+1)):=by
  rw[h.2,List.drop_eq_getElem_cons (by omega),fFirst,Int.toNat_natCast,List.getD_eq_getElem?_getD,List.getElem?_eq_getElem (by omega)];rfl
theorem FJ.next (h:FJ l k) (hk:(k:Int)<l.length) (he:fErr (l.getD (k:Int).toNat kF)=0):FJ l (k+1)∧l.length - (k+1)<l.length - k:=by
  refine⟨⟨by omega,?_⟩,by omega⟩
  rw[h.at hk,if_neg (by rw[he];decide)]
theorem FJ.hit (h:FJ l k) (hk:(k:Int)<l.length) {e:Int} (he:fErr (l.getD (k:Int).toNat kF)=e) (h0:e≠0):fFirst l=e:=by
  rw[h.at hk,if_pos (by rw[he];exact h0),he]
theorem FJ.stop (h:FJ l k) (hk:¬ (k:Int)<l.length):fFirst l=0:=by
  rw[h.2,List.drop_of_length_le (by omega)];rfl
theorem tn2 (h:¬ (parse [] b).2≠0) {e:Int} (h1:fFirst (parse [] b).1=e) (h0:e≠0):kT=tnV b∧e=tnE b:=by
  refine⟨?_,?_⟩
  · unfold tnV;rw[if_neg h,if_pos (by rw[h1];exact h0)]
  · unfold tnE;rw[if_neg h,if_pos (by rw[h1];exact h0),h1]
theorem tn3 (h:¬ (parse [] b).2≠0) (h1:fFirst (parse [] b).1=0) (h2:fEnd (parse [] b).1=false):kT=tnV b∧8=tnE b:=by
  refine⟨?_,?_⟩
  · unfold tnV;rw[if_neg h,if_neg (by rw[h1];decide),if_neg (by rw[h2];decide)]
  · unfold tnE;rw[if_neg h,if_neg (by rw[h1];decide),if_neg (by rw[h2];decide)]
theorem parse_lenG:∀(n:Nat) (out:List Field) (x:List UInt8),x.length≤n→(parse out x).1.length≤out.length+x.length:=by
  intro n
  induction n with
  | zero=>intro out x hx;rw[parse,dif_pos (by omega)];simp
  | succ n ih =>
    intro out x hx
    rw[parse]
    split
    · simp
    · rename_i h1
      have:=pcR_len (x.drop 1);have:=drop1_lt h1
      split
      · simp
      · split
        · simp
        · split
          · simp
          · refine Nat.le_trans (ih _ _ (by omega)) ?_
            simp only[List.length_append,List.length_cons,List.length_nil];omega
theorem parse_len (b:List UInt8):(parse [] b).1.length≤b.length:=by have:=parse_lenG b.length [] b (Nat.le_refl _);simpa using this
end
section
variable {b:List UInt8} {l:List Field} {k:Nat} {f:Field}
theorem fe1 (h:f.tag=1):fErr f=valE f.value:=by unfold fErr;rw[if_pos h]
theorem fe2 (h1:¬ f.tag=1) (h:f.tag=2):fErr f=valE f.value:=by unfold fErr;rw[if_neg h1,if_pos h]
theorem fe3a (h1:¬ f.tag=1) (h2:¬ f.tag=2) (h:f.tag=3) (hv:¬ valV f.value≠1):fErr f=valE f.value:=by unfold fErr;rw[if_neg h1,if_neg h2,if_pos h,if_neg hv]
theorem fe5 (h1:¬ f.tag=1) (h2:¬ f.tag=2) (h3:¬ f.tag=3) (h:¬ f.tag=4):fErr f=8:=by unfold fErr;rw[if_neg h1,if_neg h2,if_neg h3,if_neg h]
theorem nn {x:Int} (h:¬ x≠0):x=0:=Decidable.not_not.1 h
theorem er {e:Int} (hp:¬ (parse [] b).2≠0) (hF:FJ (parse [] b).1 k) (hk:(k:Int)<(parse [] b).1.length) (he:fErr ((parse [] b).1.getD (k:Int).toNat kF)=e) (h0:e≠0):kT=tnV b∧e=tnE b:=tn2 hp (hF.hit hk he h0) h0
theorem s1 (hk:(k:Int)<l.length) (h:(l.getD (k:Int).toNat kF).tag=1):fTo l (k+1)=⟨hMin (valV (l.getD (k:Int).toNat kF).value),(fTo l k).size,(fTo l k).right,(fTo l k).other⟩:=by rw[fTo_succ hk,fSet,if_pos h]
theorem s2 (hk:(k:Int)<l.length) (h1:¬ (l.getD (k:Int).toNat kF).tag=1) (h:(l.getD (k:Int).toNat kF).tag=2):fTo l (k+1)=⟨(fTo l k).height,valV (l.getD (k:Int).toNat kF).value,(fTo l k).right,(fTo l k).other⟩:=by rw[fTo_succ hk,fSet,if_neg h1,if_pos h]
theorem s4 (hk:(k:Int)<l.length) (h1:¬ (l.getD (k:Int).toNat kF).tag=1) (h2:¬ (l.getD (k:Int).toNat kF).tag=2) (h3:¬ (l.getD (k:Int).toNat kF).tag=3) (h:(l.getD (k:Int).toNat kF).tag=4) (hv:¬ ((l.getD (k:Int).toNat kF).value.length:Int)≠32):fTo l (k+1)=⟨(fTo l k).height,(fTo l k).size,(fTo l k).right,mk32 (l.getD (k:Int).toNat kF).value⟩:=by rw[fTo_succ hk,fSet,if_neg h1,if_neg h2,if_neg h3,if_pos h]
theorem FJ.i64 (h:(k:Int)<(parse [] b).1.length) (hl:b.length≤900000):I64 ((k:Int)+1):=by have:=parse_len b;unfold I64;omega
end
theorem parse_nil:parse [] []=([],0):=by rw[parse,dif_pos (show([]:List UInt8).length=0 from rfl)]
theorem t0:kT=tnV []∧8=tnE []:=tn3 (by rw[parse_nil];decide) (by rw[parse_nil];rfl) (by rw[parse_nil];rfl)
theorem valE7 {v:List UInt8} (h:valE v≠0):valE v=7:=by unfold valE at *;split <;> simp_all
theorem vB0 {v:List UInt8} (h:valB v=false):valE v=7:=by rw[valB_eq] at h;exact valE7 (of_decide_eq_false h)
theorem vB1 {v:List UInt8} (h:valB v=true):valE v=0:=by rw[valB_eq] at h;exact of_decide_eq_true h
def fSetR (t:Turn) (f:Field):Turn :=
  if f.tag=1 then⟨hMin (valV f.value),t.size,t.right,t.other⟩ else if f.tag=2 then⟨t.height,valV f.value,t.right,t.other⟩
  else if f.tag=3 then⟨t.height,t.size,true,t.other⟩ else if f.tag=4 then⟨t.height,t.size,t.right,mk32 (sumR f.value)⟩ else t
def fRun:List Field→Turn→Turn
  | [],t=>t
  | f::l,t=>if fErr f≠0 then fSetR t f else fRun l (fSet t f)
def tnW (b:List UInt8):Turn:=if(parse [] b).2≠0 then kT else fRun (parse [] b).1 kT
def FR (l:List Field) (k:Nat):Prop:=fRun l kT=fRun (l.drop k) (fTo l k)
section
variable {b:List UInt8} {l:List Field} {k:Nat} {f:Field}
theorem FR.start:FJ l 0∧FR l 0:=⟨FJ.start,rfl⟩
theorem FR.at (h:FR l k) (hk:(k:Int)<l.length):fRun l kT=if fErr (l.getD (k:Int).toNat kF)≠0 then fSetR (fTo l k) (l.getD (k:Int).toNat kF) else fRun (l.drop (k+1)) (fSet (fTo l k) (l.getD (k:Int).toNat kF)):=by
  rw[h,List.drop_eq_getElem_cons (by omega),fRun,Int.toNat_natCast,List.getD_eq_getElem?_getD,List.getElem?_eq_getElem (by omega)];rfl
theorem FR.next (h:FJ l k∧FR l k) (hk:(k:Int)<l.length) (he:fErr (l.getD (k:Int).toNat kF)=0):(FJ l (k+1)∧FR l (k+1))∧l.length - (k+1)<l.length - k:=by
  have:=h.1.next hk he
  refine⟨⟨this.1,?_⟩,this.2⟩
  unfold FR
  rw[h.2.at hk,if_neg (by rw[he];decide),fTo_succ hk]
theorem FR.hit (hp:¬ (parse [] b).2≠0) (h:FR (parse [] b).1 k) (hk:(k:Int)<(parse [] b).1.length) (he:fErr ((parse [] b).1.getD (k:Int).toNat kF)≠0):tnW b=fSetR (fTo (parse [] b).1 k) ((parse [] b).1.getD (k:Int).toNat kF):=by
  unfold tnW;rw[if_neg hp,h.at hk,if_pos he]
theorem v3 {v:List UInt8} (h:valB v=false):valV v≠1:=by
  have e:=vB0 h
  intro q
  unfold valE at e;unfold valV at q
  split at e
  · rename_i h1;rw[if_pos h1] at q;exact absurd q (by decide)
  · rename_i h1
    rw[if_neg h1] at q
    split at e
    · rename_i h2;rw[if_pos h2] at q;exact absurd q (by decide)
    · cases e
theorem w0 (h:(parse [] b).2≠0):tnW b=kT:=by unfold tnW;rw[if_pos h]
theorem w1 (hp:¬ (parse [] b).2≠0) (hR:FR (parse [] b).1 k) (hk:(k:Int)<(parse [] b).1.length) (h1:((parse [] b).1.getD (k:Int).toNat kF).tag=1) (hv:valB ((parse [] b).1.getD (k:Int).toNat kF).value=false):tnW b=⟨hMin (valV ((parse [] b).1.getD (k:Int).toNat kF).value),(fTo (parse [] b).1 k).size,(fTo (parse [] b).1 k).right,(fTo (parse [] b).1 k).other⟩:=by
  rw[FR.hit hp hR hk (by rw[fe1 h1,vB0 hv];decide)];unfold fSetR;rw[if_pos h1]
theorem w2 (hp:¬ (parse [] b).2≠0) (hR:FR (parse [] b).1 k) (hk:(k:Int)<(parse [] b).1.length) (h1:¬ ((parse [] b).1.getD (k:Int).toNat kF).tag=1) (h2:((parse [] b).1.getD (k:Int).toNat kF).tag=2) (hv:valB ((parse [] b).1.getD (k:Int).toNat kF).value=false):tnW b=⟨(fTo (parse [] b).1 k).height,valV ((parse [] b).1.getD (k:Int).toNat kF).value,(fTo (parse [] b).1 k).right,(fTo (parse [] b).1 k).other⟩:=by
  rw[FR.hit hp hR hk (by rw[fe2 h1 h2,vB0 hv];decide)];unfold fSetR;rw[if_neg h1,if_pos h2]
theorem w5 (hp:¬ (parse [] b).2≠0) (hR:FR (parse [] b).1 k) (hk:(k:Int)<(parse [] b).1.length) (h1:¬ ((parse [] b).1.getD (k:Int).toNat kF).tag=1) (h2:¬ ((parse [] b).1.getD (k:Int).toNat kF).tag=2) (h3:¬ ((parse [] b).1.getD (k:Int).toNat kF).tag=3) (h4:¬ ((parse [] b).1.getD (k:Int).toNat kF).tag=4):tnW b=(fTo (parse [] b).1 k):=by
  rw[FR.hit hp hR hk (by rw[fe5 h1 h2 h3 h4];decide)];unfold fSetR;rw[if_neg h1,if_neg h2,if_neg h3,if_neg h4]
theorem n1 (h1:f.tag=1) (hv:valB f.value=true):fErr f=0:=(fe1 h1).trans (vB1 hv)
theorem n2 (h1:¬ f.tag=1) (h2:f.tag=2) (hv:valB f.value=true):fErr f=0:=(fe2 h1 h2).trans (vB1 hv)
theorem n3 (h1:¬ f.tag=1) (h2:¬ f.tag=2) (h3:f.tag=3) (hv:valB f.value=true) (h:valRV f.value=1):fErr f=0:=(fe3a h1 h2 h3 (fun q=>q (by rw[← valRV_eq];exact h))).trans (vB1 hv)
end
def tsFirst:List (List UInt8)→Int
  | []=>0
  | x::l=>if tnE x≠0 then tnE x else tsFirst l
def dcErr (f:Field):Int :=
  if f.tag=1 then 0 else if f.tag=2 then 0
  else if f.tag=3 then(if(unpk [] f.value).2≠0 then(unpk [] f.value).2 else tsFirst (unpk [] f.value).1) else 8
def dcSet (p:Proof) (f:Field):Proof :=
  if f.tag=1 then⟨f.value,p.value,p.turns⟩ else if f.tag=2 then⟨p.key,f.value,p.turns⟩
  else if f.tag=3 then⟨p.key,p.value,p.turns++(unpk [] f.value).1.map tnV⟩ else p
abbrev kP:Proof:=⟨[],[],[]⟩
def dTo (l:List Field) (k:Nat):Proof:=(l.take k).foldl dcSet kP
def dFirst:List Field→Int
  | []=>0
  | f::l=>if dcErr f≠0 then dcErr f else dFirst l
def vSum (l:List Field):Nat:=(l.map fun f=>f.value.length).sum
theorem vSum_app (a c:List Field):vSum (a++c)=vSum a+vSum c:=by simp[vSum]
theorem parse_sumG:∀(n:Nat) (out:List Field) (x:List UInt8),x.length≤n→vSum (parse out x).1≤vSum out+x.length:=by
  intro n
  induction n with
  | zero=>intro out x hx;rw[parse,dif_pos (by omega)];simp
  | succ n ih =>
    intro out x hx
    rw[parse]
    split
    · simp
    · rename_i h1
      have e1:=pcVR_len (x.drop 1);have e2:=drop1_lt h1
      split
      · simp[vSum]
      · split
        · simp[vSum]
        · split
          · simp[vSum]
          · refine Nat.le_trans (ih _ _ (by omega)) ?_
            rw[vSum_app]
            simp only[vSum,List.map_cons,List.map_nil,List.sum_cons,List.sum_nil];omega
theorem parse_sum (b:List UInt8):vSum (parse [] b).1≤b.length:=by have:=parse_sumG b.length [] b (Nat.le_refl _);simpa [vSum] using this
theorem unpk_lenG:∀(n:Nat) (out:List (List UInt8)) (x:List UInt8),x.length≤n→(unpk out x).1.length≤out.length+x.length:=by
  intro n
  induction n with
  | zero=>intro out x hx;rw[unpk,dif_pos (by omega)];simp
  | succ n ih =>
    intro out x hx
    rw[unpk]
    split
    · simp
    · rename_i h1
      have:=pcR_lt h1
      split
      · simp
      · refine Nat.le_trans (ih _ _ (by omega)) ?_
        simp only[List.length_append,List.length_cons,List.length_nil];omega
theorem unpk_len (x:List UInt8):(unpk [] x).1.length≤x.length:=by have:=unpk_lenG x.length [] x (Nat.le_refl _);simpa using this
structure DJ (b:List UInt8) (l:List Field) (k:Nat):Prop where
  le:k≤l.length
  fi:dFirst l=dFirst (l.drop k)
  ky:(dTo l k).key.length≤vSum (l.take k)
  vl:(dTo l k).value.length≤vSum (l.take k)
  tn:(dTo l k).turns.length≤vSum (l.take k)
  sm:vSum l≤b.length
section
variable {b:List UInt8} {l:List Field} {k m:Nat} {f:Field} {xs:List (List UInt8)} {T:List Turn}
theorem dTo_succ (hk:(k:Int)<l.length):dTo l (k+1)=dcSet (dTo l k) (l.getD (k:Int).toNat kF):=by
  unfold dTo
  rw[Int.toNat_natCast,List.take_add_one,List.getD_eq_getElem?_getD,List.getElem?_eq_getElem (by omega)]
  simp only[Option.toList,List.foldl_append,List.foldl_cons,List.foldl_nil,Option.getD_some]
theorem vSum_succ (hk:(k:Int)<l.length):vSum (l.take (k+1))=vSum (l.take k)+(l.getD (k:Int).toNat kF).value.length:=by
  rw[Int.toNat_natCast,List.take_add_one,vSum_app,List.getD_eq_getElem?_getD,List.getElem?_eq_getElem (by omega)];simp[vSum,Option.toList]
theorem vSum_take (l:List Field) (k:Nat):vSum (l.take k)≤vSum l:=by
  have:=vSum_app (l.take k) (l.drop k);rw[List.take_append_drop] at this;omega
theorem DJ.start:DJ b (parse [] b).1 0:=⟨Nat.zero_le _,rfl,Nat.zero_le _,Nat.zero_le _,Nat.zero_le _,parse_sum b⟩
theorem DJ.v (h:DJ b l k) (hk:(k:Int)<l.length):vSum (l.take k)+(l.getD (k:Int).toNat kF).value.length≤b.length:=by
  have:=vSum_succ hk;have:=vSum_take l (k+1);have:=h.sm;omega
theorem DJ.at (h:DJ b l k) (hk:(k:Int)<l.length):dFirst l=if dcErr (l.getD (k:Int).toNat kF)≠0 then dcErr (l.getD (k:Int).toNat kF) else dFirst (l.drop (k+1)):=by
  rw[h.fi,List.drop_eq_getElem_cons (by omega),dFirst,Int.toNat_natCast,List.getD_eq_getElem?_getD,List.getElem?_eq_getElem (by omega)];rfl
theorem DJ.next (h:DJ b l k) (hk:(k:Int)<l.length) (he:dcErr (l.getD (k:Int).toNat kF)=0):DJ b l (k+1)∧l.length - (k+1)<l.length - k:=by
  have hs:=vSum_succ hk
  have h1:=h.ky;have h2:=h.vl;have h3:=h.tn
  refine⟨⟨by omega,by rw[h.at hk,if_neg (by rw[he];decide)],?_,?_,?_,h.sm⟩,by omega⟩ <;> rw[dTo_succ hk,hs] <;> unfold dcSet
  · split
    · show(l.getD (k:Int).toNat kF).value.length≤_;omega
    · split
      · show(dTo l k).key.length≤_;omega
      · split
        · show(dTo l k).key.length≤_;omega
        · omega
  · split
    · show(dTo l k).value.length≤_;omega
    · split
      · show(l.getD (k:Int).toNat kF).value.length≤_;omega
      · split
        · show(dTo l k).value.length≤_;omega
        · omega
  · split
    · show(dTo l k).turns.length≤_;omega
    · split
      · show(dTo l k).turns.length≤_;omega
      · split
        · show ((dTo l k).turns ++ _).length ≤ _
          have:=unpk_len (l.getD (k:Int).toNat kF).value
          rw[List.length_append,List.length_map];omega
        · omega
theorem DJ.stop (h:DJ b l k) (hk:¬ (k:Int)<l.length):dFirst l=0∧k=l.length:=by
  have e:k=l.length:=by have:=h.le;omega
  refine⟨?_,e⟩
  rw[h.fi,List.drop_of_length_le (by omega)];rfl
def TJ (xs:List (List UInt8)) (m:Nat):Prop:=m≤xs.length∧tsFirst xs=tsFirst (xs.drop m)
theorem TJ.start:TJ xs 0:=⟨Nat.zero_le _,rfl⟩
theorem TJ.at (h:TJ xs m) (hk:(m:Int)<xs.length):tsFirst xs=if tnE (xs.getD (m:Int).toNat [])≠0 then tnE (xs.getD (m:Int).toNat []) else tsFirst (xs.drop (m+1)):=by
  rw[h.2,List.drop_eq_getElem_cons (by omega),tsFirst,Int.toNat_natCast,List.getD_eq_getElem?_getD,List.getElem?_eq_getElem (by omega)];rfl
theorem TJ.next (h:TJ xs m) (hk:(m:Int)<xs.length) (he:¬ tnE (xs.getD (m:Int).toNat [])≠0):TJ xs (m+1)∧xs.length - (m+1)<xs.length - m :=
  ⟨⟨by omega,by rw[h.at hk,if_neg he]⟩,by omega⟩
theorem TJ.hit (h:TJ xs m) (hk:(m:Int)<xs.length) (he:tnE (xs.getD (m:Int).toNat [])≠0):tsFirst xs=tnE (xs.getD (m:Int).toNat []):=by rw[h.at hk,if_pos he]
theorem TJ.stop (h:TJ xs m) (hk:¬ (m:Int)<xs.length):tsFirst xs=0:=by rw[h.2,List.drop_of_length_le (by omega)];rfl
theorem TJ.add (hk:(m:Int)<xs.length) {t:Turn} (ht:t=tnV (xs.getD (m:Int).toNat [])):T++(xs.take m).map tnV++[t]=T++(xs.take (m+1)).map tnV:=by
  rw[ht,Int.toNat_natCast,List.take_add_one,List.getD_eq_getElem?_getD,List.getElem?_eq_getElem (by omega)]
  simp only[Option.toList,List.map_append,List.map_cons,List.map_nil,Option.getD_some,List.append_assoc]
theorem TJ.zero:T=T++(xs.take 0).map tnV:=by simp
theorem DJ.k2 (hD:DJ b l k) (hb:b.length≤200000):(dTo l k).key.length≤200000:=by have:=hD.ky;have:=vSum_take l k;have:=hD.sm;omega
theorem DJ.v2 (hD:DJ b l k) (hb:b.length≤200000):(dTo l k).value.length≤200000:=by have:=hD.vl;have:=vSum_take l k;have:=hD.sm;omega
theorem DJ.t2 (hD:DJ b l k) (hb:b.length≤200000):(dTo l k).turns.length≤1000000:=by have:=hD.tn;have:=vSum_take l k;have:=hD.sm;omega
end
inductive Er where
  | num (c:Int)
  | step (wh:List UInt8) (n:Int) (e:Er)
def stepH (t:Turn) (h:List UInt8):List UInt8:=if t.right=true then nsum t.height t.size [] [] t.other.l h else nsum t.height t.size [] [] h t.other.l
abbrev dT:Turn:=⟨0,0,false,zero32⟩
def rootN (l:List Turn):Nat→Int→List UInt8→List UInt8 × Option Er
  | 0,_,h=>(h,none)
  | n+1,last,h=>if(l.getD n dT).height≤last∨64<(l.getD n dT).height then(z32,some (.step ((#[116,117,114,110]:Array UInt8).toList) n (.num 12))) else rootN l n (l.getD n dT).height (stepH (l.getD n dT) h)
def rootP (p:Proof):List UInt8 × Option Er :=
  if 64<p.turns.length then(z32,some (.step ((#[116,117,114,110,115]:Array UInt8).toList) p.turns.length (.num 3)))
  else if p.key.length=0∨96<p.key.length∨256<p.value.length then(z32,some (.step ((#[108,101,97,102]:Array UInt8).toList) 0 (.num 10)))
  else rootN p.turns p.turns.length 0 (nsum 0 1 p.key p.value z32 z32)
def RI (p:Proof) (q:Nat × Int × List UInt8):Prop:=rootN p.turns q.1 q.2.1 q.2.2=rootP p∧q.1≤p.turns.length∧p.turns.length≤64∧0≤q.2.1∧q.2.2.length=32
section
variable {p:Proof} {n:Nat} {a:Int} {x:List UInt8}
theorem RI.start (h:¬ 64<p.turns.length) (h2:¬ (p.key.length=0∨96<p.key.length∨256<p.value.length)):RI p (p.turns.length,0,nsum 0 1 p.key p.value z32 z32):=⟨by unfold rootP;rw[if_neg h,if_neg h2],Nat.le_refl _,by omega,Int.le_refl _,show(nsum 0 1 p.key p.value z32 z32).length=32 from Tr.nsum_len _ _ _ _ _ _⟩
abbrev tAt (p:Proof) (n:Nat):Turn:=p.turns.getD ((n:Int) - 1).toNat dT
theorem RI.succ (h0:0≤(n:Int) - 1):∃ m,n=m+1∧tAt p n=p.turns.getD m dT:=⟨n - 1,by omega,by unfold tAt;rw[show((n:Int) - 1).toNat=n - 1 by omega]⟩
theorem RI.next (h:RI p (n,a,x)) (h0:0≤(n:Int) - 1) (h1:¬ (tAt p n).height≤a) (h2:¬ 64<(tAt p n).height):RI p (n - 1,(tAt p n).height,stepH (tAt p n) x)∧n - 1<n:=by
  obtain⟨m,rfl,e⟩:=RI.succ (p:=p) h0
  obtain⟨g1,g2,g3,g4,g5⟩:=h
  have g4:0≤a:=g4
  have g1:rootN p.turns (m+1) a x=rootP p:=g1
  rw[e] at h1 h2 ⊢
  rw[rootN,if_neg (by omega)] at g1
  exact⟨⟨g1,by simp only at *;omega,g3,show 0≤(p.turns.getD m dT).height by omega,by simp only[stepH];split <;> exact Tr.nsum_len _ _ _ _ _ _⟩,by omega⟩
theorem RI.stop (h:RI p (n,a,x)) (h0:¬ 0≤(n:Int) - 1):rootP p=(x,none):=by
  have:n=0:=by omega
  subst this;exact h.1.symm
end
def verP (want:List UInt8) (p:Proof):Option Er:=if(rootP p).2.isNone=true then(if(rootP p).1=want then none else some (.step ((#[114,111,111,116]:Array UInt8).toList) 0 (.num 21))) else(rootP p).2
def sideP (r:Bool) (l:List Turn):Bool:=l.all fun t=>t.right == r
theorem turn_eq {a b:Turn} (h1:a.height=b.height) (h2:a.size=b.size) (h3:a.right=b.right) (h4:a.other.l=b.other.l):a=b:=by
  cases a;cases b;simp only at h1 h2 h3 h4;subst h1;subst h2;subst h3;rw[Sum32.ext' h4]
def cpl:List Turn→List Turn→Nat
  | a::l,b::r=>if a=b then cpl l r+1 else 0
  | _,_=>0
def nextQ (l r:List Turn) (i:Nat):Bool :=
  decide ((i:Int)<l.length) && decide ((i:Int)<r.length) && !(l.getD i dT).right && (r.getD i dT).right && decide ((l.getD i dT).height=(r.getD i dT).height) && decide ((l.getD i dT).size=(r.getD i dT).size) && sideP true (l.drop (i+1)) && sideP false (r.drop (i+1))
def nextP (l r:List Turn):Bool:=nextQ l r (cpl l r)
def XI (l r:List Turn) (k:Nat):Prop:=cpl l r=k+cpl (l.drop k) (r.drop k)∧k≤l.length∧k≤r.length
theorem XI.start {l r:List Turn}:XI l r 0:=⟨by simp,Nat.zero_le _,Nat.zero_le _⟩
section
variable {l r:List Turn} {k:Nat}
abbrev teq (a b:Turn):Bool:=decide (a.height=b.height) && (decide (a.size=b.size) && (a.right == b.right && (decide (a.other.l=b.other.l) && true)))
theorem teq_iff {a b:Turn}:teq a b=true↔a=b:=by
  constructor
  · intro h
    simp only[teq,Bool.and_eq_true,decide_eq_true_eq,beq_iff_eq,and_true] at h
    exact turn_eq h.1 h.2.1 h.2.2.1 h.2.2.2
  · rintro rfl;simp[teq]
theorem XI.e1 (h:XI l r k) (hi:¬ (k:Int)<l.length):cpl l r=k:=by
  rw[h.1,List.drop_of_length_le (l:=l) (by omega)];simp[cpl]
theorem XI.e2 (h:XI l r k) (hi:¬ (k:Int)<r.length):cpl l r=k:=by
  rw[h.1,List.drop_of_length_le (l:=r) (by omega)];cases l.drop k <;> simp[cpl]
theorem XI.e3 (h:XI l r k) (h1:(k:Int)<l.length) (h2:(k:Int)<r.length) (h3:teq (l.getD k dT) (r.getD k dT)=false):cpl l r=k:=by
  rw[h.1,drop_cons (d:=dT) h1,drop_cons (d:=dT) h2,cpl,if_neg (fun e=>by rw[teq_iff.2 e] at h3;cases h3)];rfl
theorem XI.next (h:XI l r k) (h1:(k:Int)<l.length) (h2:(k:Int)<r.length) (h3:teq (l.getD k dT) (r.getD k dT)=true):XI l r (k+1)∧l.length - (k+1)<l.length - k:=by
  refine⟨⟨?_,by omega,by omega⟩,by omega⟩
  rw[h.1,drop_cons (d:=dT) h1,drop_cons (d:=dT) h2,cpl,if_pos (teq_iff.1 h3)];omega
end
def vgS (want k:List UInt8) (i:Int) (o:Option Proof):Option Er :=
  if o.isNone=true then none
  else if(verP want (gp o)).isNone=false then some (.step ((#[115,105,100,101]:Array UInt8).toList) i ((verP want (gp o)).getD (.num 0)))
  else if Lib.compareBytes (gp o).key k=0∨(decide (Lib.compareBytes (gp o).key k<0) != decide (i=0))=true then some (.step ((#[115,105,100,101]:Array UInt8).toList) i (.num 20))
  else none
def vgL (want k:List UInt8) (l r:Option Proof):Option Er:=if(vgS want k 0 l).isNone=true then vgS want k 1 r else vgS want k 0 l
def vgP (want k:List UInt8) (l r:Option Proof):Option Er :=
  if k.length=0∨96<k.length then some (.step ((#[107,101,121]:Array UInt8).toList) k.length (.num 10))
  else if l.isNone=true∧r.isNone=true then(if want=sum256 [] then none else some (.step ((#[101,109,112,116,121]:Array UInt8).toList) 0 (.num 21)))
  else if(l.isNone=true∧sideP false (gp r).turns=false)∨(r.isNone=true∧sideP true (gp l).turns=false) then some (.step ((#[101,110,100]:Array UInt8).toList) 0 (.num 20))
  else if l.isNone=false∧r.isNone=false∧nextP (gp l).turns (gp r).turns=false then some (.step ((#[110,101,120,116]:Array UInt8).toList) 0 (.num 20))
  else vgL want k l r
def VI (want k:List UInt8) (l r:Option Proof) (i:Nat):Prop:=i≤2∧(i=0∨vgS want k 0 l=none)∧(i≤1∨vgS want k 1 r=none)∧vgP want k l r=vgL want k l r
section
variable {want k:List UInt8} {l r:Option Proof} {i:Nat}
theorem VI.start (h:vgP want k l r=vgL want k l r):VI want k l r 0:=⟨by omega,.inl rfl,.inl (by omega),h⟩
theorem VI.it (h:VI want k l r i) (hi:(i:Int)<2):(i=0∧[l,r].getD i none=l)∨(i=1∧[l,r].getD i none=r):=by
  have:i=0∨i=1:=by omega
  rcases this with rfl | rfl
  · exact .inl ⟨rfl,rfl⟩
  · exact .inr ⟨rfl,rfl⟩
theorem VI.hit (h:VI want k l r i) (hi:(i:Int)<2) {e:Er} (hs:vgS want k i ([l,r].getD i none)=some e):vgP want k l r=some e:=by
  rw[h.2.2.2]
  rcases h.it hi with⟨rfl,e1⟩ | ⟨rfl,e1⟩
  · rw[e1] at hs;unfold vgL;rw[if_neg (by rw[show vgS want k 0 l=some e from hs];simp)];exact hs
  · rw [e1] at hs; unfold vgL
    rcases h.2.1 with h0 | h0
    · omega
    · rw[if_pos (by rw[h0];rfl)];exact hs
theorem VI.next (h:VI want k l r i) (hi:(i:Int)<2) (hs:vgS want k i ([l,r].getD i none)=none):VI want k l r (i+1)∧2 - (i+1)<2 - i:=by
  refine⟨?_,by omega⟩
  rcases h.it hi with⟨rfl,e1⟩ | ⟨rfl,e1⟩
  · rw[e1] at hs;exact⟨by omega,.inr hs,.inl (by omega),h.2.2.2⟩
  · rw[e1] at hs;exact⟨by omega,.inr (h.2.1.resolve_left (by omega)),.inr hs,h.2.2.2⟩
theorem VI.stop (h:VI want k l r i) (hi:¬ (i:Int)<2):vgP want k l r=none:=by
  rw[h.2.2.2];unfold vgL
  rw[if_pos (by rw[h.2.1.resolve_left (by omega)];rfl)];exact h.2.2.1.resolve_left (by omega)
end
theorem vs1 {want k:List UInt8} {i:Int} {o:Option Proof} (h:o.isNone=true):vgS want k i o=none:=by unfold vgS;rw[if_pos h]
theorem vs2 {want k:List UInt8} {i:Int} {o:Option Proof} (h:o.isNone=false) (h2:(verP want (gp o)).isNone=false):vgS want k i o=some (.step ((#[115,105,100,101]:Array UInt8).toList) i ((verP want (gp o)).getD (.num 0))):=by unfold vgS;rw[if_neg (by simp[h]),if_pos h2]
def gE (o:Option Proof):Int:=if o.isNone=true then 0 else if encE (gp o)≠0 then encE (gp o) else putE (encB (gp o))
def gB (b:List UInt8) (tag:UInt8) (o:Option Proof):List UInt8:=if o.isNone=true then b else putF b tag (encB (gp o))
def egE (l r:Option Proof):Int:=if gE l≠0 then gE l else gE r
def egB (l r:Option Proof):List UInt8:=if gE l≠0 then[] else if gE r≠0 then[] else gB (gB [] 1 l) 2 r
def gTo (l r:Option Proof):Nat→List UInt8
  | 0=>[]
  | 1=>gB [] 1 l
  | _=>gB (gB [] 1 l) 2 r
def EI (l r:Option Proof) (i:Nat):Prop:=i≤2∧(1≤i→gE l=0)∧(2≤i→gE r=0)
section
variable {l r o:Option Proof} {i:Nat}
theorem encB_len (p:Proof):(encB p).length≤p.key.length+p.value.length+5000:=by
  unfold encB
  split
  · simp
  · split
    · simp
    · split
      · simp
      · split
        · simp
        · have h1 := putF_len [] 1 p.key
          have h2:=putF_len (putF [] 1 p.key) 2 p.value
          have h3:=putF_len (putF (putF [] 1 p.key) 2 p.value) 3 (tnP p)
          have h4:(tnP p).length≤4032:=by
            have:=pack_tn (ts:=p.turns) (by omega);unfold tnP;rwa [List.length_map] at this
          rw[List.length_nil] at h1;omega
theorem EI.start:EI l r 0:=⟨by omega,by omega,by omega⟩
theorem EI.it (h:EI l r i) (hi:(i:Int)<(2:Nat)):(i=0∧[l,r].getD (i:Int).toNat none=l)∨(i=1∧[l,r].getD (i:Int).toNat none=r):=by
  have:i=0∨i=1:=by omega
  rcases this with rfl | rfl
  · exact .inl ⟨rfl,rfl⟩
  · exact .inr ⟨rfl,rfl⟩
theorem EI.next (h:EI l r i) (hi:(i:Int)<(2:Nat)) (hs:gE ([l,r].getD (i:Int).toNat none)=0):EI l r (i+1)∧2 - (i+1)<2 - i:=by
  refine⟨?_,by omega⟩
  rcases h.it hi with⟨rfl,e1⟩ | ⟨rfl,e1⟩
  · rw[e1] at hs;exact⟨by omega,fun _=>hs,by omega⟩
  · rw[e1] at hs;exact⟨by omega,fun _=>h.2.1 (by omega),fun _=>hs⟩
theorem EI.hit (h:EI l r i) (hi:(i:Int)<(2:Nat)) {e:Int} (hs:gE ([l,r].getD (i:Int).toNat none)=e) (h0:e≠0):[]=egB l r∧e=egE l r:=by
  rcases h.it hi with⟨rfl,e1⟩ | ⟨rfl,e1⟩
  · rw [e1] at hs
    refine⟨?_,?_⟩
    · unfold egB;rw[if_pos (by rw[hs];exact h0)]
    · unfold egE;rw[if_pos (by rw[hs];exact h0),hs]
  · rw [e1] at hs
    have hz:=h.2.1 (by omega)
    refine⟨?_,?_⟩
    · unfold egB;rw[if_neg (by rw[hz];decide),if_pos (by rw[hs];exact h0)]
    · unfold egE;rw[if_neg (by rw[hz];decide),hs]
theorem EI.stop (h:EI l r i) (hi:¬ (i:Int)<(2:Nat)):gTo l r i=egB l r∧0=egE l r:=by
  have e:i=2:=by have:=h.1;omega
  subst e
  have h1:=h.2.1 (by omega);have h2:=h.2.2 (by omega)
  refine⟨?_,?_⟩
  · unfold egB;rw[if_neg (by rw[h1];decide),if_neg (by rw[h2];decide)];rfl
  · unfold egE;rw[if_neg (by rw[h1];decide),h2]
theorem gE0 (h:o.isNone=true):gE o=0:=by unfold gE;rw[if_pos h]
theorem gE1 (h:o.isNone=false) (h1:encE (gp o)≠0):gE o=encE (gp o):=by unfold gE;rw[if_neg (by rw[h];decide),if_pos h1]
theorem gE2 (h:o.isNone=false) (h1:encE (gp o)=0):gE o=putE (encB (gp o)):=by unfold gE;rw[if_neg (by rw[h];decide),if_neg (fun q=>q h1)]
theorem gT0 (hi:(i:Int)<(2:Nat)) (h:([l,r].getD (i:Int).toNat none).isNone=true):gTo l r i=gTo l r (i+1):=by
  have:i=0∨i=1:=by omega
  rcases this with rfl | rfl
  · show[]=gB [] 1 l;unfold gB;rw[if_pos (show l.isNone=true from h)]
  · show gB [] 1 l=gB (gB [] 1 l) 2 r;rw[gB,gB,if_pos (show r.isNone=true from h)]
theorem gT1 (hi:(i:Int)<(2:Nat)) (h:([l,r].getD (i:Int).toNat none).isNone=false):putF (gTo l r i) (ofI8 ((i:Int)+1)) (encB (gp ([l,r].getD (i:Int).toNat none)))=gTo l r (i+1):=by
  have:i=0∨i=1:=by omega
  rcases this with rfl | rfl
  · show _=gB [] 1 l;unfold gB;rw[if_neg (show ¬ l.isNone=true by rw[show l.isNone=false from h];decide)];rfl
  · show _=gB (gB [] 1 l) 2 r;rw[show gB (gB [] 1 l) 2 r=putF (gB [] 1 l) 2 (encB (gp r)) by rw[gB,if_neg (show ¬ r.isNone=true by rw[show r.isNone=false from h];decide)]];rfl
theorem gB_len {b:List UInt8} {t:UInt8} (h:(gp o).key.length≤100000∧(gp o).value.length≤100000):(gB b t o).length≤b.length+205003:=by
  unfold gB;split
  · omega
  · have:=putF_len b t (encB (gp o));have:=encB_len (gp o);omega
theorem gT_len (hl:(gp l).key.length≤100000∧(gp l).value.length≤100000) (hr:(gp r).key.length≤100000∧(gp r).value.length≤100000) (hi:(i:Int)<(2:Nat)):(gTo l r i).length+(encB (gp ([l,r].getD (i:Int).toNat none))).length≤900000:=by
  have h1:=gB_len (b:=[]) (t:=1) hl
  have h2:=encB_len (gp l);have h3:=encB_len (gp r)
  rw[List.length_nil] at h1
  have:i=0∨i=1:=by omega
  rcases this with rfl | rfl
  · show([]:List UInt8).length+(encB (gp l)).length≤_;rw[List.length_nil];omega
  · show(gB [] 1 l).length+(encB (gp r)).length≤_;omega
theorem gk (hl:(gp l).key.length≤100000∧(gp l).value.length≤100000) (hr:(gp r).key.length≤100000∧(gp r).value.length≤100000) (hi:(i:Int)<(2:Nat)):(gp ([l,r].getD (i:Int).toNat none)).key.length≤200000∧(gp ([l,r].getD (i:Int).toNat none)).value.length≤200000:=by
  have:i=0∨i=1:=by omega
  rcases this with rfl | rfl
  · exact⟨Nat.le_trans hl.1 (by decide),Nat.le_trans hl.2 (by decide)⟩
  · exact⟨Nat.le_trans hr.1 (by decide),Nat.le_trans hr.2 (by decide)⟩
theorem gt2 (hl:(gp l).turns.length≤1000000) (hr:(gp r).turns.length≤1000000) (hi:(i:Int)<(2:Nat)):(gp ([l,r].getD (i:Int).toNat none)).turns.length≤1000000:=by
  have:i=0∨i=1:=by omega
  rcases this with rfl | rfl
  · exact hl
  · exact hr
end
noncomputable def ccK11_11:Code:=(Tryd.f11.body).getD .skip
theorem EncodeGap_ok (l r:Option Proof) (hl:(gp l).key.length≤100000∧(gp l).value.length≤100000) (hr:(gp r).key.length≤100000∧(gp r).value.length≤100000) (hl2:(gp l).turns.length≤1000000) (hr2:(gp r).turns.length≤1000000):FOk EN 11 ⟨[.pt 35 l,.pt 35 r],[.a [.n 0,.n 1]],Unit,fun _=>([.pt 35 l,.pt 35 r,.ow 5 (egB l r)],.t [.n 2,.i (egE l r)]),fun _=>True⟩:=by
 refine v_fun Tryd.f11 ccK11_11 MX (fun ν F σ w=>?_) Tryd.func11
 refine v_nl ?_
 refine v_loop (fun i:Nat=>([(15,.i i),(13,.n 5),(4,.n 6)],[.ow 38 [l,r],.ow 5 (gTo l r i)])) (fun i=>EI l r i) (fun i=>2 - i) 0 [4,2] (((0:Int)=(↑(0:Nat):Int))∧([l,r]=[l,r])∧([]=gTo l r 0)) ⟨rfl,rfl,rfl⟩ (by exact EI.start) (fun i hk1=>?_)
 have i1:=(‹EI l r i›).1
 refine v_if (decide ((↑i:Int)<(↑(2:Nat):Int))) True trivial (fun h2=>?_) (fun h2=>?_)
 ·have h2:=of_decide_eq_true h2
  refine v_if (([l,r].getD (↑i:Int).toNat none).isNone) (((0:Int)≤(↑i:Int)∧(↑i:Int)<(↑(2:Nat):Int))) (by omega) (fun h3=>?_) (fun h3=>?_)
  ·skip
   exact v_back (i+1) [5,6] ((I64 (↑i+1))∧((↑i:Int)+1=(↑(i+1):Int))∧([l,r]=[l,r])∧(gTo l r i=gTo l r (i+1))) ⟨(by(unfold I64;omega)),rfl,rfl,(by exact gT0 ‹_› ‹_›)⟩ (show EI l r (i+1)∧2 - (i+1)<2 - i from(by exact EI.next ‹_› ‹_› (by first | exact gE0 ‹_› | exact(gE2 ‹_› ‹_›).trans (Decidable.not_not.1 ‹_›))))
  ·skip
   refine v_open 7 (open_pf ([l,r].getD (↑i:Int).toNat none) ‹_›) ((PPt GT 35 ([l,r].getD (↑i:Int).toNat none)=PPt GT 35 ([l,r].getD (↑i:Int).toNat none))) rfl ?_
   refine v_call _ [9,10,11] (Encode_ok (gp ([l,r].getD (↑i:Int).toNat none)) (by exact(gk (l:=l) (r:=r) (i:=i) ‹_› ‹_› ‹_›).1) (by exact(gk (l:=l) (r:=r) (i:=i) ‹_› ‹_› ‹_›).2) (by exact gt2 (l:=l) (r:=r) (i:=i) ‹_› ‹_› ‹_›)) (((gp ([l,r].getD (↑i:Int).toNat none)).key=(gp ([l,r].getD (↑i:Int).toNat none)).key)∧((gp ([l,r].getD (↑i:Int).toNat none)).value=(gp ([l,r].getD (↑i:Int).toNat none)).value)∧((gp ([l,r].getD (↑i:Int).toNat none)).turns=(gp ([l,r].getD (↑i:Int).toNat none)).turns)) ⟨rfl,rfl,rfl⟩ (fun g4 p5=>?_)
   have p5:True:=p5
   refine v_if (decide (encE (gp ([l,r].getD (↑i:Int).toNat none))=0)) True trivial (fun h6=>?_) (fun h6=>?_)
   ·have h6:=of_decide_eq_true h6
    refine v_call _ [6,12] (put_ok (gTo l r i) (ofI8 (↑i+1)) (encB (gp ([l,r].getD (↑i:Int).toNat none))) (by exact gT_len ‹_› ‹_› ‹_›)) ((I64 (↑i+1))∧(ofI8 (↑i+1)=ofI8 (↑i+1))∧(gTo l r i=gTo l r i)∧(encB (gp ([l,r].getD (↑i:Int).toNat none))=encB (gp ([l,r].getD (↑i:Int).toNat none)))) ⟨(by(unfold I64;omega)),rfl,rfl,rfl⟩ (fun g7 p8=>?_)
    have p8:True:=p8
    refine v_if (decide (putE (encB (gp ([l,r].getD (↑i:Int).toNat none)))≠0)) True trivial (fun h9=>?_) (fun h9=>?_)
    ·have h9:=of_decide_eq_true h9
     refine v_leave .rt True trivial ?_
     exact v_ret () [2] ((putE (encB (gp ([l,r].getD (↑i:Int).toNat none)))=egE l r)∧(l=l)∧(r=r)∧([]=egB l r)) ⟨(by exact(EI.hit (i:=i) ‹_› ‹_› (by first | exact gE1 ‹_› ‹_› | exact gE2 ‹_› ‹_›) ‹_›).2),rfl,rfl,(by exact(EI.hit (i:=i) ‹_› ‹_› (by first | exact gE1 ‹_› ‹_› | exact gE2 ‹_› ‹_›) ‹_›).1)⟩ trivial
    ·have h9:=of_decide_eq_false h9
     exact v_back (i+1) [5,13] ((I64 (↑i+1))∧((↑i:Int)+1=(↑(i+1):Int))∧([l,r]=[l,r])∧(putF (gTo l r i) (ofI8 ((↑i:Int)+1)) (encB (gp ([l,r].getD (↑i:Int).toNat none)))=gTo l r (i+1))) ⟨(by(unfold I64;omega)),rfl,rfl,(by exact gT1 ‹_› ‹_›)⟩ (show EI l r (i+1)∧2 - (i+1)<2 - i from(by exact EI.next ‹_› ‹_› (by first | exact gE0 ‹_› | exact(gE2 ‹_› ‹_›).trans (Decidable.not_not.1 ‹_›))))
   ·have h6:=of_decide_eq_false h6
    refine v_if (decide (encE (gp ([l,r].getD (↑i:Int).toNat none))≠0)) True trivial (fun h10=>?_) (fun h10=>?_)
    ·have h10:=of_decide_eq_true h10
     refine v_leave .rt True trivial ?_
     exact v_ret () [2] ((encE (gp ([l,r].getD (↑i:Int).toNat none))=egE l r)∧(l=l)∧(r=r)∧([]=egB l r)) ⟨(by exact(EI.hit (i:=i) ‹_› ‹_› (by first | exact gE1 ‹_› ‹_› | exact gE2 ‹_› ‹_›) ‹_›).2),rfl,rfl,(by exact(EI.hit (i:=i) ‹_› ‹_› (by first | exact gE1 ‹_› ‹_› | exact gE2 ‹_› ‹_›) ‹_›).1)⟩ trivial
    ·have h10:=of_decide_eq_false h10
     omega
 ·have h2:=of_decide_eq_false h2
  refine v_leave (.ex 0) True trivial ?_
  exact v_ret () [6] ((0=egE l r)∧(l=l)∧(r=r)∧(gTo l r i=egB l r)) ⟨(by exact(EI.stop ‹_› ‹_›).2),rfl,rfl,(by exact(EI.stop ‹_› ‹_›).1)⟩ trivial
def Er.code:Er→Int
  | .num c=>c
  | .step _ _ e=>e.code
theorem less_cmp:∀ a b:List UInt8,Op.bytesLess a b=decide (Lib.compareBytes a b<0)
  | [],[]=>rfl
  | [],_::_=>rfl
  | _::_,[]=>rfl
  | a :: xs, b :: ys => by
    unfold Op.bytesLess Lib.compareBytes
    by_cases h1:a<b
    · simp[h1]
    · by_cases h2 : b < a
      · have : ¬ a = b := fun e => by subst e; exact h1 h2
        simp[h1,h2,this]
      · have : a = b := UInt8.le_antisymm (UInt8.not_lt.1 h2) (UInt8.not_lt.1 h1)
        subst this
        simp[h1,less_cmp xs ys]
theorem cmp_zero:∀ {a b:List UInt8},Lib.compareBytes a b=0↔a=b
  | [],[]=>by simp[Lib.compareBytes]
  | [],_::_=>by simp[Lib.compareBytes]
  | _::_,[]=>by simp[Lib.compareBytes]
  | a :: xs, b :: ys => by
    unfold Lib.compareBytes
    by_cases h1:a<b
    · have : ¬ a = b := fun e => by subst e; exact absurd h1 (UInt8.lt_irrefl _)
      simp[h1,this]
    · by_cases h2 : b < a
      · have : ¬ a = b := fun e => by subst e; exact h1 h2
        simp[h1,h2,this]
      · have : a = b := UInt8.le_antisymm (UInt8.not_lt.1 h2) (UInt8.not_lt.1 h1)
        subst this
        simp[h1,cmp_zero (a:=xs) (b:=ys)]
theorem less_t {a b:List UInt8} (h:Op.bytesLess a b=true):Lib.compareBytes a b<0:=by rw[less_cmp] at h;simpa using h
namespace Tr
def lc:Tr→Option Tr
  | leaf _ _=>none
  | node l _=>some l
def rc:Tr→Option Tr
  | leaf _ _=>none
  | node _ r=>some r
end Tr
def rdC (t:Tr) (b:Nat):List SV:=[.n b,.n (b+1),.i t.height,.u t.size,.n (b+2),.n (b+3)]
def AtR (σ:Nat→Nat) (w:World):Tr→Value→Prop
  | .leaf k v,x=>∃ b o kv vv,x=.pointer (some ⟨b,o,none⟩)∧Rd tU8 σ w kv k∧Rd tU8 σ w vv v∧Seg σ w b o (denC (ns4 kv vv (.pointer none) (.pointer none)) (rdC (.leaf k v) 0))
  | .node l r,x=>∃ b o kv vv lv rv,x=.pointer (some ⟨b,o,none⟩)∧Rd tU8 σ w kv (Tr.node l r).key∧Rd tU8 σ w vv []∧AtR σ w l lv∧AtR σ w r rv∧Seg σ w b o (denC (ns4 kv vv lv rv) (rdC (.node l r) 0))
theorem AtR.ptr {σ:Nat→Nat} {w:World} {t:Tr} {x:Value} (h:AtR σ w t x):∃ b o,x=.pointer (some ⟨b,o,none⟩):=by
  cases t with
  | leaf k v=>obtain⟨b,o,_,_,e,_⟩:=h;exact⟨b,o,e⟩
  | node l r=>obtain⟨b,o,_,_,_,_,e,_⟩:=h;exact⟨b,o,e⟩
theorem AtR.step {M:Nat→Prop} {σ σ':Nat→Nat} {w w':World} (st:Stp M σ w σ' w'):∀ {t:Tr} {x:Value},AtR σ w t x→AtR σ' w' t x
  | .leaf _ _,_,⟨b,o,kv,vv,e,h1,h2,h3⟩=>⟨b,o,kv,vv,e,h1.step st,h2.step st,h3.step st⟩
  | .node l r,_,⟨b,o,kv,vv,lv,rv,e,h1,h2,h3,h4,h5⟩=>⟨b,o,kv,vv,lv,rv,e,h1.step st,h2.step st,AtR.step st h3,AtR.step st h4,h5.step st⟩
def gt (o:Option Tr):Tr:=o.getD (.leaf [] [])
namespace Tr
theorem kids {t:Tr} (h:0<t.height):t=node (gt t.lc) (gt t.rc)∧t.lc.isNone=false∧t.rc.isNone=false:=by
  cases t with
  | leaf a b=>simp[height] at h
  | node l r=>exact⟨rfl,rfl,rfl⟩
theorem kid_l {t:Tr} (h:0<t.height):t.lc.isNone=false:=(kids h).2.1
theorem kid_least {t:Tr} (h:0<t.height):(gt t.lc).least=t.least∧(gt t.lc).depth<t.depth:=by
  cases t with
  | leaf a b=>simp[height] at h
  | node l r=>exact⟨rfl,by show l.depth<l.depth+r.depth+1;omega⟩
end Tr
def LI (o k:Option Tr):Prop:=k.isNone=false∧(gt k).least=(gt o).least
theorem LI.next {o k:Option Tr} (h:LI o k) (hp:0<(gt k).height):LI o (gt k).lc∧(gt (gt k).lc).depth<(gt k).depth:=⟨⟨Tr.kid_l hp,by rw[(Tr.kid_least hp).1];exact h.2⟩,(Tr.kid_least hp).2⟩
def cutR (k:List UInt8) (t:Tr):Option Tr:=(t.cut k).getD none
section
variable {k:List UInt8} {t:Tr}
end
def PI (o:Option Tr) (k:List UInt8) (q:List Turn × Option Tr):Prop:=q.2.isNone=false∧q.1++(gt q.2).turns k=(gt o).turns k∧(gt q.2).fin k=(gt o).fin k∧(gt q.2).Ks∧(gt q.2).height<900∧q.1.length+(gt q.2).depth≤(gt o).depth
section
variable {o:Option Tr} {k:List UInt8} {q:List Turn × Option Tr}
theorem PI.start (ho:o.isNone=false) (hk:(gt o).Ks) (hh:(gt o).height<900):PI o k ([],o):=⟨ho,rfl,rfl,hk,hh,by simp⟩
theorem PI.step (h:PI o k q) (hp:0<(gt q.2).height):(gt q.2).turns k=(gt q.2).turn k::(if(gt q.2).rt k=true then(gt (gt q.2).rc).turns k else(gt (gt q.2).lc).turns k)∧(gt q.2).fin k=(if(gt q.2).rt k=true then(gt (gt q.2).rc).fin k else(gt (gt q.2).lc).fin k)∧(gt (gt q.2).lc).depth<(gt q.2).depth∧(gt (gt q.2).rc).depth<(gt q.2).depth:=by
  obtain⟨e,_,_⟩:=Tr.kids hp
  generalize gt (gt q.2).lc=a at *
  generalize gt (gt q.2).rc=b at *
  rw[e];exact⟨rfl,rfl,by simp[Tr.depth];omega,by simp[Tr.depth];omega⟩
theorem PI.stop (h:PI o k q) (hp:¬ 0<(gt q.2).height):(gt q.2).key=((gt o).fin k).key∧(gt q.2).value=((gt o).fin k).value∧q.1=(gt o).turns k:=by
  obtain⟨a1,a2,a3,a4,a5,a6⟩:=h
  have:=(gt q.2).height_nn
  obtain⟨a,b,e⟩:=Tr.leaf_of (s:=gt q.2) (by omega)
  rw[e] at a2 a3 ⊢
  simp only[Tr.turns,Tr.fin,List.append_nil] at a2 a3
  rw[← a3];exact⟨rfl,rfl,a2⟩
end
def findG (k:List UInt8):List Pair→Nat→Int
  | [],_=>-1
  | x::xs,i=>if x.key=k then i else findG k xs (i+1)
def findP (l:List Pair) (k:List UInt8):Int:=findG k l 0
def FI (l:List Pair) (k:List UInt8) (i:Nat):Prop:=findG k (l.drop i) i=findP l k∧i≤l.length
abbrev dP:Pair:=⟨[],[]⟩
theorem FI.hit {l:List Pair} {k:List UInt8} {i:Nat} (h:FI l k i) (hi:(i:Int)<l.length) (he:(l.getD i dP).key=k):(i:Int)=findP l k:=by
  have h:=h.1;rw[drop_cons (d:=dP) hi,findG,if_pos he] at h;exact h
theorem FI.next {l:List Pair} {k:List UInt8} {i:Nat} (h:FI l k i) (hi:(i:Int)<l.length) (he:¬ (l.getD i dP).key=k):FI l k (i+1)∧l.length - (i+1)<l.length - i:=by
  obtain⟨h,h2⟩:=h;rw[drop_cons (d:=dP) hi,findG,if_neg he] at h;exact⟨⟨h,by omega⟩,by omega⟩
theorem FI.stop {l:List Pair} {k:List UInt8} {i:Nat} (h:FI l k i) (hi:¬ (i:Int)<l.length) : -1=findP l k:=by
  have h:=h.1;rw[List.drop_of_length_le (by omega),findG] at h;exact h
noncomputable def ccR7_12:Code:=(Tryd.f12.body).getD .skip
theorem Find_ok (l:List Pair) (k:List UInt8) (hl:l.length≤1000000):FOk EN 12 ⟨[.rd 31 (l),.rd 5 (k)],[.n 0,.n 1],Unit,fun _=>([.rd 31 (l),.rd 5 (k)],.i (findP l k)),fun _=>True⟩:=by
 refine v_fun Tryd.f12 ccR7_12 MX (fun ν F σ w=>?_) Tryd.func12
 refine v_nl ?_
 refine v_loop (fun i:Nat=>([(5,.i i)],[])) (fun i=>FI l k i) (fun i=>l.length - i) 0 [] (((0:Int)=(↑(0:Nat):Int))) rfl (by exact⟨rfl,Nat.zero_le _⟩) (fun i hk1=>?_)
 have i1:=(‹FI l k i›).2
 refine v_if (decide ((↑i:Int)<(↑l.length:Int))) True trivial (fun h2=>?_) (fun h2=>?_)
 ·have h2:=of_decide_eq_true h2
  refine v_plan (.fs [0,1,2,3,4,5,6,7,8] .e) [] True trivial ?_
  refine v_if (decide ((l.getD (↑i:Int).toNat (Pair.mk [] [])).key=k)) ((0≤(↑i:Int)∧(↑i:Int)<(↑l.length:Int))) (by omega) (fun h3=>?_) (fun h3=>?_)
  ·have h3:=of_decide_eq_true h3
   refine v_leave .rt True trivial ?_
   exact v_ret () [] ((↑i=findP l k)∧(l=l)∧(k=k)) ⟨(by exact FI.hit ‹_› ‹_› ‹_›),rfl,rfl⟩ trivial
  ·have h3:=of_decide_eq_false h3
   exact v_back (i+1) [] ((I64 (↑i+1))∧((↑i:Int)+1=(↑(i+1):Int))) ⟨(by(unfold I64;omega)),rfl⟩ (show FI l k (i+1)∧l.length - (i+1)<l.length - i from(by exact FI.next ‹_› ‹_› ‹_›))
 ·have h2:=of_decide_eq_false h2
  refine v_leave (.ex 0) True trivial ?_
  exact v_ret () [] ((-1=findP l k)∧(l=l)∧(k=k)) ⟨(by exact FI.stop ‹_› ‹_›),rfl,rfl⟩ trivial
def SI (a b:Proof) (i:Nat):Prop:=(a.turns.drop i=b.turns.drop i↔a=b)∧i≤a.turns.length∧a.turns.length=b.turns.length
section
variable {a b:Proof} {i:Nat}
theorem SI.start (h1:¬ a.key≠b.key) (h2:¬ a.value≠b.value) (h3:¬ (a.turns.length:Int)≠b.turns.length):SI a b 0:=by
  refine⟨⟨fun h=>?_,fun h=>by rw[h]⟩,Nat.zero_le _,by omega⟩
  cases a;cases b;simp only[Decidable.not_not] at *;subst h1;subst h2;simp only[List.drop_zero] at h;rw[h]
theorem SI.ne (h:SI a b i) (hi:(i:Int)<a.turns.length) (hn:teq (a.turns.getD i dT) (b.turns.getD i dT)=false):false=decide (a=b):=by
  refine(decide_eq_false (fun e=>?_)).symm
  subst e
  have:=teq_iff.2 (rfl:a.turns.getD i dT=a.turns.getD i dT);rw[this] at hn;cases hn
theorem SI.next (h:SI a b i) (hi:(i:Int)<a.turns.length) (hn:teq (a.turns.getD i dT) (b.turns.getD i dT)=true):SI a b (i+1)∧a.turns.length - (i+1)<a.turns.length - i:=by
  obtain⟨h1,h2,h3⟩:=h
  refine⟨⟨?_,by omega,h3⟩,by omega⟩
  rw[← h1,drop_cons (d:=dT) hi,drop_cons (l:=b.turns) (i:=i) (d:=dT) (by omega),teq_iff.1 hn];simp
theorem SI.stop (h:SI a b i) (hi:¬ (i:Int)<a.turns.length):true=decide (a=b):=by
  refine(decide_eq_true (h.1.1 ?_)).symm
  obtain⟨h1,h2,h3⟩:=h
  rw[List.drop_of_length_le (by omega),List.drop_of_length_le (by omega)]
end
def ben (l:List Turn) (i:Nat):Int:=if(i:Int)<l.length then(l.getD i dT).height else 0
def bad (l:List Turn) (i:Nat):Prop:=(l.getD i dT).height≤ben l (i+1)∨64<(l.getD i dT).height
def hashN (p:Proof):List UInt8:=p.turns.foldr stepH (nsum 0 1 p.key p.value z32 z32)
section
variable {p:Proof} {want:List UInt8} {i:Nat} {x:List UInt8}
/-- no fault so far -/
def GI (l:List Turn) (i:Nat):Prop:=(∀ j,j<i→¬ bad l j)∧i≤l.length
theorem GI.start {l:List Turn}:GI l 0:=⟨fun j hj=>by omega,Nat.zero_le _⟩
theorem GI.all {l:List Turn} (h:GI l i) (hi:¬ (i:Int)<l.length):∀ j,j<l.length→¬ bad l j:=fun j hj=>h.1 j (by have:=h.2;omega)
/-- the sums so far, from the end -/
def HI (p:Proof) (q:Nat × List UInt8):Prop:=q.2=(p.turns.drop q.1).foldr stepH (nsum 0 1 p.key p.value z32 z32)∧q.1≤p.turns.length∧q.2.length=32
theorem HI.start:HI p (p.turns.length,nsum 0 1 p.key p.value z32 z32):=⟨by simp,Nat.le_refl _,show(nsum 0 1 p.key p.value z32 z32).length=32 from Tr.nsum_len _ _ _ _ _ _⟩
theorem HI.next {n:Nat} (h:HI p (n,x)) (h0:0≤(n:Int) - 1):HI p (n - 1,stepH (tAt p n) x)∧n - 1<n:=by
  obtain⟨m,rfl,e⟩:=RI.succ (p:=p) h0
  obtain⟨h1,h2,h3⟩:=h
  refine⟨⟨?_,by omega,show(stepH _ _).length=32 by unfold stepH;split <;> exact Tr.nsum_len _ _ _ _ _ _⟩,by omega⟩
  have h1:x=(p.turns.drop (m+1)).foldr stepH (nsum 0 1 p.key p.value z32 z32):=h1
  show stepH _ x=((p.turns.drop m)).foldr stepH _
  rw[e,drop_cons (l:=p.turns) (i:=m) (d:=dT) (by omega),List.foldr_cons,h1]
theorem HI.stop {n:Nat} (h:HI p (n,x)) (h0:¬ 0≤(n:Int) - 1):hashN p=x:=by
  have:n=0:=by omega
  subst this;exact h.1.symm
end
def keyA (a:Act):List UInt8:=if 0<a.raw.length then a.raw else[107,97+a.k % 26,97+a.k / 26]
noncomputable def ccR11_20:Code:=(Tryd.f20.body).getD .skip
theorem Key_ok (a:Act):FOk EN 20 ⟨[.rd 5 (a.raw),.rd 5 (a.value)],[.a [.c a.kind,.c a.k,.n 0,.n 1]],Unit,fun _=>([.rd 5 (a.raw),.rd 5 (a.value),.rd 5 (keyA a)],.n 2),fun _=>True⟩:=by
 refine v_fun Tryd.f20 ccR11_20 MX (fun ν F σ w=>?_) Tryd.func20
 refine v_nl ?_
 refine v_if (decide (0<(↑a.raw.length:Int))) True trivial (fun h1=>?_) (fun h1=>?_)
 ·have h1:=of_decide_eq_true h1
  exact v_ret () [0] ((a.raw=a.raw)∧(a.value=a.value)∧(a.raw=keyA a)) ⟨rfl,rfl,(by(unfold keyA;rw[if_pos (by omega)]))⟩ trivial
 ·have h1:=of_decide_eq_false h1
  exact v_ret () [4] (((26:UInt8)≠(0:UInt8))∧((26:UInt8)≠(0:UInt8))∧(a.raw=a.raw)∧(a.value=a.value)∧([107,97+a.k % 26,97+a.k / 26]=keyA a)) ⟨(by decide),(by decide),rfl,rfl,(by(unfold keyA;rw[if_neg (by omega)]))⟩ trivial
def putPair (k v:List UInt8):List Pair→List Pair
  | []=>[⟨k,v⟩]
  | x::xs=>if Op.bytesLess x.key k=true then x::putPair k v xs else⟨k,v⟩::(if x.key=k then xs else x::xs)
def cutPair (k:List UInt8) (l:List Pair):List Pair:=l.filter fun x=>decide (x.key≠k)
def UI (k v:List UInt8) (l:List Pair) (q:Nat × List Pair):Prop:=q.2++putPair k v (l.drop q.1)=putPair k v l∧q.1≤l.length∧q.2.length=q.1
section
variable {k v:List UInt8} {l xs:List Pair} {i:Nat}
theorem UI.start:UI k v l (0,[]):=⟨rfl,Nat.zero_le _,rfl⟩
theorem UI.next (h:UI k v l (i,xs)) (hi:(i:Int)<l.length) (hl:Op.bytesLess (l.getD i dP).key k=true):UI k v l (i+1,xs++[l.getD i dP])∧l.length - (i+1)<l.length - i:=by
  obtain⟨h1,h2,h3⟩:=h
  have h1:xs++putPair k v (l.drop i)=putPair k v l:=h1
  have h3:xs.length=i:=h3
  refine⟨⟨?_,by omega,by simp[h3]⟩,by omega⟩
  show(xs++[l.getD i dP])++putPair k v (l.drop (i+1))=_
  rw[← h1,drop_cons (d:=dP) hi,putPair,if_pos hl];simp
theorem UI.end0 (h:UI k v l (i,xs)) (hi:¬ (i:Int)<l.length):xs++[⟨k,v⟩]++l.drop i=putPair k v l:=by
  have h1:xs++putPair k v (l.drop i)=putPair k v l:=h.1
  rw[← h1,List.drop_of_length_le (by omega)];simp[putPair]
theorem UI.end1 (h:UI k v l (i,xs)) (hi:(i:Int)<l.length) (hl:Op.bytesLess (l.getD i dP).key k=false) (he:(l.getD i dP).key=k):xs++[⟨k,v⟩]++l.drop (i+1)=putPair k v l:=by
  have h1:xs++putPair k v (l.drop i)=putPair k v l:=h.1
  rw[← h1,drop_cons (d:=dP) hi,putPair,if_neg (by rw[hl];simp),if_pos he];simp
theorem UI.end2 (h:UI k v l (i,xs)) (hi:(i:Int)<l.length) (hl:Op.bytesLess (l.getD i dP).key k=false) (he:¬ (l.getD i dP).key=k):xs++[⟨k,v⟩]++l.drop i=putPair k v l:=by
  have h1:xs++putPair k v (l.drop i)=putPair k v l:=h.1
  rw[← h1,drop_cons (d:=dP) hi,putPair,if_neg (by rw[hl];simp),if_neg he];simp
end
noncomputable def ccR11_22:Code:=(Tryd.f22.body).getD .skip
theorem PutPair_ok (l:List Pair) (k v:List UInt8) (hl:l.length≤100000):FOk EN 22 ⟨[.rd 31 (l),.rd 5 (k),.rd 5 (v)],[.n 0,.n 1,.n 2],Unit,fun _=>([.rd 31 (l),.rd 5 (k),.rd 5 (v),.ow 31 (putPair k v l)],.n 3),fun _=>True⟩:=by
 refine v_fun Tryd.f22 ccR11_22 MX (fun ν F σ w=>?_) Tryd.func22
 refine v_nl ?_
 refine v_loop (fun q:Nat × List Pair=>([(8,.i q.1),(7,.n 4)],[.ow 31 q.2])) (fun q=>UI k v l q) (fun q=>l.length - q.1) (0,[]) [3] (((0:Int)=(↑(0:Nat):Int))∧(Eq (α:=List Pair) [] [])) ⟨rfl,rfl⟩ (by exact UI.start) (fun q hk1=>?_)
 have i1:=(‹UI k v l q›).2
 refine v_plan (.fs [0,1,2,3,4,5,6,7,8,9,10,11,12,13,14] .e) [4] True trivial ?_
 refine v_guard 13 (decide ((↑q.fst:Int)<(↑l.length:Int))) True trivial (fun h2=>?_) (fun h2=>?_)
 ·have h2:=of_decide_eq_true h2
  refine v_if (Op.bytesLess (l.getD (↑q.fst:Int).toNat (Pair.mk [] [])).key k) ((0≤(↑q.fst:Int)∧(↑q.fst:Int)<(↑l.length:Int))) (by omega) (fun h3=>?_) (fun h3=>?_)
  ·skip
   exact v_back ((q.fst+1,q.snd++[Pair.mk (l.getD (↑q.fst:Int).toNat (Pair.mk [] [])).key (l.getD (↑q.fst:Int).toNat (Pair.mk [] [])).value])) [12] ((0≤(↑q.fst:Int)∧(↑q.fst:Int)<(↑l.length:Int))∧(q.snd.length+1≤1000000)∧(I64 (↑q.fst+1))∧((↑q.fst:Int)+1=(↑(q.fst+1):Int))∧(q.snd++[Pair.mk (l.getD (↑q.fst:Int).toNat (Pair.mk [] [])).key (l.getD (↑q.fst:Int).toNat (Pair.mk [] [])).value]=q.snd++[Pair.mk (l.getD (↑q.fst:Int).toNat (Pair.mk [] [])).key (l.getD (↑q.fst:Int).toNat (Pair.mk [] [])).value])) ⟨(by omega),(by omega),(by(unfold I64;omega)),rfl,rfl⟩ (show UI k v l (q.fst+1,q.snd++[Pair.mk (l.getD (↑q.fst:Int).toNat (Pair.mk [] [])).key (l.getD (↑q.fst:Int).toNat (Pair.mk [] [])).value])∧l.length - (q.fst+1)<l.length - q.fst from(by exact UI.next ‹_› ‹_› ‹_›))
  ·skip
   refine v_leave (.ex 0) True trivial ?_
   refine v_plan (.fs [0,1,2,3,4,5,6,7,8,9,10,11,12,13,14] .e) [8,9] ((q.snd.length+1≤1000000)) (by omega) ?_
   refine v_guard 43 (decide ((↑q.fst:Int)<(↑l.length:Int))) True trivial (fun h4=>?_) (fun h4=>?_)
   ·have h4:=of_decide_eq_true h4
    refine v_if (decide ((l.getD (↑q.fst:Int).toNat (Pair.mk [] [])).key=k)) ((0≤(↑q.fst:Int)∧(↑q.fst:Int)<(↑l.length:Int))) (by omega) (fun h5=>?_) (fun h5=>?_)
    ·have h5:=of_decide_eq_true h5
     exact v_ret () [14] ((I64 (↑q.fst+1))∧(0≤(↑q.fst:Int)+1∧(↑q.fst:Int)+1≤(↑l.length:Int))∧((q.snd++[Pair.mk k v]).length+(List.drop ((↑q.fst:Int)+1).toNat l).length≤1000000)∧(l=l)∧(k=k)∧(v=v)∧(q.snd++[Pair.mk k v]++List.drop ((↑q.fst:Int)+1).toNat l=putPair k v l)) ⟨(by(unfold I64;omega)),(by omega),(by(simp;omega)),rfl,rfl,rfl,(by exact UI.end1 ‹_› ‹_› ‹_› ‹_›)⟩ trivial
    ·have h5:=of_decide_eq_false h5
     exact v_ret () [14] ((0≤(↑q.fst:Int)∧(↑q.fst:Int)≤(↑l.length:Int))∧((q.snd++[Pair.mk k v]).length+(List.drop (↑q.fst:Int).toNat l).length≤1000000)∧(l=l)∧(k=k)∧(v=v)∧(q.snd++[Pair.mk k v]++List.drop (↑q.fst:Int).toNat l=putPair k v l)) ⟨(by omega),(by(simp;omega)),rfl,rfl,rfl,(by exact UI.end2 ‹_› ‹_› ‹_› ‹_›)⟩ trivial
   ·have h4:=of_decide_eq_false h4
    omega
 ·have h2:=of_decide_eq_false h2
  refine v_leave (.ex 0) True trivial ?_
  refine v_plan (.fs [0,1,2,3,4,5,6,7,8,9,10,11,12,13,14] .e) [5,6] ((q.snd.length+1≤1000000)) (by omega) ?_
  refine v_guard 43 (decide ((↑q.fst:Int)<(↑l.length:Int))) True trivial (fun h6=>?_) (fun h6=>?_)
  ·have h6:=of_decide_eq_true h6
   omega
  ·have h6:=of_decide_eq_false h6
   exact v_ret () [8] ((0≤(↑q.fst:Int)∧(↑q.fst:Int)≤(↑l.length:Int))∧((q.snd++[Pair.mk k v]).length+(List.drop (↑q.fst:Int).toNat l).length≤1000000)∧(l=l)∧(k=k)∧(v=v)∧(q.snd++[Pair.mk k v]++List.drop (↑q.fst:Int).toNat l=putPair k v l)) ⟨(by omega),(by(simp;omega)),rfl,rfl,rfl,(by exact UI.end0 ‹_› ‹_›)⟩ trivial
def TI5 (k:List UInt8) (l:List Pair) (q:Nat × List Pair):Prop:=q.2++cutPair k (l.drop q.1)=cutPair k l∧q.1≤l.length∧q.2.length≤q.1
theorem TI5.start {k:List UInt8} {l:List Pair}:TI5 k l (0,[]):=⟨rfl,Nat.zero_le _,Nat.le_refl _⟩
theorem TI5.next {k:List UInt8} {l xs:List Pair} {i:Nat} (h:TI5 k l (i,xs)) (hi:(i:Int)<l.length) (he:(l.getD i dP).key≠k):TI5 k l (i+1,xs++[l.getD i dP])∧l.length - (i+1)<l.length - i:=by
  obtain⟨h1,h2,h3⟩:=h
  have h1:xs++cutPair k (l.drop i)=cutPair k l:=h1
  have h3:xs.length≤i:=h3
  refine⟨⟨?_,by omega,by simp;exact h3⟩,by omega⟩
  show(xs++[l.getD i dP])++cutPair k (l.drop (i+1))=_
  rw[← h1,drop_cons (d:=dP) hi];simp only[cutPair,List.filter_cons];rw[if_pos (by exact decide_eq_true he)];simp
theorem TI5.skip {k:List UInt8} {l xs:List Pair} {i:Nat} (h:TI5 k l (i,xs)) (hi:(i:Int)<l.length) (he:¬ (l.getD i dP).key≠k):TI5 k l (i+1,xs)∧l.length - (i+1)<l.length - i:=by
  obtain⟨h1,h2,h3⟩:=h
  have h1:xs++cutPair k (l.drop i)=cutPair k l:=h1
  have h3:xs.length≤i:=h3
  refine⟨⟨?_,by omega,by show xs.length≤i+1;omega⟩,by omega⟩
  show xs++cutPair k (l.drop (i+1))=_
  rw[← h1,drop_cons (d:=dP) hi];simp only[cutPair,List.filter_cons];rw[if_neg (by simpa using he)]
theorem TI5.stop {k:List UInt8} {l xs:List Pair} {i:Nat} (h:TI5 k l (i,xs)) (hi:¬ (i:Int)<l.length):xs=cutPair k l:=by
  have h1:xs++cutPair k (l.drop i)=cutPair k l:=h.1
  rw[← h1,List.drop_of_length_le (by omega)];simp[cutPair]
noncomputable def ccR11_24:Code:=(Tryd.f24.body).getD .skip
theorem CutPair_ok (l:List Pair) (k:List UInt8) (hl:l.length≤100000):FOk EN 24 ⟨[.rd 31 (l),.rd 5 (k)],[.n 0,.n 1],Unit,fun _=>([.rd 31 (l),.rd 5 (k),.ow 31 (cutPair k l)],.n 2),fun _=>True⟩:=by
 refine v_fun Tryd.f24 ccR11_24 MX (fun ν F σ w=>?_) Tryd.func24
 refine v_nl ?_
 refine v_loop (fun q:Nat × List Pair=>([(6,.i q.1),(5,.n 3)],[.ow 31 q.2])) (fun q=>TI5 k l q) (fun q=>l.length - q.1) (0,[]) [2] (((0:Int)=(↑(0:Nat):Int))∧(Eq (α:=List Pair) [] [])) ⟨rfl,rfl⟩ (by exact TI5.start) (fun q hk1=>?_)
 have i1:=(‹TI5 k l q›).2
 refine v_if (decide ((↑q.fst:Int)<(↑l.length:Int))) True trivial (fun h2=>?_) (fun h2=>?_)
 ·have h2:=of_decide_eq_true h2
  refine v_plan (.fs [0,1,2,3,4,5,6,7,8] .e) [3] True trivial ?_
  refine v_if (decide ((l.getD (↑q.fst:Int).toNat (Pair.mk [] [])).key≠k)) ((0≤(↑q.fst:Int)∧(↑q.fst:Int)<(↑l.length:Int))) (by omega) (fun h3=>?_) (fun h3=>?_)
  ·have h3:=of_decide_eq_true h3
   exact v_back ((q.fst+1,q.snd++[Pair.mk (l.getD (↑q.fst:Int).toNat (Pair.mk [] [])).key (l.getD (↑q.fst:Int).toNat (Pair.mk [] [])).value])) [11] ((0≤(↑q.fst:Int)∧(↑q.fst:Int)<(↑l.length:Int))∧(q.snd.length+1≤1000000)∧(I64 (↑q.fst+1))∧((↑q.fst:Int)+1=(↑(q.fst+1):Int))∧(q.snd++[Pair.mk (l.getD (↑q.fst:Int).toNat (Pair.mk [] [])).key (l.getD (↑q.fst:Int).toNat (Pair.mk [] [])).value]=q.snd++[Pair.mk (l.getD (↑q.fst:Int).toNat (Pair.mk [] [])).key (l.getD (↑q.fst:Int).toNat (Pair.mk [] [])).value])) ⟨(by omega),(by omega),(by(unfold I64;omega)),rfl,rfl⟩ (show TI5 k l (q.fst+1,q.snd++[Pair.mk (l.getD (↑q.fst:Int).toNat (Pair.mk [] [])).key (l.getD (↑q.fst:Int).toNat (Pair.mk [] [])).value])∧l.length - (q.fst+1)<l.length - q.fst from(by exact TI5.next ‹_› ‹_› ‹_›))
  ·have h3:=of_decide_eq_false h3
   exact v_back ((q.fst+1,q.snd)) [3] ((I64 (↑q.fst+1))∧((↑q.fst:Int)+1=(↑(q.fst+1):Int))∧(q.snd=q.snd)) ⟨(by(unfold I64;omega)),rfl,rfl⟩ (show TI5 k l (q.fst+1,q.snd)∧l.length - (q.fst+1)<l.length - q.fst from(by exact TI5.skip ‹_› ‹_› ‹_›))
 ·have h2:=of_decide_eq_false h2
  refine v_leave (.ex 0) True trivial ?_
  exact v_ret () [3] ((l=l)∧(k=k)∧(q.snd=cutPair k l)) ⟨rfl,rfl,(by exact TI5.stop ‹_› ‹_›)⟩ trivial
def isGt (a b:List UInt8):Bool:=!(Op.bytesLess a b || decide (a=b))
def bsG (k:List UInt8):List Pair→Nat→Int × Int→Int × Int
  | [],_,s=>s
  | x::xs,i,s=>bsG k xs (i+1) (if Op.bytesLess x.key k=true then(i:Int) else s.1,if isGt x.key k=true∧s.2<0 then(i:Int) else s.2)
def besideP (l:List Pair) (k:List UInt8):Int × Int:=bsG k l 0 (-1,-1)
def BI (l:List Pair) (k:List UInt8) (q:Nat × Int × Int):Prop:=bsG k (l.drop q.1) q.1 q.2=besideP l k∧q.1≤l.length
section
variable {l:List Pair} {k:List UInt8} {i:Nat} {a b:Int}
theorem BI.start:BI l k (0,-1,-1):=⟨rfl,Nat.zero_le _⟩
theorem BI.next (h:BI l k (i,a,b)) (hi:(i:Int)<l.length):BI l k (i+1,(if Op.bytesLess (l.getD i dP).key k=true then(i:Int) else a),(if isGt (l.getD i dP).key k=true∧b<0 then(i:Int) else b))∧l.length - (i+1)<l.length - i:=by
  obtain⟨h1,h2⟩:=h
  rw[drop_cons (d:=dP) hi,bsG] at h1
  exact⟨⟨h1,by omega⟩,by omega⟩
theorem BI.n1 (h:BI l k (i,a,b)) (hi:(i:Int)<l.length) (h1:Op.bytesLess (l.getD i dP).key k=true) (h2:isGt (l.getD i dP).key k=true) (h3:b<0):BI l k (i+1,(i:Int),(i:Int))∧l.length - (i+1)<l.length - i:=by
  have:=h.next hi;rwa [if_pos h1,if_pos ⟨h2,h3⟩] at this
theorem BI.n2 (h:BI l k (i,a,b)) (hi:(i:Int)<l.length) (h1:Op.bytesLess (l.getD i dP).key k=true) (h2:isGt (l.getD i dP).key k=false∨¬ b<0):BI l k (i+1,(i:Int),b)∧l.length - (i+1)<l.length - i:=by
  have:=h.next hi;rwa [if_pos h1,if_neg (by rintro ⟨x,y⟩;rcases h2 with h2 | h2;rw[h2] at x;cases x;exact h2 y)] at this
theorem BI.n3 (h:BI l k (i,a,b)) (hi:(i:Int)<l.length) (h1:Op.bytesLess (l.getD i dP).key k=false) (h2:isGt (l.getD i dP).key k=true) (h3:b<0):BI l k (i+1,a,(i:Int))∧l.length - (i+1)<l.length - i:=by
  have:=h.next hi;rwa [if_neg (by rw[h1];simp),if_pos ⟨h2,h3⟩] at this
theorem BI.stop (h:BI l k (i,a,b)) (hi:¬ (i:Int)<l.length):a=(besideP l k).1∧b=(besideP l k).2:=by
  have h1:=h.1;rw[List.drop_of_length_le (by omega),bsG] at h1;rw[← h1];exact⟨rfl,rfl⟩
end
namespace Tr
theorem bal_depth (l r:Tr):(l.bal r).depth=l.depth+r.depth+1:=by
  unfold bal
  split
  · cases l with
    | leaf a b=>rfl
    | node a b =>
      dsimp only
      split
      · cases b with
        | leaf c d=>rfl
        | node c d=>simp only[depth];omega
      · simp only[depth];omega
  · split
    · cases r with
      | leaf a b=>rfl
      | node a b =>
        dsimp only
        split
        · cases a with
          | leaf c d=>rfl
          | node c d=>simp only[depth];omega
        · simp only[depth];omega
    · rfl
theorem put_depth (k v:List UInt8):∀ t:Tr,(t.put k v).depth≤t.depth+1
  | leaf a b=>by unfold put;split;simp[depth];split;simp[depth];simp[depth]
  | node l r => by
    have h1:=put_depth k v l;have h2:=put_depth k v r
    unfold put;split <;> rw[bal_depth] <;> simp only[depth] <;> omega
theorem cut_depth {k:List UInt8}:∀ {t t':Tr},t.cut k=some (some t')→t'.depth≤t.depth
  | leaf a b,t',e=>by unfold cut at e;split at e <;> simp at e
  | node l r, t', e => by
    unfold cut at e
    split at e
    · split at e
      · simp at e
      · simp at e;subst e;simp only[depth];omega
      · rename_i l' hl;simp at e;subst e;rw[bal_depth];have:=cut_depth hl;simp only[depth];omega
    · split at e
      · simp at e
      · simp at e;subst e;simp only[depth];omega
      · rename_i r' hr;simp at e;subst e;rw[bal_depth];have:=cut_depth hr;simp only[depth];omega
theorem height_depth:∀ t:Tr,t.height≤t.depth
  | leaf _ _=>Int.le_refl _
  | node l r=>by have h1:=height_depth l;have h2:=height_depth r;simp only[height,depth];omega
theorem leaves_len:∀ t:Tr,t.leaves.length=t.depth+1
  | leaf _ _=>rfl
  | node l r=>by simp[leaves,leaves_len l,leaves_len r,depth];omega
end Tr
/-- A tree of at most n keys, none too long. -/
def okN (n:Nat) (o:Option Tr):Prop:=∀ t,o=some t→t.Ks∧t.depth+1≤n
theorem okN.O {n:Nat} {o:Option Tr} (h:okN n o) (hn:n≤600):okO o:=fun t e=>by
  obtain⟨h1,h2⟩:=h t e
  have:=t.height_depth
  exact⟨h1,by omega,by omega⟩
theorem okN.leaves {n:Nat} {o:Option Tr} (h:okN n o):(leavesO o).length≤n:=by
  cases o with
  | none=>exact Nat.zero_le _
  | some t=>obtain⟨_,h2⟩:=h t rfl;show t.leaves.length≤n;rw[t.leaves_len];exact h2
theorem okN.put {n:Nat} {o:Option Tr} {k v:List UInt8} (h:okN n o) (hk:k.length≤1000) (hv:v.length≤1000):okN (n+1) (putO k v o):=fun t e=>by
  cases o with
  | none=>injection e with e;subst e;exact⟨⟨hk,hv⟩,by simp[Tr.depth]⟩
  | some s =>
    injection e with e;subst e
    obtain⟨h1,h2⟩:=h s rfl
    have:=s.put_depth k v
    exact⟨Tr.put_Ks ⟨hk,hv⟩ h1,by omega⟩
theorem okN.cut {n:Nat} {o:Option Tr} {k:List UInt8} (h:okN n o):okN (n+1) (cutO k o):=fun t e=>by
  cases o with
  | none=>simp[cutO] at e
  | some s =>
    obtain⟨h1,h2⟩:=h s rfl
    have e:(match s.cut k with | none=>some s | some r=>r)=some t:=e
    cases c:s.cut k with
    | none=>rw[c] at e;injection e with e;subst e;exact⟨h1,by omega⟩
    | some r=>rw[c] at e;have e:r=some t:=e;subst e;exact⟨Tr.cut_Ks h1 c,by have:=Tr.cut_depth c;omega⟩
theorem putPair_len (k v:List UInt8):∀ l:List Pair,(putPair k v l).length≤l.length+1
  | []=>Nat.le_refl _
  | x::xs=>by have:=putPair_len k v xs;unfold putPair;split;simpa using this;split <;> simp
def valA (a:Act):List UInt8:=a.value.take (if 100<(a.value.length:Int) then 100 else(a.value.length:Int)).toNat
def stepA (a:Act) (s:Option Tr × List Pair):Option Tr × List Pair :=
  if a.kind % 6<4 then(putO (keyA a) (valA a) s.1,putPair (keyA a) (valA a) s.2) else(cutO (keyA a) s.1,cutPair (keyA a) s.2)
def growG:Nat→List Act→Option Tr × List Pair→Option Tr × List Pair
  | 0,_,s=>s
  | _,[],s=>s
  | n+1,a::l,s=>if 90<(keyA a).length then s else growG n l (stepA a s)
def growT (acts:List Act) (most:Nat):Option Tr × List Pair:=growG most acts (none,[])
abbrev dA:Act:=⟨0,0,[],[]⟩
def GrI (acts:List Act) (m:Nat) (q:Nat × Option Tr × List Pair):Prop:=growG (m - q.1) (acts.drop q.1) q.2=growT acts m∧q.1≤m∧q.1≤acts.length∧okN q.1 q.2.1∧q.2.2.length≤q.1
theorem keyA_pos (a:Act):1≤(keyA a).length:=by unfold keyA;split;assumption;simp
theorem valA_len (a:Act):(valA a).length≤100:=by unfold valA;rw[List.length_take];split <;> omega
section
variable {acts:List Act} {m i:Nat} {o:Option Tr} {l:List Pair}
theorem GrI.start:GrI acts m (0,none,[]):=⟨rfl,Nat.zero_le _,Nat.zero_le _,fun t e=>by simp at e,Nat.le_refl _⟩
theorem GrI.stop1 (h:GrI acts m (i,o,l)) (hi:¬ (i:Int)<acts.length):growT acts m=(o,l):=by
  have h:=h.1;rw[List.drop_of_length_le (by omega)] at h;rw[← h];cases(m - i) <;> rfl
theorem GrI.stop2 (h:GrI acts m (i,o,l)) (hi:(m:Int)≤i):growT acts m=(o,l):=by
  have h:=h.1;rw[show m - i=0 by omega] at h;rw[← h];rfl
theorem GrI.stop3 (h:GrI acts m (i,o,l)) (hi:(i:Int)<acts.length) (hm:¬ (m:Int)≤i) (hk:90<((keyA (acts.getD i dA)).length:Int)):growT acts m=(o,l):=by
  have h:=h.1;rw[show m - i=(m - i - 1)+1 by omega,drop_cons (d:=dA) hi,growG,if_pos (by omega)] at h;rw[← h]
theorem GrI.next (h:GrI acts m (i,o,l)) (hi:(i:Int)<acts.length) (hm:¬ (m:Int)≤i) (hk:¬ 90<((keyA (acts.getD i dA)).length:Int)):growG (m - (i+1)) (acts.drop (i+1)) (stepA (acts.getD i dA) (o,l))=growT acts m:=by
  have h:=h.1;rw[show m - i=(m - i - 1)+1 by omega,drop_cons (d:=dA) hi,growG,if_neg (by omega)] at h
  rw[← h,show m - (i+1)=m - i - 1 by omega]
theorem GrI.put (h:GrI acts m (i,o,l)) (hi:(i:Int)<acts.length) (hm:¬ (m:Int)≤i) (hk:¬ 90<((keyA (acts.getD i dA)).length:Int)) (h6:(acts.getD i dA).kind % 6<4):GrI acts m (i+1,putO (keyA (acts.getD i dA)) (valA (acts.getD i dA)) o,putPair (keyA (acts.getD i dA)) (valA (acts.getD i dA)) l)∧acts.length - (i+1)<acts.length - i:=by
  have hn:=h.next hi hm hk
  obtain⟨a1,a2,a3,a4,a5⟩:=h
  rw[stepA,if_pos h6] at hn
  have a5:l.length≤i:=a5
  have:=putPair_len (keyA (acts.getD i dA)) (valA (acts.getD i dA)) l
  refine⟨⟨hn,by show i+1≤m;omega,by show i+1≤acts.length;omega,okN.put a4 (by omega) (by have:=valA_len (acts.getD i dA);omega),by show(putPair _ _ l).length≤i+1;omega⟩,by omega⟩
theorem GrI.cut (h:GrI acts m (i,o,l)) (hi:(i:Int)<acts.length) (hm:¬ (m:Int)≤i) (hk:¬ 90<((keyA (acts.getD i dA)).length:Int)) (h6:¬ (acts.getD i dA).kind % 6<4):GrI acts m (i+1,cutO (keyA (acts.getD i dA)) o,cutPair (keyA (acts.getD i dA)) l)∧acts.length - (i+1)<acts.length - i:=by
  have hn:=h.next hi hm hk
  obtain⟨a1,a2,a3,a4,a5⟩:=h
  rw[stepA,if_neg h6] at hn
  have a5:l.length≤i:=a5
  have:(cutPair (keyA (acts.getD i dA)) l).length≤l.length:=List.length_filter_le ..
  refine⟨⟨hn,by show i+1≤m;omega,by show i+1≤acts.length;omega,okN.cut a4,by show(cutPair _ l).length≤i+1;omega⟩,by omega⟩
end
noncomputable def ccR13_5:Code:=(Tryd.f5.body).getD .skip
theorem Grow_ok (acts:List Act) (m:Nat) (hm:m≤100):FOk EN 5 ⟨[.pr wordsP,.rd 70 acts],[.n 1,.i m],Unit,fun _=>([.pr wordsP,.rd 70 acts,.pn (PTO (growT acts m).1) false false,.ow 31 ((growT acts m).2)],.t [.p 2 0,.n 3]),fun _=>True⟩:=by
 refine v_fun Tryd.f5 ccR13_5 MX (fun ν F σ w=>?_) Tryd.func5
 refine v_nl ?_
 refine v_call _ [0] (new_ok) ((wordsP=wordsP)) rfl (fun g1 p2=>?_)
 have p2:True:=p2
 refine v_loop (fun q:Nat × Option Tr × List Pair=>([(15,.i q.1),(6,.p 4 0),(7,.n 5)],[.pn (PTO q.2.1) false false,.ow 31 q.2.2])) (fun q=>GrI acts m q) (fun q=>acts.length - q.1) (0,none,[]) [3,2] (((0:Int)=(↑(0:Nat):Int))∧(PTO none=PTO none)∧(false=false)∧(Eq (α:=List Pair) [] [])) ⟨rfl,rfl,rfl,rfl⟩ (by exact GrI.start) (fun q hk3=>?_)
 have i1:=(‹GrI acts m q›).2
 refine v_if (decide ((↑q.fst:Int)<(↑acts.length:Int))) True trivial (fun h4=>?_) (fun h4=>?_)
 ·have h4:=of_decide_eq_true h4
  refine v_plan (.fs [0,2,3,4,5,6,7,8] (.o 1 (.fs [9,10] .e))) [5,9] ((0≤(↑q.fst:Int)∧(↑q.fst:Int)<(↑acts.length:Int))) (by omega) ?_
  refine v_call _ [6,7] (Key_ok (acts.getD (↑q.fst:Int).toNat (Act.mk 0 0 [] []))) (((0≤if 100<(↑(acts.getD (↑q.fst:Int).toNat (Act.mk 0 0 [] [])).value.length:Int) then 100 else(↑(acts.getD (↑q.fst:Int).toNat (Act.mk 0 0 [] [])).value.length:Int))∧(if 100<(↑(acts.getD (↑q.fst:Int).toNat (Act.mk 0 0 [] [])).value.length:Int) then 100 else(↑(acts.getD (↑q.fst:Int).toNat (Act.mk 0 0 [] [])).value.length:Int))≤(↑(acts.getD (↑q.fst:Int).toNat (Act.mk 0 0 [] [])).value.length:Int))∧((acts.getD (↑q.fst:Int).toNat (Act.mk 0 0 [] [])).kind=(acts.getD (↑q.fst:Int).toNat (Act.mk 0 0 [] [])).kind)∧((acts.getD (↑q.fst:Int).toNat (Act.mk 0 0 [] [])).k=(acts.getD (↑q.fst:Int).toNat (Act.mk 0 0 [] [])).k)∧((acts.getD (↑q.fst:Int).toNat (Act.mk 0 0 [] [])).raw=(acts.getD (↑q.fst:Int).toNat (Act.mk 0 0 [] [])).raw)∧((acts.getD (↑q.fst:Int).toNat (Act.mk 0 0 [] [])).value=(acts.getD (↑q.fst:Int).toNat (Act.mk 0 0 [] [])).value)) ⟨(by omega),rfl,rfl,rfl,rfl⟩ (fun g5 p6=>?_)
  have p6:True:=p6
  refine v_guard 32 (decide ((↑m:Int)≤(↑q.fst:Int))) True trivial (fun h7=>?_) (fun h7=>?_)
  ·have h7:=of_decide_eq_true h7
   refine v_leave (.ex 0) True trivial ?_
   exact v_ret () [4,5] ((wordsP=wordsP)∧(acts=acts)∧(PTO q.snd.fst=PTO (growT acts m).fst)∧(false=false)∧(q.snd.snd=(growT acts m).snd)) ⟨rfl,rfl,(by(rw[GrI.stop2 ‹_› ‹_›])),rfl,(by(rw[GrI.stop2 ‹_› ‹_›]))⟩ trivial
  ·have h7:=of_decide_eq_false h7
   refine v_if (decide (90<(↑(keyA (acts.getD (↑q.fst:Int).toNat (Act.mk 0 0 [] []))).length:Int))) True trivial (fun h8=>?_) (fun h8=>?_)
   ·have h8:=of_decide_eq_true h8
    refine v_leave (.ex 0) True trivial ?_
    exact v_ret () [4,5] ((wordsP=wordsP)∧(acts=acts)∧(PTO q.snd.fst=PTO (growT acts m).fst)∧(false=false)∧(q.snd.snd=(growT acts m).snd)) ⟨rfl,rfl,(by(rw[GrI.stop3 ‹_› ‹_› ‹_› ‹_›])),rfl,(by(rw[GrI.stop3 ‹_› ‹_› ‹_› ‹_›]))⟩ trivial
   ·have h8:=of_decide_eq_false h8
    refine v_if (decide ((acts.getD (↑q.fst:Int).toNat (Act.mk 0 0 [] [])).kind % 6<4)) (((6:UInt8)≠(0:UInt8))) (by decide) (fun h9=>?_) (fun h9=>?_)
    ·have h9:=of_decide_eq_true h9
     refine v_call _ [0,11,10,4] (Put_ok (q.snd.fst) (keyA (acts.getD (↑q.fst:Int).toNat (Act.mk 0 0 [] []))) (List.take (if 100<(↑(acts.getD (↑q.fst:Int).toNat (Act.mk 0 0 [] [])).value.length:Int) then 100 else(↑(acts.getD (↑q.fst:Int).toNat (Act.mk 0 0 [] [])).value.length:Int)).toNat (acts.getD (↑q.fst:Int).toNat (Act.mk 0 0 [] [])).value) (by exact i1.2.2.1.O (by omega)) (by exact⟨keyA_pos _,by omega⟩) (by(simp;omega))) ((wordsP=wordsP)∧(keyA (acts.getD (↑q.fst:Int).toNat (Act.mk 0 0 [] []))=keyA (acts.getD (↑q.fst:Int).toNat (Act.mk 0 0 [] [])))∧(List.take (if 100<(↑(acts.getD (↑q.fst:Int).toNat (Act.mk 0 0 [] [])).value.length:Int) then 100 else(↑(acts.getD (↑q.fst:Int).toNat (Act.mk 0 0 [] [])).value.length:Int)).toNat (acts.getD (↑q.fst:Int).toNat (Act.mk 0 0 [] [])).value=List.take (if 100<(↑(acts.getD (↑q.fst:Int).toNat (Act.mk 0 0 [] [])).value.length:Int) then 100 else(↑(acts.getD (↑q.fst:Int).toNat (Act.mk 0 0 [] [])).value.length:Int)).toNat (acts.getD (↑q.fst:Int).toNat (Act.mk 0 0 [] [])).value)∧(PTO q.snd.fst=PTO q.snd.fst)∧(false=false)) ⟨rfl,rfl,rfl,rfl,rfl⟩ (fun g10 p11=>?_)
     have p11:True:=p11
     refine v_call _ [5,11,10] (PutPair_ok (q.snd.snd) (keyA (acts.getD (↑q.fst:Int).toNat (Act.mk 0 0 [] []))) (List.take (if 100<(↑(acts.getD (↑q.fst:Int).toNat (Act.mk 0 0 [] [])).value.length:Int) then 100 else(↑(acts.getD (↑q.fst:Int).toNat (Act.mk 0 0 [] [])).value.length:Int)).toNat (acts.getD (↑q.fst:Int).toNat (Act.mk 0 0 [] [])).value) (by omega)) ((q.snd.snd=q.snd.snd)∧(keyA (acts.getD (↑q.fst:Int).toNat (Act.mk 0 0 [] []))=keyA (acts.getD (↑q.fst:Int).toNat (Act.mk 0 0 [] [])))∧(List.take (if 100<(↑(acts.getD (↑q.fst:Int).toNat (Act.mk 0 0 [] [])).value.length:Int) then 100 else(↑(acts.getD (↑q.fst:Int).toNat (Act.mk 0 0 [] [])).value.length:Int)).toNat (acts.getD (↑q.fst:Int).toNat (Act.mk 0 0 [] [])).value=List.take (if 100<(↑(acts.getD (↑q.fst:Int).toNat (Act.mk 0 0 [] [])).value.length:Int) then 100 else(↑(acts.getD (↑q.fst:Int).toNat (Act.mk 0 0 [] [])).value.length:Int)).toNat (acts.getD (↑q.fst:Int).toNat (Act.mk 0 0 [] [])).value)) ⟨rfl,rfl,rfl⟩ (fun g12 p13=>?_)
     have p13:True:=p13
     exact v_back ((q.fst+1,putO (keyA (acts.getD (↑q.fst:Int).toNat (Act.mk 0 0 [] []))) (List.take (if 100<(↑(acts.getD (↑q.fst:Int).toNat (Act.mk 0 0 [] [])).value.length:Int) then 100 else(↑(acts.getD (↑q.fst:Int).toNat (Act.mk 0 0 [] [])).value.length:Int)).toNat (acts.getD (↑q.fst:Int).toNat (Act.mk 0 0 [] [])).value) q.snd.fst,putPair (keyA (acts.getD (↑q.fst:Int).toNat (Act.mk 0 0 [] []))) (List.take (if 100<(↑(acts.getD (↑q.fst:Int).toNat (Act.mk 0 0 [] [])).value.length:Int) then 100 else(↑(acts.getD (↑q.fst:Int).toNat (Act.mk 0 0 [] [])).value.length:Int)).toNat (acts.getD (↑q.fst:Int).toNat (Act.mk 0 0 [] [])).value) q.snd.snd)) [12,13] ((I64 (↑q.fst+1))∧((↑q.fst:Int)+1=(↑(q.fst+1):Int))∧(PTO (putO (keyA (acts.getD (↑q.fst:Int).toNat (Act.mk 0 0 [] []))) (List.take (if 100<(↑(acts.getD (↑q.fst:Int).toNat (Act.mk 0 0 [] [])).value.length:Int) then 100 else(↑(acts.getD (↑q.fst:Int).toNat (Act.mk 0 0 [] [])).value.length:Int)).toNat (acts.getD (↑q.fst:Int).toNat (Act.mk 0 0 [] [])).value) q.snd.fst)=PTO (putO (keyA (acts.getD (↑q.fst:Int).toNat (Act.mk 0 0 [] []))) (List.take (if 100<(↑(acts.getD (↑q.fst:Int).toNat (Act.mk 0 0 [] [])).value.length:Int) then 100 else(↑(acts.getD (↑q.fst:Int).toNat (Act.mk 0 0 [] [])).value.length:Int)).toNat (acts.getD (↑q.fst:Int).toNat (Act.mk 0 0 [] [])).value) q.snd.fst))∧(false=false)∧(putPair (keyA (acts.getD (↑q.fst:Int).toNat (Act.mk 0 0 [] []))) (List.take (if 100<(↑(acts.getD (↑q.fst:Int).toNat (Act.mk 0 0 [] [])).value.length:Int) then 100 else(↑(acts.getD (↑q.fst:Int).toNat (Act.mk 0 0 [] [])).value.length:Int)).toNat (acts.getD (↑q.fst:Int).toNat (Act.mk 0 0 [] [])).value) q.snd.snd=putPair (keyA (acts.getD (↑q.fst:Int).toNat (Act.mk 0 0 [] []))) (List.take (if 100<(↑(acts.getD (↑q.fst:Int).toNat (Act.mk 0 0 [] [])).value.length:Int) then 100 else(↑(acts.getD (↑q.fst:Int).toNat (Act.mk 0 0 [] [])).value.length:Int)).toNat (acts.getD (↑q.fst:Int).toNat (Act.mk 0 0 [] [])).value) q.snd.snd)) ⟨(by(unfold I64;omega)),rfl,rfl,rfl,rfl⟩ (show GrI acts m (q.fst+1,putO (keyA (acts.getD (↑q.fst:Int).toNat (Act.mk 0 0 [] []))) (List.take (if 100<(↑(acts.getD (↑q.fst:Int).toNat (Act.mk 0 0 [] [])).value.length:Int) then 100 else(↑(acts.getD (↑q.fst:Int).toNat (Act.mk 0 0 [] [])).value.length:Int)).toNat (acts.getD (↑q.fst:Int).toNat (Act.mk 0 0 [] [])).value) q.snd.fst,putPair (keyA (acts.getD (↑q.fst:Int).toNat (Act.mk 0 0 [] []))) (List.take (if 100<(↑(acts.getD (↑q.fst:Int).toNat (Act.mk 0 0 [] [])).value.length:Int) then 100 else(↑(acts.getD (↑q.fst:Int).toNat (Act.mk 0 0 [] [])).value.length:Int)).toNat (acts.getD (↑q.fst:Int).toNat (Act.mk 0 0 [] [])).value) q.snd.snd)∧acts.length - (q.fst+1)<acts.length - q.fst from(by exact GrI.put ‹_› ‹_› ‹_› ‹_› ‹_›))
    ·have h9:=of_decide_eq_false h9
     refine v_call _ [0,11,4] (Cut_ok (q.snd.fst) (keyA (acts.getD (↑q.fst:Int).toNat (Act.mk 0 0 [] []))) (by exact i1.2.2.1.O (by omega))) ((wordsP=wordsP)∧(keyA (acts.getD (↑q.fst:Int).toNat (Act.mk 0 0 [] []))=keyA (acts.getD (↑q.fst:Int).toNat (Act.mk 0 0 [] [])))∧(PTO q.snd.fst=PTO q.snd.fst)∧(false=false)) ⟨rfl,rfl,rfl,rfl⟩ (fun g14 p15=>?_)
     have p15:True:=p15
     refine v_call _ [5,11] (CutPair_ok (q.snd.snd) (keyA (acts.getD (↑q.fst:Int).toNat (Act.mk 0 0 [] []))) (by omega)) ((q.snd.snd=q.snd.snd)∧(keyA (acts.getD (↑q.fst:Int).toNat (Act.mk 0 0 [] []))=keyA (acts.getD (↑q.fst:Int).toNat (Act.mk 0 0 [] [])))) ⟨rfl,rfl⟩ (fun g16 p17=>?_)
     have p17:True:=p17
     exact v_back ((q.fst+1,cutO (keyA (acts.getD (↑q.fst:Int).toNat (Act.mk 0 0 [] []))) q.snd.fst,cutPair (keyA (acts.getD (↑q.fst:Int).toNat (Act.mk 0 0 [] []))) q.snd.snd)) [12,13] ((I64 (↑q.fst+1))∧((↑q.fst:Int)+1=(↑(q.fst+1):Int))∧(PTO (cutO (keyA (acts.getD (↑q.fst:Int).toNat (Act.mk 0 0 [] []))) q.snd.fst)=PTO (cutO (keyA (acts.getD (↑q.fst:Int).toNat (Act.mk 0 0 [] []))) q.snd.fst))∧(false=false)∧(cutPair (keyA (acts.getD (↑q.fst:Int).toNat (Act.mk 0 0 [] []))) q.snd.snd=cutPair (keyA (acts.getD (↑q.fst:Int).toNat (Act.mk 0 0 [] []))) q.snd.snd)) ⟨(by(unfold I64;omega)),rfl,rfl,rfl,rfl⟩ (show GrI acts m (q.fst+1,cutO (keyA (acts.getD (↑q.fst:Int).toNat (Act.mk 0 0 [] []))) q.snd.fst,cutPair (keyA (acts.getD (↑q.fst:Int).toNat (Act.mk 0 0 [] []))) q.snd.snd)∧acts.length - (q.fst+1)<acts.length - q.fst from(by exact GrI.cut ‹_› ‹_› ‹_› ‹_› ‹_›))
 ·have h4:=of_decide_eq_false h4
  refine v_leave (.ex 0) True trivial ?_
  exact v_ret () [4,5] ((wordsP=wordsP)∧(acts=acts)∧(PTO q.snd.fst=PTO (growT acts m).fst)∧(false=false)∧(q.snd.snd=(growT acts m).snd)) ⟨rfl,rfl,(by(rw[GrI.stop1 ‹_› ‹_›])),rfl,(by(rw[GrI.stop1 ‹_› ‹_›]))⟩ trivial
abbrev klt (a b:List UInt8):Prop:=Lib.compareBytes a b<0
theorem cmp_anti:∀ a b:List UInt8,Lib.compareBytes b a = - Lib.compareBytes a b
  | [],[]=>rfl
  | [],_::_=>rfl
  | _::_,[]=>rfl
  | a :: xs, b :: ys => by
    unfold Lib.compareBytes
    by_cases h1:a<b
    · have h2 : ¬ b < a := fun h => absurd (UInt8.lt_trans h1 h) (UInt8.lt_irrefl _)
      simp[h1,h2]
    · by_cases h2 : b < a
      · simp[h1,h2]
      · simp only[if_neg h1,if_neg h2];exact cmp_anti xs ys
theorem klt_trans:∀ {a b c:List UInt8},klt a b→klt b c→klt a c
  | [],[],_,h,_=>by simp[klt,Lib.compareBytes] at h
  | [],_::_,[],_,h=>by simp[klt,Lib.compareBytes] at h
  | [],_::_,_::_,_,_=>by simp[klt,Lib.compareBytes]
  | _::_,[],_,h,_=>by simp[klt,Lib.compareBytes] at h
  | _::_,_::_,[],_,h=>by simp[klt,Lib.compareBytes] at h
  | a :: xs, b :: ys, c :: zs, h1, h2 => by
    unfold klt at h1 h2 ⊢
    unfold Lib.compareBytes at h1 h2 ⊢
    by_cases p:a<b
    · by_cases q : b < c
      · rw[if_pos (UInt8.lt_trans p q)];decide
      · rw [if_neg q] at h2
        by_cases q2:c<b
        · rw[if_pos q2] at h2;exact absurd h2 (by decide)
        · have : b = c := UInt8.le_antisymm (UInt8.not_lt.1 q2) (UInt8.not_lt.1 q)
          subst this;rw[if_pos p];decide
    · rw [if_neg p] at h1
      by_cases p2:b<a
      · rw[if_pos p2] at h1;exact absurd h1 (by decide)
      · have : a = b := UInt8.le_antisymm (UInt8.not_lt.1 p2) (UInt8.not_lt.1 p)
        subst this
        rw[if_neg p2] at h1
        by_cases q:a<c
        · rw[if_pos q];decide
        · rw [if_neg q] at h2 ⊢
          by_cases q2:c<a
          · rw[if_pos q2] at h2;exact absurd h2 (by decide)
          · rw[if_neg q2] at h2 ⊢;exact klt_trans h1 h2
theorem klt_irr (a:List UInt8):¬ klt a a:=by have:=cmp_anti a a;unfold klt;omega
theorem kge {a b:List UInt8} (h:¬ klt a b):a=b∨klt b a:=by
  have:=cmp_anti a b
  unfold klt at *
  by_cases e:Lib.compareBytes a b=0
  · exact .inl (cmp_zero.1 e)
  · exact .inr (by omega)
def Srt (l:List Pair):Prop:=l.Pairwise fun p q=>klt p.key q.key
namespace Tr
theorem leaves_ne:∀ t:Tr,∃ v l,t.leaves=⟨t.least,v⟩::l
  | leaf k v=>⟨v,[],rfl⟩
  | node l r => by
    obtain⟨v,x,e⟩:=leaves_ne l
    exact⟨v,x++r.leaves,by simp[leaves,e,least]⟩
theorem bal_leaves (l r:Tr):(l.bal r).leaves=l.leaves++r.leaves:=by
  unfold bal
  split
  · cases l with
    | leaf a b=>rfl
    | node a b =>
      dsimp only
      split
      · cases b with
        | leaf c d=>rfl
        | node c d=>simp[leaves]
      · simp[leaves]
  · split
    · cases r with
      | leaf a b=>rfl
      | node a b =>
        dsimp only
        split
        · cases a with
          | leaf c d=>rfl
          | node c d=>simp[leaves]
        · simp[leaves]
    · rfl
/-- where a key belongs -/
theorem left_of {l r:Tr} (h:Srt (node l r).leaves) {p:Pair} (hp:p∈l.leaves):klt p.key r.least:=by
  obtain⟨v,x,e⟩:=leaves_ne r
  have:=(List.pairwise_append.1 h).2.2 p hp ⟨r.least,v⟩ (by rw[e];exact List.mem_cons_self ..)
  exact this
theorem right_of {r:Tr} (h:Srt r.leaves) {p:Pair} (hp:p∈r.leaves):¬ klt p.key r.least:=by
  obtain⟨v,x,e⟩:=leaves_ne r
  rw[e] at h hp
  rcases List.mem_cons.1 hp with rfl | hp
  · exact klt_irr _
  · have := (List.pairwise_cons.1 h).1 p hp
    exact fun q=>klt_irr _ (klt_trans this q)
end Tr
theorem less_klt {a b:List UInt8}:Op.bytesLess a b=true↔klt a b:=by rw[less_cmp];simp
theorem putPair_left (k v:List UInt8):∀(l r:List Pair),(∀ p∈r,¬ klt p.key k∧p.key≠k)→putPair k v (l++r)=putPair k v l++r
  | [], r, h => by
    cases r with
    | nil=>rfl
    | cons x r =>
      have h1:=h x (List.mem_cons_self ..)
      show(if Op.bytesLess x.key k=true then _ else _)=_
      rw[if_neg (fun q=>h1.1 (less_klt.1 q)),if_neg h1.2];rfl
  | x :: l, r, h => by
    show(if Op.bytesLess x.key k=true then _ else _)=(if Op.bytesLess x.key k=true then _ else _)++r
    split
    · show x :: putPair k v (l ++ r) = x :: (putPair k v l ++ r)
      rw[putPair_left k v l r h]
    · split <;> simp
theorem putPair_right (k v:List UInt8):∀(l r:List Pair),(∀ p∈l,klt p.key k)→putPair k v (l++r)=l++putPair k v r
  | [],r,h=>rfl
  | x :: l, r, h => by
    show(if Op.bytesLess x.key k=true then _ else _)=_
    rw[if_pos (less_klt.2 (h x (List.mem_cons_self ..)))]
    show x::putPair k v (l++r)=x::(l++putPair k v r)
    rw[putPair_right k v l r (fun p hp=>h p (List.mem_cons_of_mem _ hp))]
theorem mem_putPair {k v:List UInt8}:∀ {l:List Pair} {p:Pair},p∈putPair k v l→p=⟨k,v⟩∨p∈l
  | [],p,h=>.inl (by simpa [putPair] using h)
  | x :: l, p, h => by
    unfold putPair at h
    split at h
    · rcases List.mem_cons.1 h with rfl | h
      · exact .inr (List.mem_cons_self ..)
      · rcases mem_putPair h with h | h
        · exact .inl h
        · exact .inr (List.mem_cons_of_mem _ h)
    · split at h
      · rcases List.mem_cons.1 h with h | h
        · exact .inl h
        · exact .inr (List.mem_cons_of_mem _ h)
      · rcases List.mem_cons.1 h with h | h
        · exact .inl h
        · exact .inr h
theorem Srt.put {k v:List UInt8}:∀ {l:List Pair},Srt l→Srt (putPair k v l)
  | [],h=>List.pairwise_singleton ..
  | x :: l, h => by
    obtain⟨h1,h2⟩:=List.pairwise_cons.1 h
    unfold putPair
    split
    · rename_i q
      have q:=less_klt.1 q
      refine List.pairwise_cons.2 ⟨fun p hp=>?_,Srt.put h2⟩
      rcases mem_putPair hp with rfl | hp
      · exact q
      · exact h1 p hp
    · rename_i q
      have q:¬ klt x.key k:=fun e=>q (less_klt.2 e)
      split
      · rename_i e
        exact List.pairwise_cons.2 ⟨fun p hp=>by have:=h1 p hp;rw[e] at this;exact this,h2⟩
      · rename_i e
        have hx:klt k x.key:=(kge q).resolve_left e
        exact List.pairwise_cons.2 ⟨fun p hp=>by
          rcases List.mem_cons.1 hp with rfl | hp
          · exact hx
          · exact klt_trans hx (h1 p hp),h⟩
theorem Srt.cut {k:List UInt8} {l:List Pair} (h:Srt l):Srt (cutPair k l):=List.Pairwise.sublist List.filter_sublist h
namespace Tr
theorem put_leaves (k v:List UInt8):∀ t:Tr,Srt t.leaves→(t.put k v).leaves=putPair k v t.leaves
  | leaf a b, _ => by
    unfold put
    show _=(if Op.bytesLess a k=true then _ else _)
    have:=cmp_anti k a
    by_cases h1:Lib.compareBytes k a<0
    · rw[if_pos h1,if_neg (fun q=>by have:=less_t q;omega),if_neg (fun e=>by subst e;exact klt_irr _ h1)];rfl
    · rw [if_neg h1]
      by_cases h2:0<Lib.compareBytes k a
      · rw[if_pos h2,if_pos (less_klt.2 (by unfold klt;omega))];rfl
      · have e : k = a := cmp_zero.1 (by omega)
        rw[if_neg h2,if_neg (fun q=>by have:=less_t q;omega),if_pos e.symm];rfl
  | node l r, h => by
    have hl:Srt l.leaves:=(List.pairwise_append.1 h).1
    have hr:Srt r.leaves:=(List.pairwise_append.1 h).2.1
    unfold put
    split
    · rename_i q
      rw[bal_leaves,put_leaves k v l hl]
      refine(putPair_left k v l.leaves r.leaves fun p hp=>?_).symm
      have h2:=right_of hr hp
      exact⟨fun e=>h2 (klt_trans e q),fun e=>h2 (by rw[e];exact q)⟩
    · rename_i q
      rw[bal_leaves,put_leaves k v r hr]
      refine(putPair_right k v l.leaves r.leaves fun p hp=>?_).symm
      have h2:=left_of h hp
      rcases kge q with e | e
      · rw[e];exact h2
      · exact klt_trans h2 e
theorem cut_leaves (k:List UInt8):∀ t:Tr,Srt t.leaves→(t.cut k=none∧∀ p∈t.leaves,p.key≠k)∨∃ r,t.cut k=some r∧leavesO r=cutPair k t.leaves∧∃ p∈t.leaves,p.key=k
  | leaf a b, _ => by
    unfold cut
    by_cases e:a=k
    · rw[if_pos e];exact .inr ⟨none,rfl,by simp[leavesO,cutPair,leaves,e],_,List.mem_singleton_self _,e⟩
    · rw[if_neg e];exact .inl ⟨rfl,fun p hp=>by rw[List.mem_singleton.1 hp];exact e⟩
  | node l r, h => by
    have hl:Srt l.leaves:=(List.pairwise_append.1 h).1
    have hr:Srt r.leaves:=(List.pairwise_append.1 h).2.1
    unfold cut
    by_cases q:Lib.compareBytes k r.least<0
    · rw [if_pos q]
      have nr:∀ p∈r.leaves,p.key≠k:=fun p hp e=>right_of hr hp (by rw[e];exact q)
      have er:cutPair k r.leaves=r.leaves:=List.filter_eq_self.2 fun p hp=>decide_eq_true (nr p hp)
      rcases cut_leaves k l hl with⟨e,hn⟩ | ⟨x,e,e2,p,hp,hk⟩
      · rw[e];exact .inl ⟨rfl,fun p hp=>by rcases List.mem_append.1 hp with hp | hp;exact hn p hp;exact nr p hp⟩
      · rw [e]
        refine .inr ?_
        have e3:cutPair k (node l r).leaves=leavesO x++r.leaves:=by
          show cutPair k (l.leaves++r.leaves)=_
          rw[e2,← er];simp[cutPair,List.filter_append]
        cases x with
        | none=>exact⟨some r,rfl,by rw[e3];rfl,p,List.mem_append_left _ hp,hk⟩
        | some l'=>exact⟨some (l'.bal r),rfl,by rw[e3];exact bal_leaves _ _,p,List.mem_append_left _ hp,hk⟩
    · rw [if_neg q]
      have nl:∀ p∈l.leaves,p.key≠k:=fun p hp e=>q (by have:=left_of h hp;rw[e] at this;exact this)
      have el:cutPair k l.leaves=l.leaves:=List.filter_eq_self.2 fun p hp=>decide_eq_true (nl p hp)
      rcases cut_leaves k r hr with⟨e,hn⟩ | ⟨x,e,e2,p,hp,hk⟩
      · rw[e];exact .inl ⟨rfl,fun p hp=>by rcases List.mem_append.1 hp with hp | hp;exact nl p hp;exact hn p hp⟩
      · rw [e]
        refine .inr ?_
        have e3:cutPair k (node l r).leaves=l.leaves++leavesO x:=by
          show cutPair k (l.leaves++r.leaves)=_
          rw[e2,← el];simp[cutPair,List.filter_append]
        cases x with
        | none=>exact⟨some l,rfl,by rw[e3];simp[leavesO],p,List.mem_append_right _ hp,hk⟩
        | some r'=>exact⟨some (l.bal r'),rfl,by rw[e3];exact bal_leaves _ _,p,List.mem_append_right _ hp,hk⟩
end Tr
theorem putO_leaves {k v:List UInt8} {o:Option Tr} (h:Srt (leavesO o)):leavesO (putO k v o)=putPair k v (leavesO o):=by
  cases o with
  | none=>rfl
  | some t=>exact Tr.put_leaves k v t h
theorem cutO_leaves {k:List UInt8} {o:Option Tr} (h:Srt (leavesO o)):leavesO (cutO k o)=cutPair k (leavesO o):=by
  cases o with
  | none=>rfl
  | some t =>
    rcases Tr.cut_leaves k t h with⟨e,hn⟩ | ⟨r,e,e2,_⟩
    · rw [show cutO k (some t) = some t by simp [cutO, e]]
      exact(List.filter_eq_self.2 fun p hp=>decide_eq_true (hn p hp)).symm
    · rw[show cutO k (some t)=r by simp[cutO,e]];exact e2
theorem growG_ok:∀(n:Nat) (acts:List Act) (s:Option Tr × List Pair),Srt (leavesO s.1)→s.2=leavesO s.1→Srt (leavesO (growG n acts s).1)∧(growG n acts s).2=leavesO (growG n acts s).1
  | 0,acts,s,h,e=>by unfold growG;exact⟨h,e⟩
  | n+1,[],s,h,e=>by unfold growG;exact⟨h,e⟩
  | n + 1, a :: l, s, h, e => by
    unfold growG
    split
    · exact⟨h,e⟩
    · refine growG_ok n l _ ?_ ?_ <;> unfold stepA <;> split
      · rw[putO_leaves h];exact h.put
      · rw[cutO_leaves h];exact h.cut
      · rw[putO_leaves h,e]
      · rw[cutO_leaves h,e]
theorem growT_ok (acts:List Act) (m:Nat):Srt (leavesO (growT acts m).1)∧(growT acts m).2=leavesO (growT acts m).1:=growG_ok m acts (none,[]) List.Pairwise.nil rfl
def cntB (k:List UInt8) (ws:List (List UInt8)):Nat:=(ws.takeWhile fun x=>decide (klt x k)).length
theorem cntB_le (k:List UInt8) (ws:List (List UInt8)):cntB k ws≤ws.length:=(List.takeWhile_sublist _).length_le
theorem cnt_of {k:List UInt8}:∀ {ws:List (List UInt8)} {i:Nat},i≤ws.length→(∀ a,a<i→klt (ws.getD a []) k)→(i<ws.length→¬ klt (ws.getD i []) k)→cntB k ws=i
  | [],i,h,_,_=>by simp at h;subst h;rfl
  | x :: xs, 0, _, _, h => by
    have h0:¬ klt x k:=h (by simp)
    unfold cntB;rw[List.takeWhile_cons,if_neg (by simpa using h0)];rfl
  | x :: xs, i + 1, h1, h2, h3 => by
    have h0:klt x k:=h2 0 (by omega)
    have:=cnt_of (k:=k) (ws:=xs) (i:=i) (by simpa using h1) (fun a ha=>h2 (a+1) (by omega)) (fun hi=>h3 (by simpa using hi))
    unfold cntB at *;rw[List.takeWhile_cons,if_pos (by simpa using h0),List.length_cons,this]
def insB (x:List UInt8):List (List UInt8)→List (List UInt8)
  | []=>[x]
  | y::r=>if klt y x then y::insB x r else x::y::r
def srtB:List (List UInt8)→List (List UInt8)
  | []=>[]
  | x::r=>insB x (srtB r)
theorem insB_perm (x:List UInt8):∀ l,(insB x l).Perm (x::l)
  | []=>.refl _
  | y :: r => by
    unfold insB;split
    · exact((insB_perm x r).cons y).trans (.swap ..)
    · exact .refl _
theorem srtB_perm:∀ l,(srtB l).Perm l
  | []=>.refl _
  | x::r=>(insB_perm x _).trans ((srtB_perm r).cons x)
theorem srtB_len (l:List (List UInt8)):(srtB l).length=l.length:=(srtB_perm l).length_eq
def kle (a b:List UInt8):Prop:=¬ klt b a
theorem kle_trans {a b c:List UInt8} (h1:kle a b) (h2:kle b c):kle a c:=fun h=>by
  rcases kge h1 with e | h3
  · subst e;exact h2 h
  · exact h2 (klt_trans h h3)
theorem kle_anti {a b:List UInt8} (h1:kle a b) (h2:kle b a):a=b:=by
  rcases kge h1 with e | h3
  · exact e.symm
  · exact absurd h3 h2
theorem klt_le {a b:List UInt8} (h:klt a b):kle a b:=fun h2=>klt_irr _ (klt_trans h h2)
theorem kle_lt {a b c:List UInt8} (h1:kle a b) (h2:klt b c):klt a c:=by
  rcases kge h1 with e | h3
  · subst e;exact h2
  · exact klt_trans h3 h2
theorem insB_srt {x:List UInt8}:∀ {l:List (List UInt8)},l.Pairwise kle→(insB x l).Pairwise kle
  | [],_=>List.pairwise_singleton ..
  | y :: r, h => by
    obtain⟨h1,h2⟩:=List.pairwise_cons.1 h
    unfold insB;split
    · rename_i hy
      refine List.pairwise_cons.2 ⟨fun z hz=>?_,insB_srt h2⟩
      rcases List.mem_cons.1 ((insB_perm x r).mem_iff.1 hz) with rfl | hz
      · exact klt_le hy
      · exact h1 z hz
    · rename_i hy
      refine List.pairwise_cons.2 ⟨fun z hz=>?_,h⟩
      rcases List.mem_cons.1 hz with rfl | hz
      · exact hy
      · exact kle_trans hy (h1 z hz)
theorem srtB_srt:∀ l,(srtB l).Pairwise kle
  | []=>.nil
  | x::r=>insB_srt (srtB_srt r)
theorem srtB_eq {l l':List (List UInt8)} (hp:l'.Perm l) (hs:l'.Pairwise kle):l'=srtB l :=
  List.Perm.eq_of_pairwise (le:=kle) (fun a b _ _=>kle_anti) hs (srtB_srt l) (hp.trans (srtB_perm l).symm)
/-- the first n, without doubles that stand side by side -/
def dedN (xs:List (List UInt8)):Nat→List (List UInt8)
  | 0=>[]
  | n+1=>if n≠0∧xs.getD n []=xs.getD (n - 1) [] then dedN xs n else dedN xs n++[xs.getD n []]
def dedB (xs:List (List UInt8)):List (List UInt8):=dedN xs xs.length
theorem dedN_len (xs:List (List UInt8)):∀ n,(dedN xs n).length≤n
  | 0=>Nat.le_refl _
  | n+1=>by have:=dedN_len xs n;unfold dedN;split <;> simp <;> omega
theorem srt_get {xs:List (List UInt8)} (h:xs.Pairwise kle) {i j:Nat} (hi:i<j) (hj:j<xs.length):kle (xs.getD i []) (xs.getD j []):=by
  have:=List.pairwise_iff_getElem.1 h i j (by omega) hj hi
  rwa [List.getD_eq_getElem?_getD,List.getElem?_eq_getElem (by omega),List.getD_eq_getElem?_getD,List.getElem?_eq_getElem hj]
theorem dedN_srt {xs:List (List UInt8)} (h:xs.Pairwise kle):∀ {n:Nat},n≤xs.length→(dedN xs n).Pairwise klt∧∀ x∈dedN xs n,kle x (xs.getD (n - 1) [])
  | 0,_=>⟨.nil,fun x hx=>by simp[dedN] at hx⟩
  | n + 1, hn => by
    obtain⟨h1,h2⟩:=dedN_srt h (n:=n) (by omega)
    unfold dedN;split
    · rename_i he
      refine⟨h1,fun x hx=>?_⟩
      show kle x (xs.getD n [])
      rw[he.2];exact h2 x hx
    · rename_i he
      have hlt:∀ x∈dedN xs n,klt x (xs.getD n []):=fun x hx=>by
        by_cases hz:n=0
        · subst hz;simp[dedN] at hx
        · have h3 := srt_get h (i := n - 1) (j := n) (by omega) (by omega)
          rcases kge h3 with e | h4
          · exact absurd ⟨hz,e⟩ he
          · exact kle_lt (h2 x hx) h4
      refine⟨List.pairwise_append.2 ⟨h1,List.pairwise_singleton ..,fun x hx y hy=>by rw[List.mem_singleton.1 hy];exact hlt x hx⟩,fun x hx=>?_⟩
      rcases List.mem_append.1 hx with hx | hx
      · exact klt_le (hlt x hx)
      · rw[List.mem_singleton.1 hx];exact klt_irr _
theorem dedB_srt {xs:List (List UInt8)} (h:xs.Pairwise kle):(dedB xs).Pairwise klt:=(dedN_srt h (Nat.le_refl _)).1
theorem tail_srt {k:List UInt8} {ws:List (List UInt8)} (h:ws.Pairwise kle) {a b:Nat} (hab:a≤b) (hb:b<ws.length) (hk:klt (ws.getD b []) k):klt (ws.getD a []) k:=by
  by_cases e:a=b
  · subst e;exact hk
  · exact kle_lt (srt_get h (by omega) hb) hk
def ksP (l:List Pair):List (List UInt8):=l.map (·.key)
theorem ksP_len (l:List Pair):(ksP l).length=l.length:=List.length_map ..
theorem ksP_get (l:List Pair) (i:Nat):(ksP l).getD i []=(l.getD i dP).key:=by
  unfold ksP;rw[List.getD_eq_getElem?_getD,List.getElem?_map,List.getD_eq_getElem?_getD];cases l[i]? <;> rfl
def fndP (l:List Pair) (k:List UInt8):Bool:=decide (cntB k (ksP l)<l.length) && decide ((l.getD (cntB k (ksP l)) dP).key=k)
def wan1 (l:List Pair) (k:List UInt8):List (List UInt8) :=
  if fndP l k=true then[(l.getD (cntB k (ksP l)) dP).key]
  else(if 0<cntB k (ksP l) then[(l.getD (cntB k (ksP l) - 1) dP).key] else[])++(if cntB k (ksP l)<l.length then[(l.getD (cntB k (ksP l)) dP).key] else[])
def wanU (l:List Pair) (ks:List (List UInt8)):List (List UInt8):=ks.flatMap (wan1 l)
def wanL (l:List Pair) (ks:List (List UInt8)):List (List UInt8):=dedB (srtB (wanU l ks))
theorem wan1_len (l:List Pair) (k:List UInt8):(wan1 l k).length≤2:=by
  unfold wan1;split
  · simp
  · split <;> split <;> simp
theorem wanL_srt (l:List Pair) (ks:List (List UInt8)):(wanL l ks).Pairwise klt:=dedB_srt (srtB_srt _)
theorem wanU_len (l:List Pair):∀ ks:List (List UInt8),(wanU l ks).length≤2*ks.length
  | []=>Nat.le_refl _
  | k::ks=>by have h1:=wan1_len l k;have h2:=wanU_len l ks;unfold wanU at *;rw[List.flatMap_cons,List.length_append,List.length_cons];omega
theorem wanL_len (l:List Pair) (ks:List (List UInt8)):(wanL l ks).length≤2*ks.length:=by
  have h1:=dedN_len (srtB (wanU l ks)) (srtB (wanU l ks)).length;have h2:=srtB_len (wanU l ks);have h3:=wanU_len l ks
  unfold wanL dedB;omega
def bsS (ws:List (List UInt8)) (x:List UInt8) (q:Nat × Nat):Nat × Nat :=
  if Lib.compareBytes (ws.getD ((q.1+q.2) / 2) []) x<0 then((q.1+q.2) / 2+1,q.2) else(q.1,(q.1+q.2) / 2)
structure BsI (ws:List (List UInt8)) (x:List UInt8) (q:Nat × Nat):Prop where
  le:q.1≤q.2
  len:q.2≤ws.length
  lo:∀ a,a<q.1→klt (ws.getD a []) x
  hi:∀ a,q.2≤a→a<ws.length→¬ klt (ws.getD a []) x
section
variable {ws:List (List UInt8)} {x:List UInt8} {q:Nat × Nat}
theorem BsI.start:BsI ws x (0,ws.length):=⟨Nat.zero_le _,Nat.le_refl _,fun a h=>by simp at h,fun a h1 h2=>by simp at h1;omega⟩
theorem BsI.end (h:BsI ws x q) (hi:¬ (q.1:Int)<q.2):q.1=cntB x ws:=by
  have:=h.le;have:=h.len
  exact(cnt_of (by omega) h.lo fun hn=>h.hi _ (by omega) hn).symm
theorem BsI.next (hs:ws.Pairwise kle) (h:BsI ws x q) (hi:(q.1:Int)<q.2):BsI ws x (bsS ws x q)∧(bsS ws x q).2 - (bsS ws x q).1<q.2 - q.1:=by
  have h1:=h.le;have h2:=h.len
  have hm:q.1≤(q.1+q.2) / 2∧(q.1+q.2) / 2<q.2:=by omega
  generalize hz:(q.1+q.2) / 2=m at hm
  unfold bsS;rw[hz]
  split
  · rename_i hc
    exact⟨⟨by show m+1≤q.2;omega,h2,fun a ha=>tail_srt hs (b:=m) (by have:a<m+1:=ha;omega) (by omega) hc,h.hi⟩,by show q.2 - (m+1)<q.2 - q.1;omega⟩
  · rename_i hc
    exact⟨⟨hm.1,by show m≤ws.length;omega,h.lo,fun a ha hn hk=>hc (tail_srt hs ha hn hk)⟩,by show m - q.1<q.2 - q.1;omega⟩
end
abbrev bsM (q:Nat × Nat):UInt64:=ofI ((q.1:Int)+q.2) >>> 1
section
variable {ws:List (List UInt8)} {x y:List UInt8} {q:Nat × Nat}
theorem bsH (h:BsI ws x q) (hl:ws.length≤1000000):(bsM q).toNat=(q.1+q.2) / 2∧(q.1+q.2) / 2≤1000000:=by
  have h1:=h.le;have h2:=h.len
  refine⟨?_,by omega⟩
  show(ofI ((q.1:Int)+q.2) >>> 1).toNat=_
  rw[UInt64.toNat_shiftRight,show(q.1:Int)+q.2=((q.1+q.2:Nat):Int) by omega,ofI_nat _ (by omega),UInt64.toNat_ofNat_of_lt' (by show q.1+q.2<18446744073709551616;omega)]
  show(q.1+q.2) >>> 1=_
  rw[Nat.shiftRight_succ,Nat.shiftRight_zero]
theorem bsA (h:BsI ws x q) (hl:ws.length≤1000000):I64 ((q.1:Int)+q.2):=by
  have h1:=h.le;have h2:=h.len;unfold I64;omega
theorem bsB (h:BsI ws x q) (hl:ws.length≤1000000):bsM q<9223372036854775808:=by
  have:=bsH h hl;apply UInt64.lt_iff_toNat_lt.2;rw[this.1];show _<9223372036854775808;omega
theorem bsC (h:BsI ws x q) (hl:ws.length≤1000000) (hi:(q.1:Int)<q.2):(0:Int)≤((bsM q).toNat:Int)∧((bsM q).toNat:Int)<(ws.length:Int):=by
  have:=bsH h hl;have:=h.len;omega
theorem bsD (h:BsI ws x q) (hl:ws.length≤1000000):I64 (((bsM q).toNat:Int)+1):=by have:=bsH h hl;unfold I64;omega
theorem bsGet (h:BsI ws x q) (hl:ws.length≤1000000):ws.getD ((bsM q).toNat:Int).toNat []=ws.getD ((q.1+q.2) / 2) []:=by rw[Int.toNat_natCast,(bsH h hl).1]
theorem bsT (h:BsI ws x q) (hl:ws.length≤1000000) (hc:Lib.compareBytes (ws.getD ((bsM q).toNat:Int).toNat []) x<0):((bsM q).toNat:Int)+1=((bsS ws x q).1:Int)∧(q.2:Int)=((bsS ws x q).2:Int):=by
  rw[bsGet h hl] at hc;unfold bsS;rw[if_pos hc];have:=bsH h hl;exact⟨by show _=(((q.1+q.2) / 2+1:Nat):Int);omega,rfl⟩
theorem bsF (h:BsI ws x q) (hl:ws.length≤1000000) (hc:¬ Lib.compareBytes (ws.getD ((bsM q).toNat:Int).toNat []) x<0):(q.1:Int)=((bsS ws x q).1:Int)∧((bsM q).toNat:Int)=((bsS ws x q).2:Int):=by
  rw[bsGet h hl] at hc;unfold bsS;rw[if_neg hc];have:=bsH h hl;exact⟨rfl,by show _=(((q.1+q.2) / 2:Nat):Int);omega⟩
theorem bsE (h:BsI ws x q) (hi:¬ (q.1:Int)<q.2):(q.1:Int)=(cntB x ws:Int):=by rw[h.end hi]
end
def fndB (ws:List (List UInt8)) (x:List UInt8):Bool:=decide (cntB x ws<ws.length) && decide (Lib.compareBytes (ws.getD (cntB x ws) []) x=0)
theorem bs1 {ws:List (List UInt8)} {x:List UInt8} {q:Nat × Nat} (h:BsI ws x q) (hi:¬ (q.1:Int)<q.2) (hn:(q.1:Int)<ws.length):decide (Lib.compareBytes (ws.getD (q.1:Int).toNat []) x=0)=fndB ws x:=by
  have e:=h.end hi
  unfold fndB;rw[Int.toNat_natCast,e,decide_eq_true (p:=cntB x ws<ws.length) (by omega)];rfl
theorem bs2 {ws:List (List UInt8)} {x:List UInt8} {q:Nat × Nat} (h:BsI ws x q) (hi:¬ (q.1:Int)<q.2) (hn:¬ (q.1:Int)<ws.length):false=fndB ws x:=by
  have e:=h.end hi
  unfold fndB;rw[decide_eq_false (p:=cntB x ws<ws.length) (by omega)];rfl
noncomputable def ccM1_47:Code:=(Tryd.f47.body).getD .skip
theorem BSB_ok (ws:List (List UInt8)) (x:List UInt8) (hs:ws.Pairwise kle) (hl:ws.length≤1000000):FOk EN 47 ⟨[.rd 23 ws,.rd 5 (x)],[.n 0,.n 1,.f 27 [] []],Unit,fun _=>([.rd 23 ws,.rd 5 (x)],.t [.i (cntB x ws),.b (fndB ws x)]),fun _=>True⟩:=by
 refine v_fun Tryd.f47 ccM1_47 MX (fun ν F σ w=>?_) Tryd.func47
 refine v_nl ?_
 refine v_loop (fun q:Nat × Nat=>([(9,.i q.1),(10,.i q.2)],[])) (fun q=>BsI ws x q) (fun q=>q.2 - q.1) (0,ws.length) [] (((0:Int)=(↑(0:Nat):Int))∧((↑ws.length:Int)=(↑ws.length:Int))) ⟨rfl,rfl⟩ (by exact BsI.start) (fun q hk1=>?_)
 refine v_if (decide ((↑q.fst:Int)<(↑q.snd:Int))) True trivial (fun h2=>?_) (fun h2=>?_)
 ·have h2:=of_decide_eq_true h2
  refine v_call _ [3,1] (bcmp_ok (ws.getD (↑(ofI ((↑q.fst:Int)+(↑q.snd:Int)) >>> 1).toNat:Int).toNat []) (x)) ((I64 (↑q.fst + ↑q.snd))∧((1:UInt64)<(64:UInt64))∧(ofI (↑q.fst + ↑q.snd) >>> 1<9223372036854775808)∧((0:Int)≤(↑(ofI ((↑q.fst:Int)+(↑q.snd:Int)) >>> (1:UInt64)).toNat:Int)∧(↑(ofI ((↑q.fst:Int)+(↑q.snd:Int)) >>> (1:UInt64)).toNat:Int)<(↑ws.length:Int))∧(ws.getD (↑(ofI ((↑q.fst:Int)+(↑q.snd:Int)) >>> 1).toNat:Int).toNat []=ws.getD (↑(ofI ((↑q.fst:Int)+(↑q.snd:Int)) >>> 1).toNat:Int).toNat [])∧(x=x)) ⟨(by exact bsA (x:=x) (ws:=ws) ‹_› hl),(by decide),(by exact bsB (x:=x) (ws:=ws) ‹_› hl),(by exact bsC (x:=x) ‹_› hl ‹_›),rfl,rfl⟩ (fun g3 p4=>?_)
  have p4:True:=p4
  refine v_if (decide (Lib.compareBytes (ws.getD (↑(ofI ((↑q.fst:Int)+(↑q.snd:Int)) >>> 1).toNat:Int).toNat []) x<0)) True trivial (fun h5=>?_) (fun h5=>?_)
  ·have h5:=of_decide_eq_true h5
   exact v_back (bsS ws x q) [] ((I64 (↑(ofI (↑q.fst + ↑q.snd) >>> 1).toNat+1))∧((↑(ofI ((↑q.fst:Int)+(↑q.snd:Int)) >>> 1).toNat:Int)+1=(↑(bsS ws x q).fst:Int))∧((↑q.snd:Int)=(↑(bsS ws x q).snd:Int))) ⟨(by exact bsD (x:=x) (ws:=ws) ‹_› hl),(by exact(bsT (ws:=ws) ‹_› hl ‹_›).1),(by exact(bsT (ws:=ws) ‹_› hl ‹_›).2)⟩ (show BsI ws x (bsS ws x q)∧(bsS ws x q).snd - (bsS ws x q).fst<q.snd - q.fst from(by exact BsI.next hs ‹_› ‹_›))
  ·have h5:=of_decide_eq_false h5
   exact v_back (bsS ws x q) [] (((↑q.fst:Int)=(↑(bsS ws x q).fst:Int))∧((↑(ofI ((↑q.fst:Int)+(↑q.snd:Int)) >>> 1).toNat:Int)=(↑(bsS ws x q).snd:Int))) ⟨(by exact(bsF (ws:=ws) ‹_› hl ‹_›).1),(by exact(bsF (ws:=ws) ‹_› hl ‹_›).2)⟩ (show BsI ws x (bsS ws x q)∧(bsS ws x q).snd - (bsS ws x q).fst<q.snd - q.fst from(by exact BsI.next hs ‹_› ‹_›))
 ·have h2:=of_decide_eq_false h2
  refine v_leave (.ex 0) True trivial ?_
  refine v_guard 39 (decide ((↑q.fst:Int)<(↑ws.length:Int))) True trivial (fun h6=>?_) (fun h6=>?_)
  ·have h6:=of_decide_eq_true h6
   refine v_call _ [3,1] (bcmp_ok (ws.getD (↑q.fst:Int).toNat []) (x)) ((0≤(↑q.fst:Int)∧(↑q.fst:Int)<(↑ws.length:Int))∧(ws.getD (↑q.fst:Int).toNat []=ws.getD (↑q.fst:Int).toNat [])∧(x=x)) ⟨(by omega),rfl,rfl⟩ (fun g7 p8=>?_)
   have p8:True:=p8
   exact v_ret () [] (((↑q.fst:Int)=(↑(cntB x ws):Int))∧(decide (Lib.compareBytes (ws.getD (↑q.fst:Int).toNat []) x=0)=fndB ws x)∧(ws=ws)∧(x=x)) ⟨(by exact bsE ‹_› ‹_›),(by exact bs1 ‹_› ‹_› ‹_›),rfl,rfl⟩ trivial
  ·have h6:=of_decide_eq_false h6
   exact v_ret () [] (((↑q.fst:Int)=(↑(cntB x ws):Int))∧(false=fndB ws x)∧(ws=ws)∧(x=x)) ⟨(by exact bsE ‹_› ‹_›),(by exact bs2 ‹_› ‹_› ‹_›),rfl,rfl⟩ trivial
theorem ksP_srt {l:List Pair} (h:Srt l):(ksP l).Pairwise kle:=by unfold ksP;rw[List.pairwise_map];exact h.imp klt_le
noncomputable def ccM1_50:Code:=(Tryd.f50.body).getD .skip
theorem wcmp_ok (a v x:List UInt8):FOk EN 50 ⟨[.rd 5 (a),.rd 5 (v),.rd 5 (x)],[.a [.n 0,.n 1],.n 2],Unit,fun _=>([.rd 5 (a),.rd 5 (v),.rd 5 (x)],.i (Lib.compareBytes a x)),fun _=>True⟩:=by
 refine v_fun Tryd.f50 ccM1_50 MX (fun ν F σ w=>?_) Tryd.func50
 refine v_nl ?_
 refine v_call _ [0,2] (bcmp_ok (a) (x)) ((a=a)∧(x=x)) ⟨rfl,rfl⟩ (fun g1 p2=>?_)
 have p2:True:=p2
 exact v_ret () [] ((Lib.compareBytes a x=Lib.compareBytes a x)∧(a=a)∧(v=v)∧(x=x)) ⟨rfl,rfl,rfl,rfl⟩ trivial
theorem ksL {l:List Pair} (h:l.length≤1000000):(ksP l).length≤1000000:=by rw[ksP_len];exact h
theorem bsCP {l:List Pair} {x:List UInt8} {q:Nat × Nat} (h:BsI (ksP l) x q) (hl:l.length≤1000000) (hi:(q.1:Int)<q.2):(0:Int)≤((bsM q).toNat:Int)∧((bsM q).toNat:Int)<(l.length:Int):=by
  have:=bsC h (ksL hl) hi;rwa [ksP_len] at this
theorem bs1P {l:List Pair} {x:List UInt8} {q:Nat × Nat} (h:BsI (ksP l) x q) (hi:¬ (q.1:Int)<q.2) (hn:(q.1:Int)<l.length):decide (Lib.compareBytes (l.getD (q.1:Int).toNat dP).key x=0)=fndP l x:=by
  have e:=h.end hi
  unfold fndP;rw[Int.toNat_natCast,e,decide_eq_true (p:=cntB x (ksP l)<l.length) (by omega),Bool.true_and]
  exact decide_eq_decide.2 cmp_zero
theorem bs2P {l:List Pair} {x:List UInt8} {q:Nat × Nat} (h:BsI (ksP l) x q) (hi:¬ (q.1:Int)<q.2) (hn:¬ (q.1:Int)<l.length):false=fndP l x:=by
  have e:=h.end hi
  unfold fndP;rw[decide_eq_false (p:=cntB x (ksP l)<l.length) (by omega)];rfl
noncomputable def ccM1_49:Code:=(Tryd.f49.body).getD .skip
theorem BSP_ok (l:List Pair) (x:List UInt8) (hs:Srt l) (hl:l.length≤1000000):FOk EN 49 ⟨[.rd 31 (l),.rd 5 (x)],[.n 0,.n 1,.f 50 [] []],Unit,fun _=>([.rd 31 (l),.rd 5 (x)],.t [.i (cntB x (ksP l)),.b (fndP l x)]),fun _=>True⟩:=by
 refine v_fun Tryd.f49 ccM1_49 MX (fun ν F σ w=>?_) Tryd.func49
 refine v_nl ?_
 refine v_loop (fun q:Nat × Nat=>([(9,.i q.1),(10,.i q.2)],[])) (fun q=>BsI (ksP l) x q) (fun q=>q.2 - q.1) (0,(ksP l).length) [] (((0:Int)=(↑(0:Nat):Int))∧((↑l.length:Int)=(↑(ksP l).length:Int))) ⟨rfl,(by exact(congrArg Nat.cast (ksP_len l)).symm)⟩ (by exact BsI.start) (fun q hk1=>?_)
 refine v_if (decide ((↑q.fst:Int)<(↑q.snd:Int))) True trivial (fun h2=>?_) (fun h2=>?_)
 ·have h2:=of_decide_eq_true h2
  refine v_call _ [3,4,1] (wcmp_ok ((l.getD (↑(ofI ((↑q.fst:Int)+(↑q.snd:Int)) >>> 1).toNat:Int).toNat (Pair.mk [] [])).key) ((l.getD (↑(ofI ((↑q.fst:Int)+(↑q.snd:Int)) >>> 1).toNat:Int).toNat (Pair.mk [] [])).value) (x)) ((I64 (↑q.fst + ↑q.snd))∧((1:UInt64)<(64:UInt64))∧(ofI (↑q.fst + ↑q.snd) >>> 1<9223372036854775808)∧((0:Int)≤(↑(ofI ((↑q.fst:Int)+(↑q.snd:Int)) >>> (1:UInt64)).toNat:Int)∧(↑(ofI ((↑q.fst:Int)+(↑q.snd:Int)) >>> (1:UInt64)).toNat:Int)<(↑l.length:Int))∧((l.getD (↑(ofI ((↑q.fst:Int)+(↑q.snd:Int)) >>> 1).toNat:Int).toNat (Pair.mk [] [])).key=(l.getD (↑(ofI ((↑q.fst:Int)+(↑q.snd:Int)) >>> 1).toNat:Int).toNat (Pair.mk [] [])).key)∧((l.getD (↑(ofI ((↑q.fst:Int)+(↑q.snd:Int)) >>> 1).toNat:Int).toNat (Pair.mk [] [])).value=(l.getD (↑(ofI ((↑q.fst:Int)+(↑q.snd:Int)) >>> 1).toNat:Int).toNat (Pair.mk [] [])).value)∧(x=x)) ⟨(by exact bsA (x:=x) (ws:=ksP l) ‹_› (ksL hl)),(by decide),(by exact bsB (x:=x) (ws:=ksP l) ‹_› (ksL hl)),(by exact bsCP (x:=x) ‹_› hl ‹_›),rfl,rfl,rfl⟩ (fun g3 p4=>?_)
  have p4:True:=p4
  refine v_if (decide (Lib.compareBytes (l.getD (↑(ofI ((↑q.fst:Int)+(↑q.snd:Int)) >>> 1).toNat:Int).toNat (Pair.mk [] [])).key x<0)) True trivial (fun h5=>?_) (fun h5=>?_)
  ·have h5:=of_decide_eq_true h5
   exact v_back (bsS (ksP l) x q) [] ((I64 (↑(ofI (↑q.fst + ↑q.snd) >>> 1).toNat+1))∧((↑(ofI ((↑q.fst:Int)+(↑q.snd:Int)) >>> 1).toNat:Int)+1=(↑(bsS (ksP l) x q).fst:Int))∧((↑q.snd:Int)=(↑(bsS (ksP l) x q).snd:Int))) ⟨(by exact bsD (x:=x) (ws:=ksP l) ‹_› (ksL hl)),(by exact(bsT (ws:=ksP l) ‹_› (ksL hl) (by rw[ksP_get];assumption)).1),(by exact(bsT (ws:=ksP l) ‹_› (ksL hl) (by rw[ksP_get];assumption)).2)⟩ (show BsI (ksP l) x (bsS (ksP l) x q)∧(bsS (ksP l) x q).snd - (bsS (ksP l) x q).fst<q.snd - q.fst from(by exact BsI.next (ksP_srt hs) ‹_› ‹_›))
  ·have h5:=of_decide_eq_false h5
   exact v_back (bsS (ksP l) x q) [] (((↑q.fst:Int)=(↑(bsS (ksP l) x q).fst:Int))∧((↑(ofI ((↑q.fst:Int)+(↑q.snd:Int)) >>> 1).toNat:Int)=(↑(bsS (ksP l) x q).snd:Int))) ⟨(by exact(bsF (ws:=ksP l) ‹_› (ksL hl) (by rw[ksP_get];assumption)).1),(by exact(bsF (ws:=ksP l) ‹_› (ksL hl) (by rw[ksP_get];assumption)).2)⟩ (show BsI (ksP l) x (bsS (ksP l) x q)∧(bsS (ksP l) x q).snd - (bsS (ksP l) x q).fst<q.snd - q.fst from(by exact BsI.next (ksP_srt hs) ‹_› ‹_›))
 ·have h2:=of_decide_eq_false h2
  refine v_leave (.ex 0) True trivial ?_
  refine v_guard 39 (decide ((↑q.fst:Int)<(↑l.length:Int))) True trivial (fun h6=>?_) (fun h6=>?_)
  ·have h6:=of_decide_eq_true h6
   refine v_call _ [3,4,1] (wcmp_ok ((l.getD (↑q.fst:Int).toNat (Pair.mk [] [])).key) ((l.getD (↑q.fst:Int).toNat (Pair.mk [] [])).value) (x)) ((0≤(↑q.fst:Int)∧(↑q.fst:Int)<(↑l.length:Int))∧((l.getD (↑q.fst:Int).toNat (Pair.mk [] [])).key=(l.getD (↑q.fst:Int).toNat (Pair.mk [] [])).key)∧((l.getD (↑q.fst:Int).toNat (Pair.mk [] [])).value=(l.getD (↑q.fst:Int).toNat (Pair.mk [] [])).value)∧(x=x)) ⟨(by omega),rfl,rfl,rfl⟩ (fun g7 p8=>?_)
   have p8:True:=p8
   exact v_ret () [] (((↑q.fst:Int)=(↑(cntB x (ksP l)):Int))∧(decide (Lib.compareBytes (l.getD (↑q.fst:Int).toNat (Pair.mk [] [])).key x=0)=fndP l x)∧(l=l)∧(x=x)) ⟨(by exact bsE ‹_› ‹_›),(by exact bs1P ‹_› ‹_› ‹_›),rfl,rfl⟩ trivial
  ·have h6:=of_decide_eq_false h6
   exact v_ret () [] (((↑q.fst:Int)=(↑(cntB x (ksP l)):Int))∧(false=fndP l x)∧(l=l)∧(x=x)) ⟨(by exact bsE ‹_› ‹_›),(by exact bs2P ‹_› ‹_› ‹_›),rfl,rfl⟩ trivial
def NoD (xs:List (List UInt8)) (k:Nat):Prop:=dedN xs k=xs.take k
structure CI (xs:List (List UInt8)) (b:Nat) (q:Nat × Nat × List (List UInt8)):Prop where
  one:1≤q.1
  b1:1≤b
  le:b+q.1≤xs.length
  kb:b≤q.2.1
  kk:q.2.1+1≤b+q.1
  len:q.2.2.length=xs.length
  tk:q.2.2.take q.2.1=dedN xs (b+q.1)
  dr:∀ j,b+q.1≤j+1→q.2.2.getD j []=xs.getD j []
def ciS (b:Nat) (q:Nat × Nat × List (List UInt8)):Nat × Nat × List (List UInt8) :=
  if q.2.2.getD (b+q.1) []=q.2.2.getD (b+q.1 - 1) [] then(q.1+1,q.2.1,q.2.2) else(q.1+1,q.2.1+1,q.2.2.set q.2.1 (q.2.2.getD (b+q.1) []))
theorem take_succ_getD {ys:List (List UInt8)} {k:Nat} (h:k<ys.length):ys.take (k+1)=ys.take k++[ys.getD k []]:=by
  rw[List.take_succ,List.getD_eq_getElem?_getD,List.getElem?_eq_getElem h];rfl
theorem NoD.next {xs:List (List UInt8)} {k:Nat} (h:NoD xs k) (hk:(k:Int)<xs.length) (h1:1≤k) (hn:¬ xs.getD k []=xs.getD (k - 1) []):NoD xs (k+1):=by
  unfold NoD at *;rw[take_succ_getD (by omega),dedN,if_neg (fun e=>hn e.2),h]
theorem NoD.one {xs:List (List UInt8)} (h:2≤(xs.length:Int)):NoD xs 1:=by unfold NoD;rw[take_succ_getD (by omega)];simp[dedN]
theorem NoD.all {xs:List (List UInt8)} {k:Nat} (h:NoD xs k) (hk:k≤xs.length) (hn:¬ (k:Int)<xs.length):xs=dedB xs:=by
  have:k=xs.length:=by omega
  subst this;unfold dedB;rw[h,List.take_length]
theorem ded_small {xs:List (List UInt8)} (h:(xs.length:Int)<2):xs=dedB xs:=by
  match xs,h with
  | [],_=>rfl
  | [x],_=>rfl
  | _::_::_,h=>simp at h;omega
theorem CI.start {xs:List (List UInt8)} {k:Nat} (h:NoD xs k) (h1:1≤k) (hk:(k:Int)<xs.length) (he:xs.getD k []=xs.getD (k - 1) []):CI xs k (1,k,xs) :=
  ⟨Nat.le_refl _,h1,by show k+1≤_;omega,Nat.le_refl _,Nat.le_refl _,rfl,by show xs.take k=dedN xs (k+1);rw[dedN,if_pos ⟨by omega,he⟩,h],fun _ _=>rfl⟩
theorem CI.next {xs:List (List UInt8)} {b:Nat} {q:Nat × Nat × List (List UInt8)} (h:CI xs b q) (hq:(q.1:Int)<((xs.length - b:Nat):Int)):CI xs b (ciS b q)∧xs.length - (ciS b q).1<xs.length - q.1:=by
  obtain⟨h1,hb1,h2,h3,h4,h5,h6,h7⟩:=h
  have e1:q.2.2.getD (b+q.1) []=xs.getD (b+q.1) []:=h7 _ (by omega)
  have e2:q.2.2.getD (b+q.1 - 1) []=xs.getD (b+q.1 - 1) []:=h7 _ (by omega)
  unfold ciS;rw[e1,e2]
  split
  · rename_i he
    refine⟨⟨by show 1≤q.1+1;omega,hb1,by show b+(q.1+1)≤_;omega,h3,by show q.2.1+1≤b+(q.1+1);omega,h5,?_,fun j hj=>h7 j (by have:b+(q.1+1)≤j+1:=hj;omega)⟩,by show xs.length - (q.1+1)<_;omega⟩
    show q.2.2.take q.2.1=dedN xs (b+q.1+1)
    rw[dedN,if_pos ⟨by omega,he⟩];exact h6
  · rename_i he
    refine⟨⟨by show 1≤q.1+1;omega,hb1,by show b+(q.1+1)≤_;omega,by show b≤q.2.1+1;omega,by show q.2.1+1+1≤b+(q.1+1);omega,by show(q.2.2.set _ _).length=_;rw[List.length_set];exact h5,?_,fun j hj=>?_⟩,by show xs.length - (q.1+1)<_;omega⟩
    · show (q.2.2.set q.2.1 _).take (q.2.1 + 1) = dedN xs (b + q.1 + 1)
      rw[dedN,if_neg (fun e=>he e.2),take_succ_getD (by rw[List.length_set,h5];omega),List.take_set_of_le (Nat.le_refl _),h6]
      rw[List.getD_eq_getElem?_getD,List.getElem?_set_self (by rw[h5];omega)];rfl
    · show (q.2.2.set q.2.1 _).getD j [] = _
      have hj':b+(q.1+1)≤j+1:=hj
      rw[List.getD_eq_getElem?_getD,List.getElem?_set_ne (by omega),← List.getD_eq_getElem?_getD]
      exact h7 j (by omega)
theorem CI.end {xs:List (List UInt8)} {b:Nat} {q:Nat × Nat × List (List UInt8)} (h:CI xs b q) (hq:¬ (q.1:Int)<((xs.length - b:Nat):Int)) (zs:List (List UInt8)):(q.2.2.take q.2.1++zs).take q.2.1=dedB xs:=by
  obtain⟨h1,hb1,h2,h3,h4,h5,h6,h7⟩:=h
  have:b+q.1=xs.length:=by omega
  rw[List.take_append_of_le_length (by rw[List.length_take];omega),List.take_take,Nat.min_self,h6,this];rfl
section
variable {xs:List (List UInt8)} {k:Nat} {q:Nat × Nat × List (List UInt8)}
theorem cix (h:CI xs k q):1≤q.1∧1≤k∧k+q.1≤xs.length∧k≤q.2.1∧q.2.1+1≤k+q.1∧q.2.2.length=xs.length:=⟨h.one,h.b1,h.le,h.kb,h.kk,h.len⟩
theorem ciA (hc:xs.getD (k:Int).toNat []=xs.getD ((k:Int) - 1).toNat []) (h1:1≤k):xs.getD k []=xs.getD (k - 1) []:=by rwa [Int.toNat_natCast,show((k:Int) - 1).toNat=k - 1 by omega] at hc
theorem ciB (hc:xs.getD k []=xs.getD (k - 1) []):xs.getD (k:Int).toNat []=xs.getD ((k:Int) - 1).toNat []:=by rwa [Int.toNat_natCast,show((k:Int) - 1).toNat=k - 1 by omega]
theorem ciE (h:CI xs k q):k+((q.1:Int) - 1).toNat=k+q.1 - 1:=by have:=h.one;omega
theorem ciT (h:CI xs k q) (hc:¬ q.2.2.getD (k+(q.1:Int).toNat) []=q.2.2.getD (k+((q.1:Int) - 1).toNat) []):(q.1:Int)+1=((ciS k q).1:Int)∧(q.2.1:Int)+1=((ciS k q).2.1:Int)∧q.2.2.set (q.2.1:Int).toNat (q.2.2.getD (k+(q.1:Int).toNat) [])=(ciS k q).2.2:=by
  rw[ciE h,Int.toNat_natCast] at hc
  unfold ciS;rw[if_neg hc];exact⟨rfl,rfl,rfl⟩
theorem ciF (h:CI xs k q) (hc:q.2.2.getD (k+(q.1:Int).toNat) []=q.2.2.getD (k+((q.1:Int) - 1).toNat) []):(q.1:Int)+1=((ciS k q).1:Int)∧(q.2.1:Int)=((ciS k q).2.1:Int)∧q.2.2=(ciS k q).2.2:=by
  rw[ciE h,Int.toNat_natCast] at hc
  unfold ciS;rw[if_pos hc];exact⟨rfl,rfl,rfl⟩
theorem ciL (h:CI xs k q):(0:Int)≤(q.2.1:Int)∧(q.2.1:Int)≤((q.2.2.take (q.2.1:Int).toNat++List.replicate (q.2.2.length - (q.2.1:Int).toNat) ([]:List UInt8)).length:Int):=by
  have:=cix h;simp only[List.length_append,List.length_take,List.length_replicate,Int.toNat_natCast];omega
end
noncomputable def ccM2_52:Code:=(Tryd.f52.body).getD .skip
theorem Compact_ok (xs:List (List UInt8)) (hl:xs.length≤1000000):FOk EN 52 ⟨[.mu 23 xs],[.n 0,.f 28 [] []],Unit,fun _=>([.no,.rd 23 (dedB xs)],.n 1),fun _=>True⟩:=by
 refine v_fun Tryd.f52 ccM2_52 MX (fun ν F σ w=>?_) Tryd.func52
 refine v_nl ?_
 refine v_mark 23 ?_
 refine v_cut 23 ?_
 refine v_if (decide ((↑xs.length:Int)<2)) True trivial (fun h1=>?_) (fun h1=>?_)
 ·have h1:=of_decide_eq_true h1
  refine v_stop 0 True trivial ?_
  exact v_ret () [0] ((xs=dedB xs)) (by exact ded_small ‹_›) trivial
 ·have h1:=of_decide_eq_false h1
  refine v_loop (fun k:Nat=>([(5,.i k)],[])) (fun k=>NoD xs k∧1≤k∧k≤xs.length) (fun k=>xs.length - k) 1 [] (((1:Int)=(↑(1:Nat):Int))) rfl (by exact⟨NoD.one (by omega),by omega,by omega⟩) (fun k hk2=>?_)
  refine v_if (decide ((↑k:Int)<(↑xs.length:Int))) True trivial (fun h3=>?_) (fun h3=>?_)
  ·have h3:=of_decide_eq_true h3
   refine v_join [18,19,20,21,22,23,24,25,26,27,28] [] (fun _:Unit=>([(28,SV.b (decide (xs.getD (↑k:Int).toNat []=xs.getD ((↑k:Int) - 1).toNat [])))],[])) (fun _=>True) ?_ (fun _ _=>?_) True trivial
   ·skip
    refine v_plan (.fs [0,1,2,3,5,6,7,8] (.c 4 (.o 9 (.o 10 .e)) (.o 9 (.o 4 (.o 10 .e))))) [2] True trivial ?_
    refine v_pick ((0≤(↑k:Int)∧(↑k:Int)<(↑xs.length:Int))∧(I64 (↑k - 1))∧(0≤(↑k:Int) - 1∧(↑k:Int) - 1<(↑xs.length:Int))) ⟨(by omega),(by(unfold I64;omega)),(by omega)⟩ ?_ ?_
    ·skip
     refine v_call _ [4,5] (beq_ok (xs.getD (↑k:Int).toNat []) (xs.getD ((↑k:Int) - 1).toNat [])) (((↑k:Int).toNat<xs.length)∧(((↑k:Int) - 1).toNat<xs.length)∧(xs.getD (↑k:Int).toNat []=xs.getD (↑k:Int).toNat [])∧(xs.getD ((↑k:Int) - 1).toNat []=xs.getD ((↑k:Int) - 1).toNat [])) ⟨(by omega),(by omega),rfl,rfl⟩ (fun g4 p5=>?_)
     have p5:True:=p5
     exact v_back (()) [] ((decide (xs.getD (↑k:Int).toNat []=xs.getD ((↑k:Int) - 1).toNat [])=decide (xs.getD (↑k:Int).toNat []=xs.getD ((↑k:Int) - 1).toNat []))) rfl (show True from trivial)
    ·skip
     refine v_call _ [5,4] (beq_ok (xs.getD (↑k:Int).toNat []) (xs.getD ((↑k:Int) - 1).toNat [])) ((((↑k:Int) - 1).toNat<xs.length)∧((↑k:Int).toNat<xs.length)∧(xs.getD (↑k:Int).toNat []=xs.getD (↑k:Int).toNat [])∧(xs.getD ((↑k:Int) - 1).toNat []=xs.getD ((↑k:Int) - 1).toNat [])) ⟨(by omega),(by omega),rfl,rfl⟩ (fun g6 p7=>?_)
     have p7:True:=p7
     exact v_back (()) [] ((decide (xs.getD (↑k:Int).toNat []=xs.getD ((↑k:Int) - 1).toNat [])=decide (xs.getD (↑k:Int).toNat []=xs.getD ((↑k:Int) - 1).toNat []))) rfl (show True from trivial)
   ·skip
    refine v_if (decide (xs.getD (↑k:Int).toNat []=xs.getD ((↑k:Int) - 1).toNat [])) True trivial (fun h8=>?_) (fun h8=>?_)
    ·have h8:=of_decide_eq_true h8
     refine v_loop (fun q:Nat × Nat × List (List UInt8)=>([(7,.i q.1),(5,.i q.2.1),(0,.n 4),(6,.q 4 k xs.length none 1)],[.mu 23 q.2.2])) (fun q=>CI xs k q) (fun q=>xs.length - q.1) (1,k,xs) [0] ((0≤(↑k:Int)∧(↑k:Int)≤(↑xs.length:Int)∧0<xs.length)∧((1:Int)=(↑(1:Nat):Int))∧((↑k:Int)=(↑k:Int))∧((↑k:Int).toNat=k)∧(xs.length=xs.length)∧(xs=xs)) ⟨(by omega),rfl,rfl,rfl,rfl,rfl⟩ (by exact CI.start (‹NoD xs k∧1≤k∧k≤xs.length›).1 (‹NoD xs k∧1≤k∧k≤xs.length›).2.1 ‹_› (ciA ‹_› (‹NoD xs k∧1≤k∧k≤xs.length›).2.1)) (fun q hk9=>?_)
     refine v_if (decide ((↑q.fst:Int)<(↑(xs.length - k):Int))) True trivial (fun h10=>?_) (fun h10=>?_)
     ·have h10:=of_decide_eq_true h10
      refine v_join [38,39,40,41,42,43,44,45,46,47,48,49] [] (fun _:Unit=>([(49,SV.b !decide (q.snd.snd.getD (k+(↑q.fst:Int).toNat) []=q.snd.snd.getD (k+((↑q.fst:Int) - 1).toNat) []))],[])) (fun _=>True) ?_ (fun _ _=>?_) True trivial
      ·skip
       refine v_plan (.fs [0,1,2,3,5,6,7,8] (.c 4 (.o 9 (.o 10 (.fs [11] .e))) (.o 9 (.o 4 (.o 10 (.fs [11] .e)))))) [2] True trivial ?_
       refine v_pick ((0≤(↑q.fst:Int)∧(↑q.fst:Int)<(↑(xs.length - k):Int)∧xs.length≤q.snd.snd.length)∧(I64 (↑q.fst - 1))∧(0≤(↑q.fst:Int) - 1∧(↑q.fst:Int) - 1<(↑(xs.length - k):Int)∧xs.length≤q.snd.snd.length)) ⟨(by(obtain⟨c1,c2,c3,c4,c5,c6⟩:=cix (xs:=xs) (k:=k) (q:=q) ‹_›;first | omega | (unfold I64;omega))),(by(unfold I64;omega)),(by(obtain⟨c1,c2,c3,c4,c5,c6⟩:=cix (xs:=xs) (k:=k) (q:=q) ‹_›;first | omega | (unfold I64;omega)))⟩ ?_ ?_
       ·skip
        refine v_call _ [5,6] (beq_ok (q.snd.snd.getD (k+(↑q.fst:Int).toNat) []) (q.snd.snd.getD (k+((↑q.fst:Int) - 1).toNat) [])) ((k+(↑q.fst:Int).toNat<q.snd.snd.length)∧(k+((↑q.fst:Int) - 1).toNat<q.snd.snd.length)∧(q.snd.snd.getD (k+(↑q.fst:Int).toNat) []=q.snd.snd.getD (k+(↑q.fst:Int).toNat) [])∧(q.snd.snd.getD (k+((↑q.fst:Int) - 1).toNat) []=q.snd.snd.getD (k+((↑q.fst:Int) - 1).toNat) [])) ⟨(by(obtain⟨c1,c2,c3,c4,c5,c6⟩:=cix (xs:=xs) (k:=k) (q:=q) ‹_›;first | omega | (unfold I64;omega))),(by(obtain⟨c1,c2,c3,c4,c5,c6⟩:=cix (xs:=xs) (k:=k) (q:=q) ‹_›;first | omega | (unfold I64;omega))),rfl,rfl⟩ (fun g11 p12=>?_)
        have p12:True:=p12
        exact v_back (()) [] (((!decide (q.snd.snd.getD (k+(↑q.fst:Int).toNat) []=q.snd.snd.getD (k+((↑q.fst:Int) - 1).toNat) [])) = !decide (q.snd.snd.getD (k+(↑q.fst:Int).toNat) []=q.snd.snd.getD (k+((↑q.fst:Int) - 1).toNat) []))) rfl (show True from trivial)
       ·skip
        refine v_call _ [6,5] (beq_ok (q.snd.snd.getD (k+(↑q.fst:Int).toNat) []) (q.snd.snd.getD (k+((↑q.fst:Int) - 1).toNat) [])) ((k+((↑q.fst:Int) - 1).toNat<q.snd.snd.length)∧(k+(↑q.fst:Int).toNat<q.snd.snd.length)∧(q.snd.snd.getD (k+(↑q.fst:Int).toNat) []=q.snd.snd.getD (k+(↑q.fst:Int).toNat) [])∧(q.snd.snd.getD (k+((↑q.fst:Int) - 1).toNat) []=q.snd.snd.getD (k+((↑q.fst:Int) - 1).toNat) [])) ⟨(by(obtain⟨c1,c2,c3,c4,c5,c6⟩:=cix (xs:=xs) (k:=k) (q:=q) ‹_›;first | omega | (unfold I64;omega))),(by(obtain⟨c1,c2,c3,c4,c5,c6⟩:=cix (xs:=xs) (k:=k) (q:=q) ‹_›;first | omega | (unfold I64;omega))),rfl,rfl⟩ (fun g13 p14=>?_)
        have p14:True:=p14
        exact v_back (()) [] (((!decide (q.snd.snd.getD (k+(↑q.fst:Int).toNat) []=q.snd.snd.getD (k+((↑q.fst:Int) - 1).toNat) [])) = !decide (q.snd.snd.getD (k+(↑q.fst:Int).toNat) []=q.snd.snd.getD (k+((↑q.fst:Int) - 1).toNat) []))) rfl (show True from trivial)
      ·skip
       refine v_if (!decide (q.snd.snd.getD (k+(↑q.fst:Int).toNat) []=q.snd.snd.getD (k+((↑q.fst:Int) - 1).toNat) [])) True trivial (fun h15=>?_) (fun h15=>?_)
       ·have h15:=of_decide_eq_false (nt h15)
        exact v_back (ciS k q) [4] ((0≤(↑q.fst:Int)∧(↑q.fst:Int)<(↑(xs.length - k):Int)∧xs.length≤q.snd.snd.length)∧(k+(↑q.fst:Int).toNat<q.snd.snd.length)∧(0≤(↑q.snd.fst:Int)∧(↑q.snd.fst:Int)<(↑q.snd.snd.length:Int))∧((↑q.snd.fst:Int).toNat<q.snd.snd.length)∧(I64 (↑q.snd.fst+1))∧(I64 (↑q.fst+1))∧((↑q.fst:Int)+1=(↑(ciS k q).fst:Int))∧((↑q.snd.fst:Int)+1=(↑(ciS k q).snd.fst:Int))∧(k=k)∧(xs.length=xs.length)∧(q.snd.snd.set (↑q.snd.fst:Int).toNat (q.snd.snd.getD (k+(↑q.fst:Int).toNat) [])=(ciS k q).snd.snd)) ⟨(by(obtain⟨c1,c2,c3,c4,c5,c6⟩:=cix (xs:=xs) (k:=k) (q:=q) ‹_›;first | omega | (unfold I64;omega))),(by(obtain⟨c1,c2,c3,c4,c5,c6⟩:=cix (xs:=xs) (k:=k) (q:=q) ‹_›;first | omega | (unfold I64;omega))),(by(obtain⟨c1,c2,c3,c4,c5,c6⟩:=cix (xs:=xs) (k:=k) (q:=q) ‹_›;first | omega | (unfold I64;omega))),(by(obtain⟨c1,c2,c3,c4,c5,c6⟩:=cix (xs:=xs) (k:=k) (q:=q) ‹_›;first | omega | (unfold I64;omega))),(by(obtain⟨c1,c2,c3,c4,c5,c6⟩:=cix (xs:=xs) (k:=k) (q:=q) ‹_›;first | omega | (unfold I64;omega))),(by(unfold I64;omega)),(by exact(ciT ‹_› ‹_›).1),(by exact(ciT ‹_› ‹_›).2.1),rfl,rfl,(by exact(ciT ‹_› ‹_›).2.2)⟩ (show CI xs k (ciS k q)∧xs.length - (ciS k q).fst<xs.length - q.fst from(by exact CI.next ‹_› ‹_›))
       ·have h15:=of_decide_eq_true (nf h15)
        exact v_back (ciS k q) [4] ((I64 (↑q.fst+1))∧((↑q.fst:Int)+1=(↑(ciS k q).fst:Int))∧((↑q.snd.fst:Int)=(↑(ciS k q).snd.fst:Int))∧(k=k)∧(xs.length=xs.length)∧(q.snd.snd=(ciS k q).snd.snd)) ⟨(by(unfold I64;omega)),(by exact(ciF ‹_› ‹_›).1),(by exact(ciF ‹_› ‹_›).2.1),rfl,rfl,(by exact(ciF ‹_› ‹_›).2.2)⟩ (show CI xs k (ciS k q)∧xs.length - (ciS k q).fst<xs.length - q.fst from(by exact CI.next ‹_› ‹_›))
     ·have h10:=of_decide_eq_false h10
      refine v_leave (.ex 2) True trivial ?_
      refine v_stop 4 ((0≤(↑q.snd.fst:Int)∧(↑q.snd.fst:Int)≤(↑q.snd.snd.length:Int)∧0<q.snd.snd.length)∧((↑q.snd.fst:Int).toNat≤q.snd.snd.length∧q.snd.snd.length=q.snd.snd.length)) ⟨(by(obtain⟨c1,c2,c3,c4,c5,c6⟩:=cix (xs:=xs) (k:=k) (q:=q) ‹_›;first | omega | (unfold I64;omega))),(by(obtain⟨c1,c2,c3,c4,c5,c6⟩:=cix (xs:=xs) (k:=k) (q:=q) ‹_›;first | omega | (unfold I64;omega)))⟩ ?_
      refine v_leave .rt ((0≤(↑q.snd.fst:Int)∧(↑q.snd.fst:Int)≤(↑(List.take (↑q.snd.fst:Int).toNat q.snd.snd++List.replicate (q.snd.snd.length - (↑q.snd.fst:Int).toNat) []).length:Int))) (by exact ciL ‹_›) ?_
      exact v_ret () [5] ((List.take (↑q.snd.fst:Int).toNat (List.take (↑q.snd.fst:Int).toNat q.snd.snd++List.replicate (q.snd.snd.length - (↑q.snd.fst:Int).toNat) [])=dedB xs)) (by exact(‹CI xs k q›).end ‹_› _) trivial
    ·have h8:=of_decide_eq_false h8
     exact v_back (k+1) [] ((I64 (↑k+1))∧((↑k:Int)+1=(↑(k+1):Int))) ⟨(by(unfold I64;omega)),rfl⟩ (show(NoD xs (k+1)∧1≤k+1∧k+1≤xs.length)∧xs.length - (k+1)<xs.length - k from(by(have hc:=‹NoD xs k∧1≤k∧k≤xs.length›;exact⟨⟨hc.1.next ‹_› hc.2.1 (fun e=>absurd (ciB e) ‹_›),by omega,by omega⟩,by omega⟩)))
  ·have h3:=of_decide_eq_false h3
   refine v_leave (.ex 0) True trivial ?_
   refine v_stop 0 True trivial ?_
   exact v_ret () [0] ((xs=dedB xs)) (by exact(‹NoD xs k∧1≤k∧k≤xs.length›).1.all (‹NoD xs k∧1≤k∧k≤xs.length›).2.2 ‹_›) trivial
end Go.Proofs.YtkpnjjacbhicgaaDoor.X
set_option linter.unusedVariables false
set_option linter.unusedSimpArgs false
set_option maxRecDepth 100000
namespace Go.Proofs.YtkpnjjacbhicgaaDoor.X
open Go Go.RowKit Go.Proofs Go.Proofs.YtkpnjjacbhicgaaDoor.E Go.Sort Go.Shelf
def slf_ren:Go.Shelf.Ren:=⟨fun | 6=>51 | 14=>65 | 15=>66 | 20=>70 | 21=>71 | 22=>72 | 23=>73 | 24=>74 | 25=>75 | 26=>76 | 27=>77 | 28=>78 | 29=>79 | 46=>81 | 47=>82 | 48=>83 | 49=>84 | 50=>85 | 57=>86 | n=>n,fun | 0=>0 | 3=>3 | 4=>4 | 5=>5 | 9=>9 | 22=>29 | 24=>23 | 25=>83 | 39=>113 | 45=>143 | 46=>144 | 50=>117 | 53=>137 | 55=>53 | 66=>153 | 70=>157 | 76=>159 | 77=>160 | n=>n,fun n=>n⟩
theorem slf:SlLaysF.n6 Tryd.prog slf_ren where
  mixed:=by kernel_rfl
  f6:=⟨"slices.SortFunc[[][]byte,[]byte]",by decide,Tryd.func51.trans (congrArg some (by kernel_rfl))⟩
  f14:=⟨"slices.pdqsortCmpFunc[[]byte]",by decide,Tryd.func65.trans (congrArg some (by kernel_rfl))⟩
  f15:=Tryd.func66.trans (congrArg some (by kernel_rfl))
  f20:=⟨"slices.insertionSortCmpFunc[[]byte]",by decide,Tryd.func70.trans (congrArg some (by kernel_rfl))⟩
  f21:=⟨"slices.heapSortCmpFunc[[]byte]",by decide,Tryd.func71.trans (congrArg some (by kernel_rfl))⟩
  f22:=⟨"slices.breakPatternsCmpFunc[[]byte]",by decide,Tryd.func72.trans (congrArg some (by kernel_rfl))⟩
  f23:=⟨"slices.choosePivotCmpFunc[[]byte]",by decide,Tryd.func73.trans (congrArg some (by kernel_rfl))⟩
  f24:=⟨"slices.reverseRangeCmpFunc[[]byte]",by decide,Tryd.func74.trans (congrArg some (by kernel_rfl))⟩
  f25:=⟨"slices.partialInsertionSortCmpFunc[[]byte]",by decide,Tryd.func75.trans (congrArg some (by kernel_rfl))⟩
  f26:=⟨"slices.partitionEqualCmpFunc[[]byte]",by decide,Tryd.func76.trans (congrArg some (by kernel_rfl))⟩
  f27:=⟨"slices.partitionCmpFunc[[]byte]",by decide,Tryd.func77.trans (congrArg some (by kernel_rfl))⟩
  f28:=Tryd.func78.trans (congrArg some (by kernel_rfl))
  f29:=Tryd.func79.trans (congrArg some (by kernel_rfl))
  f46:=⟨"slices.siftDownCmpFunc[[]byte]",by decide,Tryd.func81.trans (congrArg some (by kernel_rfl))⟩
  f47:=Tryd.func82.trans (congrArg some (by kernel_rfl))
  f48:=Tryd.func83.trans (congrArg some (by kernel_rfl))
  f49:=⟨"slices.medianAdjacentCmpFunc[[]byte]",by decide,Tryd.func84.trans (congrArg some (by kernel_rfl))⟩
  f50:=⟨"slices.medianCmpFunc[[]byte]",by decide,Tryd.func85.trans (congrArg some (by kernel_rfl))⟩
  f57:=⟨"slices.order2CmpFunc[[]byte]",by decide,Tryd.func86.trans (congrArg some (by kernel_rfl))⟩
  t0:=Tryd.underlying0
  a0:=Tryd.isAgg0
  z0:=Tryd.sizeOf0
  v0:=Tryd.zeroValue0
  t3:=Tryd.underlying3
  a3:=Tryd.isAgg3
  z3:=Tryd.sizeOf3
  v3:=Tryd.zeroValue3
  t4:=Tryd.underlying4
  a4:=Tryd.isAgg4
  z4:=Tryd.sizeOf4
  v4:=Tryd.zeroValue4
  t5:=Tryd.underlying5
  a5:=Tryd.isAgg5
  z5:=Tryd.sizeOf5
  v5:=Tryd.zeroValue5
  t9:=Tryd.underlying9
  a9:=Tryd.isAgg9
  z9:=Tryd.sizeOf9
  v9:=Tryd.zeroValue9
  t22:=Tryd.underlying29
  a22:=Tryd.isAgg29
  z22:=Tryd.sizeOf29
  v22:=Tryd.zeroValue29
  a24:=Tryd.isAgg23
  z24:=Tryd.sizeOf23
  t25:=Tryd.underlying83
  a25:=Tryd.isAgg83
  z25:=Tryd.sizeOf83
  v25:=Tryd.zeroValue83
  t39:=Tryd.underlying113
  a39:=Tryd.isAgg113
  z39:=Tryd.sizeOf113
  v39:=Tryd.zeroValue113
  t45:=Tryd.underlying143
  a45:=Tryd.isAgg143
  z45:=Tryd.sizeOf143
  v45:=Tryd.zeroValue143
  t46:=Tryd.underlying144
  a46:=Tryd.isAgg144
  z46:=Tryd.sizeOf144
  v46:=Tryd.zeroValue144
  t50:=Tryd.underlying117
  a50:=Tryd.isAgg117
  z50:=Tryd.sizeOf117
  v50:=Tryd.zeroValue117
  t53:=Tryd.underlying137
  a53:=Tryd.isAgg137
  z53:=Tryd.sizeOf137
  v53:=Tryd.zeroValue137
  t55:=Tryd.underlying53
  a55:=Tryd.isAgg53
  z55:=Tryd.sizeOf53
  v55:=Tryd.zeroValue53
  t66:=Tryd.underlying153
  a66:=Tryd.isAgg153
  z66:=Tryd.sizeOf153
  v66:=Tryd.zeroValue153
  t70:=Tryd.underlying157
  a70:=Tryd.isAgg157
  z70:=Tryd.sizeOf157
  v70:=Tryd.zeroValue157
  t76:=Tryd.underlying159
  a76:=Tryd.isAgg159
  z76:=Tryd.sizeOf159
  v76:=Tryd.zeroValue159
  t77:=Tryd.underlying160
  a77:=Tryd.isAgg160
  z77:=Tryd.sizeOf160
  v77:=Tryd.zeroValue160
theorem cmpB_exact (σ:Nat→Nat) (w:World) {v0 v1:Value} {la lb:List UInt8} (h0:Rd tU8 σ w v0 la) (h1:Rd tU8 σ w v1 lb) :
  Ctr Tryd.prog 27 [v0,v1] noM σ w (fun σ' w' v=>v=iv (Lib.compareBytes la lb)∧w'=w):=by
 obtain⟨A0,c0,rfl,hl0⟩:=h0.form
 obtain⟨A1,c1,rfl,hl1⟩:=h1.form
 refine ctr_enter Tryd.func27 c27 (by kernel_rfl) 8 (by kernel_rfl) (Nat.le_of_ble_eq_true (by kernel_rfl)) [(0,(Value.slice A0 la.length c0)),(1,(Value.slice A1 lb.length c1))] (by kernel_rfl) ?_
 intro a hF1
 have hS2:=Stp.refl noM σ w
 refine q_seq ?_
 refine q_reg ?_
 refine q_run 1 [(4,(Value.int .i64 ((0:Nat):Int)))] hF1 fun a3 hF4=>?_
 refine q_end ?_
 refine q_seq ?_
 refine q_reg ?_
 refine q_run 2 [(6,(Value.slice A1 lb.length c1)),(5,(Value.slice A0 la.length c0))] hF4 fun a5 hF6=>?_
 refine r_at (q_val 7 (Op.call (Call.mk (Callee.value (Operand.func 44)) #[(Operand.tmp 5),(Operand.tmp 6)] #[23,23])) hF6 (Value.int .i64 (Lib.compareBytes la lb)) (exec_ext [(Value.slice A0 la.length c0),(Value.slice A1 lb.length c1)] (by kernel_rfl) (run_ext (e:=Extern.BytealgCompare.compare) Tryd.func44 (by kernel_rfl) (by kernel_rfl) (by kernel_rfl) (by kernel_rfl) (run_compareB h0 h1))) ?_)
 intro a7 hF8
 refine q_run 1 [(4,(Value.int .i64 (Lib.compareBytes la lb)))] hF8 fun a9 hF10=>?_
 refine q_end ?_
 refine q_ret ?_
 try dsimp only[Exit.then,Exit.inBlock]
 refine f_ret1 hF10 4 (by kernel_rfl) (Value.int .i64 (Lib.compareBytes la lb)) (by kernel_rfl) σ hS2 ?_
 exact⟨rfl,rfl⟩
abbrev EB (σ:Nat→Nat) (w:World):Type:={p:Value × List UInt8 // Rd tU8 σ w p.1 p.2}
instance instEB (σ:Nat→Nat) (w:World):Inhabited (EB σ w):=⟨⟨(.slice none 0 0,[]),Rd.nil tU8 σ w none 0⟩⟩
section
variable {σ:Nat→Nat} {w:World}
def ebV (p:EB σ w):Value:=p.1.1
def ebB (p:EB σ w):List UInt8:=p.1.2
def cfB (p q:EB σ w):Int:=Lib.compareBytes (ebB p) (ebB q)
theorem eb_one:OneCell (ebV (σ:=σ) (w:=w)):=fun p=>by
  obtain⟨⟨v,l⟩,h⟩:=p
  obtain⟨a,c,e,_⟩:=h.form
  show v.oneCell'=true
  have e':v=.slice a l.length c:=e
  rw[e'];rfl
theorem lt_eb (p q:EB σ w):ltOf cfB p q=true↔klt (ebB p) (ebB q):=by unfold ltOf cfB klt;exact decide_eq_true_iff
theorem nlt_eb (p q:EB σ w):ltOf cfB p q=false↔kle (ebB q) (ebB p):=by
  unfold kle;rw[← lt_eb];cases ltOf cfB p q <;> simp
theorem swoB:SWO (ltOf (cfB (σ:=σ) (w:=w))) where
  irrefl x:=(nlt_eb x x).2 (klt_irr _)
  trans x y z h1 h2:=(lt_eb x z).2 (klt_trans ((lt_eb x y).1 h1) ((lt_eb y z).1 h2))
  ntrans x y z h1 h2:=(nlt_eb x z).2 (kle_trans ((nlt_eb y z).1 h2) ((nlt_eb x y).1 h1))
theorem reps_eb:∀ {xs:List (List UInt8)} {cs:List Value},Reps ((tSl tU8).rep σ w) xs cs→∃ ps:List (EB σ w),cs=ps.map ebV∧xs=ps.map ebB
  | [],cs,e=>⟨[],e,rfl⟩
  | x :: xs, cs, ⟨c, r, e, hx, hr⟩ => by
    obtain⟨v,hv,hR⟩:=hx
    obtain⟨ps,h1,h2⟩:=reps_eb hr
    exact⟨⟨(v,x),hR⟩::ps,by rw[e,hv,h1];rfl,by rw[h2];rfl⟩
theorem eb_reps:∀(ps:List (EB σ w)),Reps ((tSl tU8).rep σ w) (ps.map ebB) (ps.map ebV)
  | []=>rfl
  | p::ps=>⟨[ebV p],ps.map ebV,rfl,⟨ebV p,rfl,p.2⟩,eb_reps ps⟩
theorem sortW_stp {g:Nat} (hg:g<w.heap.size) (hσ:σ g=0) (m:Nat) (d:Array (EB σ w)) (os:Array Obj):Stp (· = g) σ w σ (sortWorld ebV w g 0 m d os):=by
  have hb:∀ b,b<w.heap.size→b≠g→(sortWorld ebV w g 0 m d os).heap[b]? = w.heap[b]?:=fun b hb hn=>by
    unfold sortWorld
    rw[heap_grow_old _ _ (by rw[size_putRow];exact hb)]
    show(w.heap.modify g _)[b]? = _
    rw[Array.getElem?_modify,if_neg (Ne.symm hn)]
  refine⟨rfl,rfl,rfl,?_,fun b h hn=>hb b h hn,fun _ _ _=>rfl,fun b o h ho=>?_,fun _ _=>Nat.le_refl _⟩
  · unfold sortWorld;rw[size_grow,size_putRow];exact Nat.le_add_right _ _
  · have hn : b ≠ g := by rintro rfl; rw [hσ] at ho; omega
    exact World.cell?_of_block (hb b h hn)
theorem cmpB_lays {g:Nat} (hg:g<w.heap.size) (hσ:σ g=0) (n:Nat):CmpLays1 Tryd.prog 27 #[] (ebV (σ:=σ) (w:=w)) cfB g 0 n w:=by
  intro m os dk _ x y
  have st:=sortW_stp hg hσ m dk os
  refine Calls.mono (cmpB_exact σ _ (x.2.step st) (y.2.step st)) ?_
  rintro e w' ⟨σ',v,e1,_,e2,e3⟩
  subst e1;subst e2;subst e3
  refine⟨rfl,0,#[],?_⟩
  rw[grow_empty];rfl
theorem arr_get {α:Type} [Inhabited α] {ps:List α} {j:Nat} (hj:j<ps.length):ps.toArray[j]! = ps[j]:=by
  rw[getElem!_pos _ j (by simpa using hj)];simp
theorem sortW_row {g:Nat} {cur:Array Value} {e:TypeId} (hg:w.heap[g]? = some (.cells cur e (0,0))) {ps:List (EB σ w)} (hn:ps.length≤cur.size) (m:Nat) (os:Array Obj) :
    ∃ cur',(sortWorld ebV w g 0 m ps.toArray os).heap[g]? = some (.cells cur' e (0,0))∧cur'.size=cur.size∧cur'.toList.take ps.length=ps.map ebV:=by
  have hlt:=(Array.getElem?_eq_some_iff.1 hg).1
  refine⟨putCells ebV 0 ps.toArray cur,?_,by simp[putCells],?_⟩
  · unfold sortWorld
    rw[heap_grow_old _ _ (by rw[size_putRow];exact hlt)]
    show(w.heap.modify g _)[g]? = _
    rw[Array.getElem?_modify,if_pos rfl,hg];rfl
  · refine List.ext_getElem? fun j => ?_
    rw[List.getElem?_take]
    by_cases hj:j<ps.length
    · rw [if_pos hj, Array.getElem?_toList]
      simp only[putCells,Array.getElem?_mapIdx,Array.getElem?_eq_getElem (show j<cur.size by omega),Option.map_some]
      rw[if_pos ⟨Nat.zero_le _,by simpa using hj⟩,Nat.sub_zero,arr_get hj,List.getElem?_map,List.getElem?_eq_getElem hj];rfl
    · rw[if_neg hj,List.getElem?_eq_none (by simpa using hj)]
theorem perm_whole {α:Type} [Inhabited α] {d d':Array α} (h:PermIn 0 d.size d d'):d'.toList.Perm d.toList:=by
  have:=h.2.2
  rw[Array.extract_size] at this
  rw[← h.1] at this
  rwa [Array.extract_size] at this
theorem sorted_whole {d':Array (EB σ w)} (h:SortedIn (ltOf cfB) 0 d'.size d'):(d'.toList.map ebB).Pairwise kle:=by
  rw[List.pairwise_map]
  refine List.pairwise_iff_getElem.2 fun i j hi hj hij=>?_
  have:=h i j (Nat.zero_le _) hij (by simpa using hj)
  rw[getElem!_pos _ j (by simpa using hj),getElem!_pos _ i (by simpa using hi)] at this
  have q:=(nlt_eb _ _).1 this
  simpa using q
end
theorem sort_ok (xs:List (List UInt8)) (hl:xs.length≤1000000):FOk EN 51 ⟨[.mu 23 xs],[.n 0,.f 27 [] []],Unit,fun _=>([.mu 23 (srtB xs)],.t []),fun _=>True⟩:=by
  refine⟨by kernel_rfl,fun ν F σ w S=>?_⟩
  obtain⟨⟨cs,ho,hr,hb,hs⟩,hF⟩:=S.ent 0 _ rfl
  rcases ho.2 with⟨hv,h0⟩ | ⟨g,cap,cur,hv,hg,hnc,hcm,hcs,htake⟩
  · have h0' : xs = [] := List.eq_nil_of_length_eq_zero h0
    subst h0'
    have h:=AnyF.slices_SortFunc_none (P:=Tryd.prog) (ρ:=slf_ren) { slf with } none 0 (.func (.func 27) #[] #[]) w
    have ea:(denL ν [SV.n 0,.f 27 [] []]).toArray=#[.slice none 0 0,.func (.func 27) #[] #[]]:=by simp only[denL,den,hv]
    show Calls Tryd.prog 51 (denL ν [SV.n 0,.f 27 [] []]).toArray w _
    rw[ea]
    refine Calls.mono h ?_
    rintro e w' ⟨rfl,rfl⟩
    exact⟨(),ν,F,σ,rfl,trivial,fun _ _=>rfl,Stp.refl _ _ _,S,Nat.le_refl _,fun i b hb=>.inl ⟨i,hb⟩,rfl⟩
  · have hσ := hs g (by rw [hv]; rfl)
    have hlt:=(Array.getElem?_eq_some_iff.1 hg).1
    obtain⟨ps,e1,e2⟩:=reps_eb hr
    have hpl:ps.length=xs.length:=by rw[e2,List.length_map]
    have hcs':ps.length≤cur.size:=Nat.le_trans (Nat.le_trans (Nat.le_of_eq hpl) hnc) (by have h2:cap*1≤cur.size:=hcs;omega)
    have hHolds:Holds ebV w g 0 ps.toArray:=fun j hj=>by
      have hj':j<ps.length:=by simpa using hj
      refine⟨?_,by simp[World.frozen?,hg]⟩
      rw[Nat.zero_add,cell_of_row w g j cur _ _ hg,← Array.getElem?_toList,arr_get hj']
      have:(cur.toList.take (xs.length*1))[j]? = cs[j]?:=by rw[← htake];rfl
      rw[List.getElem?_take,if_pos (show j<xs.length*1 by omega),e1,List.getElem?_map,List.getElem?_eq_getElem hj'] at this
      exact this
    have eg:∀ args w,(callFunc 27 args).run Tryd.prog w=.ok (.enter 27 args) w:=enters_of Tryd.func27 (by kernel_rfl) rfl
    have h:=Any.slices_SortFunc (P:=Tryd.prog) (ρ:=slf_ren) slf ebV eb_one cfB swoB 27 #[] g 0 cap ps.toArray w eg (cmpB_lays hlt hσ _) hHolds hlt (by simp;omega)
    have ea:(denL ν [SV.n 0,.f 27 [] []]).toArray=#[.slice (some ⟨g,0,none⟩) ps.toArray.size cap,.func (.func 27) #[] #[]]:=by
      simp only[denL,den,hv,List.size_toArray,hpl];rfl
    show Calls Tryd.prog 51 (denL ν [SV.n 0,.f 27 [] []]).toArray w _
    rw[ea]
    refine Calls.mono h ?_
    rintro e w' ⟨rfl,d',n,os,hp,hso,rfl⟩
    have hp':=perm_whole hp
    have hsz:d'.size=ps.length:=by rw[hp.1];simp
    rw[show ps.toArray.size=d'.size by rw[hsz];simp] at hso
    have hsort:=sorted_whole hso
    have hys:d'.toList.map ebB=srtB xs:=srtB_eq (by rw[e2];exact hp'.map _) hsort
    obtain⟨cur',r1,r2,r3⟩:=sortW_row (σ:=σ) hg (ps:=d'.toList) (by rw[Array.length_toList,hsz];exact hcs') n os
    rw[Array.toArray_toList] at r1
    have st:=sortW_stp hlt hσ n d' os
    have hgF:F 0 g:=hF g (by rw[hv];rfl)
    have hsl:(srtB xs).length=xs.length:=srtB_len xs
    have hent:(Ent.mu (G:=GT) 23 (srtB xs)).holds ν (F 0) σ (sortWorld ebV w g 0 n d' os) (ν 0):=by
      have hk:(srtB xs).length*(GT.Γ 23).T.sz=d'.toList.length:=(Nat.mul_one _).trans ((hsl.trans (hpl.symm.trans hsz.symm)).trans Array.length_toList.symm)
      refine⟨⟨d'.toList.map ebV,⟨(List.length_map ..).trans hk.symm,.inr ⟨g,cap,cur',hv.trans (congrArg (fun n=>Value.slice (some ⟨g,0,none⟩) n cap) hsl.symm),r1,Nat.le_trans (Nat.le_of_eq hsl) hnc,hcm,Nat.le_trans hcs (Nat.le_of_eq r2.symm),(congrArg (fun n=>List.take n cur'.toList) hk).trans r3⟩⟩,?_,Nat.le_trans (Nat.le_of_eq (congrArg (· * (GT.Γ 23).T.by_) hsl)) hb,hs⟩,hF⟩
      rw[← hys]
      exact Reps.mono (fun x c hx=>(tSl tU8).step st hx) _ _ (eb_reps d'.toList)
    obtain⟨ν',F',σ2,w2,q1,q2,q3,q4,q5,q6⟩:=do_set S (n:=0) (by simp) (st.mono fun b _ e=>by subst e;exact hgF) (.mu 23 (srtB xs)) hent rfl (run:=fun ν' σ2 w2=>ν'=ν∧σ2=σ∧w2=sortWorld ebV w g 0 n d' os) ⟨rfl,rfl,rfl⟩
    obtain⟨rfl,rfl,rfl⟩:=q6
    refine⟨(),_,F',_,rfl,trivial,fun _ _=>rfl,st.mono fun b _ e=>⟨0,by subst e;exact hgF⟩,q4,by simp,fun i b hb=>?_,rfl⟩
    rcases q5 i b hb with⟨_,q⟩ | ⟨_,⟨m,hm,q⟩ | q⟩
    · exact .inl ⟨i,q⟩
    · exact .inl ⟨m,q⟩
    · exact .inr q
end Go.Proofs.YtkpnjjacbhicgaaDoor.X
