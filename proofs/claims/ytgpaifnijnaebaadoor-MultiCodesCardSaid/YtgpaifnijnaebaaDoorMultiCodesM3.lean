/- What the law MultiCodes needs: the engine, the walks of what it reaches, plain laws; part 3. -/
import Derived.Test.YtgpaifnijnaebaaDoorMultiCodesM2
import Derived.Test.YtgpaifnijnaebaaDoorProg
set_option linter.unnecessarySimpa false
set_option linter.deprecated false
set_option linter.unusedVariables false
set_option linter.unusedSimpArgs false
set_option maxRecDepth 100000
namespace Go.Proofs.YtgpaifnijnaebaaDoor.X
open Go Go.RowKit Go.Proofs Go.Proofs.YtgpaifnijnaebaaDoor.E
def pcE (b:List UInt8):Int:=if b.length<2+((b.getD 0 0).toNat*256+(b.getD 1 0).toNat) then 4 else 0
def pcV (b:List UInt8):List UInt8:=if b.length<2+((b.getD 0 0).toNat*256+(b.getD 1 0).toNat) then[] else(b.drop 2).take ((b.getD 0 0).toNat*256+(b.getD 1 0).toNat)
def pcR (b:List UInt8):List UInt8:=if b.length<2+((b.getD 0 0).toNat*256+(b.getD 1 0).toNat) then[] else(b.drop 2).drop ((b.getD 0 0).toNat*256+(b.getD 1 0).toNat)
def pcB (b:List UInt8):Bool:=if b.length<2+((b.getD 0 0).toNat*256+(b.getD 1 0).toNat) then false else true
theorem toN (x y:Nat):(2+((x:Int)*256+(y:Int))).toNat=2+(x*256+y):=by omega
theorem or_256 (x y:UInt8):((x.toNat:Int)*256).toNat ||| y.toNat=x.toNat*256+y.toNat:=by
  have h:=y.toNat_lt
  have e:((x.toNat:Int)*256).toNat=x.toNat <<< 8:=by rw[Nat.shiftLeft_eq];omega
  rw[e,← Nat.shiftLeft_add_eq_or_of_lt h,Nat.shiftLeft_eq]
noncomputable def c56:Code:=(Tryd.f56.body).getD .skip
theorem piece_ok (b:List UInt8) (h:b.length≤900000):FOk EN 56 ⟨[.rd 5 b],[.n 0],Unit,fun _=>([.rd 5 b,.rd 5 (pcV b),.rd 5 (pcR b)],.t [.n 1,.n 2,.i (pcE b)]),fun _=>True⟩:=by
 refine v_fun Tryd.f56 c56 MX (fun ν F σ w=>?_) Tryd.func56
 refine v_nl ?_
 refine v_if (decide ((↑b.length:Int)<2)) True trivial (fun h1=>?_) (fun h1=>?_)
 ·have h1:=of_decide_eq_true h1
  exact v_ret () [1,1] ((4=pcE b)∧(b=b)∧([]=pcV b)∧([]=pcR b)) ⟨(by(simp only[pcE,pcV,pcR,or_256,List.length_drop,Int.toNat_natCast];(repeat first | rw[if_pos (by omega)] | rw[if_neg (by omega)]);done)),rfl,(by(simp only[pcE,pcV,pcR,or_256,List.length_drop,Int.toNat_natCast];(repeat first | rw[if_pos (by omega)] | rw[if_neg (by omega)]);done)),(by(simp only[pcE,pcV,pcR,or_256,List.length_drop,Int.toNat_natCast];(repeat first | rw[if_pos (by omega)] | rw[if_neg (by omega)]);done))⟩ trivial
 ·have h1:=of_decide_eq_false h1
  refine v_plan (.fs [0,1,2,3,4,5,6,7,8,9,10] .e) [] True trivial ?_
  refine v_if (decide ((↑(List.drop 2 b).length:Int)<(↑(((↑(b.getD 0 0).toNat:Int)*256).toNat ||| (↑(b.getD 1 0).toNat:Int).toNat):Int))) (((0:Int)≤(0:Int)∧(0:Int)<(↑b.length:Int))∧(I64 (↑(b.getD 0 0).toNat*256))∧((8:UInt64)<(64:UInt64))∧((0:Int)≤(1:Int)∧(1:Int)<(↑b.length:Int))∧(0≤(↑(b.getD 0 0).toNat:Int)*256∧(↑(b.getD 0 0).toNat:Int)*256<9223372036854775808∧0≤(↑(b.getD 1 0).toNat:Int)∧(↑(b.getD 1 0).toNat:Int)<9223372036854775808)∧((0:Int)≤(2:Int)∧(2:Int)≤(↑b.length:Int))) ⟨(by omega),(by(have:=UInt8.toNat_lt (b.getD (0:Nat) (0:UInt8));unfold I64;omega)),(by decide),(by omega),(by(have:=UInt8.toNat_lt (b.getD (0:Nat) (0:UInt8));have:=UInt8.toNat_lt (b.getD (1:Nat) (0:UInt8));omega)),(by omega)⟩ (fun h2=>?_) (fun h2=>?_)
  ·have h2:=of_decide_eq_true h2
   exact v_ret () [1,1] ((4=pcE b)∧(b=b)∧([]=pcV b)∧([]=pcR b)) ⟨(by(simp only[pcE,pcV,pcR,or_256,List.length_drop,Int.toNat_natCast] at *;(repeat first | rw[if_pos (by omega)] | rw[if_neg (by omega)]);first | done | rfl | omega | (simp;done) | (simp;omega) | simp_all)),rfl,(by(simp only[pcE,pcV,pcR,or_256,List.length_drop,Int.toNat_natCast] at *;(repeat first | rw[if_pos (by omega)] | rw[if_neg (by omega)]);first | done | rfl | omega | (simp;done) | (simp;omega) | simp_all)),(by(simp only[pcE,pcV,pcR,or_256,List.length_drop,Int.toNat_natCast] at *;(repeat first | rw[if_pos (by omega)] | rw[if_neg (by omega)]);first | done | rfl | omega | (simp;done) | (simp;omega) | simp_all))⟩ trivial
  ·have h2:=of_decide_eq_false h2
   refine v_plan (.fs [0,1,2,3,4,5,6,7,8] .e) [] True trivial ?_
   exact v_ret () [5,6] ((0≤(↑(((↑(b.getD 0 0).toNat:Int)*256).toNat ||| (↑(b.getD 1 0).toNat:Int).toNat):Int)∧(↑(((↑(b.getD 0 0).toNat:Int)*256).toNat ||| (↑(b.getD 1 0).toNat:Int).toNat):Int)≤(↑(List.drop 2 b).length:Int))∧(0≤(↑(((↑(b.getD 0 0).toNat:Int)*256).toNat ||| (↑(b.getD 1 0).toNat:Int).toNat):Int)∧(↑(((↑(b.getD 0 0).toNat:Int)*256).toNat ||| (↑(b.getD 1 0).toNat:Int).toNat):Int)≤(↑(List.drop 2 b).length:Int))∧(0=pcE b)∧(b=b)∧(List.take (↑(((↑(b.getD 0 0).toNat:Int)*256).toNat ||| (↑(b.getD 1 0).toNat:Int).toNat):Int).toNat (List.drop 2 b)=pcV b)∧(List.drop (↑(((↑(b.getD 0 0).toNat:Int)*256).toNat ||| (↑(b.getD 1 0).toNat:Int).toNat):Int).toNat (List.drop 2 b)=pcR b)) ⟨(by omega),(by omega),(by(simp only[pcE,pcV,pcR,or_256,List.length_drop,Int.toNat_natCast] at *;(repeat first | rw[if_pos (by omega)] | rw[if_neg (by omega)]);first | done | rfl | omega | (simp;done) | (simp;omega) | simp_all)),rfl,(by(simp only[pcE,pcV,pcR,or_256,List.length_drop,Int.toNat_natCast] at *;(repeat first | rw[if_pos (by omega)] | rw[if_neg (by omega)]);first | done | rfl | omega | (simp;done) | (simp;omega) | simp_all)),(by(simp only[pcE,pcV,pcR,or_256,List.length_drop,Int.toNat_natCast];(repeat first | rw[if_pos (by omega)] | rw[if_neg (by omega)]);first | rfl | omega | (simp;done) | (simp;omega)))⟩ trivial
noncomputable def c59:Code:=(Tryd.f59.body).getD .skip
theorem piecer_ok (b:List UInt8) (h:b.length≤900000):FOk EN 59 ⟨[.rd 5 b],[.n 0],Unit,fun _=>([.rd 5 b,.rd 5 (pcV b),.rd 5 (pcR b)],.t [.n 1,.n 2,.b (pcB b)]),fun _=>True⟩:=by
 refine v_fun Tryd.f59 c59 MX (fun ν F σ w=>?_) Tryd.func59
 refine v_nl ?_
 refine v_plan (.fs [0,1,2,3,4,5,6,7,8,9,10,11,12,13,14,15,16,17,18] .e) [] True trivial ?_
 refine v_guard 9 (decide ((↑b.length:Int)<2)) True trivial (fun h1=>?_) (fun h1=>?_)
 ·have h1:=of_decide_eq_true h1
  exact v_ret () [1,1] ((false=pcB b)∧(b=b)∧([]=pcV b)∧([]=pcR b)) ⟨(by(simp only[pcB,pcV,pcR,List.drop_drop,List.drop_take,Nat.add_sub_cancel_left,toN];(repeat first | rw[if_pos (by omega)] | rw[if_neg (by omega)]);done)),rfl,(by(simp only[pcB,pcV,pcR,List.drop_drop,List.drop_take,Nat.add_sub_cancel_left,toN];(repeat first | rw[if_pos (by omega)] | rw[if_neg (by omega)]);done)),(by(simp only[pcB,pcV,pcR,List.drop_drop,List.drop_take,Nat.add_sub_cancel_left,toN];(repeat first | rw[if_pos (by omega)] | rw[if_neg (by omega)]);done))⟩ trivial
 ·have h1:=of_decide_eq_false h1
  refine v_if (decide ((↑b.length:Int) - 2<(↑(b.getD 0 0).toNat:Int)*256+(↑(b.getD 1 0).toNat:Int))) ((I64 (↑b.length - 2))∧((0:Int)≤(0:Int)∧(0:Int)<(↑b.length:Int))∧(I64 (↑(b.getD 0 0).toNat*256))∧((0:Int)≤(1:Int)∧(1:Int)<(↑b.length:Int))∧(I64 (↑(b.getD 0 0).toNat*256 + ↑(b.getD 1 0).toNat))) ⟨(by(unfold I64;omega)),(by omega),(by(have:=UInt8.toNat_lt (b.getD (0:Nat) (0:UInt8));unfold I64;omega)),(by omega),(by(have:=UInt8.toNat_lt (b.getD (0:Nat) (0:UInt8));have:=UInt8.toNat_lt (b.getD (1:Nat) (0:UInt8));unfold I64;omega))⟩ (fun h2=>?_) (fun h2=>?_)
  ·have h2:=of_decide_eq_true h2
   exact v_ret () [1,1] ((false=pcB b)∧(b=b)∧([]=pcV b)∧([]=pcR b)) ⟨(by(simp only[pcB,pcV,pcR,List.drop_drop,List.drop_take,Nat.add_sub_cancel_left,toN];(repeat first | rw[if_pos (by omega)] | rw[if_neg (by omega)]);done)),rfl,(by(simp only[pcB,pcV,pcR,List.drop_drop,List.drop_take,Nat.add_sub_cancel_left,toN];(repeat first | rw[if_pos (by omega)] | rw[if_neg (by omega)]);done)),(by(simp only[pcB,pcV,pcR,List.drop_drop,List.drop_take,Nat.add_sub_cancel_left,toN];(repeat first | rw[if_pos (by omega)] | rw[if_neg (by omega)]);done))⟩ trivial
  ·have h2:=of_decide_eq_false h2
   refine v_plan (.fs [0,1,2,3,4,5,6,7,8,9,10] .e) [] True trivial ?_
   refine v_plan (.fs [0,1,2,3,4,5,6,7,8,9,10] .e) [] (((0:Int)≤(0:Int)∧(0:Int)<(↑b.length:Int))∧(I64 (↑(b.getD 0 0).toNat*256))∧((0:Int)≤(1:Int)∧(1:Int)<(↑b.length:Int))∧(I64 (↑(b.getD 0 0).toNat*256 + ↑(b.getD 1 0).toNat))) ⟨(by omega),(by(unfold I64;omega)),(by omega),(by(unfold I64;omega))⟩ ?_
   exact v_ret () [6,7] ((I64 (2+(↑(b.getD 0 0).toNat*256 + ↑(b.getD 1 0).toNat)))∧((0:Int)≤(2:Int)∧(2:Int)≤(2:Int)+((↑(b.getD (0:Nat) (0:UInt8)).toNat:Int)*(256:Int)+(↑(b.getD (1:Nat) (0:UInt8)).toNat:Int))∧(2:Int)+((↑(b.getD (0:Nat) (0:UInt8)).toNat:Int)*(256:Int)+(↑(b.getD (1:Nat) (0:UInt8)).toNat:Int))≤(↑b.length:Int))∧(I64 (2+(↑(b.getD 0 0).toNat*256 + ↑(b.getD 1 0).toNat)))∧(0≤2+((↑(b.getD 0 0).toNat:Int)*256+(↑(b.getD 1 0).toNat:Int))∧2+((↑(b.getD 0 0).toNat:Int)*256+(↑(b.getD 1 0).toNat:Int))≤(↑b.length:Int))∧(true=pcB b)∧(b=b)∧(List.drop 2 (List.take (2+((↑(b.getD 0 0).toNat:Int)*256+(↑(b.getD 1 0).toNat:Int))).toNat b)=pcV b)∧(List.drop (2+((↑(b.getD 0 0).toNat:Int)*256+(↑(b.getD 1 0).toNat:Int))).toNat b=pcR b)) ⟨(by(unfold I64;omega)),(by omega),(by(unfold I64;omega)),(by omega),(by(simp only[pcB,pcV,pcR,List.drop_drop,List.drop_take,Nat.add_sub_cancel_left,toN];(repeat first | rw[if_pos (by omega)] | rw[if_neg (by omega)]);done)),rfl,(by(simp only[pcB,pcV,pcR,List.drop_drop,List.drop_take,Nat.add_sub_cancel_left,toN];(repeat first | rw[if_pos (by omega)] | rw[if_neg (by omega)]);done)),(by(simp only[pcB,pcV,pcR,List.drop_drop,List.drop_take,Nat.add_sub_cancel_left,toN];(repeat first | rw[if_pos (by omega)] | rw[if_neg (by omega)]);done))⟩ trivial
noncomputable def c55:Code:=(Tryd.f55.body).getD .skip
def eightTo (n:UInt64):Nat→List UInt8
  | 0=>[]
  | k+1=>eightTo n k++[(n >>> (56 - 8*(k:Int)).toNat.toUInt64).toUInt8]
theorem eightTo_len (n:UInt64):∀ k,(eightTo n k).length=k
  | 0=>rfl
  | k+1=>by unfold eightTo;have:=eightTo_len n k;simp;omega
theorem eight_ok (n:UInt64):FOk EN 55 ⟨[],[.u n],Unit,fun _=>([.ow 5 (eightTo n 8)],.n 0),fun _=>True⟩:=by
 refine v_fun Tryd.f55 c55 MX (fun ν F σ w=>?_) Tryd.func55
 refine v_nl ?_
 refine v_loop (fun k:Nat=>([(3,.n 1),(4,.i k)],[.ow 5 (eightTo n k)])) (fun k=>k≤8) (fun k=>8 - k) 0 [0] (((0:Int)=(↑(0:Nat):Int))∧([]=eightTo n 0)) ⟨rfl,rfl⟩ (by decide) (fun k hk1=>?_)
 have hl:=eightTo_len n k
 refine v_if (decide ((↑k:Int)<8)) True trivial (fun h2=>?_) (fun h2=>?_)
 ·have h2:=of_decide_eq_true h2
  exact v_back (k+1) [3] ((I64 (8 * ↑k))∧(I64 (56 - 8 * ↑k))∧(0≤56 - 8*(↑k:Int)∧56 - 8*(↑k:Int)<64)∧((eightTo n k).length+1≤1000000)∧(I64 (↑k+1))∧((↑k:Int)+1=(↑(k+1):Int))∧(eightTo n k++[(n >>> (56 - 8*(↑k:Int)).toNat.toUInt64).toUInt8]=eightTo n (k+1))) ⟨(by(unfold I64;omega)),(by(unfold I64;omega)),(by omega),(by omega),(by(unfold I64;omega)),rfl,rfl⟩ (show k+1≤8∧8 - (k+1)<8 - k from(by omega))
 ·have h2:=of_decide_eq_false h2
  refine v_leave (.ex 0) True trivial ?_
  exact v_ret () [1] ((eightTo n k=eightTo n 8)) (by(congr 1;omega)) trivial
def dropZ:List UInt8→List UInt8
  | []=>[]
  | x::l=>if x=0 then dropZ l else x::l
theorem dropZ_step {a k:List UInt8} (h:a=dropZ k) (h1:(0:Int)<k.length) (h2:k.getD 0 0=0):a=dropZ (k.drop 1)∧(k.drop 1).length<k.length:=by
  cases k with
  | nil=>simp at h1
  | cons x l =>
    have h2:x=0:=h2
    rw[h];simp[dropZ,h2]
theorem dropZ_s1 {a k:List UInt8} (h:a=dropZ k) (h2:¬ k.getD 0 0=0):k=a:=by
  cases k with
  | nil=>exact h.symm
  | cons x l =>
    have h2:¬ x=0:=h2
    rw[h];simp[dropZ,h2]
theorem dropZ_s2 {a k:List UInt8} (h:a=dropZ k) (h2:¬ (0:Int)<k.length):k=a:=by
  cases k with
  | nil=>exact h.symm
  | cons x l=>simp at h2
noncomputable def c30:Code:=(Tryd.f30.body).getD .skip
theorem numr_ok (n:UInt64):FOk EN 30 ⟨[],[.u n],Unit,fun _=>([.rd 5 (dropZ (eightTo n 8))],.n 0),fun _=>True⟩:=by
 refine v_fun Tryd.f30 c30 MX (fun ν F σ w=>?_) Tryd.func30
 refine v_nl ?_
 refine v_call _ [] (eight_ok (n)) ((n=n)) rfl (fun g1 p2=>?_)
 have p2:True:=p2
 refine v_loop (fun k:List UInt8=>([(3,.n 2)],[.rd 5 k])) (fun k=>dropZ (eightTo n 8)=dropZ k) (fun k=>k.length) (eightTo n 8) [1] ((eightTo n 8=eightTo n 8)) rfl rfl (fun k hk3=>?_)
 refine v_guard 9 (decide (0<(↑k.length:Int))) True trivial (fun h4=>?_) (fun h4=>?_)
 ·have h4:=of_decide_eq_true h4
  refine v_if (decide (k.getD 0 0=0)) (((0:Int)≤(0:Int)∧(0:Int)<(↑k.length:Int))) (by omega) (fun h5=>?_) (fun h5=>?_)
  ·have h5:=of_decide_eq_true h5
   exact v_back (List.drop 1 k) [4] (((0:Int)≤(1:Int)∧(1:Int)≤(↑k.length:Int))∧(List.drop 1 k=List.drop 1 k)) ⟨(by omega),rfl⟩ (show dropZ (eightTo n 8)=dropZ (List.drop 1 k)∧(List.drop 1 k).length<k.length from(by exact dropZ_step ‹_› ‹_› ‹_›))
  ·have h5:=of_decide_eq_false h5
   refine v_leave (.ex 0) True trivial ?_
   exact v_ret () [2] ((k=dropZ (eightTo n 8))) (by exact dropZ_s1 ‹_› ‹_›) trivial
 ·have h4:=of_decide_eq_false h4
  refine v_leave (.ex 0) True trivial ?_
  exact v_ret () [2] ((k=dropZ (eightTo n 8))) (by exact dropZ_s2 ‹_› ‹_›) trivial
noncomputable def c29:Code:=(Tryd.f29.body).getD .skip
def putR (b:List UInt8) (tag:UInt8) (v:List UInt8):List UInt8:=if v.length=0 then b else b++[tag,ofI8 ((v.length:Int) / 256),ofI8 ((v.length:Int) % 256)]++v
theorem putr_ok (b:List UInt8) (tag:UInt8) (v:List UInt8) (h:b.length+v.length≤900000):FOk EN 29 ⟨[.rd 5 b,.rd 5 v],[.n 0,.c tag,.n 1],Unit,fun _=>([.rd 5 b,.rd 5 v,.rd 5 (putR b tag v)],.n 2),fun _=>True⟩:=by
 refine v_fun Tryd.f29 c29 MX (fun ν F σ w=>?_) Tryd.func29
 refine v_nl ?_
 refine v_if (decide ((↑v.length:Int)=0)) True trivial (fun h1=>?_) (fun h1=>?_)
 ·have h1:=of_decide_eq_true h1
  exact v_ret () [0] ((b=b)∧(v=v)∧(b=putR b tag v)) ⟨rfl,rfl,(by(simp only[putR,List.nil_append];(repeat first | rw[if_pos (by omega)] | rw[if_neg (by omega)]);done))⟩ trivial
 ·have h1:=of_decide_eq_false h1
  exact v_ret () [7] ((0+b.length≤1000000)∧((0:Int)≤(↑v.length:Int)∧(↑v.length:Int)<(9223372036854775808:Int)∧(0:Int)<(256:Int))∧((0:Int)≤(↑v.length:Int)∧(0:Int)<(256:Int))∧(([]++b).length+3≤1000000)∧(([]++b++[tag,ofI8 ((↑v.length:Int) / 256),ofI8 ((↑v.length:Int) % 256)]).length+v.length≤1000000)∧(b=b)∧(v=v)∧([]++b++[tag,ofI8 (↑v.length / 256),ofI8 (↑v.length % 256)]++v=putR b tag v)) ⟨(by omega),(by omega),(by omega),(by(simp;omega)),(by(simp;omega)),rfl,rfl,(by(simp only[putR,List.nil_append];(repeat first | rw[if_pos (by omega)] | rw[if_neg (by omega)]);done))⟩ trivial
def valE (b:List UInt8):Int:=if 8<b.length then 7 else if 0<b.length∧b.getD 0 0=0 then 7 else 0
def valTo (b:List UInt8):Nat→UInt64
  | 0=>0
  | k+1=>valTo b k <<< 8 ||| (b.getD k 0).toUInt64
def valV (b:List UInt8):UInt64:=if 8<b.length then 0 else if 0<b.length∧b.getD 0 0=0 then 0 else valTo b b.length
noncomputable def c58:Code:=(Tryd.f58.body).getD .skip
theorem value_ok (b:List UInt8):FOk EN 58 ⟨[.rd 5 b],[.n 0],Unit,fun _=>([.rd 5 b],.t [.u (valV b),.i (valE b)]),fun _=>True⟩:=by
 refine v_fun Tryd.f58 c58 MX (fun ν F σ w=>?_) Tryd.func58
 refine v_nl ?_
 refine v_guard 10 (decide (8<(↑b.length:Int))) True trivial (fun h1=>?_) (fun h1=>?_)
 ·have h1:=of_decide_eq_true h1
  exact v_ret () [] ((0=valV b)∧(7=valE b)∧(b=b)) ⟨(by(simp only[valE,valV,valTo];(repeat first | rw[if_pos (by omega)] | rw[if_neg (by omega)]);done)),(by(simp only[valE,valV,valTo];(repeat first | rw[if_pos (by omega)] | rw[if_neg (by omega)]);done)),rfl⟩ trivial
 ·have h1:=of_decide_eq_false h1
  refine v_guard 14 (decide (0<(↑b.length:Int))) True trivial (fun h2=>?_) (fun h2=>?_)
  ·have h2:=of_decide_eq_true h2
   refine v_if (decide (b.getD 0 0=0)) (((0:Int)≤(0:Int)∧(0:Int)<(↑b.length:Int))) (by omega) (fun h3=>?_) (fun h3=>?_)
   ·have h3:=of_decide_eq_true h3
    exact v_ret () [] ((0=valV b)∧(7=valE b)∧(b=b)) ⟨(by(simp only[valE,valV,valTo] at *;(repeat first | rw[if_pos (by omega)] | rw[if_neg (by omega)]);first | done | rfl | omega | (simp;done) | (simp;omega) | simp_all)),(by(simp only[valE,valV,valTo] at *;(repeat first | rw[if_pos (by omega)] | rw[if_neg (by omega)]);first | done | rfl | omega | (simp;done) | (simp;omega) | simp_all)),rfl⟩ trivial
   ·have h3:=of_decide_eq_false h3
    refine v_loop (fun k:Nat=>([(23,.i k),(4,.u (valTo b k))],[])) (fun k=>k≤b.length) (fun k=>b.length - k) 0 [] (((0:Int)=(↑(0:Nat):Int))∧(0=valTo b 0)) ⟨rfl,rfl⟩ (by omega) (fun k hk4=>?_)
    refine v_if (decide ((↑k:Int)<(↑b.length:Int))) True trivial (fun h5=>?_) (fun h5=>?_)
    ·have h5:=of_decide_eq_true h5
     exact v_back (k+1) [] ((0≤(↑k:Int)∧(↑k:Int)<(↑b.length:Int))∧((8:UInt64)<(64:UInt64))∧(I64 (↑k+1))∧((↑k:Int)+1=(↑(k+1):Int))∧(valTo b k <<< 8 ||| (b.getD (↑k:Int).toNat 0).toUInt64=valTo b (k+1))) ⟨(by omega),(by decide),(by(unfold I64;omega)),rfl,rfl⟩ (show k+1≤b.length∧b.length - (k+1)<b.length - k from(by omega))
    ·have h5:=of_decide_eq_false h5
     refine v_leave (.ex 0) True trivial ?_
     exact v_ret () [] ((valTo b k=valV b)∧(0=valE b)∧(b=b)) ⟨(by(obtain rfl:k=b.length:=(by omega);simp only[valV];rw[if_neg (by omega),if_neg (fun q=>absurd q.2 ‹_›)])),(by(simp only[valE,valV,valTo] at *;(repeat first | rw[if_pos (by omega)] | rw[if_neg (by omega)]);first | done | rfl | omega | (simp;done) | (simp;omega) | simp_all)),rfl⟩ trivial
  ·have h2:=of_decide_eq_false h2
   refine v_loop (fun k:Nat=>([(23,.i k),(4,.u (valTo b k))],[])) (fun k=>k≤b.length) (fun k=>b.length - k) 0 [] (((0:Int)=(↑(0:Nat):Int))∧(0=valTo b 0)) ⟨rfl,rfl⟩ (by omega) (fun k hk6=>?_)
   refine v_if (decide ((↑k:Int)<(↑b.length:Int))) True trivial (fun h7=>?_) (fun h7=>?_)
   ·have h7:=of_decide_eq_true h7
    omega
   ·have h7:=of_decide_eq_false h7
    refine v_leave (.ex 0) True trivial ?_
    exact v_ret () [] ((valTo b k=valV b)∧(0=valE b)∧(b=b)) ⟨(by(simp only[valE,valV,valTo] at *;(repeat first | rw[if_pos (by omega)] | rw[if_neg (by omega)]);first | done | rfl | omega | (simp;done) | (simp;omega) | simp_all)),(by(simp only[valE,valV,valTo];(repeat first | rw[if_pos (by omega)] | rw[if_neg (by omega)]);done)),rfl⟩ trivial
def valRTo (b:List UInt8):Nat→UInt64
  | 0=>0
  | k+1=>valRTo b k*256+(b.getD k 0).toUInt64
def valRV (b:List UInt8):UInt64:=if 8<b.length then 0 else if 0<b.length∧b.getD 0 0=0 then 0 else valRTo b b.length
def valB (b:List UInt8):Bool:=if 8<b.length then false else if 0<b.length∧b.getD 0 0=0 then false else true
noncomputable def c37:Code:=(Tryd.f37.body).getD .skip
theorem valuer_ok (b:List UInt8):FOk EN 37 ⟨[.rd 5 b],[.n 0],Unit,fun _=>([.rd 5 b],.t [.u (valRV b),.b (valB b)]),fun _=>True⟩:=by
 refine v_fun Tryd.f37 c37 MX (fun ν F σ w=>?_) Tryd.func37
 refine v_nl ?_
 refine v_guard 9 (decide (8<(↑b.length:Int))) True trivial (fun h1=>?_) (fun h1=>?_)
 ·have h1:=of_decide_eq_true h1
  exact v_ret () [] ((0=valRV b)∧(false=valB b)∧(b=b)) ⟨(by(simp only[valB,valRV,valRTo];(repeat first | rw[if_pos (by omega)] | rw[if_neg (by omega)]);done)),(by(simp only[valB,valRV,valRTo];(repeat first | rw[if_pos (by omega)] | rw[if_neg (by omega)]);done)),rfl⟩ trivial
 ·have h1:=of_decide_eq_false h1
  refine v_guard 13 (decide (0<(↑b.length:Int))) True trivial (fun h2=>?_) (fun h2=>?_)
  ·have h2:=of_decide_eq_true h2
   refine v_if (decide (b.getD 0 0=0)) (((0:Int)≤(0:Int)∧(0:Int)<(↑b.length:Int))) (by omega) (fun h3=>?_) (fun h3=>?_)
   ·have h3:=of_decide_eq_true h3
    exact v_ret () [] ((0=valRV b)∧(false=valB b)∧(b=b)) ⟨(by(simp only[valB,valRV,valRTo] at *;(repeat first | rw[if_pos (by omega)] | rw[if_neg (by omega)]);first | done | rfl | omega | (simp;done) | (simp;omega) | simp_all)),(by(simp only[valB,valRV,valRTo] at *;(repeat first | rw[if_pos (by omega)] | rw[if_neg (by omega)]);first | done | rfl | omega | (simp;done) | (simp;omega) | simp_all)),rfl⟩ trivial
   ·have h3:=of_decide_eq_false h3
    refine v_loop (fun k:Nat=>([(5,.i k),(4,.u (valRTo b k))],[])) (fun k=>k≤b.length) (fun k=>b.length - k) 0 [] (((0:Int)=(↑(0:Nat):Int))∧(0=valRTo b 0)) ⟨rfl,rfl⟩ (by omega) (fun k hk4=>?_)
    refine v_if (decide ((↑k:Int)<(↑b.length:Int))) True trivial (fun h5=>?_) (fun h5=>?_)
    ·have h5:=of_decide_eq_true h5
     exact v_back (k+1) [] ((0≤(↑k:Int)∧(↑k:Int)<(↑b.length:Int))∧(I64 (↑k+1))∧((↑k:Int)+1=(↑(k+1):Int))∧(valRTo b k*256+(b.getD (↑k:Int).toNat 0).toUInt64=valRTo b (k+1))) ⟨(by omega),(by(unfold I64;omega)),rfl,rfl⟩ (show k+1≤b.length∧b.length - (k+1)<b.length - k from(by omega))
    ·have h5:=of_decide_eq_false h5
     refine v_leave (.ex 0) True trivial ?_
     exact v_ret () [] ((valRTo b k=valRV b)∧(true=valB b)∧(b=b)) ⟨(by(obtain rfl:k=b.length:=(by omega);simp only[valRV];rw[if_neg (by omega),if_neg (fun q=>absurd q.2 ‹_›)])),(by(simp only[valB,valRV,valRTo] at *;(repeat first | rw[if_pos (by omega)] | rw[if_neg (by omega)]);first | done | rfl | omega | (simp;done) | (simp;omega) | simp_all)),rfl⟩ trivial
  ·have h2:=of_decide_eq_false h2
   refine v_loop (fun k:Nat=>([(5,.i k),(4,.u (valRTo b k))],[])) (fun k=>k≤b.length) (fun k=>b.length - k) 0 [] (((0:Int)=(↑(0:Nat):Int))∧(0=valRTo b 0)) ⟨rfl,rfl⟩ (by omega) (fun k hk6=>?_)
   refine v_if (decide ((↑k:Int)<(↑b.length:Int))) True trivial (fun h7=>?_) (fun h7=>?_)
   ·have h7:=of_decide_eq_true h7
    omega
   ·have h7:=of_decide_eq_false h7
    refine v_leave (.ex 0) True trivial ?_
    exact v_ret () [] ((valRTo b k=valRV b)∧(true=valB b)∧(b=b)) ⟨(by(simp only[valB,valRV,valRTo] at *;(repeat first | rw[if_pos (by omega)] | rw[if_neg (by omega)]);first | done | rfl | omega | (simp;done) | (simp;omega) | simp_all)),(by(simp only[valB,valRV,valRTo];(repeat first | rw[if_pos (by omega)] | rw[if_neg (by omega)]);done)),rfl⟩ trivial
theorem pcR_len (b:List UInt8):(pcR b).length≤b.length:=by unfold pcR;split <;> simp
theorem pcVR_len (b:List UInt8):(pcV b).length+(pcR b).length≤b.length:=by unfold pcR pcV;split <;> simp;omega
theorem drop1_lt {b:List UInt8} (h:¬ b.length=0):(b.drop 1).length<b.length:=by simp;omega
def parse (out:List Field) (b:List UInt8):List Field × Int :=
  if h:b.length=0 then(out,0)
  else if pcE (b.drop 1)≠0 then([],pcE (b.drop 1))
  else if(pcV (b.drop 1)).length=0 then([],6)
  else if 0<out.length∧b.getD 0 0≤(out.getD ((out.length:Int) - 1).toNat ⟨0,[]⟩).tag then([],5)
  else parse (out++[⟨b.getD 0 0,pcV (b.drop 1)⟩]) (pcR (b.drop 1))
termination_by b.length
decreasing_by exact Nat.lt_of_le_of_lt (pcR_len _) (drop1_lt h)
theorem parse_a {X:List Field × Int} {out:List Field} {b b0:List UInt8} (hk:X=parse out b∧out.length+b.length≤b0.length) (h:¬ (0:Int)<b.length):out=X.1∧0=X.2:=by rw[hk.1,parse,dif_pos (by omega)];exact⟨rfl,rfl⟩
theorem parse_b {X:List Field × Int} {out:List Field} {b b0:List UInt8} (hk:X=parse out b∧out.length+b.length≤b0.length) (h:(0:Int)<b.length) (h1:pcE (b.drop 1)≠0):[]=X.1∧pcE (b.drop 1)=X.2:=by rw[hk.1,parse,dif_neg (by omega),if_pos h1];exact⟨rfl,rfl⟩
theorem parse_c {X:List Field × Int} {out:List Field} {b b0:List UInt8} (hk:X=parse out b∧out.length+b.length≤b0.length) (h:(0:Int)<b.length) (h1:¬ pcE (b.drop 1)≠0) (h2:((pcV (b.drop 1)).length:Int)=0):[]=X.1∧6=X.2:=by rw[hk.1,parse,dif_neg (by omega),if_neg h1,if_pos (by omega)];exact⟨rfl,rfl⟩
theorem parse_d {X:List Field × Int} {out:List Field} {b b0:List UInt8} (hk:X=parse out b∧out.length+b.length≤b0.length) (h:(0:Int)<b.length) (h1:¬ pcE (b.drop 1)≠0) (h2:¬ ((pcV (b.drop 1)).length:Int)=0) (h3:(0:Int)<out.length) (h4:b.getD 0 0≤(out.getD ((out.length:Int) - 1).toNat ⟨0,[]⟩).tag):[]=X.1∧5=X.2:=by rw[hk.1,parse,dif_neg (by omega),if_neg h1,if_neg (by omega),if_pos ⟨by omega,h4⟩];exact⟨rfl,rfl⟩
theorem parse_e {X:List Field × Int} {out:List Field} {b b0:List UInt8} (hk:X=parse out b∧out.length+b.length≤b0.length) (h:(0:Int)<b.length) (h1:¬ pcE (b.drop 1)≠0) (h2:¬ ((pcV (b.drop 1)).length:Int)=0) (h3:¬ ((0:Int)<out.length∧b.getD 0 0≤(out.getD ((out.length:Int) - 1).toNat ⟨0,[]⟩).tag)) :
    (X=parse (out++[⟨b.getD 0 0,pcV (b.drop 1)⟩]) (pcR (b.drop 1))∧(out++[(⟨b.getD 0 0,pcV (b.drop 1)⟩:Field)]).length+(pcR (b.drop 1)).length≤b0.length)∧(pcR (b.drop 1)).length<b.length:=by
  have e:=pcR_len (b.drop 1)
  have e2:(b.drop 1).length<b.length:=drop1_lt (by omega)
  refine⟨⟨?_,?_⟩,by omega⟩
  · rw[hk.1,parse,dif_neg (by omega),if_neg h1,if_neg (by omega),if_neg (by intro q;exact h3 ⟨by omega,q.2⟩)]
  · have:=hk.2;simp only[List.length_append,List.length_cons,List.length_nil] at *;omega
theorem pcV_bd {b:List UInt8} {out:List Field} {b0:List UInt8} {X:Prop} (hk:X∧out.length+b.length≤b0.length) (h:b0.length≤900000):0+(pcV (b.drop 1)).length≤1000000:=by
  have:=pcVR_len (b.drop 1);have:=hk.2;simp only[List.length_drop] at *;omega
noncomputable def c57:Code:=(Tryd.f57.body).getD .skip
theorem parse_ok (b:List UInt8) (h:b.length≤900000):FOk EN 57 ⟨[.rd 5 b],[.n 0],Unit,fun _=>([.rd 5 b,.ow 94 (parse [] b).1],.t [.n 1,.i (parse [] b).2]),fun _=>True⟩:=by
 refine v_fun Tryd.f57 c57 MX (fun ν F σ w=>?_) Tryd.func57
 refine v_nl ?_
 refine v_loop (fun k:List Field × List UInt8=>([(4,.n 2),(0,.n 3)],[.ow 94 k.1,.rd 5 k.2])) (fun k=>parse [] b=parse k.1 k.2∧k.1.length+k.2.length≤b.length) (fun k=>k.2.length) ([],b) [1,0] ((Eq (α:=List Field) [] [])∧(b=b)) ⟨rfl,rfl⟩ (by exact⟨rfl,by simp⟩) (fun k hk1=>?_)
 refine v_if (decide (0<(↑k.snd.length:Int))) True trivial (fun h2=>?_) (fun h2=>?_)
 ·have h2:=of_decide_eq_true h2
  refine v_call _ [5] (piece_ok (List.drop 1 k.snd) (by(simp;omega))) (((0:Int)≤(0:Int)∧(0:Int)<(↑k.snd.length:Int))∧((0:Int)≤(1:Int)∧(1:Int)≤(↑k.snd.length:Int))∧(List.drop 1 k.snd=List.drop 1 k.snd)) ⟨(by omega),(by omega),rfl⟩ (fun g3 p4=>?_)
  have p4:True:=p4
  refine v_if (decide (pcE (List.drop 1 k.snd)≠0)) True trivial (fun h5=>?_) (fun h5=>?_)
  ·have h5:=of_decide_eq_true h5
   refine v_leave .rt True trivial ?_
   exact v_ret () [1] ((pcE (List.drop 1 k.snd)=(parse [] b).snd)∧(b=b)∧([]=(parse [] b).fst)) ⟨(by exact(parse_b ‹_› ‹_› ‹_›).2),rfl,(by exact(parse_b ‹_› ‹_› ‹_›).1)⟩ trivial
  ·have h5:=of_decide_eq_false h5
   refine v_if (decide ((↑(pcV (List.drop 1 k.snd)).length:Int)=0)) True trivial (fun h6=>?_) (fun h6=>?_)
   ·have h6:=of_decide_eq_true h6
    refine v_leave .rt True trivial ?_
    exact v_ret () [1] ((6=(parse [] b).snd)∧(b=b)∧([]=(parse [] b).fst)) ⟨(by exact(parse_c ‹_› ‹_› ‹_› ‹_›).2),rfl,(by exact(parse_c ‹_› ‹_› ‹_› ‹_›).1)⟩ trivial
   ·have h6:=of_decide_eq_false h6
    refine v_guard 34 (decide (0<(↑k.fst.length:Int))) True trivial (fun h7=>?_) (fun h7=>?_)
    ·have h7:=of_decide_eq_true h7
     refine v_if (decide (k.snd.getD 0 0≤(k.fst.getD ((↑k.fst.length:Int) - 1).toNat (Field.mk 0 [])).tag)) ((I64 (↑k.fst.length - 1))∧(0≤(↑k.fst.length:Int) - 1∧(↑k.fst.length:Int) - 1<(↑k.fst.length:Int))) ⟨(by(unfold I64;omega)),(by omega)⟩ (fun h8=>?_) (fun h8=>?_)
     ·have h8:=of_decide_eq_true h8
      refine v_leave .rt True trivial ?_
      exact v_ret () [1] ((5=(parse [] b).snd)∧(b=b)∧([]=(parse [] b).fst)) ⟨(by exact(parse_d ‹_› ‹_› ‹_› ‹_› ‹_› ‹_›).2),rfl,(by exact(parse_d ‹_› ‹_› ‹_› ‹_› ‹_› ‹_›).1)⟩ trivial
     ·have h8:=of_decide_eq_false h8
      exact v_back ((k.fst++[Field.mk (k.snd.getD 0 0) (pcV (List.drop 1 k.snd))],pcR (List.drop 1 k.snd))) [13,7] ((0+(pcV (List.drop 1 k.snd)).length≤1000000)∧(k.fst.length+1≤1000000)∧(k.fst++[Field.mk (k.snd.getD 0 0) ([]++pcV (List.drop 1 k.snd))]=k.fst++[Field.mk (k.snd.getD 0 0) (pcV (List.drop 1 k.snd))])∧(pcR (List.drop 1 k.snd)=pcR (List.drop 1 k.snd))) ⟨(by exact pcV_bd ‹_› ‹_›),(by omega),rfl,rfl⟩ (show(parse [] b=parse (k.fst++[Field.mk (k.snd.getD 0 0) (pcV (List.drop 1 k.snd))]) (pcR (List.drop 1 k.snd))∧(k.fst++[Field.mk (k.snd.getD 0 0) (pcV (List.drop 1 k.snd))]).length+(pcR (List.drop 1 k.snd)).length≤b.length)∧(pcR (List.drop 1 k.snd)).length<k.snd.length from(by exact parse_e ‹_› ‹_› ‹_› ‹_› (fun q=>absurd q.2 ‹_›)))
    ·have h7:=of_decide_eq_false h7
     exact v_back ((k.fst++[Field.mk (k.snd.getD 0 0) (pcV (List.drop 1 k.snd))],pcR (List.drop 1 k.snd))) [11,7] ((0+(pcV (List.drop 1 k.snd)).length≤1000000)∧(k.fst.length+1≤1000000)∧(k.fst++[Field.mk (k.snd.getD 0 0) ([]++pcV (List.drop 1 k.snd))]=k.fst++[Field.mk (k.snd.getD 0 0) (pcV (List.drop 1 k.snd))])∧(pcR (List.drop 1 k.snd)=pcR (List.drop 1 k.snd))) ⟨(by exact pcV_bd ‹_› ‹_›),(by omega),rfl,rfl⟩ (show(parse [] b=parse (k.fst++[Field.mk (k.snd.getD 0 0) (pcV (List.drop 1 k.snd))]) (pcR (List.drop 1 k.snd))∧(k.fst++[Field.mk (k.snd.getD 0 0) (pcV (List.drop 1 k.snd))]).length+(pcR (List.drop 1 k.snd)).length≤b.length)∧(pcR (List.drop 1 k.snd)).length<k.snd.length from(by exact parse_e ‹_› ‹_› ‹_› ‹_› (fun q=>absurd q.1 ‹_›)))
 ·have h2:=of_decide_eq_false h2
  refine v_leave (.ex 0) True trivial ?_
  exact v_ret () [2] ((0=(parse [] b).snd)∧(b=b)∧(k.fst=(parse [] b).fst)) ⟨(by exact(parse_a ‹_› ‹_›).2),rfl,(by exact(parse_a ‹_› ‹_›).1)⟩ trivial
def encV (v:List UInt8):List UInt8:=[hi v.length,lo v.length]++v
def packTo (l:List (List UInt8)) (k:Nat):List UInt8:=((l.take k).map encV).flatten
theorem packTo_succ {l:List (List UInt8)} {k:Nat} (hk:k<l.length):packTo l (k+1)=packTo l k++encV (l.getD k []):=by
  unfold packTo
  rw[List.take_add_one,List.getD_eq_getElem?_getD,List.getElem?_eq_getElem hk]
  simp only[Option.toList,List.map_append,List.flatten_append,List.map_cons,List.map_nil,List.flatten_cons,List.flatten_nil,List.append_nil,Option.getD_some]
theorem packTo_mono (l:List (List UInt8)):∀(d k:Nat),(packTo l k).length≤(packTo l (k+d)).length
  | 0,k=>Nat.le_refl _
  | d + 1, k => by
    refine Nat.le_trans (packTo_mono l d k) ?_
    rcases Nat.lt_or_ge (k+d) l.length with c | c
    · rw[show k+(d+1)=k+d+1 by omega,packTo_succ c];simp
    · unfold packTo;rw[List.take_of_length_le (by omega),List.take_of_length_le (by omega)];exact Nat.le_refl _
theorem packTo_le {l:List (List UInt8)} {k:Nat} (hk:k<l.length):(packTo l k).length+2+(l.getD k []).length≤(packTo l l.length).length:=by
  have:=packTo_mono l (l.length - (k+1)) (k+1)
  rw[show k+1+(l.length - (k+1))=l.length by omega,packTo_succ hk] at this
  simp only[encV,List.length_append,List.length_cons,List.length_nil] at this
  omega
theorem packTo_two (l:List (List UInt8)):∀ k,k≤l.length→2*k≤(packTo l k).length
  | 0,_=>Nat.zero_le _
  | k + 1, h => by
    have:=packTo_two l k (by omega)
    rw[packTo_succ (by omega)]
    simp only[encV,List.length_append,List.length_cons,List.length_nil];omega
def packL (l:List (List UInt8)):Bool:=l.any fun v=>decide (65535<v.length)
def packE (l:List (List UInt8)):Int:=if packL l=true then 3 else 0
def packR (l:List (List UInt8)):List UInt8:=if packL l=true then[] else packTo l l.length
def QI (l:List (List UInt8)) (k:Nat):Prop:=k≤l.length∧∀ j,j<k→(l.getD j []).length≤65535
section
variable {l:List (List UInt8)} {k:Nat}
theorem QI.start:QI l 0:=⟨Nat.zero_le _,fun j h=>absurd h (by omega)⟩
theorem QI.next (h:QI l k) (hk:(k:Int)<l.length) (hs:¬ (65535:Int)<(l.getD (k:Int).toNat []).length):QI l (k+1)∧l.length - (k+1)<l.length - k:=by
  rw[Int.toNat_natCast] at hs
  refine⟨⟨by omega,fun j hj=>?_⟩,by omega⟩
  rcases Nat.lt_or_ge j k with c | c
  · exact h.2 j c
  · have : j = k := by omega
    subst this;omega
theorem QI.hit (hk:(k:Int)<l.length) (hs:(65535:Int)<(l.getD (k:Int).toNat []).length):packL l=true:=by
  rw[Int.toNat_natCast] at hs
  unfold packL
  rw[List.any_eq_true]
  have hk':k<l.length:=by omega
  refine⟨l[k],List.getElem_mem hk',?_⟩
  rw[List.getD_eq_getElem?_getD,List.getElem?_eq_getElem hk'] at hs
  simp only[Option.getD_some] at hs
  exact decide_eq_true (by omega)
theorem QI.stop (h:QI l k) (hk:¬ (k:Int)<l.length):packL l=false:=by
  unfold packL
  rw[List.any_eq_false]
  intro v hv
  obtain⟨j,hj,rfl⟩:=List.getElem_of_mem hv
  have:=h.2 j (by have:=h.1;omega)
  rw[List.getD_eq_getElem?_getD,List.getElem?_eq_getElem hj] at this
  simp only[Option.getD_some] at this
  simp;omega
theorem pk1 (hk:(k:Int)<l.length) (hs:(65535:Int)<(l.getD (k:Int).toNat []).length):[]=packR l∧3=packE l:=by unfold packR packE;rw[if_pos (QI.hit hk hs),if_pos (QI.hit hk hs)];exact⟨rfl,rfl⟩
theorem pk2 (h:QI l k) (hk:¬ (k:Int)<l.length):packTo l k=packR l∧0=packE l:=by
  have e:k=l.length:=by have:=h.1;omega
  unfold packR packE;rw[if_neg (by rw[h.stop hk];decide),if_neg (by rw[h.stop hk];decide),e];exact⟨rfl,rfl⟩
theorem pk3 (hk:(k:Int)<l.length):packTo l k++[ofI8 (((l.getD (k:Int).toNat []).length:Int) / 256),ofI8 ((l.getD (k:Int).toNat []).length:Int)]++l.getD (k:Int).toNat []=packTo l (k+1):=by
  rw[packTo_succ (by omega),Int.toNat_natCast];simp[encV,hi,lo]
theorem pk4 (hk:(k:Int)<l.length):packTo l k++[ofI8 (((l.getD (k:Int).toNat []).length:Int) / 256),ofI8 (((l.getD (k:Int).toNat []).length:Int) % 256)]++l.getD (k:Int).toNat []=packTo l (k+1):=by
  rw[packTo_succ (by omega),Int.toNat_natCast]
  have e:ofI8 (((l.getD k []).length:Int) % 256)=ofI8 ((l.getD k []).length:Int):=by
    unfold ofI8
    apply UInt8.toNat_inj.1
    rw[UInt8.toNat_ofNat',UInt8.toNat_ofNat']
    omega
  rw[e];simp[encV,hi,lo]
end
noncomputable def ccK1_28:Code:=(Tryd.f28.body).getD .skip
theorem pack_ok (l:List (List UInt8)) (hp:(packTo l l.length).length≤900000):FOk EN 28 ⟨[.rd 23 l],[.n 0],Unit,fun _=>([.rd 23 l,.ow 5 (packR l)],.t [.n 1,.i (packE l)]),fun _=>True⟩:=by
 refine v_fun Tryd.f28 ccK1_28 MX (fun ν F σ w=>?_) Tryd.func28
 refine v_nl ?_
 refine v_loop (fun k:Nat=>([(9,.i k),(4,.n 2)],[.ow 5 (packTo l k)])) (fun k=>QI l k) (fun k=>l.length - k) 0 [1] (((0:Int)=(↑(0:Nat):Int))∧([]=packTo l 0)) ⟨rfl,rfl⟩ (by exact QI.start) (fun k hk1=>?_)
 refine v_if (decide ((↑k:Int)<(↑l.length:Int))) True trivial (fun h2=>?_) (fun h2=>?_)
 ·have h2:=of_decide_eq_true h2
  refine v_if (decide (65535<(↑(l.getD (↑k:Int).toNat []).length:Int))) ((0≤(↑k:Int)∧(↑k:Int)<(↑l.length:Int))) (by omega) (fun h3=>?_) (fun h3=>?_)
  ·have h3:=of_decide_eq_true h3
   refine v_leave .rt True trivial ?_
   exact v_ret () [1] ((3=packE l)∧(l=l)∧([]=packR l)) ⟨(by exact(pk1 ‹_› ‹_›).2),rfl,(by exact(pk1 ‹_› ‹_›).1)⟩ trivial
  ·have h3:=of_decide_eq_false h3
   exact v_back (k+1) [7] ((0≤(↑(l.getD (↑k:Int).toNat []).length:Int))∧((8:UInt64)<(64:UInt64))∧((packTo l k).length+2≤1000000)∧((packTo l k++[ofI8 ((↑(l.getD (↑k:Int).toNat []).length:Int) / 256),ofI8 (↑(l.getD (↑k:Int).toNat []).length:Int)]).length+(l.getD (↑k:Int).toNat []).length≤1000000)∧(I64 (↑k+1))∧((↑k:Int)+1=(↑(k+1):Int))∧(packTo l k++[ofI8 ((↑(l.getD (↑k:Int).toNat []).length:Int) / 256),ofI8 (↑(l.getD (↑k:Int).toNat []).length:Int)]++l.getD (↑k:Int).toNat []=packTo l (k+1))) ⟨(by omega),(by decide),(by(have:=packTo_le (l:=l) (k:=k) (by omega);omega)),(by(have:=packTo_le (l:=l) (k:=k) (by omega);simp only[List.length_append,List.length_cons,List.length_nil,Int.toNat_natCast] at *;omega)),(by(have:=packTo_two l l.length (Nat.le_refl _);unfold I64;omega)),rfl,(by exact pk3 ‹_›)⟩ (show QI l (k+1)∧l.length - (k+1)<l.length - k from(by exact QI.next ‹_› ‹_› ‹_›))
 ·have h2:=of_decide_eq_false h2
  refine v_leave (.ex 0) True trivial ?_
  exact v_ret () [2] ((0=packE l)∧(l=l)∧(packTo l k=packR l)) ⟨(by exact(pk2 ‹_› ‹_›).2),rfl,(by exact(pk2 ‹_› ‹_›).1)⟩ trivial
noncomputable def ccK1_31:Code:=(Tryd.f31.body).getD .skip
theorem packr_ok (l:List (List UInt8)) (hp:(packTo l l.length).length≤900000):FOk EN 31 ⟨[.rd 23 l],[.n 0],Unit,fun _=>([.rd 23 l,.ow 5 (packTo l l.length)],.n 1),fun _=>True⟩:=by
 refine v_fun Tryd.f31 ccK1_31 MX (fun ν F σ w=>?_) Tryd.func31
 refine v_nl ?_
 refine v_loop (fun k:Nat=>([(4,.i k),(3,.n 2)],[.ow 5 (packTo l k)])) (fun k=>k≤l.length) (fun k=>l.length - k) 0 [1] (((0:Int)=(↑(0:Nat):Int))∧([]=packTo l 0)) ⟨rfl,rfl⟩ (by omega) (fun k hk1=>?_)
 refine v_if (decide ((↑k:Int)<(↑l.length:Int))) True trivial (fun h2=>?_) (fun h2=>?_)
 ·have h2:=of_decide_eq_true h2
  refine v_plan (.fs [0,1,2,3,4,5,6,7,8,9,10,11,12,13,14] (.o 15 (.o 16 (.fs [17] .e)))) [] True trivial ?_
  exact v_back (k+1) [11] ((0≤(↑k:Int)∧(↑k:Int)<(↑l.length:Int))∧((0:Int)≤(↑(l.getD (↑k:Int).toNat []).length:Int)∧(↑(l.getD (↑k:Int).toNat []).length:Int)<(9223372036854775808:Int)∧(0:Int)<(256:Int))∧(0≤(↑k:Int)∧(↑k:Int)<(↑l.length:Int))∧((0:Int)≤(↑(l.getD (↑k:Int).toNat []).length:Int)∧(0:Int)<(256:Int))∧((packTo l k).length+2≤1000000)∧(0≤(↑k:Int)∧(↑k:Int)<(↑l.length:Int))∧((packTo l k++[ofI8 ((↑(l.getD (↑k:Int).toNat []).length:Int) / 256),ofI8 ((↑(l.getD (↑k:Int).toNat []).length:Int) % 256)]).length+(l.getD (↑k:Int).toNat []).length≤1000000)∧(I64 (↑k+1))∧((↑k:Int)+1=(↑(k+1):Int))∧(packTo l k++[ofI8 ((↑(l.getD (↑k:Int).toNat []).length:Int) / 256),ofI8 ((↑(l.getD (↑k:Int).toNat []).length:Int) % 256)]++l.getD (↑k:Int).toNat []=packTo l (k+1))) ⟨(by omega),(by(have:=packTo_le (l:=l) (k:=k) (by omega);simp only[List.length_append,List.length_cons,List.length_nil,Int.toNat_natCast] at *;omega)),(by omega),(by omega),(by(have:=packTo_le (l:=l) (k:=k) (by omega);omega)),(by omega),(by(have:=packTo_le (l:=l) (k:=k) (by omega);simp only[List.length_append,List.length_cons,List.length_nil,Int.toNat_natCast] at *;omega)),(by(have:=packTo_two l l.length (Nat.le_refl _);unfold I64;omega)),rfl,(by exact pk4 ‹_›)⟩ (show k+1≤l.length∧l.length - (k+1)<l.length - k from(by omega))
 ·have h2:=of_decide_eq_false h2
  refine v_leave (.ex 0) True trivial ?_
  exact v_ret () [2] ((l=l)∧(packTo l k=packTo l l.length)) ⟨rfl,(by(congr 1;omega))⟩ trivial
theorem pcR_lt {b:List UInt8} (h:¬ b.length=0):(pcR b).length<b.length:=by
  unfold pcR;split
  · simp;omega
  · simp;omega
def unpk (out:List (List UInt8)) (b:List UInt8):List (List UInt8) × Int :=
  if h:b.length=0 then(out,0)
  else if pcE b≠0 then([],pcE b)
  else unpk (out++[pcV b]) (pcR b)
termination_by b.length
decreasing_by exact pcR_lt h
section
variable {X:List (List UInt8) × Int} {out:List (List UInt8)} {b b0:List UInt8}
theorem un1 (hk:X=unpk out b∧out.length+b.length≤b0.length) (h:¬ (0:Int)<b.length):out=X.1∧0=X.2:=by rw[hk.1,unpk,dif_pos (by omega)];exact⟨rfl,rfl⟩
theorem un2 (hk:X=unpk out b∧out.length+b.length≤b0.length) (h:(0:Int)<b.length) (h1:pcE b≠0):[]=X.1∧pcE b=X.2:=by rw[hk.1,unpk,dif_neg (by omega),if_pos h1];exact⟨rfl,rfl⟩
theorem un3 (hk:X=unpk out b∧out.length+b.length≤b0.length) (h:(0:Int)<b.length) (h1:¬ pcE b≠0):(X=unpk (out++[pcV b]) (pcR b)∧(out++[pcV b]).length+(pcR b).length≤b0.length)∧(pcR b).length<b.length:=by
  have:=pcR_lt (b:=b) (by omega)
  refine⟨⟨by rw[hk.1,unpk,dif_neg (by omega),if_neg h1],?_⟩,this⟩
  have:=hk.2;simp only[List.length_append,List.length_cons,List.length_nil] at *;omega
theorem pcB_E (b:List UInt8):pcB b=decide (pcE b=0):=by unfold pcB pcE;split <;> rfl
theorem un4 (hk:X=unpk out b∧out.length+b.length≤b0.length) (h:(0:Int)<b.length) (h1:pcB b=false):[]=X.1∧4=X.2:=by
  rw[pcB_E] at h1
  have h2:pcE b≠0:=of_decide_eq_false h1
  have e:pcE b=4:=by unfold pcE at h2 ⊢;split at h2 <;> simp_all
  have:=un2 hk h h2;rw[e] at this;exact this
theorem un5 (hk:X=unpk out b∧out.length+b.length≤b0.length) (h:(0:Int)<b.length) (h1:pcB b=true):(X=unpk (out++[pcV b]) (pcR b)∧(out++[pcV b]).length+(pcR b).length≤b0.length)∧(pcR b).length<b.length:=by
  rw[pcB_E] at h1;exact un3 hk h (by simpa using h1)
end
noncomputable def ccK1_32:Code:=(Tryd.f32.body).getD .skip
theorem unpack_ok (b:List UInt8) (h:b.length≤900000):FOk EN 32 ⟨[.rd 5 (b)],[.n 0],Unit,fun _=>([.rd 5 (b),.ow 23 (unpk [] b).1],.t [.n 1,.i (unpk [] b).2]),fun _=>True⟩:=by
 refine v_fun Tryd.f32 ccK1_32 MX (fun ν F σ w=>?_) Tryd.func32
 refine v_nl ?_
 refine v_loop (fun k:List (List UInt8) × List UInt8=>([(4,.n 2),(0,.n 3)],[.ow 23 k.1,.rd 5 (k.2)])) (fun k=>unpk [] b=unpk k.1 k.2∧k.1.length+k.2.length≤b.length) (fun k=>k.2.length) ([],b) [1,0] ((Eq (α:=List (List UInt8)) [] [])∧(b=b)) ⟨rfl,rfl⟩ (by exact⟨rfl,by simp⟩) (fun k hk1=>?_)
 refine v_if (decide (0<(↑k.snd.length:Int))) True trivial (fun h2=>?_) (fun h2=>?_)
 ·have h2:=of_decide_eq_true h2
  refine v_call _ [3] (piece_ok (k.snd) (by omega)) ((k.snd=k.snd)) rfl (fun g3 p4=>?_)
  have p4:True:=p4
  refine v_if (decide (pcE k.snd≠0)) True trivial (fun h5=>?_) (fun h5=>?_)
  ·have h5:=of_decide_eq_true h5
   refine v_leave .rt True trivial ?_
   exact v_ret () [1] ((pcE k.snd=(unpk [] b).snd)∧(b=b)∧([]=(unpk [] b).fst)) ⟨(by exact(un2 ‹_› ‹_› ‹_›).2),rfl,(by exact(un2 ‹_› ‹_› ‹_›).1)⟩ trivial
  ·have h5:=of_decide_eq_false h5
   exact v_back ((k.fst++[pcV k.snd],pcR k.snd)) [9,5] ((0+(pcV k.snd).length≤1000000)∧(k.fst.length+1≤1000000)∧(k.fst++[[]++pcV k.snd]=k.fst++[pcV k.snd])∧(pcR k.snd=pcR k.snd)) ⟨(by(have:=pcVR_len k.2;omega)),(by omega),rfl,rfl⟩ (show(unpk [] b=unpk (k.fst++[pcV k.snd]) (pcR k.snd)∧(k.fst++[pcV k.snd]).length+(pcR k.snd).length≤b.length)∧(pcR k.snd).length<k.snd.length from(by exact un3 ‹_› ‹_› ‹_›))
 ·have h2:=of_decide_eq_false h2
  refine v_leave (.ex 0) True trivial ?_
  exact v_ret () [2] ((0=(unpk [] b).snd)∧(b=b)∧(k.fst=(unpk [] b).fst)) ⟨(by exact(un1 ‹_› ‹_›).2),rfl,(by exact(un1 ‹_› ‹_›).1)⟩ trivial
noncomputable def ccK1_35:Code:=(Tryd.f35.body).getD .skip
theorem unpackr_ok (b:List UInt8) (h:b.length≤900000):FOk EN 35 ⟨[.rd 5 (b)],[.n 0],Unit,fun _=>([.rd 5 (b),.ow 23 (unpk [] b).1],.t [.n 1,.i (unpk [] b).2]),fun _=>True⟩:=by
 refine v_fun Tryd.f35 ccK1_35 MX (fun ν F σ w=>?_) Tryd.func35
 refine v_nl ?_
 refine v_loop (fun k:List (List UInt8) × List UInt8=>([(4,.n 2),(0,.n 3)],[.ow 23 k.1,.rd 5 (k.2)])) (fun k=>unpk [] b=unpk k.1 k.2∧k.1.length+k.2.length≤b.length) (fun k=>k.2.length) ([],b) [1,0] ((Eq (α:=List (List UInt8)) [] [])∧(b=b)) ⟨rfl,rfl⟩ (by exact⟨rfl,by simp⟩) (fun k hk1=>?_)
 refine v_if (decide (0<(↑k.snd.length:Int))) True trivial (fun h2=>?_) (fun h2=>?_)
 ·have h2:=of_decide_eq_true h2
  refine v_call _ [3] (piecer_ok (k.snd) (by omega)) ((k.snd=k.snd)) rfl (fun g3 p4=>?_)
  have p4:True:=p4
  refine v_if (!pcB k.snd) True trivial (fun h5=>?_) (fun h5=>?_)
  ·have h5:=(nt h5)
   refine v_leave .rt True trivial ?_
   exact v_ret () [1] ((4=(unpk [] b).snd)∧(b=b)∧([]=(unpk [] b).fst)) ⟨(by exact(un4 ‹_› ‹_› ‹_›).2),rfl,(by exact(un4 ‹_› ‹_› ‹_›).1)⟩ trivial
  ·have h5:=(nf h5)
   exact v_back ((k.fst++[pcV k.snd],pcR k.snd)) [7,5] ((k.fst.length+1≤1000000)∧(k.fst++[pcV k.snd]=k.fst++[pcV k.snd])∧(pcR k.snd=pcR k.snd)) ⟨(by omega),rfl,rfl⟩ (show(unpk [] b=unpk (k.fst++[pcV k.snd]) (pcR k.snd)∧(k.fst++[pcV k.snd]).length+(pcR k.snd).length≤b.length)∧(pcR k.snd).length<k.snd.length from(by exact un5 ‹_› ‹_› ‹_›))
 ·have h2:=of_decide_eq_false h2
  refine v_leave (.ex 0) True trivial ?_
  exact v_ret () [2] ((0=(unpk [] b).snd)∧(b=b)∧(k.fst=(unpk [] b).fst)) ⟨(by exact(un1 ‹_› ‹_›).2),rfl,(by exact(un1 ‹_› ‹_›).1)⟩ trivial
abbrev kT:Turn:=⟨0,0,false,zero32⟩
def tnB (t:Turn):List UInt8:=putF (if t.right=true then putF (putF (putF [] 1 (numTo (ofI t.height) 8)) 2 (numTo t.size 8)) 3 [1] else putF (putF [] 1 (numTo (ofI t.height) 8)) 2 (numTo t.size 8)) 4 t.other.l
def tnBad (t:Turn):Bool:=decide (t.height<1∨64<t.height)
theorem putF_len (b:List UInt8) (t:UInt8) (v:List UInt8):(putF b t v).length≤b.length+v.length+3:=by
  unfold putF;split
  · simp
  · split
    · omega
    · simp;omega
section
variable {n m:UInt64} {o:Sum32} {b:List UInt8}
theorem q1:(putF [] 1 (numTo n 8)).length≤11:=by have:=putF_len [] 1 (numTo n 8);have:=numTo_len n 8;simp only[List.length_nil] at *;omega
theorem q2:(putF (putF [] 1 (numTo n 8)) 2 (numTo m 8)).length≤22:=by have:=putF_len (putF [] 1 (numTo n 8)) 2 (numTo m 8);have:=numTo_len m 8;have:=q1 (n:=n);omega
theorem q3:(putF (putF (putF [] 1 (numTo n 8)) 2 (numTo m 8)) 3 [1]).length≤26:=by have:=putF_len (putF (putF [] 1 (numTo n 8)) 2 (numTo m 8)) 3 [1];have:=q2 (n:=n) (m:=m);simp only[List.length_cons,List.length_nil] at *;omega
theorem f1:([]:List UInt8).length+(numTo n 8).length≤900000:=by have:=numTo_len n 8;simp only[List.length_nil];omega
theorem f2:(putF [] 1 (numTo n 8)).length+(numTo m 8).length≤900000:=by have:=numTo_len m 8;have:=q1 (n:=n);omega
theorem f3:(putF (putF [] 1 (numTo n 8)) 2 (numTo m 8)).length+([1]:List UInt8).length≤900000:=by have:=q2 (n:=n) (m:=m);simp only[List.length_cons,List.length_nil];omega
theorem f4:(putF (putF (putF [] 1 (numTo n 8)) 2 (numTo m 8)) 3 [1]).length+o.l.length≤900000:=by have:=q3 (n:=n) (m:=m);have:=o.h;omega
theorem f5:(putF (putF [] 1 (numTo n 8)) 2 (numTo m 8)).length+o.l.length≤900000:=by have:=q2 (n:=n) (m:=m);have:=o.h;omega
theorem tnB_len (t:Turn):(tnB t).length≤61:=by
  unfold tnB
  split
  · have := putF_len (putF (putF (putF [] 1 (numTo (ofI t.height) 8)) 2 (numTo t.size 8)) 3 [1]) 4 t.other.l
    have:=q3 (n:=ofI t.height) (m:=t.size);have:=t.other.h;omega
  · have := putF_len (putF (putF [] 1 (numTo (ofI t.height) 8)) 2 (numTo t.size 8)) 4 t.other.l
    have:=q2 (n:=ofI t.height) (m:=t.size);have:=t.other.h;omega
end
theorem packTo_tn (ts:List Turn):∀ k,k≤ts.length→(packTo (ts.map tnB) k).length≤63*k
  | 0,_=>Nat.le_refl _
  | k + 1, h => by
    have:=packTo_tn ts k (by omega)
    rw[packTo_succ (by rw[List.length_map];omega)]
    have e:(ts.map tnB).getD k []=tnB (ts[k]'(by omega)):=by rw[List.getD_eq_getElem?_getD,List.getElem?_map,List.getElem?_eq_getElem (by omega)];rfl
    have:=tnB_len (ts[k]'(by omega))
    simp only[encV,List.length_append,List.length_cons,List.length_nil,e] at *;omega
theorem pack_tn {ts:List Turn} (h:ts.length≤64):(packTo (ts.map tnB) (ts.map tnB).length).length≤4032:=by
  rw[List.length_map];have:=packTo_tn ts ts.length (Nat.le_refl _);omega
theorem packL_tn (ts:List Turn):packL (ts.map tnB)=false:=by
  unfold packL
  rw[List.any_eq_false]
  intro v hv
  obtain⟨t,_,rfl⟩:=List.mem_map.1 hv
  have:=tnB_len t
  simp;omega
def NJ (ts:List Turn) (k:Nat):Prop:=ts.length≤64∧k≤ts.length∧∀ j,j<k→tnBad (ts.getD j kT)=false
section
variable {ts:List Turn} {k:Nat} {p:Proof}
theorem NJ.start (h:¬ (64:Int)<ts.length):NJ ts 0:=⟨by omega,Nat.zero_le _,fun j h=>absurd h (by omega)⟩
theorem NJ.next (h:NJ ts k) (hk:(k:Int)<ts.length) (h1:¬ (ts.getD (k:Int).toNat kT).height<1) (h2:¬ 64<(ts.getD (k:Int).toNat kT).height):NJ ts (k+1)∧ts.length - (k+1)<ts.length - k:=by
  rw[Int.toNat_natCast] at h1 h2
  refine⟨⟨h.1,by omega,fun j hj=>?_⟩,by omega⟩
  rcases Nat.lt_or_ge j k with c | c
  · exact h.2.2 j c
  · have : j = k := by omega
    subst this;exact decide_eq_false (by omega)
theorem NJ.hit (h:NJ ts k) (hk:(k:Int)<ts.length) (hb:tnBad (ts.getD (k:Int).toNat kT)=true):ts.any tnBad=true:=by
  rw[Int.toNat_natCast] at hb
  have hk':k<ts.length:=by omega
  rw[List.any_eq_true]
  refine⟨ts[k],List.getElem_mem hk',?_⟩
  rw[List.getD_eq_getElem?_getD,List.getElem?_eq_getElem hk'] at hb;exact hb
theorem NJ.stop (h:NJ ts k) (hk:¬ (k:Int)<ts.length):ts.any tnBad=false:=by
  rw[List.any_eq_false]
  intro v hv
  obtain⟨j,hj,rfl⟩:=List.getElem_of_mem hv
  have:=h.2.2 j (by have:=h.2.1;omega)
  rw[List.getD_eq_getElem?_getD,List.getElem?_eq_getElem hj] at this
  simpa using this
theorem NJ.all (h:NJ ts k) (hk:¬ (k:Int)<ts.length):(ts.take k).map tnB=ts.map tnB:=by rw[List.take_of_length_le (by omega)]
theorem NJ.pk (h:NJ ts k) (hk:¬ (k:Int)<ts.length):(packTo ((ts.take k).map tnB) ((ts.take k).map tnB).length).length≤900000:=by rw[h.all hk];exact Nat.le_trans (pack_tn h.1) (by decide)
theorem NJ.pr (h:NJ ts k) (hk:¬ (k:Int)<ts.length):packR ((ts.take k).map tnB)=packTo (ts.map tnB) ts.length:=by
  rw[h.all hk];unfold packR;rw[if_neg (by rw[packL_tn];decide),List.length_map]
theorem NJ.pl (h:NJ ts k) (hk:¬ (k:Int)<ts.length):(packR ((ts.take k).map tnB)).length≤4032:=by
  rw[h.pr hk];have:=pack_tn h.1;rwa [List.length_map] at this
theorem putE_ne {v:List UInt8}:putE v≠0↔65535<v.length:=by unfold putE;split <;> simp_all
theorem putE_3 {v:List UInt8} (h:putE v≠0):putE v=3:=by unfold putE at *;split <;> simp_all
end
theorem dropZ_snoc (x:UInt8):∀ l:List UInt8,dropZ (l++[x])=if dropZ l=[] then(if x=0 then[] else[x]) else dropZ l++[x]
  | []=>by simp[dropZ]
  | y :: l => by
    by_cases h:y=0
    · have := dropZ_snoc x l
      simp only[List.cons_append,dropZ,if_pos h];exact this
    · simp only[List.cons_append,dropZ,if_neg h,List.cons_ne_nil,if_false]
theorem numTo_eq (n:UInt64):∀ k:Nat,numTo n k=dropZ (eightTo n k)
  | 0=>rfl
  | k + 1 => by
    have e:(8*(7 - (k:Int))).toNat=(56 - 8*(k:Int)).toNat:=by omega
    have ih:=numTo_eq n k
    unfold numTo eightTo
    rw[dropZ_snoc,← ih,numStep,e]
    by_cases hl:numTo n k=[]
    · rw [hl, if_pos rfl]
      by_cases hx:(n >>> (56 - 8*(k:Int)).toNat.toUInt64).toUInt8=0
      · rw[if_neg (by simp[hx]),if_pos hx]
      · rw[if_pos (.inl hx),if_neg hx];rfl
    · rw[if_neg hl,if_pos (.inr (List.length_pos_iff.2 hl))]
theorem putR_eq {b:List UInt8} {t:UInt8} {v:List UInt8} (h:v.length≤65535):putR b t v=putF b t v:=by
  unfold putR putF
  rw[if_neg (show ¬ 65535<v.length by omega)]
  split
  · rfl
  · have e:ofI8 ((v.length:Int) % 256)=lo v.length:=by
      unfold lo ofI8
      apply UInt8.toNat_inj.1
      rw[UInt8.toNat_ofNat',UInt8.toNat_ofNat']
      omega
    rw[e];rfl
section
variable {n m:UInt64} {o:Sum32} {ts:List Turn} {k:Nat} {p:Proof}
theorem dz (n:UInt64):(dropZ (eightTo n 8)).length≤8:=by rw[← numTo_eq];exact numTo_len n 8
theorem putR_len (b:List UInt8) (t:UInt8) (v:List UInt8):(putR b t v).length≤b.length+v.length+3:=by
  unfold putR;split
  · omega
  · simp;omega
theorem r1:(putR [] 1 (dropZ (eightTo n 8))).length≤11:=by have:=putR_len [] 1 (dropZ (eightTo n 8));have:=dz n;simp only[List.length_nil] at *;omega
theorem r2:(putR (putR [] 1 (dropZ (eightTo n 8))) 2 (dropZ (eightTo m 8))).length≤22:=by have:=putR_len (putR [] 1 (dropZ (eightTo n 8))) 2 (dropZ (eightTo m 8));have:=dz m;have:=r1 (n:=n);omega
theorem r3:(putR (putR (putR [] 1 (dropZ (eightTo n 8))) 2 (dropZ (eightTo m 8))) 3 [1]).length≤26:=by have:=putR_len (putR (putR [] 1 (dropZ (eightTo n 8))) 2 (dropZ (eightTo m 8))) 3 [1];have:=r2 (n:=n) (m:=m);simp only[List.length_cons,List.length_nil] at *;omega
theorem g1:([]:List UInt8).length+(dropZ (eightTo n 8)).length≤900000:=by have:=dz n;simp only[List.length_nil];omega
theorem g2:(putR [] 1 (dropZ (eightTo n 8))).length+(dropZ (eightTo m 8)).length≤900000:=by have:=dz m;have:=r1 (n:=n);omega
theorem g3:(putR (putR [] 1 (dropZ (eightTo n 8))) 2 (dropZ (eightTo m 8))).length+([1]:List UInt8).length≤900000:=by have:=r2 (n:=n) (m:=m);simp only[List.length_cons,List.length_nil];omega
theorem g4:(putR (putR (putR [] 1 (dropZ (eightTo n 8))) 2 (dropZ (eightTo m 8))) 3 [1]).length+o.l.length≤900000:=by have:=r3 (n:=n) (m:=m);have:=o.h;omega
theorem g5:(putR (putR [] 1 (dropZ (eightTo n 8))) 2 (dropZ (eightTo m 8))).length+o.l.length≤900000:=by have:=r2 (n:=n) (m:=m);have:=o.h;omega
end
def lastT (out:List Field):Int:=match out.reverse with | []=>-1 | f::_=>(f.tag.toNat:Int)
theorem lastT_snoc (out:List Field) (f:Field):lastT (out++[f])=(f.tag.toNat:Int):=by unfold lastT;rw[List.reverse_append];rfl
theorem lastT_iff {out:List Field} {x:UInt8}:((x.toNat:Int)≤lastT out)↔((0:Int)<out.length∧x≤(out.getD ((out.length:Int) - 1).toNat ⟨0,[]⟩).tag):=by
  rcases List.eq_nil_or_concat out with rfl | ⟨l,f,rfl⟩
  · simp[lastT];omega
  · rw [List.concat_eq_append, lastT_snoc]
    have e:(((l++[f]).length:Int) - 1).toNat=l.length:=by simp
    rw[e]
    have e2:(l++[f]).getD l.length ⟨0,[]⟩=f:=by simp[List.getD_eq_getElem?_getD]
    rw[e2,UInt8.le_iff_toNat_le]
    simp
section
variable {X:List Field × Int} {out:List Field} {b b0:List UInt8}
theorem rp_b (hk:X=parse out b∧out.length+b.length≤b0.length) (h:(0:Int)<b.length) (h1:pcB (b.drop 1)=false):[]=X.1∧4=X.2:=by
  rw[pcB_E] at h1
  have h2:pcE (b.drop 1)≠0:=of_decide_eq_false h1
  have e:pcE (b.drop 1)=4:=by unfold pcE at h2 ⊢;split at h2 <;> simp_all
  have:=parse_b hk h h2;rw[e] at this;exact this
theorem pcB_t (h1:pcB (b.drop 1)=true):¬ pcE (b.drop 1)≠0:=by rw[pcB_E] at h1;simpa using h1
theorem rp_c (hk:X=parse out b∧out.length+b.length≤b0.length) (h:(0:Int)<b.length) (h1:pcB (b.drop 1)=true) (h2:((pcV (b.drop 1)).length:Int)=0):[]=X.1∧6=X.2:=parse_c hk h (pcB_t h1) h2
theorem rp_d (hk:X=parse out b∧out.length+b.length≤b0.length) (h:(0:Int)<b.length) (h1:pcB (b.drop 1)=true) (h2:¬ ((pcV (b.drop 1)).length:Int)=0) (h3:((b.getD 0 0).toNat:Int)≤lastT out):[]=X.1∧5=X.2:=parse_d hk h (pcB_t h1) h2 (lastT_iff.1 h3).1 (lastT_iff.1 h3).2
theorem ofI8_nat (x:UInt8):ofI8 (x.toNat:Int)=x:=by
  unfold ofI8
  apply UInt8.toNat_inj.1
  rw[UInt8.toNat_ofNat']
  have:=x.toNat_lt
  omega
theorem rp_e (hk:X=parse out b∧out.length+b.length≤b0.length) (h:(0:Int)<b.length) (h1:pcB (b.drop 1)=true) (h2:¬ ((pcV (b.drop 1)).length:Int)=0) (h3:¬ ((b.getD 0 0).toNat:Int)≤lastT out) :
    (X=parse (out++[⟨b.getD 0 0,pcV (b.drop 1)⟩]) (pcR (b.drop 1))∧(out++[(⟨b.getD 0 0,pcV (b.drop 1)⟩:Field)]).length+(pcR (b.drop 1)).length≤b0.length)∧(pcR (b.drop 1)).length<b.length:=parse_e hk h (pcB_t h1) h2 (fun q=>h3 (lastT_iff.2 q))
theorem rp_f {x:UInt8} {v:List UInt8}:(x.toNat:Int)=lastT (out++[⟨x,v⟩]):=(lastT_snoc out ⟨x,v⟩).symm
theorem rp_g:out++[(⟨ofI8 ((b.getD 0 0).toNat:Int),pcV (b.drop 1)⟩:Field)]=out++[⟨b.getD 0 0,pcV (b.drop 1)⟩]:=by rw[ofI8_nat]
end
noncomputable def ccK4_36:Code:=(Tryd.f36.body).getD .skip
theorem rparse_ok (b:List UInt8) (h:b.length≤900000):FOk EN 36 ⟨[.rd 5 (b)],[.n 0],Unit,fun _=>([.rd 5 (b),.ow 94 (parse [] b).1],.t [.n 1,.i (parse [] b).2]),fun _=>True⟩:=by
 refine v_fun Tryd.f36 ccK4_36 MX (fun ν F σ w=>?_) Tryd.func36
 refine v_nl ?_
 refine v_loop (fun k:List Field × List UInt8=>([(4,.n 2),(5,.i (lastT k.1)),(0,.n 3)],[.ow 94 k.1,.rd 5 (k.2)])) (fun k=>parse [] b=parse k.1 k.2∧k.1.length+k.2.length≤b.length) (fun k=>k.2.length) ([],b) [1,0] ((-1=lastT [])∧(Eq (α:=List Field) [] [])∧(b=b)) ⟨rfl,rfl,rfl⟩ (by exact⟨rfl,by simp⟩) (fun k hk1=>?_)
 refine v_if (decide (0<(↑k.snd.length:Int))) True trivial (fun h2=>?_) (fun h2=>?_)
 ·have h2:=of_decide_eq_true h2
  refine v_call _ [5] (piecer_ok (List.drop 1 k.snd) (by(simp;omega))) (((0:Int)≤(0:Int)∧(0:Int)<(↑k.snd.length:Int))∧((0:Int)≤(1:Int)∧(1:Int)≤(↑k.snd.length:Int))∧(List.drop 1 k.snd=List.drop 1 k.snd)) ⟨(by omega),(by omega),rfl⟩ (fun g3 p4=>?_)
  have p4:True:=p4
  refine v_if (!pcB (List.drop 1 k.snd)) True trivial (fun h5=>?_) (fun h5=>?_)
  ·have h5:=(nt h5)
   refine v_leave .rt True trivial ?_
   exact v_ret () [1] ((4=(parse [] b).snd)∧(b=b)∧([]=(parse [] b).fst)) ⟨(by exact(rp_b ‹_› ‹_› ‹_›).2),rfl,(by exact(rp_b ‹_› ‹_› ‹_›).1)⟩ trivial
  ·have h5:=(nf h5)
   refine v_if (decide ((↑(pcV (List.drop 1 k.snd)).length:Int)=0)) True trivial (fun h6=>?_) (fun h6=>?_)
   ·have h6:=of_decide_eq_true h6
    refine v_leave .rt True trivial ?_
    exact v_ret () [1] ((6=(parse [] b).snd)∧(b=b)∧([]=(parse [] b).fst)) ⟨(by exact(rp_c ‹_› ‹_› ‹_› ‹_›).2),rfl,(by exact(rp_c ‹_› ‹_› ‹_› ‹_›).1)⟩ trivial
   ·have h6:=of_decide_eq_false h6
    refine v_if (decide (↑(k.snd.getD 0 0).toNat≤lastT k.fst)) True trivial (fun h7=>?_) (fun h7=>?_)
    ·have h7:=of_decide_eq_true h7
     refine v_leave .rt True trivial ?_
     exact v_ret () [1] ((5=(parse [] b).snd)∧(b=b)∧([]=(parse [] b).fst)) ⟨(by exact(rp_d ‹_› ‹_› ‹_› ‹_› ‹_›).2),rfl,(by exact(rp_d ‹_› ‹_› ‹_› ‹_› ‹_›).1)⟩ trivial
    ·have h7:=of_decide_eq_false h7
     exact v_back ((k.fst++[Field.mk (k.snd.getD 0 0) (pcV (List.drop 1 k.snd))],pcR (List.drop 1 k.snd))) [9,7] ((k.fst.length+1≤1000000)∧(↑(k.snd.getD 0 0).toNat=lastT (k.fst++[Field.mk (k.snd.getD 0 0) (pcV (List.drop 1 k.snd))]))∧(k.fst++[Field.mk (ofI8 ↑(k.snd.getD 0 0).toNat) (pcV (List.drop 1 k.snd))]=k.fst++[Field.mk (k.snd.getD 0 0) (pcV (List.drop 1 k.snd))])∧(pcR (List.drop 1 k.snd)=pcR (List.drop 1 k.snd))) ⟨(by omega),(by exact rp_f),(by exact rp_g),rfl⟩ (show(parse [] b=parse (k.fst++[Field.mk (k.snd.getD 0 0) (pcV (List.drop 1 k.snd))]) (pcR (List.drop 1 k.snd))∧(k.fst++[Field.mk (k.snd.getD 0 0) (pcV (List.drop 1 k.snd))]).length+(pcR (List.drop 1 k.snd)).length≤b.length)∧(pcR (List.drop 1 k.snd)).length<k.snd.length from(by exact rp_e ‹_› ‹_› ‹_› ‹_› ‹_›))
 ·have h2:=of_decide_eq_false h2
  refine v_leave (.ex 0) True trivial ?_
  exact v_ret () [2] ((0=(parse [] b).snd)∧(b=b)∧(k.fst=(parse [] b).fst)) ⟨(by exact(parse_a ‹_› ‹_›).2),rfl,(by exact(parse_a ‹_› ‹_›).1)⟩ trivial
def cpTo (b:List UInt8) (k:Nat):List UInt8:=b.take k++List.replicate (32 - k) 0
theorem cpTo_len {b:List UInt8} {k:Nat} (h:b.length=32) (hk:k≤32):(cpTo b k).length=32:=by simp[cpTo];omega
theorem cpTo_step {b:List UInt8} {k:Nat} (h:(b.length:Int)=32) (hk:(k:Int)<32):(cpTo b k).set (0+(k:Int).toNat) (b.getD (k:Int).toNat 0)=cpTo b (k+1):=by
  have hb:b.length=32:=by omega
  have hk':k<32:=by omega
  rw[Nat.zero_add,Int.toNat_natCast]
  have eg:b.getD k 0=b[k]'(by omega):=by rw[List.getD_eq_getElem?_getD,List.getElem?_eq_getElem (by omega)];rfl
  rw[eg]
  have e1:b.take (k+1)=b.take k++[b[k]'(by omega)]:=by rw[List.take_add_one,List.getElem?_eq_getElem (by omega)];rfl
  have e2:List.replicate (32 - k) (0:UInt8)=0::List.replicate (32 - (k+1)) 0:=by rw[← List.replicate_succ];congr 1;omega
  have e3:(b.take k).length=k:=by rw[List.length_take];omega
  unfold cpTo
  rw[e1,e2,List.set_append,if_neg (by omega),e3,Nat.sub_self,List.set_cons_zero,List.append_assoc];rfl
def sumR (b:List UInt8):List UInt8:=if b.length=32 then b else List.replicate 32 0
theorem sumR_no {b:List UInt8} (h:(b.length:Int)≠32):List.replicate 32 0=sumR b∧false=decide (b.length=32):=by
  have:¬ b.length=32:=by omega
  unfold sumR;rw[if_neg this];simp[this]
theorem sumR_yes {b:List UInt8} {k:Nat} (h:¬ (b.length:Int)≠32) (h1:k≤32) (h2:¬ (k:Int)<32):cpTo b k=sumR b∧true=decide (b.length=32):=by
  have hb:b.length=32:=by omega
  have:k=32:=by omega
  subst this
  unfold sumR cpTo;rw[if_pos hb];simp[hb,List.take_of_length_le]
noncomputable def ccK4_38:Code:=(Tryd.f38.body).getD .skip
theorem sum5_ok (b:List UInt8):FOk EN 38 ⟨[.rd 5 (b)],[.n 0],Unit,fun _=>([.rd 5 (b)],.t [.a [.h 32 (sumR b)],.b (decide (b.length=32))]),fun _=>True⟩:=by
 refine v_fun Tryd.f38 ccK4_38 MX (fun ν F σ w=>?_) Tryd.func38
 refine v_nl ?_
 refine v_if (decide ((↑b.length:Int)≠32)) True trivial (fun h1=>?_) (fun h1=>?_)
 ·have h1:=of_decide_eq_true h1
  exact v_ret () [] ((List.replicate 32 0=sumR b)∧(false=decide (b.length=32))∧(b=b)) ⟨(by exact(sumR_no ‹_›).1),(by(simp;omega)),rfl⟩ trivial
 ·have h1:=of_decide_eq_false h1
  refine v_loop (fun k:Nat=>([(5,.i k),(4,.p 4 0)],[.bx 29 [.h 32 (cpTo b k)]])) (fun k=>k≤32) (fun k=>32 - k) 0 [3] (((0:Int)=(↑(0:Nat):Int))∧(List.replicate 32 0=cpTo b 0)) ⟨rfl,rfl⟩ (by decide) (fun k hk2=>?_)
  refine v_if (decide ((↑k:Int)<32)) True trivial (fun h3=>?_) (fun h3=>?_)
  ·have h3:=of_decide_eq_true h3
   exact v_back (k+1) [4] ((0≤(↑k:Int)∧(↑k:Int)<(↑b.length:Int))∧((0:Int)≤(↑k:Int)∧(↑k:Int)<(↑(32:Nat):Int))∧(0+(↑k:Int).toNat<32)∧(0+(↑k:Int).toNat<(cpTo b k).length)∧(I64 (↑k+1))∧((↑k:Int)+1=(↑(k+1):Int))∧((cpTo b k).set (0+(↑k:Int).toNat) (b.getD (↑k:Int).toNat 0)=cpTo b (k+1))) ⟨(by omega),(by omega),(by omega),(by(rw[cpTo_len (by omega) (by omega)];omega)),(by(unfold I64;omega)),rfl,(by exact cpTo_step (by omega) ‹_›)⟩ (show k+1≤32∧32 - (k+1)<32 - k from(by omega))
  ·have h3:=of_decide_eq_false h3
   refine v_leave (.ex 0) True trivial ?_
   exact v_ret () [] ((cpTo b k=sumR b)∧(true=decide (b.length=32))∧(b=b)) ⟨(by exact(sumR_yes ‹_› ‹_› ‹_›).1),(by(simp;omega)),rfl⟩ trivial
theorem or256 (x:UInt64) (c:UInt8):x <<< 8 ||| c.toUInt64=x*256+c.toUInt64:=by
  apply UInt64.toNat_inj.1
  rw[UInt64.toNat_or,UInt64.toNat_shiftLeft,UInt64.toNat_add,UInt64.toNat_mul,UInt8.toNat_toUInt64]
  have hc:=c.toNat_lt
  have e8:(8:UInt64).toNat % 64=8:=rfl
  have e256:(256:UInt64).toNat=256:=rfl
  rw[e8,e256]
  have h1:x.toNat <<< 8 % 2 ^ 64=(x.toNat % 2 ^ 56) <<< 8:=by rw[Nat.shiftLeft_eq,Nat.shiftLeft_eq];omega
  rw[h1,← Nat.shiftLeft_add_eq_or_of_lt (by omega),Nat.shiftLeft_eq]
  omega
theorem valTo_eq (b:List UInt8):∀ k,valRTo b k=valTo b k
  | 0=>rfl
  | k+1=>by unfold valRTo valTo;rw[valTo_eq b k,or256]
theorem valRV_eq (b:List UInt8):valRV b=valV b:=by unfold valRV valV;rw[valTo_eq]
theorem valB_eq (b:List UInt8):valB b=decide (valE b=0):=by
  unfold valB valE;split
  · rfl
  · split <;> rfl
abbrev kF:Field:=⟨0,[]⟩
def hMin (n:UInt64):Int:=if n<1048576 then(n.toNat:Int) else 1048576
theorem hMin_eq (n:UInt64):(((if 1048576<n then 1048576 else n:UInt64)).toNat:Int)=hMin n:=by
  unfold hMin
  by_cases h:n<1048576
  · rw[if_pos h,if_neg (fun q=>by have:=UInt64.lt_iff_toNat_lt.1 h;have:=UInt64.lt_iff_toNat_lt.1 q;omega)]
  · rw [if_neg h]
    by_cases q:(1048576:UInt64)<n
    · rw[if_pos q];rfl
    · rw [if_neg q]
      have h1:¬ n.toNat<(1048576:UInt64).toNat:=fun r=>h (UInt64.lt_iff_toNat_lt.2 r)
      have h2:¬ (1048576:UInt64).toNat<n.toNat:=fun r=>q (UInt64.lt_iff_toNat_lt.2 r)
      have e:(1048576:UInt64).toNat=1048576:=rfl
      omega
def fErr (f:Field):Int :=
  if f.tag=1 then valE f.value else if f.tag=2 then valE f.value
  else if f.tag=3 then(if valV f.value≠1 then 7 else valE f.value)
  else if f.tag=4 then(if(f.value.length:Int)≠32 then 7 else 0) else 8
def fSet (t:Turn) (f:Field):Turn :=
  if f.tag=1 then⟨hMin (valV f.value),t.size,t.right,t.other⟩ else if f.tag=2 then⟨t.height,valV f.value,t.right,t.other⟩
  else if f.tag=3 then⟨t.height,t.size,true,t.other⟩ else if f.tag=4 then⟨t.height,t.size,t.right,mk32 f.value⟩ else t
def fTo (l:List Field) (k:Nat):Turn:=(l.take k).foldl fSet kT
theorem fTo_succ {l:List Field} {k:Nat} (hk:(k:Int)<l.length):fTo l (k+1)=fSet (fTo l k) (l.getD (k:Int).toNat kF):=by
  unfold fTo
  rw[Int.toNat_natCast,List.take_add_one,List.getD_eq_getElem?_getD,List.getElem?_eq_getElem (by omega)]
  simp only[Option.toList,List.foldl_append,List.foldl_cons,List.foldl_nil,Option.getD_some]
def fFirst:List Field→Int
  | []=>0
  | f::l=>if fErr f≠0 then fErr f else fFirst l
def fEnd (l:List Field):Bool:=decide (0<l.length) && decide ((l.getD ((l.length:Int) - 1).toNat kF).tag=4)
def tnE (b:List UInt8):Int:=if(parse [] b).2≠0 then(parse [] b).2 else if fFirst (parse [] b).1≠0 then fFirst (parse [] b).1 else if fEnd (parse [] b).1=true then 0 else 8
def tnV (b:List UInt8):Turn:=if(parse [] b).2≠0 then kT else if fFirst (parse [] b).1≠0 then kT else if fEnd (parse [] b).1=true then fTo (parse [] b).1 (parse [] b).1.length else kT
def FJ (l:List Field) (k:Nat):Prop:=k≤l.length∧fFirst l=fFirst (l.drop k)
section
variable {b:List UInt8} {l:List Field} {k:Nat}
theorem FJ.start:FJ l 0:=⟨Nat.zero_le _,rfl⟩
theorem FJ.at (h:FJ l k) (hk:(k:Int)<l.length):fFirst l=if fErr (l.getD (k:Int).toNat kF)≠0 then fErr (l.getD (k:Int).toNat kF) else fFirst (l.drop (k+1)):=by
  rw[h.2,List.drop_eq_getElem_cons (by omega),fFirst,Int.toNat_natCast,List.getD_eq_getElem?_getD,List.getElem?_eq_getElem (by omega)];rfl
theorem FJ.next (h:FJ l k) (hk:(k:Int)<l.length) (he:fErr (l.getD (k:Int).toNat kF)=0):FJ l (k+1)∧l.length - (k+1)<l.length - k:=by
  refine⟨⟨by omega,?_⟩,by omega⟩
  rw[h.at hk,if_neg (by rw[he];decide)]
theorem FJ.hit (h:FJ l k) (hk:(k:Int)<l.length) {e:Int} (he:fErr (l.getD (k:Int).toNat kF)=e) (h0:e≠0):fFirst l=e:=by
  rw[h.at hk,if_pos (by rw[he];exact h0),he]
theorem FJ.stop (h:FJ l k) (hk:¬ (k:Int)<l.length):fFirst l=0:=by
  rw[h.2,List.drop_of_length_le (by omega)];rfl
theorem tn2 (h:¬ (parse [] b).2≠0) {e:Int} (h1:fFirst (parse [] b).1=e) (h0:e≠0):kT=tnV b∧e=tnE b:=by
  refine⟨?_,?_⟩
  · unfold tnV;rw[if_neg h,if_pos (by rw[h1];exact h0)]
  · unfold tnE;rw[if_neg h,if_pos (by rw[h1];exact h0),h1]
theorem tn3 (h:¬ (parse [] b).2≠0) (h1:fFirst (parse [] b).1=0) (h2:fEnd (parse [] b).1=false):kT=tnV b∧8=tnE b:=by
  refine⟨?_,?_⟩
  · unfold tnV;rw[if_neg h,if_neg (by rw[h1];decide),if_neg (by rw[h2];decide)]
  · unfold tnE;rw[if_neg h,if_neg (by rw[h1];decide),if_neg (by rw[h2];decide)]
theorem parse_lenG:∀(n:Nat) (out:List Field) (x:List UInt8),x.length≤n→(parse out x).1.length≤out.length+x.length:=by
  intro n
  induction n with
  | zero=>intro out x hx;rw[parse,dif_pos (by omega)];simp
  | succ n ih =>
    intro out x hx
    rw[parse]
    split
    · simp
    · rename_i h1
      have:=pcR_len (x.drop 1);have:=drop1_lt h1
      split
      · simp
      · split
        · simp
        · split
          · simp
          · refine Nat.le_trans (ih _ _ (by omega)) ?_
            simp only[List.length_append,List.length_cons,List.length_nil];omega
theorem parse_len (b:List UInt8):(parse [] b).1.length≤b.length:=by have:=parse_lenG b.length [] b (Nat.le_refl _);simpa using this
end
abbrev pF (b:List UInt8) (n:Nat):Field:=(parse [] b).1.getD (n:Int).toNat ⟨0,[]⟩
section
variable {b:List UInt8} {l:List Field} {k:Nat} {f:Field}
theorem fe1 (h:f.tag=1):fErr f=valE f.value:=by unfold fErr;rw[if_pos h]
theorem fe2 (h1:¬ f.tag=1) (h:f.tag=2):fErr f=valE f.value:=by unfold fErr;rw[if_neg h1,if_pos h]
theorem fe3a (h1:¬ f.tag=1) (h2:¬ f.tag=2) (h:f.tag=3) (hv:¬ valV f.value≠1):fErr f=valE f.value:=by unfold fErr;rw[if_neg h1,if_neg h2,if_pos h,if_neg hv]
theorem fe5 (h1:¬ f.tag=1) (h2:¬ f.tag=2) (h3:¬ f.tag=3) (h:¬ f.tag=4):fErr f=8:=by unfold fErr;rw[if_neg h1,if_neg h2,if_neg h3,if_neg h]
theorem nn {x:Int} (h:¬ x≠0):x=0:=Decidable.not_not.1 h
theorem er {e:Int} (hp:¬ (parse [] b).2≠0) (hF:FJ (parse [] b).1 k) (hk:(k:Int)<(parse [] b).1.length) (he:fErr ((parse [] b).1.getD (k:Int).toNat kF)=e) (h0:e≠0):kT=tnV b∧e=tnE b:=tn2 hp (hF.hit hk he h0) h0
theorem s1 (hk:(k:Int)<l.length) (h:(l.getD (k:Int).toNat kF).tag=1):fTo l (k+1)=⟨hMin (valV (l.getD (k:Int).toNat kF).value),(fTo l k).size,(fTo l k).right,(fTo l k).other⟩:=by rw[fTo_succ hk,fSet,if_pos h]
theorem s2 (hk:(k:Int)<l.length) (h1:¬ (l.getD (k:Int).toNat kF).tag=1) (h:(l.getD (k:Int).toNat kF).tag=2):fTo l (k+1)=⟨(fTo l k).height,valV (l.getD (k:Int).toNat kF).value,(fTo l k).right,(fTo l k).other⟩:=by rw[fTo_succ hk,fSet,if_neg h1,if_pos h]
theorem s4 (hk:(k:Int)<l.length) (h1:¬ (l.getD (k:Int).toNat kF).tag=1) (h2:¬ (l.getD (k:Int).toNat kF).tag=2) (h3:¬ (l.getD (k:Int).toNat kF).tag=3) (h:(l.getD (k:Int).toNat kF).tag=4) (hv:¬ ((l.getD (k:Int).toNat kF).value.length:Int)≠32):fTo l (k+1)=⟨(fTo l k).height,(fTo l k).size,(fTo l k).right,mk32 (l.getD (k:Int).toNat kF).value⟩:=by rw[fTo_succ hk,fSet,if_neg h1,if_neg h2,if_neg h3,if_pos h]
theorem tk32 {v:List UInt8} (h:¬ (v.length:Int)≠32):v.take 32=(mk32 v).l:=by
  have e:v.length=32:=by omega
  rw[List.take_of_length_le (by omega)];exact(mk32_of e).symm
theorem hMin_lt (n:UInt64):(if 1048576<n then 1048576 else n:UInt64)<9223372036854775808:=by
  apply UInt64.lt_iff_toNat_lt.2
  have e2:(1048576:UInt64).toNat=1048576:=rfl
  have e3:(9223372036854775808:UInt64).toNat=9223372036854775808:=rfl
  split
  · omega
  · rename_i h
    have:¬ (1048576:UInt64).toNat<n.toNat:=fun q=>h (UInt64.lt_iff_toNat_lt.2 q)
    omega
theorem FJ.i64 (h:(k:Int)<(parse [] b).1.length) (hl:b.length≤900000):I64 ((k:Int)+1):=by have:=parse_len b;unfold I64;omega
end
theorem parse_nil:parse [] []=([],0):=by rw[parse,dif_pos (show([]:List UInt8).length=0 from rfl)]
theorem t0:kT=tnV []∧8=tnE []:=tn3 (by rw[parse_nil];decide) (by rw[parse_nil];rfl) (by rw[parse_nil];rfl)
theorem hR1 {v:List UInt8} (h:valRV v<1048576):((valRV v).toNat:Int)=hMin (valV v):=by rw[valRV_eq] at *;unfold hMin;rw[if_pos h]
theorem hR2 {v:List UInt8} (h:¬ valRV v<1048576):(1048576:Int)=hMin (valV v):=by rw[valRV_eq] at *;unfold hMin;rw[if_neg h]
theorem hR3 {v:List UInt8} (h:valRV v<1048576):valRV v<9223372036854775808:=by
  apply UInt64.lt_iff_toNat_lt.2
  have:=UInt64.lt_iff_toNat_lt.1 h
  have e2:(1048576:UInt64).toNat=1048576:=rfl
  have e3:(9223372036854775808:UInt64).toNat=9223372036854775808:=rfl
  omega
theorem sm32 {v:List UInt8} (h:v.length=32):sumR v=(mk32 v).l:=by unfold sumR;rw[if_pos h];exact(mk32_of h).symm
theorem valE7 {v:List UInt8} (h:valE v≠0):valE v=7:=by unfold valE at *;split <;> simp_all
theorem vB0 {v:List UInt8} (h:valB v=false):valE v=7:=by rw[valB_eq] at h;exact valE7 (of_decide_eq_false h)
theorem vB1 {v:List UInt8} (h:valB v=true):valE v=0:=by rw[valB_eq] at h;exact of_decide_eq_true h
def fSetR (t:Turn) (f:Field):Turn :=
  if f.tag=1 then⟨hMin (valV f.value),t.size,t.right,t.other⟩ else if f.tag=2 then⟨t.height,valV f.value,t.right,t.other⟩
  else if f.tag=3 then⟨t.height,t.size,true,t.other⟩ else if f.tag=4 then⟨t.height,t.size,t.right,mk32 (sumR f.value)⟩ else t
def fRun:List Field→Turn→Turn
  | [],t=>t
  | f::l,t=>if fErr f≠0 then fSetR t f else fRun l (fSet t f)
def tnW (b:List UInt8):Turn:=if(parse [] b).2≠0 then kT else fRun (parse [] b).1 kT
def FR (l:List Field) (k:Nat):Prop:=fRun l kT=fRun (l.drop k) (fTo l k)
section
variable {b:List UInt8} {l:List Field} {k:Nat} {f:Field}
theorem FR.start:FJ l 0∧FR l 0:=⟨FJ.start,rfl⟩
theorem FR.at (h:FR l k) (hk:(k:Int)<l.length):fRun l kT=if fErr (l.getD (k:Int).toNat kF)≠0 then fSetR (fTo l k) (l.getD (k:Int).toNat kF) else fRun (l.drop (k+1)) (fSet (fTo l k) (l.getD (k:Int).toNat kF)):=by
  rw[h,List.drop_eq_getElem_cons (by omega),fRun,Int.toNat_natCast,List.getD_eq_getElem?_getD,List.getElem?_eq_getElem (by omega)];rfl
theorem FR.next (h:FJ l k∧FR l k) (hk:(k:Int)<l.length) (he:fErr (l.getD (k:Int).toNat kF)=0):(FJ l (k+1)∧FR l (k+1))∧l.length - (k+1)<l.length - k:=by
  have:=h.1.next hk he
  refine⟨⟨this.1,?_⟩,this.2⟩
  unfold FR
  rw[h.2.at hk,if_neg (by rw[he];decide),fTo_succ hk]
theorem FR.hit (hp:¬ (parse [] b).2≠0) (h:FR (parse [] b).1 k) (hk:(k:Int)<(parse [] b).1.length) (he:fErr ((parse [] b).1.getD (k:Int).toNat kF)≠0):tnW b=fSetR (fTo (parse [] b).1 k) ((parse [] b).1.getD (k:Int).toNat kF):=by
  unfold tnW;rw[if_neg hp,h.at hk,if_pos he]
theorem v3 {v:List UInt8} (h:valB v=false):valV v≠1:=by
  have e:=vB0 h
  intro q
  unfold valE at e;unfold valV at q
  split at e
  · rename_i h1;rw[if_pos h1] at q;exact absurd q (by decide)
  · rename_i h1
    rw[if_neg h1] at q
    split at e
    · rename_i h2;rw[if_pos h2] at q;exact absurd q (by decide)
    · cases e
theorem w0 (h:(parse [] b).2≠0):tnW b=kT:=by unfold tnW;rw[if_pos h]
theorem w1 (hp:¬ (parse [] b).2≠0) (hR:FR (parse [] b).1 k) (hk:(k:Int)<(parse [] b).1.length) (h1:((parse [] b).1.getD (k:Int).toNat kF).tag=1) (hv:valB ((parse [] b).1.getD (k:Int).toNat kF).value=false):tnW b=⟨hMin (valV ((parse [] b).1.getD (k:Int).toNat kF).value),(fTo (parse [] b).1 k).size,(fTo (parse [] b).1 k).right,(fTo (parse [] b).1 k).other⟩:=by
  rw[FR.hit hp hR hk (by rw[fe1 h1,vB0 hv];decide)];unfold fSetR;rw[if_pos h1]
theorem w2 (hp:¬ (parse [] b).2≠0) (hR:FR (parse [] b).1 k) (hk:(k:Int)<(parse [] b).1.length) (h1:¬ ((parse [] b).1.getD (k:Int).toNat kF).tag=1) (h2:((parse [] b).1.getD (k:Int).toNat kF).tag=2) (hv:valB ((parse [] b).1.getD (k:Int).toNat kF).value=false):tnW b=⟨(fTo (parse [] b).1 k).height,valV ((parse [] b).1.getD (k:Int).toNat kF).value,(fTo (parse [] b).1 k).right,(fTo (parse [] b).1 k).other⟩:=by
  rw[FR.hit hp hR hk (by rw[fe2 h1 h2,vB0 hv];decide)];unfold fSetR;rw[if_neg h1,if_pos h2]
theorem w5 (hp:¬ (parse [] b).2≠0) (hR:FR (parse [] b).1 k) (hk:(k:Int)<(parse [] b).1.length) (h1:¬ ((parse [] b).1.getD (k:Int).toNat kF).tag=1) (h2:¬ ((parse [] b).1.getD (k:Int).toNat kF).tag=2) (h3:¬ ((parse [] b).1.getD (k:Int).toNat kF).tag=3) (h4:¬ ((parse [] b).1.getD (k:Int).toNat kF).tag=4):tnW b=(fTo (parse [] b).1 k):=by
  rw[FR.hit hp hR hk (by rw[fe5 h1 h2 h3 h4];decide)];unfold fSetR;rw[if_neg h1,if_neg h2,if_neg h3,if_neg h4]
theorem n1 (h1:f.tag=1) (hv:valB f.value=true):fErr f=0:=(fe1 h1).trans (vB1 hv)
theorem n2 (h1:¬ f.tag=1) (h2:f.tag=2) (hv:valB f.value=true):fErr f=0:=(fe2 h1 h2).trans (vB1 hv)
theorem n3 (h1:¬ f.tag=1) (h2:¬ f.tag=2) (h3:f.tag=3) (hv:valB f.value=true) (h:valRV f.value=1):fErr f=0:=(fe3a h1 h2 h3 (fun q=>q (by rw[← valRV_eq];exact h))).trans (vB1 hv)
end
end Go.Proofs.YtgpaifnijnaebaaDoor.X
set_option linter.unusedVariables false
set_option linter.unusedSimpArgs false
namespace Go.Proofs.YtgpaifnijnaebaaDoor.E
open Go
/-- The byte of n that stands k places behind the greatest. -/
def byteAt (n:UInt64) (k:Nat):UInt8:=(n >>> (56 - 8*k).toUInt64).toUInt8
def eight (n:UInt64):List UInt8:=(List.range 8).map (byteAt n)
theorem eight_len (n:UInt64):(eight n).length=8:=by simp[eight]
def eightTo (n:UInt64) (k:Nat):List UInt8:=(List.range k).map (byteAt n)
theorem eightTo_succ (n:UInt64) (k:Nat):eightTo n k++[byteAt n k]=eightTo n (k+1):=by simp[eightTo,List.range_succ]
theorem eightTo_len (n:UInt64) (k:Nat):(eightTo n k).length=k:=by simp[eightTo]
def numTo (b:List UInt8) (k:Nat):UInt64:=(b.take k).foldl (fun n c=>n <<< (8:Nat).toUInt64 ||| c.toUInt64) 0
def rotr (x n:UInt32):UInt32:=x >>> n ||| x <<< (32 - n)
def be4 (a b c d:UInt8):UInt32:=a.toUInt32 <<< 24 ||| b.toUInt32 <<< 16 ||| c.toUInt32 <<< 8 ||| d.toUInt32
def sm0 (x:UInt32):UInt32:=rotr x 7 ^^^ rotr x 18 ^^^ x >>> 3
def sm1 (x:UInt32):UInt32:=rotr x 17 ^^^ rotr x 19 ^^^ x >>> 10
def bg0 (a:UInt32):UInt32:=rotr a 2 ^^^ rotr a 13 ^^^ rotr a 22
def bg1 (e:UInt32):UInt32:=rotr e 6 ^^^ rotr e 11 ^^^ rotr e 25
def chW (e f g:UInt32):UInt32:=e &&& f ^^^ ~~~e &&& g
def majW (a b c:UInt32):UInt32:=a &&& b ^^^ a &&& c ^^^ b &&& c
theorem bits_ext {x y:UInt32} (h:∀ i,x.toBitVec.getLsbD i=y.toBitVec.getLsbD i):x=y:=by
  apply UInt32.toBitVec_inj.1
  exact BitVec.eq_of_getLsbD_eq fun i _=>h i
theorem or_comm32 (a b:UInt32):(a ||| b)=(b ||| a):=by
  refine bits_ext fun i=>?_
  simp only[UInt32.toBitVec_or,BitVec.getLsbD_or,Bool.or_comm]
theorem e8 (a b c:Nat):(a*65536+b*256+c)*2 ^ 8=a*16777216+b*65536+c*256:=by
  rw[show(2:Nat) ^ 8=256 from rfl];omega
def kTab:List UInt32:=[
  0x428a2f98,0x71374491,0xb5c0fbcf,0xe9b5dba5,0x3956c25b,0x59f111f1,0x923f82a4,0xab1c5ed5,
  0xd807aa98,0x12835b01,0x243185be,0x550c7dc3,0x72be5d74,0x80deb1fe,0x9bdc06a7,0xc19bf174,
  0xe49b69c1,0xefbe4786,0x0fc19dc6,0x240ca1cc,0x2de92c6f,0x4a7484aa,0x5cb0a9dc,0x76f988da,
  0x983e5152,0xa831c66d,0xb00327c8,0xbf597fc7,0xc6e00bf3,0xd5a79147,0x06ca6351,0x14292967,
  0x27b70a85,0x2e1b2138,0x4d2c6dfc,0x53380d13,0x650a7354,0x766a0abb,0x81c2c92e,0x92722c85,
  0xa2bfe8a1,0xa81a664b,0xc24b8b70,0xc76c51a3,0xd192e819,0xd6990624,0xf40e3585,0x106aa070,
  0x19a4c116,0x1e376c08,0x2748774c,0x34b0bcb5,0x391c0cb3,0x4ed8aa4a,0x5b9cca4f,0x682e6ff3,
  0x748f82ee,0x78a5636f,0x84c87814,0x8cc70208,0x90befffa,0xa4506ceb,0xbef9a3f7,0xc67178f2]
def wAt (w:List UInt32) (i:Nat):UInt32:=w.getD i 0
def bAt (b:List UInt8) (i:Nat):UInt8:=b.getD i 0
def wordAt (b:List UInt8) (i:Nat):UInt32:=be4 (bAt b (4*i)) (bAt b (4*i+1)) (bAt b (4*i+2)) (bAt b (4*i+3))
def wextAt (w:List UInt32) (i:Nat):UInt32:=wAt w (i - 16)+sm0 (wAt w (i - 15))+wAt w (i - 7)+sm1 (wAt w (i - 2))
def schedTo (b:List UInt8):Nat→List UInt32
  | 0=>List.replicate 64 0
  | i+1=>(schedTo b i).set i (if i<16 then wordAt b i else wextAt (schedTo b i) i)
theorem schedTo_len (b:List UInt8):∀ k,(schedTo b k).length=64
  | 0=>by simp[schedTo]
  | k+1=>by simp[schedTo,schedTo_len b k]
structure St where
  a:UInt32
  b:UInt32
  c:UInt32
  d:UInt32
  e:UInt32
  f:UInt32
  g:UInt32
  h:UInt32
  deriving DecidableEq
def rnd (s:St) (k w:UInt32):St :=
  let x:=s.h+bg1 s.e+chW s.e s.f s.g+k+w
  let y:=bg0 s.a+majW s.a s.b s.c
  ⟨x+y,s.a,s.b,s.c,s.d+x,s.e,s.f,s.g⟩
def rndTo (w:List UInt32) (s:St):Nat→St
  | 0=>s
  | i+1=>rnd (rndTo w s i) (wAt kTab i) (wAt w i)
def addSt (s t:St):St:=⟨s.a+t.a,s.b+t.b,s.c+t.c,s.d+t.d,s.e+t.e,s.f+t.f,s.g+t.g,s.h+t.h⟩
def compress (s:St) (b:List UInt8):St:=addSt s (rndTo (schedTo b 64) s 64)
def st0:St:=⟨0x6a09e667,0xbb67ae85,0x3c6ef372,0xa54ff53a,0x510e527f,0x9b05688c,0x1f83d9ab,0x5be0cd19⟩
def padN (n:Nat):Nat:=(119 - n % 64) % 64
def padded (b:List UInt8):List UInt8:=b++[0x80]++List.replicate (padN b.length) 0++eight (UInt64.ofNat b.length*8)
def blocksTo (m:List UInt8):Nat→St
  | 0=>st0
  | i+1=>compress (blocksTo m i) (m.drop (64*i))
def four (x:UInt32):List UInt8:=[(x >>> (24:Nat).toUInt32).toUInt8,(x >>> (16:Nat).toUInt32).toUInt8,(x >>> (8:Nat).toUInt32).toUInt8,(x >>> (0:Nat).toUInt32).toUInt8]
def bytesSt (s:St):List UInt8:=four s.a++four s.b++four s.c++four s.d++four s.e++four s.f++four s.g++four s.h
def sum256 (b:List UInt8):List UInt8:=bytesSt (blocksTo (padded b) ((padded b).length / 64))
theorem sum256_len (b:List UInt8):(sum256 b).length=32:=by simp[sum256,bytesSt,four]
theorem padded_len (b:List UInt8):(padded b).length % 64=0:=by
  unfold padded padN
  simp only[List.length_append,List.length_cons,List.length_nil,List.length_replicate,eight_len]
  omega
end Go.Proofs.YtgpaifnijnaebaaDoor.E
set_option linter.unusedVariables false
set_option linter.unusedSimpArgs false
set_option maxRecDepth 100000
namespace Go.Proofs.YtgpaifnijnaebaaDoor.X
open Go Go.RowKit Go.Proofs Go.Proofs.YtgpaifnijnaebaaDoor.E
def tabP (g:Nat):PP:=⟨fun σ w _=>Seg σ w g 0 (kTab.map wv),fun st h=>h.step st⟩
def wordsP:PP:=tabP 1
end Go.Proofs.YtgpaifnijnaebaaDoor.X
set_option linter.unusedVariables false
set_option linter.unusedSimpArgs false
namespace Go.Proofs.YtgpaifnijnaebaaDoor.E
open Go
theorem rl (x:UInt32) (k:Int) (a b:UInt32) (h1:(ofI k &&& 31).toNat.toUInt32=32 - a) (h2:(32 - (ofI k &&& 31)).toNat.toUInt32=a):rotl x k=rotr x a:=by
  unfold rotl rotr
  rw[h1,h2,or_comm32]
theorem rotl7 (x:UInt32):rotl x (-7)=rotr x 7:=rl x _ _ 0 (by decide) (by decide)
theorem rotl18 (x:UInt32):rotl x (-18)=rotr x 18:=rl x _ _ 0 (by decide) (by decide)
theorem rotl17 (x:UInt32):rotl x (-17)=rotr x 17:=rl x _ _ 0 (by decide) (by decide)
theorem rotl19 (x:UInt32):rotl x (-19)=rotr x 19:=rl x _ _ 0 (by decide) (by decide)
theorem rotl6 (x:UInt32):rotl x (-6)=rotr x 6:=rl x _ _ 0 (by decide) (by decide)
theorem rotl11 (x:UInt32):rotl x (-11)=rotr x 11:=rl x _ _ 0 (by decide) (by decide)
theorem rotl25 (x:UInt32):rotl x (-25)=rotr x 25:=rl x _ _ 0 (by decide) (by decide)
theorem rotl2 (x:UInt32):rotl x (-2)=rotr x 2:=rl x _ _ 0 (by decide) (by decide)
theorem rotl13 (x:UInt32):rotl x (-13)=rotr x 13:=rl x _ _ 0 (by decide) (by decide)
theorem rotl22 (x:UInt32):rotl x (-22)=rotr x 22:=rl x _ _ 0 (by decide) (by decide)
theorem schedTo_lo {b:List UInt8} {k:Nat} (hk:k<16) (hb:64≤b.length):schedTo b (k+1)=(schedTo b k).set k (be4 (b[4*k]'(by omega)) (b[4*k+1]'(by omega)) (b[4*k+2]'(by omega)) (b[4*k+3]'(by omega))):=by
  have e:schedTo b (k+1)=(schedTo b k).set k (if k<16 then wordAt b k else wextAt (schedTo b k) k):=rfl
  rw[e,if_pos hk]
  unfold wordAt bAt
  rw[getD_of b 0 (show 4*k<b.length by omega),getD_of b 0 (show 4*k+1<b.length by omega),getD_of b 0 (show 4*k+2<b.length by omega),getD_of b 0 (show 4*k+3<b.length by omega)]
theorem schedTo_hi {b:List UInt8} {k:Nat} (hk:¬ k<16):schedTo b (k+1)=(schedTo b k).set k (wextAt (schedTo b k) k):=by
  have e:schedTo b (k+1)=(schedTo b k).set k (if k<16 then wordAt b k else wextAt (schedTo b k) k):=rfl
  rw[e,if_neg hk]
def addTo (h v:List UInt32):Nat→List UInt32
  | 0=>h
  | i+1=>(addTo h v i).set i ((addTo h v i).getD i 0+v.getD i 0)
theorem addTo_len (h v:List UInt32):∀ k,(addTo h v k).length=h.length
  | 0=>rfl
  | k+1=>by simp[addTo,addTo_len h v k]
theorem f_retN {P:Program} {fn:Func} {a:Act} {n:Nat} {l:Sl} {M:Nat→Prop} {σ0:Nat→Nat} {w0 w:World} {Post:(Nat→Nat)→World→Value→Prop} (hF:Fr a n l) (rs:List ResultVar) (hr:fn.results=rs.toArray) (vs:List Value) (h:RVs P a w rs vs) (v:Value) (hv:(if h:vs.toArray.size=1 then vs.toArray[0] else .tuple vs.toArray)=v)
    (σ:Nat→Nat) (hs:Stp M σ0 w0 σ w) (hp:Post σ w v):bodyPost P fn (fun e w'=>∃ σ' v,e=.returned v∧Stp M σ0 w0 σ' w'∧Post σ' w' v) .normal a w :=
  ⟨hF.d,v,results_of hr h v hv,σ,v,rfl,hs,hp⟩
theorem kTab_len:kTab.length=64:=rfl
theorem i64_remN (a b:Nat):Int.tmod (a:Int) (b:Int)=((a % b:Nat):Int):=(Int.ofNat_tmod a b).symm
theorem i64_quoN (a b:Nat) (h:a<9223372036854775808):IntKind.i64.wrap (Int.tdiv (a:Int) (b:Int))=((a / b:Nat):Int):=by
  have e:Int.tdiv (a:Int) (b:Int)=((a / b:Nat):Int):=(Int.ofNat_tdiv a b).symm
  have h2:a / b≤a:=Nat.div_le_self _ _
  rw[e]
  generalize a / b=q at *
  exact i64_eq (by omega) (by omega) rfl
theorem flat_step {l:List (List UInt8)} {k:Nat} (hk:k<l.length):(l.take k).flatten++l[k]=(l.take (k+1)).flatten:=by
  rw[List.take_succ_eq_append_getElem hk,List.flatten_append]
  simp
theorem flat_len (l:List (List UInt8)) (k:Nat):((l.take k).flatten).length≤l.flatten.length:=by
  have h:l.flatten=(l.take k).flatten++(l.drop k).flatten:=by rw[← List.flatten_append,List.take_append_drop]
  rw[h,List.length_append];omega
theorem flat_len2 {l:List (List UInt8)} {k:Nat} (hk:k<l.length):((l.take k).flatten).length+(l[k]).length≤l.flatten.length:=by
  have h:=flat_len l (k+1)
  rw[← flat_step hk,List.length_append] at h
  exact h
theorem rep_step (P:List UInt8) (k:Nat):(P++List.replicate k 0)++[0]=P++List.replicate (k+1) 0:=by
  rw[List.append_assoc,List.replicate_succ']
theorem pad_end (n:Nat):(n+1+padN n) % 64=56:=by unfold padN;omega
theorem pad_lt {n k:Nat} (h:k≤padN n) (h2:¬ (n+1+k) % 64=56):k<padN n:=by
  rcases Nat.lt_or_ge k (padN n) with h3 | h3
  · exact h3
  · have : k = padN n := by omega
    subst this
    exact absurd (pad_end n) h2
theorem pad_eq {n k:Nat} (h:k≤padN n) (h2:(n+1+k) % 64=56):k=padN n:=by
  have h3:padN n<64:=by unfold padN;omega
  have h4:=pad_end n
  omega
def outTo (h:List UInt32):Nat→List UInt8
  | 0=>List.replicate 32 0
  | j+1=>(outTo h j).set j ((h.getD (j / 4) 0) >>> (24 - j % 4*8).toUInt32).toUInt8
theorem outTo_len (h:List UInt32):∀ k,(outTo h k).length=32
  | 0=>by simp[outTo]
  | k+1=>by simp[outTo,outTo_len h k]
theorem outTo_all (s:St):outTo [s.a,s.b,s.c,s.d,s.e,s.f,s.g,s.h] 32=bytesSt s:=by kernel_rfl
theorem drop_step (m:List UInt8) (g n:Nat) (hn:n=m.length - 64*g):(((m.drop (64*g)).take n).drop 64)=m.drop (64*(g+1)):=by
  subst hn
  rw[List.take_of_length_le (by simp),List.drop_drop]
  congr 1
section
variable {P:Program} {ops:Array Oper} {Q:Exit→Act→World→Prop} {Kp:Act→World→Prop} {n i:Nat} {l l':Sl} {a:Act} {w w':World} {C:Code} {M:Nat→Prop} {σ:Nat→Nat}
theorem q_storeAll {α:Type} (f:α→Value) {t:TypeId} (x y:Operand) (hF:Fr a n l) {b:Nat} {old:List Value} {e:TypeId} (hB:Bx σ w b old e) (ys:List α) (k:Nat) (L:Lay P t true k) (hl:ys.length=k) (ho':old.length=k) (h1:∀ z,(f z).oneCell'=true)
    (K:∀ a' w',Stp (· = b) σ w σ w'→Bx σ w' b (ys.map f) e→Fr a' n l→Kp a' w')
    (ho:(ops[i]?).map (fun o=>(o.dst,o.op))=some (none,.store t x y):=by kernel_rfl) (hk:okAt ops i n l=true:=by kernel_rfl)
    (hx:evl l x=.pointer (some ⟨b,0,none⟩):=by kernel_rfl) (hy:(evl l y).cells.toList=ys.map f:=by kernel_rfl):wpOp P ops Q i Kp a w :=
  r_store hF ho hk hB 0 (ys.map f) _ hx hy k true L (by simpa using hl) (by simp[h1]) (by simp;omega) (by
    rw[List.take_zero,List.nil_append,List.drop_of_length_le (by simp;omega),List.append_nil]) K
end
theorem padN_lt (n:Nat):padN n<64:=by unfold padN;omega
theorem s2_len (B:List UInt8) (k:Nat):((B++[128])++List.replicate k 0).length=B.length+1+k:=by simp;omega
theorem s2_lt {B:List UInt8} {k m:Nat} (hk:k≤padN B.length) (hln:((B++[128])++List.replicate k 0).length=m) (h:¬ m % 64=56):k<padN B.length:=by
  rw[s2_len] at hln
  subst hln
  exact pad_lt hk h
theorem s2_eq {B:List UInt8} {k m:Nat} (hk:k≤padN B.length) (hln:((B++[128])++List.replicate k 0).length=m) (h:m % 64=56):k=padN B.length:=by
  rw[s2_len] at hln
  subst hln
  exact pad_eq hk h
theorem e3_step (P:List UInt8) (n:UInt64) (k:Nat):(P++eightTo n k)++[byteAt n k]=P++eightTo n (k+1):=by rw[List.append_assoc,eightTo_succ]
theorem ofI_nat (m:Nat) (h:m<18446744073709551616):ofI ((m:Nat):Int)=UInt64.ofNat m:=by
  unfold ofI
  congr 1
  omega
theorem msg_eq {B:List UInt8} {N:UInt64} {k2 k3:Nat} (h2:k2=padN B.length) (h3:k3=8) (hN:N=UInt64.ofNat B.length*8):((B++[128])++List.replicate k2 0)++eightTo N k3=padded B:=by
  subst h2 h3 hN
  rfl
theorem sum_end {B:List UInt8} {N:UInt64} {k2 k3 k4 k5:Nat} (h2:k2=padN B.length) (h3:k3=8) (hN:N=UInt64.ofNat B.length*8) (h4:(((B++[128])++List.replicate k2 0)++eightTo N k3).length - 64*k4=0) (h4':64*k4≤(((B++[128])++List.replicate k2 0)++eightTo N k3).length) (h5:k5=32) (S:St) (hS:S=blocksTo (((B++[128])++List.replicate k2 0)++eightTo N k3) k4) :
    outTo [S.a,S.b,S.c,S.d,S.e,S.f,S.g,S.h] k5=sum256 B:=by
  subst h5 hS
  rw[outTo_all]
  rw[msg_eq h2 h3 hN] at *
  unfold sum256
  have:k4=(padded B).length / 64:=by omega
  rw[this]
end Go.Proofs.YtgpaifnijnaebaaDoor.E
set_option linter.unusedVariables false
set_option linter.unusedSimpArgs false
set_option maxRecDepth 100000
namespace Go.Proofs.YtgpaifnijnaebaaDoor.X
open Go Go.RowKit Go.Proofs Go.Proofs.YtgpaifnijnaebaaDoor.E
def PB (B:List UInt8) (k:Nat):List UInt8:=(B++[128])++List.replicate k 0
theorem PB_len (B:List UInt8) (k:Nat):(PB B k).length=B.length+1+k:=s2_len B k
def MG (B:List UInt8) (k:Nat) (j:Nat):List UInt8:=PB B k++E.eightTo (ofI (B.length:Int)*8) j
theorem MG_len (B:List UInt8) (k j:Nat):(MG B k j).length=B.length+1+k+j:=by unfold MG;rw[List.length_append,PB_len,E.eightTo_len]
def ZI (M B:List UInt8) (g:Nat):Prop:=M=padded B∧64*g≤M.length∧M.length % 64=0∧M.length≤200000
theorem ZI.start {B:List UInt8} {k j:Nat} (hl:B.length≤100000) (h1:k≤padN B.length) (h2:¬ ((PB B k).length:Int) % 64≠56) (h3:j≤8) (h4:¬ (j:Int)<8):ZI (MG B k j) B 0:=by
  have hk:=s2_eq (k:=k) (m:=(PB B k).length) h1 rfl (by omega)
  have hj:j=8:=by omega
  have e:MG B k j=padded B:=msg_eq hk hj (by rw[ofI_nat _ (by omega)])
  have:=padN_lt B.length
  refine⟨e,by omega,?_,by rw[MG_len];omega⟩
  rw[e];exact padded_len B
theorem ZI.next {M B:List UInt8} {g:Nat} (h:ZI M B g) (hg:(64*(g:Int))<M.length):64*g+64≤M.length:=by have:=h.2.2.1;omega
theorem ZI.go {M B:List UInt8} {g:Nat} (h:ZI M B g) (hg:(64*(g:Int))<M.length):ZI M B (g+1)∧M.length - 64*(g+1)<M.length - 64*g:=by
  have:=h.next hg
  exact⟨⟨h.1,by omega,h.2.2⟩,by omega⟩
end Go.Proofs.YtgpaifnijnaebaaDoor.X
set_option linter.unusedVariables false
namespace Go.Proofs.YtgpaifnijnaebaaDoor.E
open Go Go.RowKit
open Go.Proofs
theorem C71:callable Tryd.prog 71=true:=by kernel_rfl
theorem C82:callable Tryd.prog 82=true:=by kernel_rfl
noncomputable def c3:Code:=(Tryd.f3.body).getD .skip
noncomputable def c4:Code:=(Tryd.f4.body).getD .skip
noncomputable def c5:Code:=(Tryd.f5.body).getD .skip
noncomputable def c6:Code:=(Tryd.f6.body).getD .skip
noncomputable def c7:Code:=(Tryd.f7.body).getD .skip
noncomputable def c8:Code:=(Tryd.f8.body).getD .skip
noncomputable def c9:Code:=(Tryd.f9.body).getD .skip
noncomputable def c26:Code:=(Tryd.f26.body).getD .skip
noncomputable def c27:Code:=(Tryd.f27.body).getD .skip
noncomputable def c29:Code:=(Tryd.f29.body).getD .skip
noncomputable def c30:Code:=(Tryd.f30.body).getD .skip
noncomputable def c34:Code:=(Tryd.f34.body).getD .skip
noncomputable def c35:Code:=(Tryd.f35.body).getD .skip
noncomputable def c37:Code:=(Tryd.f37.body).getD .skip
noncomputable def c39:Code:=(Tryd.f39.body).getD .skip
noncomputable def c43:Code:=(Tryd.f43.body).getD .skip
noncomputable def c44:Code:=(Tryd.f44.body).getD .skip
noncomputable def c45:Code:=(Tryd.f45.body).getD .skip
noncomputable def c46:Code:=(Tryd.f46.body).getD .skip
noncomputable def c47:Code:=(Tryd.f47.body).getD .skip
noncomputable def c55:Code:=(Tryd.f55.body).getD .skip
noncomputable def c56:Code:=(Tryd.f56.body).getD .skip
noncomputable def c57:Code:=(Tryd.f57.body).getD .skip
noncomputable def c58:Code:=(Tryd.f58.body).getD .skip
noncomputable def c59:Code:=(Tryd.f59.body).getD .skip
noncomputable def c60:Code:=(Tryd.f60.body).getD .skip
noncomputable def c61:Code:=(Tryd.f61.body).getD .skip
noncomputable def c62:Code:=(Tryd.f62.body).getD .skip
noncomputable def c63:Code:=(Tryd.f63.body).getD .skip
noncomputable def c66:Code:=(Tryd.f66.body).getD .skip
noncomputable def c67:Code:=(Tryd.f67.body).getD .skip
noncomputable def c70:Code:=(Tryd.f70.body).getD .skip
noncomputable def c71:Code:=(Tryd.f71.body).getD .skip
noncomputable def c75:Code:=(Tryd.f75.body).getD .skip
noncomputable def c82:Code:=(Tryd.f82.body).getD .skip
theorem L5:Lay Tryd.prog 5 false 1:=⟨fun _=>by kernel_rfl,fun _=>by kernel_rfl⟩
theorem L23:Lay Tryd.prog 23 false 1:=⟨fun _=>by kernel_rfl,fun _=>by kernel_rfl⟩
theorem L29:Lay Tryd.prog 29 true 32:=⟨fun _=>by kernel_rfl,fun _=>by kernel_rfl⟩
theorem L152:Lay Tryd.prog 152 false 1:=⟨fun _=>by kernel_rfl,fun _=>by kernel_rfl⟩
theorem L153:Lay Tryd.prog 153 true 8:=⟨fun _=>by kernel_rfl,fun _=>by kernel_rfl⟩
theorem L166:Lay Tryd.prog 166 true 64:=⟨fun _=>by kernel_rfl,fun _=>by kernel_rfl⟩
theorem U2:Tryd.prog.underlying 2=some (.int .i64):=by kernel_rfl
theorem U3:Tryd.prog.underlying 3=some (.int .i64):=by kernel_rfl
theorem U5:Tryd.prog.underlying 5=some (.int .u8):=by kernel_rfl
theorem U9:Tryd.prog.underlying 9=some .string:=by kernel_rfl
theorem U23:Tryd.prog.underlying 23=some (.slice 5):=by kernel_rfl
theorem U29:Tryd.prog.underlying 29=some (.array 32 5):=by kernel_rfl
theorem U38:Tryd.prog.underlying 38=some (.slice 23):=by kernel_rfl
theorem U153:Tryd.prog.underlying 153=some (.array 8 152):=by kernel_rfl
theorem U166:Tryd.prog.underlying 166=some (.array 64 152):=by kernel_rfl
theorem S23:SlT Tryd.prog 23 5 1 1 (Value.int .u8 0):=⟨U23,by kernel_rfl,rfl,by decide⟩
end Go.Proofs.YtgpaifnijnaebaaDoor.E
set_option linter.unusedVariables false
set_option linter.unusedSimpArgs false
set_option maxRecDepth 100000
set_option maxHeartbeats 2000000
namespace Go.Proofs.YtgpaifnijnaebaaDoor.E
open Go Go.RowKit
open Go.Proofs
theorem and31 (x:UInt64):(x &&& 31).toNat<32:=by
  rw[UInt64.toNat_and]
  have:(31:UInt64).toNat=31:=rfl
  rw[this]
  exact Nat.lt_succ_of_le Nat.and_le_right
theorem rot_lt {k:Int} (hk:(ofI k &&& 31).toNat≠0):(32 - (ofI k &&& 31)).toNat<32:=by
  have h:=and31 (ofI k)
  generalize ofI k &&& 31=s at *
  rw[UInt64.toNat_sub]
  have h32:(32:UInt64).toNat=32:=rfl
  have h64:(2 ^ 64:Nat)=18446744073709551616:=by decide
  rw[h32,h64]
  omega
theorem rotl_calls (σ:Nat→Nat) (w:World) (x:UInt32) (k:Int) (hk:(ofI k &&& 31).toNat≠0) :
  Ctr Tryd.prog 82 [(wv x),(Value.int .i64 (k))] noM σ w (fun σ' w' v=>v=wv (rotl x k)):=by
 have hk2:(32 - (ofI k &&& 31)).toNat<32:=rot_lt hk
 have hk1:(ofI k &&& 31).toNat<32:=and31 _
 refine ctr_enter Tryd.func82 c82 (by kernel_rfl) 17 (by kernel_rfl) (Nat.le_of_ble_eq_true (by kernel_rfl)) [(0,(wv x)),(1,(Value.int .i64 (k)))] (by kernel_rfl) ?_
 intro a hF1
 have hS2:=Stp.refl noM σ w
 refine q_seq ?_
 refine q_reg ?_
 refine q_run 1 [(4,(wv 0))] hF1 fun a3 hF4=>?_
 refine q_end ?_
 refine q_seq ?_
 refine q_reg ?_
 refine q_run 1 [(6,(Value.int .i64 (k)))] hF4 fun a5 hF6=>?_
 refine q_one 7 (congrArg (Value.int .u64) (i64_u64 (k:Int))) hF6 fun a7 hF8=>?_
 refine q_one 8 (congrArg (Value.int .u64) (u64_and (ofI (k:Int)) (31:UInt64))) hF8 fun a9 hF10=>?_
 refine q_run 1 [(5,(uv ((ofI (k:Int)) &&& 31)))] hF10 fun a11 hF12=>?_
 refine q_end ?_
 refine q_seq ?_
 refine q_reg ?_
 refine q_run 2 [(10,(uv ((ofI (k:Int)) &&& 31))),(9,(wv x))] hF12 fun a13 hF14=>?_
 refine r_at (q_val 11 (Op.binOp BinOp.shl 152 (Operand.tmp 9) (Operand.tmp 10) 82) hF14 (wv (x <<< (((ofI (k:Int)) &&& 31).toNat).toUInt32)) (exec_shl32 (n:=x) (k:=.u64) (s:=(((ofI (k:Int)) &&& 31).toNat:Int)) (by kernel_rfl) (by kernel_rfl) (by omega) (by omega) (((ofI (k:Int)) &&& 31).toNat) rfl) ?_)
 intro a15 hF16
 refine q_run 2 [(13,(uv ((ofI (k:Int)) &&& 31))),(12,(wv x))] hF16 fun a17 hF18=>?_
 refine q_one 14 (v0:=(Value.int .u64 (IntKind.u64.wrap (((32:UInt64).toNat:Int) - (((ofI (k:Int)) &&& 31).toNat:Int))))) (v:=(uv ((32:UInt64) - ((ofI (k:Int)) &&& 31)))) (congrArg (Value.int .u64) (u64_sub _ _)) hF18 fun a19 hF20=>?_
 refine r_at (q_val 15 (Op.binOp BinOp.shr 152 (Operand.tmp 12) (Operand.tmp 14) 82) hF20 (wv (x >>> (((32:UInt64) - ((ofI (k:Int)) &&& 31)).toNat).toUInt32)) (exec_shr32 (n:=x) (k:=.u64) (s:=(((32:UInt64) - ((ofI (k:Int)) &&& 31)).toNat:Int)) (by kernel_rfl) (by kernel_rfl) (by omega) (by omega) (((32:UInt64) - ((ofI (k:Int)) &&& 31)).toNat) rfl) ?_)
 intro a21 hF22
 refine q_one 16 (congrArg (Value.int .u32) (u32_or (x <<< (((ofI (k:Int)) &&& 31).toNat).toUInt32) (x >>> (((32:UInt64) - ((ofI (k:Int)) &&& 31)).toNat).toUInt32))) hF22 fun a23 hF24=>?_
 refine q_run 1 [(4,(wv ((x <<< (((ofI (k:Int)) &&& 31).toNat).toUInt32) ||| (x >>> (((32:UInt64) - ((ofI (k:Int)) &&& 31)).toNat).toUInt32))))] hF24 fun a25 hF26=>?_
 refine q_end ?_
 refine q_ret ?_
 try dsimp only[Exit.then,Exit.inBlock]
 refine f_ret1 hF26 4 (by kernel_rfl) (wv ((x <<< (((ofI (k:Int)) &&& 31).toNat).toUInt32) ||| (x >>> (((32:UInt64) - ((ofI (k:Int)) &&& 31)).toNat).toUInt32))) (by kernel_rfl) σ hS2 ?_
 rfl
end Go.Proofs.YtgpaifnijnaebaaDoor.E
set_option linter.unusedVariables false
set_option linter.unusedSimpArgs false
set_option maxRecDepth 100000
set_option maxHeartbeats 2000000
namespace Go.Proofs.YtgpaifnijnaebaaDoor.E
open Go Go.RowKit
open Go.Proofs
abbrev rS (b:List UInt8) (s:St) (k m:Nat):=rndTo (schedTo b k) s m
theorem block_calls (σ:Nat→Nat) (w:World) {bh:Nat} {s:St} (hh:Bx σ w bh (([s.a,s.b,s.c,s.d,s.e,s.f,s.g,s.h]:List UInt32).map wv) 153) {v1:Value} {b:List UInt8} (h1:Rd tU8 σ w v1 b) (hb:64≤b.length) (hg:Seg σ w 1 0 (kTab.map wv)) :
  Ctr Tryd.prog 71 [(Value.pointer (some ⟨bh,0,none⟩)),v1] (· = bh) σ w (fun σ' w' v=>v=.tuple #[]∧Bx σ' w' bh (([(compress s b).a,(compress s b).b,(compress s b).c,(compress s b).d,(compress s b).e,(compress s b).f,(compress s b).g,(compress s b).h]:List UInt32).map wv) 153):=by
 obtain⟨A0,c0,rfl,hl0⟩:=h1.form
 have hbd:b.length≤140737488355328:=Nat.le_trans (Nat.le_mul_of_pos_right _ (by decide)) h1.bd
 have hbhl:=hh.lt
 refine ctr_enter Tryd.func71 c71 (by kernel_rfl) 201 (by kernel_rfl) (Nat.le_of_ble_eq_true (by kernel_rfl)) [(0,(Value.pointer (some ⟨bh,0,none⟩))),(1,(Value.slice A0 b.length c0))] (by kernel_rfl) ?_
 intro a hF1
 have hS2:=Stp.refl (· = bh) σ w
 refine q_seq ?_
 refine q_reg ?_
 refine r_at (q_new 4 (Op.alloc 166) hF1 σ ((List.replicate 64 (0:UInt32)).map wv) 166 (exec_alloc ((List.replicate 64 (0:UInt32)).map wv) (fun _=>.inl (by kernel_rfl))) ?_)
 intro a3 s4 w5 b6 hb7 st8 hB9 hF10
 have hz11:=hS2.size
 have ne12:=hh.nl hb7
 have hS13:=hS2.then st8
 refine q_end ?_
 refine q_seq ?_
 refine q_seq ?_
 refine q_reg ?_
 refine q_run 1 [(19,(Value.int .i64 ((0:Nat):Int)))] hF10 fun a14 hF15=>?_
 refine q_end ?_
 refine q_block 0 ?_
 have h21:=(hh.step' st8)
 refine q_loop (fun(k1:Nat) a16 w17=>∃(s18:Nat→Nat),Fr a16 201 [(0,(Value.pointer (some ⟨bh,0,none⟩))),(1,(Value.slice A0 b.length c0)),(4,(Value.pointer (some ⟨b6,0,none⟩))),(19,(Value.int .i64 ((k1:Nat):Int)))]∧Stp (· = bh) σ w s18 w17∧Bx s18 w17 bh (([s.a,s.b,s.c,s.d,s.e,s.f,s.g,s.h]:List UInt32).map wv) 153∧Bx s18 w17 b6 ((schedTo b (k1)).map wv) 166∧k1≤16) (fun k1=>16 - k1) 0 ?_ ?_
 ·skip
  have hF22:=hF15.keep [0,1,4,19] [(0,(Value.pointer (some ⟨bh,0,none⟩))),(1,(Value.slice A0 b.length c0)),(4,(Value.pointer (some ⟨b6,0,none⟩))),(19,(Value.int .i64 ((0:Nat):Int)))] (by kernel_rfl)
  exact⟨s4,hF22,hS13,h21,hB9,(by omega)⟩
 ·rintro k1 a16 w17 ⟨s18,hF19,hS20,h23,h24,hk1⟩
  refine q_seq ?_
  refine q_reg ?_
  refine q_one 20 (congrArg Value.bool (cmp_nat_lss (k1) (16))) hF19 fun a25 hF26=>?_
  refine q_end ?_
  refine q_seq ?_
  refine q_cond 20 hF26 (decide ((k1:Nat)<16)) (fun hc27=>?_) (fun hc27=>?_)
  ·skip
   have hc27:=of_decide_eq_true hc27
   refine q_skip ?_
   refine q_seq ?_
   refine q_block 1 ?_
   refine q_seq ?_
   refine q_reg ?_
   refine q_run 2 [(5,(Value.int .i64 ((k1:Nat):Int))),(21,(Value.int .i64 ((k1:Nat):Int)))] hF26 fun a28 hF29=>?_
   refine q_end ?_
   refine c_planL 4 35 1 (by kernel_rfl) (by kernel_rfl) s18 (fun b=>b≠bh∧b≠b6∧True) [(0,true),(1,true),(2,true),(3,true),(4,true),(5,true),(6,true),(7,true),(8,true),(9,true),(10,true),(11,true),(12,true),(13,true),(14,true),(15,true),(16,true),(17,true),(18,true),(19,true),(20,true),(21,true),(22,true),(23,true),(24,true),(25,true),(26,true),(27,true),(28,true),(29,true),(30,true),(31,true),(32,true),(33,true),(34,true)] [(0,4194304,32),(0,8388608,2),(0,16777216,32),(4,33554432,16777216),(10,67108864,41943040),(16,134217728,67108864),(32,268435456,134217728),(64,536870912,268435456),(0,1073741824,2),(0,2147483648,32),(512,4294967296,2147483648),(1024,8589934592,4294967296),(2304,17179869184,9663676416),(4096,34359738368,17179869184),(8192,68719476736,34359738368),(16384,137438953472,68719476736),(32896,274877906944,137975824384),(0,549755813888,2),(0,1099511627776,32),(262144,2199023255552,1099511627776),(524288,4398046511104,2199023255552),(1179648,8796093022208,4947802324992),(2097152,17592186044416,8796093022208),(4194304,35184372088832,17592186044416),(8388608,70368744177664,35184372088832),(16842752,140737488355328,70643622084608),(0,281474976710656,2),(0,562949953421312,32),(134217728,1125899906842624,562949953421312),(268435456,2251799813685248,1125899906842624),(603979776,4503599627370496,2533274790395904),(1073741824,9007199254740992,4503599627370496),(2147483648,18014398509481984,9007199254740992),(4328521728,36028797018963968,18155135997837312),(17179869183,72057594037927936,4194320),(34359738367,0,108086391056891904)] (by kernel_rfl) (by kernel_rfl) (by kernel_rfl) (by kernel_rfl) ?_
   intro w30 st31
   have hS32:=hS20.then st31
   refine q_lrun (d:=22) (Value.int .i64 ((k1:Nat):Int)) hF29 ?_
   intro a33 hF34
   refine q_lrun (d:=23) (Value.slice A0 b.length c0) hF34 ?_
   intro a35 hF36
   refine q_lrun (d:=24) (Value.int .i64 ((k1:Nat):Int)) hF36 ?_
   intro a37 hF38
   refine q_lrun (d:=25) (Value.int .i64 (IntKind.i64.wrap (((4:Nat):Int)*((k1:Nat):Int)))) hF38 ?_
   intro a39 hF40
   have hF41:=hF40.set 25 (Value.int .i64 (IntKind.i64.wrap (((4:Nat):Int)*((k1:Nat):Int)))) (Value.int .i64 ((4*k1:Nat):Int)) (by kernel_rfl) (congrArg (Value.int .i64) (i64_eq (by omega) (by omega) (by omega)))
   have h42:=h1.step hS32
   have hi49:(4*k1)<(b).length:=(by have hq:=h42.ln;first | omega | (simp only[List.length_append,List.length_cons,List.length_nil,List.length_map,schedTo_len,addTo_len,kTab_len,List.length_set,List.length_replicate] at *;omega))
   obtain⟨b43,o44,c45,he46,hs47,hr48⟩:=(h42).at (4*k1) hi49
   obtain⟨o50,ho50⟩:∃ o,o=o44+(4*k1)*1:=⟨_,rfl⟩
   obtain⟨x51,hx52⟩:∃ x,x=(b[4*k1]'hi49):=⟨_,rfl⟩
   rw[← hx52] at hr48
   have hr48:c45=[(bv x51)]:=hr48
   subst hr48
   have hs47:Seg s18 w30 b43 o50 [(bv x51)]:=by rw[ho50];exact hs47
   refine q_lval 26 (Op.indexAddr 23 (Operand.tmp 23) (Operand.tmp 25)) (Value.pointer (some ⟨b43,o50,none⟩)) hF41 (fun w9 ⟨s9,hw9⟩=>(by rw[ho50];exact exec_index (len:=b.length) (cap:=c0) he46 (by kernel_rfl) (kd:=.i64) (4*k1) (by kernel_rfl) (by have:=h42.ln;omega) 1 U23 L5.s)) ?_
   intro a53 hF54
   refine q_lval 27 (Op.load 5 (Operand.tmp 26)) (bv x51) hF54 (fun w9 ⟨s9,hw9⟩=>(exec_load L5 (.inr rfl) (by kernel_rfl) (hs47.step hw9).cell)) ?_
   intro a55 hF56
   refine q_lrun (d:=28) (Value.int .u32 (IntKind.u32.wrap ((x51).toNat:Int))) hF56 ?_
   intro a57 hF58
   have hF59:=hF58.set 28 (Value.int .u32 (IntKind.u32.wrap ((x51).toNat:Int))) (wv ((x51).toUInt32)) (by kernel_rfl) (congrArg (Value.int .u32) (u8_u32 x51))
   refine q_lrun (d:=29) (Value.int .u32 (IntKind.u32.wrap ((((x51).toUInt32).toNat:Int)*(2 ^ (min (Int.toNat ((24:Nat):Int)) 32))))) hF59 ?_
   intro a60 hF61
   have hF62:=hF61.set 29 (Value.int .u32 (IntKind.u32.wrap ((((x51).toUInt32).toNat:Int)*(2 ^ (min (Int.toNat ((24:Nat):Int)) 32))))) (wv (((x51).toUInt32) <<< (24:Nat).toUInt32)) (by kernel_rfl) (congrArg (Value.int .u32) (u32_shl ((x51).toUInt32) 24 (by decide)))
   refine q_lrun (d:=30) (Value.slice A0 b.length c0) hF62 ?_
   intro a63 hF64
   refine q_lrun (d:=31) (Value.int .i64 ((k1:Nat):Int)) hF64 ?_
   intro a65 hF66
   refine q_lrun (d:=32) (Value.int .i64 (IntKind.i64.wrap (((4:Nat):Int)*((k1:Nat):Int)))) hF66 ?_
   intro a67 hF68
   have hF69:=hF68.set 32 (Value.int .i64 (IntKind.i64.wrap (((4:Nat):Int)*((k1:Nat):Int)))) (Value.int .i64 ((4*k1:Nat):Int)) (by kernel_rfl) (congrArg (Value.int .i64) (i64_eq (by omega) (by omega) (by omega)))
   refine q_lrun (d:=33) (Value.int .i64 (IntKind.i64.wrap (((4*k1:Nat):Int)+((1:Nat):Int)))) hF69 ?_
   intro a70 hF71
   have hF72:=hF71.set 33 (Value.int .i64 (IntKind.i64.wrap (((4*k1:Nat):Int)+((1:Nat):Int)))) (Value.int .i64 (((4*k1)+1:Nat):Int)) (by kernel_rfl) (congrArg (Value.int .i64) (i64_eq (by omega) (by omega) (by omega)))
   have hi79:((4*k1)+1)<(b).length:=(by have hq:=h42.ln;first | omega | (simp only[List.length_append,List.length_cons,List.length_nil,List.length_map,schedTo_len,addTo_len,kTab_len,List.length_set,List.length_replicate] at *;omega))
   obtain⟨b73,o74,c75,he76,hs77,hr78⟩:=(h42).at ((4*k1)+1) hi79
   obtain⟨o80,ho80⟩:∃ o,o=o74+((4*k1)+1)*1:=⟨_,rfl⟩
   obtain⟨x81,hx82⟩:∃ x,x=(b[(4*k1)+1]'hi79):=⟨_,rfl⟩
   rw[← hx82] at hr78
   have hr78:c75=[(bv x81)]:=hr78
   subst hr78
   have hs77:Seg s18 w30 b73 o80 [(bv x81)]:=by rw[ho80];exact hs77
   refine q_lval 34 (Op.indexAddr 23 (Operand.tmp 30) (Operand.tmp 33)) (Value.pointer (some ⟨b73,o80,none⟩)) hF72 (fun w9 ⟨s9,hw9⟩=>(by rw[ho80];exact exec_index (len:=b.length) (cap:=c0) he76 (by kernel_rfl) (kd:=.i64) ((4*k1)+1) (by kernel_rfl) (by have:=h42.ln;omega) 1 U23 L5.s)) ?_
   intro a83 hF84
   refine q_lval 35 (Op.load 5 (Operand.tmp 34)) (bv x81) hF84 (fun w9 ⟨s9,hw9⟩=>(exec_load L5 (.inr rfl) (by kernel_rfl) (hs77.step hw9).cell)) ?_
   intro a85 hF86
   refine q_lrun (d:=36) (Value.int .u32 (IntKind.u32.wrap ((x81).toNat:Int))) hF86 ?_
   intro a87 hF88
   have hF89:=hF88.set 36 (Value.int .u32 (IntKind.u32.wrap ((x81).toNat:Int))) (wv ((x81).toUInt32)) (by kernel_rfl) (congrArg (Value.int .u32) (u8_u32 x81))
   refine q_lrun (d:=37) (Value.int .u32 (IntKind.u32.wrap ((((x81).toUInt32).toNat:Int)*(2 ^ (min (Int.toNat ((16:Nat):Int)) 32))))) hF89 ?_
   intro a90 hF91
   have hF92:=hF91.set 37 (Value.int .u32 (IntKind.u32.wrap ((((x81).toUInt32).toNat:Int)*(2 ^ (min (Int.toNat ((16:Nat):Int)) 32))))) (wv (((x81).toUInt32) <<< (16:Nat).toUInt32)) (by kernel_rfl) (congrArg (Value.int .u32) (u32_shl ((x81).toUInt32) 16 (by decide)))
   refine q_lrun (d:=38) (Value.int .u32 (IntKind.u32.wrap ((BitVec.ofInt 32 ((((x51).toUInt32) <<< (24:Nat).toUInt32).toNat:Int) ||| BitVec.ofInt 32 ((((x81).toUInt32) <<< (16:Nat).toUInt32).toNat:Int)).toNat:Int))) hF92 ?_
   intro a93 hF94
   have hF95:=hF94.set 38 (Value.int .u32 (IntKind.u32.wrap ((BitVec.ofInt 32 ((((x51).toUInt32) <<< (24:Nat).toUInt32).toNat:Int) ||| BitVec.ofInt 32 ((((x81).toUInt32) <<< (16:Nat).toUInt32).toNat:Int)).toNat:Int))) (wv ((((x51).toUInt32) <<< (24:Nat).toUInt32) ||| (((x81).toUInt32) <<< (16:Nat).toUInt32))) (by kernel_rfl) (congrArg (Value.int .u32) (u32_or (((x51).toUInt32) <<< (24:Nat).toUInt32) (((x81).toUInt32) <<< (16:Nat).toUInt32)))
   refine q_lrun (d:=39) (Value.slice A0 b.length c0) hF95 ?_
   intro a96 hF97
   refine q_lrun (d:=40) (Value.int .i64 ((k1:Nat):Int)) hF97 ?_
   intro a98 hF99
   refine q_lrun (d:=41) (Value.int .i64 (IntKind.i64.wrap (((4:Nat):Int)*((k1:Nat):Int)))) hF99 ?_
   intro a100 hF101
   have hF102:=hF101.set 41 (Value.int .i64 (IntKind.i64.wrap (((4:Nat):Int)*((k1:Nat):Int)))) (Value.int .i64 ((4*k1:Nat):Int)) (by kernel_rfl) (congrArg (Value.int .i64) (i64_eq (by omega) (by omega) (by omega)))
   refine q_lrun (d:=42) (Value.int .i64 (IntKind.i64.wrap (((4*k1:Nat):Int)+((2:Nat):Int)))) hF102 ?_
   intro a103 hF104
   have hF105:=hF104.set 42 (Value.int .i64 (IntKind.i64.wrap (((4*k1:Nat):Int)+((2:Nat):Int)))) (Value.int .i64 (((4*k1)+2:Nat):Int)) (by kernel_rfl) (congrArg (Value.int .i64) (i64_eq (by omega) (by omega) (by omega)))
   have hi112:((4*k1)+2)<(b).length:=(by have hq:=h42.ln;first | omega | (simp only[List.length_append,List.length_cons,List.length_nil,List.length_map,schedTo_len,addTo_len,kTab_len,List.length_set,List.length_replicate] at *;omega))
   obtain⟨b106,o107,c108,he109,hs110,hr111⟩:=(h42).at ((4*k1)+2) hi112
   obtain⟨o113,ho113⟩:∃ o,o=o107+((4*k1)+2)*1:=⟨_,rfl⟩
   obtain⟨x114,hx115⟩:∃ x,x=(b[(4*k1)+2]'hi112):=⟨_,rfl⟩
   rw[← hx115] at hr111
   have hr111:c108=[(bv x114)]:=hr111
   subst hr111
   have hs110:Seg s18 w30 b106 o113 [(bv x114)]:=by rw[ho113];exact hs110
   refine q_lval 43 (Op.indexAddr 23 (Operand.tmp 39) (Operand.tmp 42)) (Value.pointer (some ⟨b106,o113,none⟩)) hF105 (fun w9 ⟨s9,hw9⟩=>(by rw[ho113];exact exec_index (len:=b.length) (cap:=c0) he109 (by kernel_rfl) (kd:=.i64) ((4*k1)+2) (by kernel_rfl) (by have:=h42.ln;omega) 1 U23 L5.s)) ?_
   intro a116 hF117
   refine q_lval 44 (Op.load 5 (Operand.tmp 43)) (bv x114) hF117 (fun w9 ⟨s9,hw9⟩=>(exec_load L5 (.inr rfl) (by kernel_rfl) (hs110.step hw9).cell)) ?_
   intro a118 hF119
   refine q_lrun (d:=45) (Value.int .u32 (IntKind.u32.wrap ((x114).toNat:Int))) hF119 ?_
   intro a120 hF121
   have hF122:=hF121.set 45 (Value.int .u32 (IntKind.u32.wrap ((x114).toNat:Int))) (wv ((x114).toUInt32)) (by kernel_rfl) (congrArg (Value.int .u32) (u8_u32 x114))
   refine q_lrun (d:=46) (Value.int .u32 (IntKind.u32.wrap ((((x114).toUInt32).toNat:Int)*(2 ^ (min (Int.toNat ((8:Nat):Int)) 32))))) hF122 ?_
   intro a123 hF124
   have hF125:=hF124.set 46 (Value.int .u32 (IntKind.u32.wrap ((((x114).toUInt32).toNat:Int)*(2 ^ (min (Int.toNat ((8:Nat):Int)) 32))))) (wv (((x114).toUInt32) <<< (8:Nat).toUInt32)) (by kernel_rfl) (congrArg (Value.int .u32) (u32_shl ((x114).toUInt32) 8 (by decide)))
   refine q_lrun (d:=47) (Value.int .u32 (IntKind.u32.wrap ((BitVec.ofInt 32 (((((x51).toUInt32) <<< (24:Nat).toUInt32) ||| (((x81).toUInt32) <<< (16:Nat).toUInt32)).toNat:Int) ||| BitVec.ofInt 32 ((((x114).toUInt32) <<< (8:Nat).toUInt32).toNat:Int)).toNat:Int))) hF125 ?_
   intro a126 hF127
   have hF128:=hF127.set 47 (Value.int .u32 (IntKind.u32.wrap ((BitVec.ofInt 32 (((((x51).toUInt32) <<< (24:Nat).toUInt32) ||| (((x81).toUInt32) <<< (16:Nat).toUInt32)).toNat:Int) ||| BitVec.ofInt 32 ((((x114).toUInt32) <<< (8:Nat).toUInt32).toNat:Int)).toNat:Int))) (wv (((((x51).toUInt32) <<< (24:Nat).toUInt32) ||| (((x81).toUInt32) <<< (16:Nat).toUInt32)) ||| (((x114).toUInt32) <<< (8:Nat).toUInt32))) (by kernel_rfl) (congrArg (Value.int .u32) (u32_or ((((x51).toUInt32) <<< (24:Nat).toUInt32) ||| (((x81).toUInt32) <<< (16:Nat).toUInt32)) (((x114).toUInt32) <<< (8:Nat).toUInt32)))
   refine q_lrun (d:=48) (Value.slice A0 b.length c0) hF128 ?_
   intro a129 hF130
   refine q_lrun (d:=49) (Value.int .i64 ((k1:Nat):Int)) hF130 ?_
   intro a131 hF132
   refine q_lrun (d:=50) (Value.int .i64 (IntKind.i64.wrap (((4:Nat):Int)*((k1:Nat):Int)))) hF132 ?_
   intro a133 hF134
   have hF135:=hF134.set 50 (Value.int .i64 (IntKind.i64.wrap (((4:Nat):Int)*((k1:Nat):Int)))) (Value.int .i64 ((4*k1:Nat):Int)) (by kernel_rfl) (congrArg (Value.int .i64) (i64_eq (by omega) (by omega) (by omega)))
   refine q_lrun (d:=51) (Value.int .i64 (IntKind.i64.wrap (((4*k1:Nat):Int)+((3:Nat):Int)))) hF135 ?_
   intro a136 hF137
   have hF138:=hF137.set 51 (Value.int .i64 (IntKind.i64.wrap (((4*k1:Nat):Int)+((3:Nat):Int)))) (Value.int .i64 (((4*k1)+3:Nat):Int)) (by kernel_rfl) (congrArg (Value.int .i64) (i64_eq (by omega) (by omega) (by omega)))
   have hi145:((4*k1)+3)<(b).length:=(by have hq:=h42.ln;first | omega | (simp only[List.length_append,List.length_cons,List.length_nil,List.length_map,schedTo_len,addTo_len,kTab_len,List.length_set,List.length_replicate] at *;omega))
   obtain⟨b139,o140,c141,he142,hs143,hr144⟩:=(h42).at ((4*k1)+3) hi145
   obtain⟨o146,ho146⟩:∃ o,o=o140+((4*k1)+3)*1:=⟨_,rfl⟩
   obtain⟨x147,hx148⟩:∃ x,x=(b[(4*k1)+3]'hi145):=⟨_,rfl⟩
   rw[← hx148] at hr144
   have hr144:c141=[(bv x147)]:=hr144
   subst hr144
   have hs143:Seg s18 w30 b139 o146 [(bv x147)]:=by rw[ho146];exact hs143
   refine q_lval 52 (Op.indexAddr 23 (Operand.tmp 48) (Operand.tmp 51)) (Value.pointer (some ⟨b139,o146,none⟩)) hF138 (fun w9 ⟨s9,hw9⟩=>(by rw[ho146];exact exec_index (len:=b.length) (cap:=c0) he142 (by kernel_rfl) (kd:=.i64) ((4*k1)+3) (by kernel_rfl) (by have:=h42.ln;omega) 1 U23 L5.s)) ?_
   intro a149 hF150
   refine q_lval 53 (Op.load 5 (Operand.tmp 52)) (bv x147) hF150 (fun w9 ⟨s9,hw9⟩=>(exec_load L5 (.inr rfl) (by kernel_rfl) (hs143.step hw9).cell)) ?_
   intro a151 hF152
   refine q_lrun (d:=54) (Value.int .u32 (IntKind.u32.wrap ((x147).toNat:Int))) hF152 ?_
   intro a153 hF154
   have hF155:=hF154.set 54 (Value.int .u32 (IntKind.u32.wrap ((x147).toNat:Int))) (wv ((x147).toUInt32)) (by kernel_rfl) (congrArg (Value.int .u32) (u8_u32 x147))
   refine q_lrun (d:=55) (Value.int .u32 (IntKind.u32.wrap ((BitVec.ofInt 32 ((((((x51).toUInt32) <<< (24:Nat).toUInt32) ||| (((x81).toUInt32) <<< (16:Nat).toUInt32)) ||| (((x114).toUInt32) <<< (8:Nat).toUInt32)).toNat:Int) ||| BitVec.ofInt 32 (((x147).toUInt32).toNat:Int)).toNat:Int))) hF155 ?_
   intro a156 hF157
   have hF158:=hF157.set 55 (Value.int .u32 (IntKind.u32.wrap ((BitVec.ofInt 32 ((((((x51).toUInt32) <<< (24:Nat).toUInt32) ||| (((x81).toUInt32) <<< (16:Nat).toUInt32)) ||| (((x114).toUInt32) <<< (8:Nat).toUInt32)).toNat:Int) ||| BitVec.ofInt 32 (((x147).toUInt32).toNat:Int)).toNat:Int))) (wv ((((((x51).toUInt32) <<< (24:Nat).toUInt32) ||| (((x81).toUInt32) <<< (16:Nat).toUInt32)) ||| (((x114).toUInt32) <<< (8:Nat).toUInt32)) ||| ((x147).toUInt32))) (by kernel_rfl) (congrArg (Value.int .u32) (u32_or (((((x51).toUInt32) <<< (24:Nat).toUInt32) ||| (((x81).toUInt32) <<< (16:Nat).toUInt32)) ||| (((x114).toUInt32) <<< (8:Nat).toUInt32)) ((x147).toUInt32)))
   refine q_lval 56 (Op.indexAddr 166 (Operand.tmp 4) (Operand.tmp 22)) (Value.pointer (some ⟨b6,k1,none⟩)) hF158 (fun w9 ⟨s9,hw9⟩=>(exec_indexP1 (N:=64) (by kernel_rfl) (kd:=.i64) k1 (by kernel_rfl) (by omega) U166 L152.s)) ?_
   intro a159 hF160
   have h161:=(h24.step' st31)
   have hj167:k1<(schedTo b (k1)).length:=(by first | omega | (simp only[List.length_append,List.length_cons,List.length_nil,List.length_map,schedTo_len,addTo_len,kTab_len,List.length_set,List.length_replicate];omega) | simp)
   refine l_last (q_storeA wv (Operand.tmp 56) (Operand.tmp 55) hF160 h161 k1 hj167 ((((((x51).toUInt32) <<< (24:Nat).toUInt32) ||| (((x81).toUInt32) <<< (16:Nat).toUInt32)) ||| (((x114).toUInt32) <<< (8:Nat).toUInt32)) ||| ((x147).toUInt32)) L152 ?_)
   intro a162 w163 st164 hB165 hF166
   have hS168:=hS32.and st164 (fun b e=>by subst e;omega)
   refine q_reg ?_
   refine q_one 57 (v0:=(Value.int .i64 (IntKind.i64.wrap (((k1:Nat):Int)+((1:Nat):Int))))) (v:=(Value.int .i64 ((k1+1:Nat):Int))) (congrArg (Value.int .i64) (i64_eq (by omega) (by omega) (by omega))) hF166 fun a169 hF170=>?_
   refine q_run 1 [(19,(Value.int .i64 ((k1+1:Nat):Int)))] hF170 fun a171 hF172=>?_
   refine q_end ?_
   have h173:=((h23.step' st31).step st164 (fun e=>absurd e (by omega)))
   have hF174:=hF172.keep [0,1,4,19] [(0,(Value.pointer (some ⟨bh,0,none⟩))),(1,(Value.slice A0 b.length c0)),(4,(Value.pointer (some ⟨b6,0,none⟩))),(19,(Value.int .i64 ((k1+1:Nat):Int)))] (by kernel_rfl)
   exact⟨k1+1,⟨s18,hF174,hS168,h173,(by subst hx52 hx82 hx115 hx148;rw[schedTo_lo (by omega) (by omega)];exact hB165),(by omega)⟩,by omega⟩
  ·skip
   have hc27:=of_decide_eq_false hc27
   refine q_exit 0 ?_
   refine q_seq ?_
   refine q_seq ?_
   refine q_reg ?_
   refine q_run 1 [(6,(Value.int .i64 ((16:Nat):Int)))] hF26 fun a175 hF176=>?_
   refine q_end ?_
   refine q_block 2 ?_
   refine q_loop (fun(k2:Nat) a177 w178=>∃(s179:Nat→Nat),Fr a177 201 [(0,(Value.pointer (some ⟨bh,0,none⟩))),(4,(Value.pointer (some ⟨b6,0,none⟩))),(6,(Value.int .i64 ((k2:Nat):Int)))]∧Stp (· = bh) σ w s179 w178∧Bx s179 w178 bh (([s.a,s.b,s.c,s.d,s.e,s.f,s.g,s.h]:List UInt32).map wv) 153∧Bx s179 w178 b6 ((schedTo b (k2)).map wv) 166∧k2≤64∧16≤k2) (fun k2=>64 - k2) 16 ?_ ?_
   ·skip
    have hF182:=hF176.keep [0,4,6] [(0,(Value.pointer (some ⟨bh,0,none⟩))),(4,(Value.pointer (some ⟨b6,0,none⟩))),(6,(Value.int .i64 ((16:Nat):Int)))] (by kernel_rfl)
    exact⟨s18,hF182,hS20,h23,(by have h9:=h24;have e:k1=16:=(by omega);rw[e] at h9;exact h9),(by omega),(by omega)⟩
   ·rintro k2 a177 w178 ⟨s179,hF180,hS181,h183,h184,hk2,hk2l⟩
    refine q_seq ?_
    refine q_seq ?_
    refine q_reg ?_
    refine q_run 1 [(58,(Value.int .i64 ((k2:Nat):Int)))] hF180 fun a185 hF186=>?_
    refine q_one 59 (congrArg Value.bool (cmp_nat_lss (k2) (64))) hF186 fun a187 hF188=>?_
    refine q_end ?_
    refine q_cond 59 hF188 (decide ((k2:Nat)<64)) (fun hc189=>?_) (fun hc189=>?_)
    ·skip
     have hc189:=of_decide_eq_true hc189
     refine q_skip ?_
     refine q_seq ?_
     refine q_block 3 ?_
     refine q_seq ?_
     refine c_plan 9 (by kernel_rfl) (by kernel_rfl) s179 (fun b=>b≠bh∧b≠b6∧True) [(0,true),(1,true),(2,true),(3,true),(4,true),(5,true),(6,true),(7,true),(8,true),(9,true)] [(0,4611686018427387904,64),(1,9223372036854775808,4611686018427387904),(2,18446744073709551616,9223372036854775824),(4,36893488147419103232,18446744073709551616),(0,73786976294838206464,64),(16,147573952589676412928,73786976294838206464),(32,295147905179352825856,147573952589676412944),(64,590295810358705651712,295147905179352825856),(15,128,36893488147419103232),(511,256,590295810358705651712)] (by kernel_rfl) (by kernel_rfl) (by kernel_rfl) (by kernel_rfl) ?_
     intro w190 st191
     have hS192:=hS181.then st191
     refine q_prun (d:=62) (Value.int .i64 ((k2:Nat):Int)) hF188 ?_
     intro a193 hF194
     refine q_prun (d:=63) (Value.int .i64 (IntKind.i64.wrap (((k2:Nat):Int) - ((15:Nat):Int)))) hF194 ?_
     intro a195 hF196
     have hF197:=hF196.set 63 (Value.int .i64 (IntKind.i64.wrap (((k2:Nat):Int) - ((15:Nat):Int)))) (Value.int .i64 ((k2 - 15:Nat):Int)) (by kernel_rfl) (congrArg (Value.int .i64) (i64_eq (by omega) (by omega) (by omega)))
     refine q_pval 64 (Op.indexAddr 166 (Operand.tmp 4) (Operand.tmp 63)) (Value.pointer (some ⟨b6,k2 - 15,none⟩)) hF197 (fun w9 ⟨s9,hw9⟩=>(exec_indexP1 (N:=64) (by kernel_rfl) (kd:=.i64) (k2 - 15) (by kernel_rfl) (by omega) U166 L152.s)) ?_
     intro a198 hF199
     have h200:=(h184.step' st191)
     have hj201:k2 - 15<(schedTo b (k2)).length:=(by first | omega | (simp only[List.length_append,List.length_cons,List.length_nil,List.length_map,schedTo_len,addTo_len,kTab_len,List.length_set,List.length_replicate];omega) | simp)
     refine q_pval 65 (Op.load 152 (Operand.tmp 64)) (wv ((schedTo b (k2)).getD (k2 - 15) 0)) hF199 (fun w9 ⟨s9,hw9⟩=>(exec_load (cs:=[wv ((schedTo b (k2)).getD (k2 - 15) 0)]) L152 (.inr rfl) (by kernel_rfl) (Bx.elemG (h200.step hw9 (fun h=>h.2.1 rfl)) (0:UInt32) (k2 - 15) hj201))) ?_
     intro a202 hF203
     refine q_prun (d:=66) (Value.int .i64 ((k2:Nat):Int)) hF203 ?_
     intro a204 hF205
     refine q_prun (d:=67) (Value.int .i64 (IntKind.i64.wrap (((k2:Nat):Int) - ((2:Nat):Int)))) hF205 ?_
     intro a206 hF207
     have hF208:=hF207.set 67 (Value.int .i64 (IntKind.i64.wrap (((k2:Nat):Int) - ((2:Nat):Int)))) (Value.int .i64 ((k2 - 2:Nat):Int)) (by kernel_rfl) (congrArg (Value.int .i64) (i64_eq (by omega) (by omega) (by omega)))
     refine q_pval 68 (Op.indexAddr 166 (Operand.tmp 4) (Operand.tmp 67)) (Value.pointer (some ⟨b6,k2 - 2,none⟩)) hF208 (fun w9 ⟨s9,hw9⟩=>(exec_indexP1 (N:=64) (by kernel_rfl) (kd:=.i64) (k2 - 2) (by kernel_rfl) (by omega) U166 L152.s)) ?_
     intro a209 hF210
     have hj211:k2 - 2<(schedTo b (k2)).length:=(by first | omega | (simp only[List.length_append,List.length_cons,List.length_nil,List.length_map,schedTo_len,addTo_len,kTab_len,List.length_set,List.length_replicate];omega) | simp)
     refine q_pval 69 (Op.load 152 (Operand.tmp 68)) (wv ((schedTo b (k2)).getD (k2 - 2) 0)) hF210 (fun w9 ⟨s9,hw9⟩=>(exec_load (cs:=[wv ((schedTo b (k2)).getD (k2 - 2) 0)]) L152 (.inr rfl) (by kernel_rfl) (Bx.elemG (h200.step hw9 (fun h=>h.2.1 rfl)) (0:UInt32) (k2 - 2) hj211))) ?_
     intro a212 hF213
     refine q_prun (d:=7) (wv ((schedTo b (k2)).getD (k2 - 15) 0)) hF213 ?_
     intro a214 hF215
     refine q_prun (d:=8) (wv ((schedTo b (k2)).getD (k2 - 2) 0)) hF215 ?_
     intro a216 hF217
     refine p_end ?_
     refine q_seq ?_
     refine q_reg ?_
     refine q_run 1 [(70,(wv ((schedTo b (k2)).getD (k2 - 15) 0)))] hF217 fun a218 hF219=>?_
     have h220:=(h183.step' st191)
     refine r_at (q_call (some 71) (#[(Operand.tmp 70),(Operand.const (Value.int IntKind.i64 (-7)))]) (#[152,3]) hF219 C82 [(wv ((schedTo b (k2)).getD (k2 - 15) 0)),(Value.int .i64 (-7))] (rotl_calls s179 w190 ((schedTo b (k2)).getD (k2 - 15) 0) (-7:Int) (by decide)) ?_)
     intro a221 s222 w223 v224 st225 hP226 hF227
     have hz228:=hS192.size
     have hS229:=hS192.then st225
     subst hP226
     refine q_run 1 [(72,(wv ((schedTo b (k2)).getD (k2 - 15) 0)))] hF227 fun a230 hF231=>?_
     have h232:=(h220.step' st225)
     have h233:=(h200.step' st225)
     refine r_at (q_call (some 73) (#[(Operand.tmp 72),(Operand.const (Value.int IntKind.i64 (-18)))]) (#[152,3]) hF231 C82 [(wv ((schedTo b (k2)).getD (k2 - 15) 0)),(Value.int .i64 (-18))] (rotl_calls s222 w223 ((schedTo b (k2)).getD (k2 - 15) 0) (-18:Int) (by decide)) ?_)
     intro a234 s235 w236 v237 st238 hP239 hF240
     have hz241:=hS229.size
     have hS242:=hS229.then st238
     subst hP239
     refine q_one 74 (congrArg (Value.int .u32) (u32_xor (rotl ((schedTo b (k2)).getD (k2 - 15) 0) (-7:Int)) (rotl ((schedTo b (k2)).getD (k2 - 15) 0) (-18:Int)))) hF240 fun a243 hF244=>?_
     refine q_run 1 [(75,(wv ((schedTo b (k2)).getD (k2 - 15) 0)))] hF244 fun a245 hF246=>?_
     refine q_one 76 (congrArg (Value.int .u32) (u32_shr ((schedTo b (k2)).getD (k2 - 15) 0) 3 (by decide))) hF246 fun a247 hF248=>?_
     refine q_one 77 (congrArg (Value.int .u32) (u32_xor ((rotl ((schedTo b (k2)).getD (k2 - 15) 0) (-7:Int)) ^^^ (rotl ((schedTo b (k2)).getD (k2 - 15) 0) (-18:Int))) (((schedTo b (k2)).getD (k2 - 15) 0) >>> (3:Nat).toUInt32))) hF248 fun a249 hF250=>?_
     refine q_run 1 [(9,(wv (((rotl ((schedTo b (k2)).getD (k2 - 15) 0) (-7:Int)) ^^^ (rotl ((schedTo b (k2)).getD (k2 - 15) 0) (-18:Int))) ^^^ (((schedTo b (k2)).getD (k2 - 15) 0) >>> (3:Nat).toUInt32))))] hF250 fun a251 hF252=>?_
     refine q_end ?_
     refine q_seq ?_
     refine q_reg ?_
     refine q_run 1 [(78,(wv ((schedTo b (k2)).getD (k2 - 2) 0)))] hF252 fun a253 hF254=>?_
     have h255:=(h232.step' st238)
     have h256:=(h233.step' st238)
     refine r_at (q_call (some 79) (#[(Operand.tmp 78),(Operand.const (Value.int IntKind.i64 (-17)))]) (#[152,3]) hF254 C82 [(wv ((schedTo b (k2)).getD (k2 - 2) 0)),(Value.int .i64 (-17))] (rotl_calls s235 w236 ((schedTo b (k2)).getD (k2 - 2) 0) (-17:Int) (by decide)) ?_)
     intro a257 s258 w259 v260 st261 hP262 hF263
     have hz264:=hS242.size
     have hS265:=hS242.then st261
     subst hP262
     refine q_run 1 [(80,(wv ((schedTo b (k2)).getD (k2 - 2) 0)))] hF263 fun a266 hF267=>?_
     have h268:=(h255.step' st261)
     have h269:=(h256.step' st261)
     refine r_at (q_call (some 81) (#[(Operand.tmp 80),(Operand.const (Value.int IntKind.i64 (-19)))]) (#[152,3]) hF267 C82 [(wv ((schedTo b (k2)).getD (k2 - 2) 0)),(Value.int .i64 (-19))] (rotl_calls s258 w259 ((schedTo b (k2)).getD (k2 - 2) 0) (-19:Int) (by decide)) ?_)
     intro a270 s271 w272 v273 st274 hP275 hF276
     have hz277:=hS265.size
     have hS278:=hS265.then st274
     subst hP275
     refine q_one 82 (congrArg (Value.int .u32) (u32_xor (rotl ((schedTo b (k2)).getD (k2 - 2) 0) (-17:Int)) (rotl ((schedTo b (k2)).getD (k2 - 2) 0) (-19:Int)))) hF276 fun a279 hF280=>?_
     refine q_run 1 [(83,(wv ((schedTo b (k2)).getD (k2 - 2) 0)))] hF280 fun a281 hF282=>?_
     refine q_one 84 (congrArg (Value.int .u32) (u32_shr ((schedTo b (k2)).getD (k2 - 2) 0) 10 (by decide))) hF282 fun a283 hF284=>?_
     refine q_one 85 (congrArg (Value.int .u32) (u32_xor ((rotl ((schedTo b (k2)).getD (k2 - 2) 0) (-17:Int)) ^^^ (rotl ((schedTo b (k2)).getD (k2 - 2) 0) (-19:Int))) (((schedTo b (k2)).getD (k2 - 2) 0) >>> (10:Nat).toUInt32))) hF284 fun a285 hF286=>?_
     refine q_run 1 [(10,(wv (((rotl ((schedTo b (k2)).getD (k2 - 2) 0) (-17:Int)) ^^^ (rotl ((schedTo b (k2)).getD (k2 - 2) 0) (-19:Int))) ^^^ (((schedTo b (k2)).getD (k2 - 2) 0) >>> (10:Nat).toUInt32))))] hF286 fun a287 hF288=>?_
     refine q_end ?_
     refine c_planL 12 15 1 (by kernel_rfl) (by kernel_rfl) s271 (fun b=>b≠bh∧b≠b6∧True) [(0,true),(1,true),(2,true),(3,true),(4,true),(5,true),(6,true),(7,true),(8,true),(9,true),(10,true),(11,true),(12,true),(13,true),(14,true)] [(0,77371252455336267181195264,64),(0,154742504910672534362390528,64),(2,309485009821345068724781056,154742504910672534362390528),(4,618970019642690137449562112,309485009821345068724781072),(8,1237940039285380274899124224,618970019642690137449562112),(0,2475880078570760549798248448,512),(48,4951760157141521099596496896,3713820117856140824697372672),(0,9903520314283042199192993792,64),(128,19807040628566084398385987584,9903520314283042199192993792),(256,39614081257132168796771975168,19807040628566084398385987600),(512,79228162514264337593543950336,39614081257132168796771975168),(1088,158456325028528675187087900672,84179922671405858693140447232),(0,316912650057057350374175801344,1024),(6144,633825300114114700748351602688,475368975085586025561263702016),(16383,1267650600228229401496703205376,77371252455336267181195280),(32767,0,1901475900342344102245054808064)] (by kernel_rfl) (by kernel_rfl) (by kernel_rfl) (by kernel_rfl) ?_
     intro w289 st290
     have hS291:=hS278.then st290
     refine q_lrun (d:=86) (Value.int .i64 ((k2:Nat):Int)) hF288 ?_
     intro a292 hF293
     refine q_lrun (d:=87) (Value.int .i64 ((k2:Nat):Int)) hF293 ?_
     intro a294 hF295
     refine q_lrun (d:=88) (Value.int .i64 (IntKind.i64.wrap (((k2:Nat):Int) - ((16:Nat):Int)))) hF295 ?_
     intro a296 hF297
     have hF298:=hF297.set 88 (Value.int .i64 (IntKind.i64.wrap (((k2:Nat):Int) - ((16:Nat):Int)))) (Value.int .i64 ((k2 - 16:Nat):Int)) (by kernel_rfl) (congrArg (Value.int .i64) (i64_eq (by omega) (by omega) (by omega)))
     refine q_lval 89 (Op.indexAddr 166 (Operand.tmp 4) (Operand.tmp 88)) (Value.pointer (some ⟨b6,k2 - 16,none⟩)) hF298 (fun w9 ⟨s9,hw9⟩=>(exec_indexP1 (N:=64) (by kernel_rfl) (kd:=.i64) (k2 - 16) (by kernel_rfl) (by omega) U166 L152.s)) ?_
     intro a299 hF300
     have h301:=((h269.step' st274).step' st290)
     have hj302:k2 - 16<(schedTo b (k2)).length:=(by first | omega | (simp only[List.length_append,List.length_cons,List.length_nil,List.length_map,schedTo_len,addTo_len,kTab_len,List.length_set,List.length_replicate];omega) | simp)
     refine q_lval 90 (Op.load 152 (Operand.tmp 89)) (wv ((schedTo b (k2)).getD (k2 - 16) 0)) hF300 (fun w9 ⟨s9,hw9⟩=>(exec_load (cs:=[wv ((schedTo b (k2)).getD (k2 - 16) 0)]) L152 (.inr rfl) (by kernel_rfl) (Bx.elemG (h301.step hw9 (fun h=>h.2.1 rfl)) (0:UInt32) (k2 - 16) hj302))) ?_
     intro a303 hF304
     refine q_lrun (d:=91) (wv (((rotl ((schedTo b (k2)).getD (k2 - 15) 0) (-7:Int)) ^^^ (rotl ((schedTo b (k2)).getD (k2 - 15) 0) (-18:Int))) ^^^ (((schedTo b (k2)).getD (k2 - 15) 0) >>> (3:Nat).toUInt32))) hF304 ?_
     intro a305 hF306
     refine q_lrun (d:=92) (Value.int .u32 (IntKind.u32.wrap ((((schedTo b (k2)).getD (k2 - 16) 0).toNat:Int)+((((rotl ((schedTo b (k2)).getD (k2 - 15) 0) (-7:Int)) ^^^ (rotl ((schedTo b (k2)).getD (k2 - 15) 0) (-18:Int))) ^^^ (((schedTo b (k2)).getD (k2 - 15) 0) >>> (3:Nat).toUInt32)).toNat:Int)))) hF306 ?_
     intro a307 hF308
     have hF309:=hF308.set 92 (Value.int .u32 (IntKind.u32.wrap ((((schedTo b (k2)).getD (k2 - 16) 0).toNat:Int)+((((rotl ((schedTo b (k2)).getD (k2 - 15) 0) (-7:Int)) ^^^ (rotl ((schedTo b (k2)).getD (k2 - 15) 0) (-18:Int))) ^^^ (((schedTo b (k2)).getD (k2 - 15) 0) >>> (3:Nat).toUInt32)).toNat:Int)))) (wv (((schedTo b (k2)).getD (k2 - 16) 0)+(((rotl ((schedTo b (k2)).getD (k2 - 15) 0) (-7:Int)) ^^^ (rotl ((schedTo b (k2)).getD (k2 - 15) 0) (-18:Int))) ^^^ (((schedTo b (k2)).getD (k2 - 15) 0) >>> (3:Nat).toUInt32)))) (by kernel_rfl) (congrArg (Value.int .u32) (u32_add _ _))
     refine q_lrun (d:=93) (Value.int .i64 ((k2:Nat):Int)) hF309 ?_
     intro a310 hF311
     refine q_lrun (d:=94) (Value.int .i64 (IntKind.i64.wrap (((k2:Nat):Int) - ((7:Nat):Int)))) hF311 ?_
     intro a312 hF313
     have hF314:=hF313.set 94 (Value.int .i64 (IntKind.i64.wrap (((k2:Nat):Int) - ((7:Nat):Int)))) (Value.int .i64 ((k2 - 7:Nat):Int)) (by kernel_rfl) (congrArg (Value.int .i64) (i64_eq (by omega) (by omega) (by omega)))
     refine q_lval 95 (Op.indexAddr 166 (Operand.tmp 4) (Operand.tmp 94)) (Value.pointer (some ⟨b6,k2 - 7,none⟩)) hF314 (fun w9 ⟨s9,hw9⟩=>(exec_indexP1 (N:=64) (by kernel_rfl) (kd:=.i64) (k2 - 7) (by kernel_rfl) (by omega) U166 L152.s)) ?_
     intro a315 hF316
     have hj317:k2 - 7<(schedTo b (k2)).length:=(by first | omega | (simp only[List.length_append,List.length_cons,List.length_nil,List.length_map,schedTo_len,addTo_len,kTab_len,List.length_set,List.length_replicate];omega) | simp)
     refine q_lval 96 (Op.load 152 (Operand.tmp 95)) (wv ((schedTo b (k2)).getD (k2 - 7) 0)) hF316 (fun w9 ⟨s9,hw9⟩=>(exec_load (cs:=[wv ((schedTo b (k2)).getD (k2 - 7) 0)]) L152 (.inr rfl) (by kernel_rfl) (Bx.elemG (h301.step hw9 (fun h=>h.2.1 rfl)) (0:UInt32) (k2 - 7) hj317))) ?_
     intro a318 hF319
     refine q_lrun (d:=97) (Value.int .u32 (IntKind.u32.wrap (((((schedTo b (k2)).getD (k2 - 16) 0)+(((rotl ((schedTo b (k2)).getD (k2 - 15) 0) (-7:Int)) ^^^ (rotl ((schedTo b (k2)).getD (k2 - 15) 0) (-18:Int))) ^^^ (((schedTo b (k2)).getD (k2 - 15) 0) >>> (3:Nat).toUInt32))).toNat:Int)+(((schedTo b (k2)).getD (k2 - 7) 0).toNat:Int)))) hF319 ?_
     intro a320 hF321
     have hF322:=hF321.set 97 (Value.int .u32 (IntKind.u32.wrap (((((schedTo b (k2)).getD (k2 - 16) 0)+(((rotl ((schedTo b (k2)).getD (k2 - 15) 0) (-7:Int)) ^^^ (rotl ((schedTo b (k2)).getD (k2 - 15) 0) (-18:Int))) ^^^ (((schedTo b (k2)).getD (k2 - 15) 0) >>> (3:Nat).toUInt32))).toNat:Int)+(((schedTo b (k2)).getD (k2 - 7) 0).toNat:Int)))) (wv ((((schedTo b (k2)).getD (k2 - 16) 0)+(((rotl ((schedTo b (k2)).getD (k2 - 15) 0) (-7:Int)) ^^^ (rotl ((schedTo b (k2)).getD (k2 - 15) 0) (-18:Int))) ^^^ (((schedTo b (k2)).getD (k2 - 15) 0) >>> (3:Nat).toUInt32)))+((schedTo b (k2)).getD (k2 - 7) 0))) (by kernel_rfl) (congrArg (Value.int .u32) (u32_add _ _))
     refine q_lrun (d:=98) (wv (((rotl ((schedTo b (k2)).getD (k2 - 2) 0) (-17:Int)) ^^^ (rotl ((schedTo b (k2)).getD (k2 - 2) 0) (-19:Int))) ^^^ (((schedTo b (k2)).getD (k2 - 2) 0) >>> (10:Nat).toUInt32))) hF322 ?_
     intro a323 hF324
     refine q_lrun (d:=99) (Value.int .u32 (IntKind.u32.wrap ((((((schedTo b (k2)).getD (k2 - 16) 0)+(((rotl ((schedTo b (k2)).getD (k2 - 15) 0) (-7:Int)) ^^^ (rotl ((schedTo b (k2)).getD (k2 - 15) 0) (-18:Int))) ^^^ (((schedTo b (k2)).getD (k2 - 15) 0) >>> (3:Nat).toUInt32)))+((schedTo b (k2)).getD (k2 - 7) 0)).toNat:Int)+((((rotl ((schedTo b (k2)).getD (k2 - 2) 0) (-17:Int)) ^^^ (rotl ((schedTo b (k2)).getD (k2 - 2) 0) (-19:Int))) ^^^ (((schedTo b (k2)).getD (k2 - 2) 0) >>> (10:Nat).toUInt32)).toNat:Int)))) hF324 ?_
     intro a325 hF326
     have hF327:=hF326.set 99 (Value.int .u32 (IntKind.u32.wrap ((((((schedTo b (k2)).getD (k2 - 16) 0)+(((rotl ((schedTo b (k2)).getD (k2 - 15) 0) (-7:Int)) ^^^ (rotl ((schedTo b (k2)).getD (k2 - 15) 0) (-18:Int))) ^^^ (((schedTo b (k2)).getD (k2 - 15) 0) >>> (3:Nat).toUInt32)))+((schedTo b (k2)).getD (k2 - 7) 0)).toNat:Int)+((((rotl ((schedTo b (k2)).getD (k2 - 2) 0) (-17:Int)) ^^^ (rotl ((schedTo b (k2)).getD (k2 - 2) 0) (-19:Int))) ^^^ (((schedTo b (k2)).getD (k2 - 2) 0) >>> (10:Nat).toUInt32)).toNat:Int)))) (wv (((((schedTo b (k2)).getD (k2 - 16) 0)+(((rotl ((schedTo b (k2)).getD (k2 - 15) 0) (-7:Int)) ^^^ (rotl ((schedTo b (k2)).getD (k2 - 15) 0) (-18:Int))) ^^^ (((schedTo b (k2)).getD (k2 - 15) 0) >>> (3:Nat).toUInt32)))+((schedTo b (k2)).getD (k2 - 7) 0))+(((rotl ((schedTo b (k2)).getD (k2 - 2) 0) (-17:Int)) ^^^ (rotl ((schedTo b (k2)).getD (k2 - 2) 0) (-19:Int))) ^^^ (((schedTo b (k2)).getD (k2 - 2) 0) >>> (10:Nat).toUInt32)))) (by kernel_rfl) (congrArg (Value.int .u32) (u32_add _ _))
     refine q_lval 100 (Op.indexAddr 166 (Operand.tmp 4) (Operand.tmp 86)) (Value.pointer (some ⟨b6,k2,none⟩)) hF327 (fun w9 ⟨s9,hw9⟩=>(exec_indexP1 (N:=64) (by kernel_rfl) (kd:=.i64) k2 (by kernel_rfl) (by omega) U166 L152.s)) ?_
     intro a328 hF329
     have hj335:k2<(schedTo b (k2)).length:=(by first | omega | (simp only[List.length_append,List.length_cons,List.length_nil,List.length_map,schedTo_len,addTo_len,kTab_len,List.length_set,List.length_replicate];omega) | simp)
     refine l_last (q_storeA wv (Operand.tmp 100) (Operand.tmp 99) hF329 h301 k2 hj335 (((((schedTo b (k2)).getD (k2 - 16) 0)+(((rotl ((schedTo b (k2)).getD (k2 - 15) 0) (-7:Int)) ^^^ (rotl ((schedTo b (k2)).getD (k2 - 15) 0) (-18:Int))) ^^^ (((schedTo b (k2)).getD (k2 - 15) 0) >>> (3:Nat).toUInt32)))+((schedTo b (k2)).getD (k2 - 7) 0))+(((rotl ((schedTo b (k2)).getD (k2 - 2) 0) (-17:Int)) ^^^ (rotl ((schedTo b (k2)).getD (k2 - 2) 0) (-19:Int))) ^^^ (((schedTo b (k2)).getD (k2 - 2) 0) >>> (10:Nat).toUInt32))) L152 ?_)
     intro a330 w331 st332 hB333 hF334
     have hS336:=hS291.and st332 (fun b e=>by subst e;omega)
     refine q_reg ?_
     refine q_run 1 [(60,(Value.int .i64 ((k2:Nat):Int)))] hF334 fun a337 hF338=>?_
     refine q_one 61 (v0:=(Value.int .i64 (IntKind.i64.wrap (((k2:Nat):Int)+((1:Nat):Int))))) (v:=(Value.int .i64 ((k2+1:Nat):Int))) (congrArg (Value.int .i64) (i64_eq (by omega) (by omega) (by omega))) hF338 fun a339 hF340=>?_
     refine q_run 1 [(6,(Value.int .i64 ((k2+1:Nat):Int)))] hF340 fun a341 hF342=>?_
     refine q_end ?_
     have h343:=(((h268.step' st274).step' st290).step st332 (fun e=>absurd e (by omega)))
     have hF344:=hF342.keep [0,4,6] [(0,(Value.pointer (some ⟨bh,0,none⟩))),(4,(Value.pointer (some ⟨b6,0,none⟩))),(6,(Value.int .i64 ((k2+1:Nat):Int)))] (by kernel_rfl)
     exact⟨k2+1,⟨s271,hF344,hS336,h343,(by have h9:=hB333;simp only[rotl7,rotl18,rotl17,rotl19] at h9;rw[schedTo_hi (by omega)];exact h9),(by omega),(by omega)⟩,by omega⟩
    ·skip
     have hc189:=of_decide_eq_false hc189
     refine q_exit 2 ?_
     refine q_seq ?_
     refine q_reg ?_
     refine q_run 2 [(102,(Value.pointer (some ⟨bh,0,none⟩))),(101,(Value.pointer (some ⟨bh,0,none⟩)))] hF188 fun a345 hF346=>?_
     refine r_at (q_val 103 (Op.load 153 (Operand.tmp 102)) hF346 (Value.agg (([s.a,s.b,s.c,s.d,s.e,s.f,s.g,s.h]:List UInt32).map wv).toArray) (exec_loadAll wv L153 h183 (by first | rfl | simp only[List.length_append,List.length_cons,List.length_nil,List.length_map,schedTo_len,addTo_len,kTab_len,List.length_set,List.length_replicate]) (by kernel_rfl)) ?_)
     intro a347 hF348
     refine r_at (q_new 11 (Op.alloc 153) hF348 s179 (([0,0,0,0,0,0,0,0]:List UInt32).map wv) 153 (exec_alloc (([0,0,0,0,0,0,0,0]:List UInt32).map wv) (fun _=>.inl (by kernel_rfl))) ?_)
     intro a349 s350 w351 b352 hb353 st354 hB355 hF356
     have hz357:=hS181.size
     have ne358:=h183.nl hb353
     have ne359:=h184.nl hb353
     have hS360:=hS181.then st354
     refine r_at (q_store (Operand.tmp 11) (Operand.tmp 103) hF356 hB355 0 (([s.a,s.b,s.c,s.d,s.e,s.f,s.g,s.h]:List UInt32).map wv) 8 L153 ?_)
     intro a361 w362 st363 hB364 hF365
     have hS366:=hS360.and st363 (fun b e=>by subst e;omega)
     refine q_end ?_
     refine q_seq ?_
     refine q_seq ?_
     refine q_reg ?_
     have h367:=hg.step hS366
     refine r_at (q_val 104 (Op.load 166 (Operand.global 1)) hF365 (Value.agg (kTab.map wv).toArray) (exec_load (cs:=kTab.map wv) (b:=1) (o:=0) L166 (.inl rfl) (by kernel_rfl) (Seg.cell h367)) ?_)
     intro a368 hF369
     refine q_run 1 [(105,(Value.int .i64 ((0:Nat):Int)))] hF369 fun a370 hF371=>?_
     refine q_end ?_
     refine q_block 4 ?_
     have h377:=((h183.step' st354).step st363 (fun e=>absurd e (by omega)))
     have h378:=((h184.step' st354).step st363 (fun e=>absurd e (by omega)))
     refine q_loop (fun(k3:Nat) a372 w373=>∃(s374:Nat→Nat),Fr a372 201 [(0,(Value.pointer (some ⟨bh,0,none⟩))),(4,(Value.pointer (some ⟨b6,0,none⟩))),(11,(Value.pointer (some ⟨b352,0,none⟩))),(104,(Value.agg (kTab.map wv).toArray)),(105,(Value.int .i64 ((k3:Nat):Int)))]∧Stp (· = bh) σ w s374 w373∧Bx s374 w373 bh (([s.a,s.b,s.c,s.d,s.e,s.f,s.g,s.h]:List UInt32).map wv) 153∧Bx s374 w373 b6 ((schedTo b (k2)).map wv) 166∧Bx s374 w373 b352 (([(rS b s k2 k3).a,(rS b s k2 k3).b,(rS b s k2 k3).c,(rS b s k2 k3).d,(rS b s k2 k3).e,(rS b s k2 k3).f,(rS b s k2 k3).g,(rS b s k2 k3).h]:List UInt32).map wv) 153∧k3≤64) (fun k3=>64 - k3) 0 ?_ ?_
     ·skip
      have hF379:=hF371.keep [0,4,11,104,105] [(0,(Value.pointer (some ⟨bh,0,none⟩))),(4,(Value.pointer (some ⟨b6,0,none⟩))),(11,(Value.pointer (some ⟨b352,0,none⟩))),(104,(Value.agg (kTab.map wv).toArray)),(105,(Value.int .i64 ((0:Nat):Int)))] (by kernel_rfl)
      exact⟨s350,hF379,hS366,h377,h378,hB364,(by omega)⟩
     ·rintro k3 a372 w373 ⟨s374,hF375,hS376,h380,h381,h382,hk3⟩
      refine q_seq ?_
      refine q_reg ?_
      refine q_one 106 (congrArg Value.bool (cmp_nat_lss (k3) (64))) hF375 fun a383 hF384=>?_
      refine q_end ?_
      refine q_seq ?_
      refine q_cond 106 hF384 (decide ((k3:Nat)<64)) (fun hc385=>?_) (fun hc385=>?_)
      ·skip
       have hc385:=of_decide_eq_true hc385
       refine q_skip ?_
       refine q_seq ?_
       refine q_block 5 ?_
       refine q_seq ?_
       refine q_reg ?_
       refine q_run 1 [(107,(Value.int .i64 ((k3:Nat):Int)))] hF384 fun a386 hF387=>?_
       refine r_at (q_val 108 (Op.index 166 (Operand.tmp 104) (Operand.tmp 105)) hF387 (wv (kTab.getD k3 0)) (exec_indexV (N:=64) wv (0:UInt32) (xs:=kTab) (by kernel_rfl) (kd:=.i64) k3 (by kernel_rfl) (by omega) (by first | rfl | simp) U166 L152) ?_)
       intro a388 hF389
       refine q_run 2 [(13,(wv (kTab.getD k3 0))),(12,(Value.int .i64 ((k3:Nat):Int)))] hF389 fun a390 hF391=>?_
       refine q_end ?_
       refine q_seq ?_
       refine c_plan 17 (by kernel_rfl) (by kernel_rfl) s374 (fun b=>b≠bh∧b≠b6∧b≠b352∧True) [(0,true),(1,true),(2,true),(3,true),(4,true),(5,true)] [(0,649037107316853453566312041152512,2048),(1,1298074214633706907132624082305024,649037107316853453566312041152512),(0,2596148429267413814265248164610048,2048),(4,5192296858534827628530496329220096,2596148429267413814265248164610048),(3,16384,1298074214633706907132624082305024),(31,32768,5192296858534827628530496329220096)] (by kernel_rfl) (by kernel_rfl) (by kernel_rfl) (by kernel_rfl) ?_
       intro w392 st393
       have hS394:=hS376.then st393
       refine q_pval 109 (Op.indexAddr 153 (Operand.tmp 11) (Operand.const (Value.int IntKind.i64 4))) (Value.pointer (some ⟨b352,4,none⟩)) hF391 (fun w9 ⟨s9,hw9⟩=>(exec_indexP1 (N:=8) (by kernel_rfl) (kd:=.i64) 4 (by kernel_rfl) (by omega) U153 L152.s)) ?_
       intro a395 hF396
       have h397:=(h382.step' st393)
       have hj398:4<(([(rS b s k2 k3).a,(rS b s k2 k3).b,(rS b s k2 k3).c,(rS b s k2 k3).d,(rS b s k2 k3).e,(rS b s k2 k3).f,(rS b s k2 k3).g,(rS b s k2 k3).h]:List UInt32)).length:=(by first | omega | (simp only[List.length_append,List.length_cons,List.length_nil,List.length_map,schedTo_len,addTo_len,kTab_len,List.length_set,List.length_replicate];omega) | simp)
       refine q_pval 110 (Op.load 152 (Operand.tmp 109)) (wv ((rS b s k2 k3).e)) hF396 (fun w9 ⟨s9,hw9⟩=>(exec_load (cs:=[wv (([(rS b s k2 k3).a,(rS b s k2 k3).b,(rS b s k2 k3).c,(rS b s k2 k3).d,(rS b s k2 k3).e,(rS b s k2 k3).f,(rS b s k2 k3).g,(rS b s k2 k3).h]:List UInt32).getD 4 0)]) L152 (.inr rfl) (by kernel_rfl) (Bx.elemG (h397.step hw9 (fun h=>h.2.2.1 rfl)) (0:UInt32) 4 hj398))) ?_
       intro a399 hF400
       refine q_pval 111 (Op.indexAddr 153 (Operand.tmp 11) (Operand.const (Value.int IntKind.i64 0))) (Value.pointer (some ⟨b352,0,none⟩)) hF400 (fun w9 ⟨s9,hw9⟩=>(exec_indexP1 (N:=8) (by kernel_rfl) (kd:=.i64) 0 (by kernel_rfl) (by omega) U153 L152.s)) ?_
       intro a401 hF402
       have hj403:0<(([(rS b s k2 k3).a,(rS b s k2 k3).b,(rS b s k2 k3).c,(rS b s k2 k3).d,(rS b s k2 k3).e,(rS b s k2 k3).f,(rS b s k2 k3).g,(rS b s k2 k3).h]:List UInt32)).length:=(by first | omega | (simp only[List.length_append,List.length_cons,List.length_nil,List.length_map,schedTo_len,addTo_len,kTab_len,List.length_set,List.length_replicate];omega) | simp)
       refine q_pval 112 (Op.load 152 (Operand.tmp 111)) (wv ((rS b s k2 k3).a)) hF402 (fun w9 ⟨s9,hw9⟩=>(exec_load (cs:=[wv (([(rS b s k2 k3).a,(rS b s k2 k3).b,(rS b s k2 k3).c,(rS b s k2 k3).d,(rS b s k2 k3).e,(rS b s k2 k3).f,(rS b s k2 k3).g,(rS b s k2 k3).h]:List UInt32).getD 0 0)]) L152 (.inr rfl) (by kernel_rfl) (Bx.elemG (h397.step hw9 (fun h=>h.2.2.1 rfl)) (0:UInt32) 0 hj403))) ?_
       intro a404 hF405
       refine q_prun (d:=14) (wv ((rS b s k2 k3).e)) hF405 ?_
       intro a406 hF407
       refine q_prun (d:=15) (wv ((rS b s k2 k3).a)) hF407 ?_
       intro a408 hF409
       refine p_end ?_
       refine q_seq ?_
       refine c_plan 18 (by kernel_rfl) (by kernel_rfl) s374 (fun b=>b≠bh∧b≠b6∧b≠b352∧True) [(0,true),(1,true),(2,true),(4,true),(7,true),(11,true),(12,true),(13,true),(14,true),(15,true),(16,true),(17,true),(18,true),(19,true),(20,true),(22,true),(24,true),(25,true),(26,true),(3,false),(5,false),(6,true),(8,false),(9,true),(10,true),(21,true),(23,true),(27,true),(28,true)] [(0,10384593717069655257060992658440192,2048),(1,20769187434139310514121985316880384,10384593717069655257060992658440192),(0,41538374868278621028243970633760768,16384),(4,83076749736557242056487941267521536,41538374868278621028243970633760768),(0,166153499473114484112975882535043072,16384),(24,332306998946228968225951765070086144,166153499473114484112975882535043072),(40,664613997892457936451903530140172288,415383748682786210282439706337607680),(0,1329227995784915872903807060280344576,16384),(160,2658455991569831745807614120560689152,1329227995784915872903807060280344576),(320,5316911983139663491615228241121378304,3323069989462289682259517650700861440),(514,10633823966279326983230456482242756608,5337681170573802802129350226438258688),(0,21267647932558653966460912964485513216,16384),(0,42535295865117307932921825928971026432,2048),(4096,85070591730234615865843651857942052864,42535295865117307932921825928971026432),(10240,170141183460469231731687303715884105728,106338239662793269832304564822427566080),(0,340282366920938463463374607431768211456,16384),(32768,680564733841876926926749214863536422912,340282366920938463463374607431768211456),(0,1361129467683753853853498429727072845824,2048),(131072,2722258935367507707706996859454145691648,1361129467683753853853498429727072845824),(327680,5444517870735015415413993718908291383296,3402823669209384634633746074317682114560),(540672,10889035741470030830827987437816582766592,5614659054195484647145681022624175489024),(1049600,21778071482940061661655974875633165533184,10899669565436310157811217894298825523200),(0,43556142965880123323311949751266331066368,8192),(6291456,87112285931760246646623899502532662132736,65334214448820184984967924626899496599552),(0,174224571863520493293247799005065324265472,4096),(16777216,348449143727040986586495598010130648530944,174224571863520493293247799005065324265488),(33554432,696898287454081973172991196020261297061888,348449143727040986586495598010130648530944),(75497472,1393796574908163946345982392040522594123776,784010573385842219819615095522793959194624),(268435455,65536,1393796574908163946345982392040522594123776)] (by kernel_rfl) (by kernel_rfl) (by kernel_rfl) (by kernel_rfl) ?_
       intro w410 st411
       have hS412:=hS394.then st411
       refine q_pval 113 (Op.indexAddr 153 (Operand.tmp 11) (Operand.const (Value.int IntKind.i64 7))) (Value.pointer (some ⟨b352,7,none⟩)) hF409 (fun w9 ⟨s9,hw9⟩=>(exec_indexP1 (N:=8) (by kernel_rfl) (kd:=.i64) 7 (by kernel_rfl) (by omega) U153 L152.s)) ?_
       intro a413 hF414
       have h415:=(h397.step' st411)
       have hj416:7<(([(rS b s k2 k3).a,(rS b s k2 k3).b,(rS b s k2 k3).c,(rS b s k2 k3).d,(rS b s k2 k3).e,(rS b s k2 k3).f,(rS b s k2 k3).g,(rS b s k2 k3).h]:List UInt32)).length:=(by first | omega | (simp only[List.length_append,List.length_cons,List.length_nil,List.length_map,schedTo_len,addTo_len,kTab_len,List.length_set,List.length_replicate];omega) | simp)
       refine q_pval 114 (Op.load 152 (Operand.tmp 113)) (wv ((rS b s k2 k3).h)) hF414 (fun w9 ⟨s9,hw9⟩=>(exec_load (cs:=[wv (([(rS b s k2 k3).a,(rS b s k2 k3).b,(rS b s k2 k3).c,(rS b s k2 k3).d,(rS b s k2 k3).e,(rS b s k2 k3).f,(rS b s k2 k3).g,(rS b s k2 k3).h]:List UInt32).getD 7 0)]) L152 (.inr rfl) (by kernel_rfl) (Bx.elemG (h415.step hw9 (fun h=>h.2.2.1 rfl)) (0:UInt32) 7 hj416))) ?_
       intro a417 hF418
       refine q_prun (d:=115) (wv ((rS b s k2 k3).e)) hF418 ?_
       intro a419 hF420
       refine q_prun (d:=117) (wv ((rS b s k2 k3).e)) hF420 ?_
       intro a421 hF422
       refine q_prun (d:=120) (wv ((rS b s k2 k3).e)) hF422 ?_
       intro a423 hF424
       refine q_prun (d:=124) (wv ((rS b s k2 k3).e)) hF424 ?_
       intro a425 hF426
       refine q_pval 125 (Op.indexAddr 153 (Operand.tmp 11) (Operand.const (Value.int IntKind.i64 5))) (Value.pointer (some ⟨b352,5,none⟩)) hF426 (fun w9 ⟨s9,hw9⟩=>(exec_indexP1 (N:=8) (by kernel_rfl) (kd:=.i64) 5 (by kernel_rfl) (by omega) U153 L152.s)) ?_
       intro a427 hF428
       have hj429:5<(([(rS b s k2 k3).a,(rS b s k2 k3).b,(rS b s k2 k3).c,(rS b s k2 k3).d,(rS b s k2 k3).e,(rS b s k2 k3).f,(rS b s k2 k3).g,(rS b s k2 k3).h]:List UInt32)).length:=(by first | omega | (simp only[List.length_append,List.length_cons,List.length_nil,List.length_map,schedTo_len,addTo_len,kTab_len,List.length_set,List.length_replicate];omega) | simp)
       refine q_pval 126 (Op.load 152 (Operand.tmp 125)) (wv ((rS b s k2 k3).f)) hF428 (fun w9 ⟨s9,hw9⟩=>(exec_load (cs:=[wv (([(rS b s k2 k3).a,(rS b s k2 k3).b,(rS b s k2 k3).c,(rS b s k2 k3).d,(rS b s k2 k3).e,(rS b s k2 k3).f,(rS b s k2 k3).g,(rS b s k2 k3).h]:List UInt32).getD 5 0)]) L152 (.inr rfl) (by kernel_rfl) (Bx.elemG (h415.step hw9 (fun h=>h.2.2.1 rfl)) (0:UInt32) 5 hj429))) ?_
       intro a430 hF431
       refine q_prun (d:=127) (Value.int .u32 (IntKind.u32.wrap ((BitVec.ofInt 32 (((rS b s k2 k3).e).toNat:Int) &&& BitVec.ofInt 32 (((rS b s k2 k3).f).toNat:Int)).toNat:Int))) hF431 ?_
       intro a432 hF433
       have hF434:=hF433.set 127 (Value.int .u32 (IntKind.u32.wrap ((BitVec.ofInt 32 (((rS b s k2 k3).e).toNat:Int) &&& BitVec.ofInt 32 (((rS b s k2 k3).f).toNat:Int)).toNat:Int))) (wv (((rS b s k2 k3).e) &&& ((rS b s k2 k3).f))) (by kernel_rfl) (congrArg (Value.int .u32) (u32_and ((rS b s k2 k3).e) ((rS b s k2 k3).f)))
       refine q_prun (d:=128) (wv ((rS b s k2 k3).e)) hF434 ?_
       intro a435 hF436
       refine q_prun (d:=129) (Value.int .u32 (IntKind.u32.wrap ((BitVec.ofInt 32 IntKind.u32.max ^^^ BitVec.ofInt 32 (((rS b s k2 k3).e).toNat:Int)).toNat:Int))) hF436 ?_
       intro a437 hF438
       have hF439:=hF438.set 129 (Value.int .u32 (IntKind.u32.wrap ((BitVec.ofInt 32 IntKind.u32.max ^^^ BitVec.ofInt 32 (((rS b s k2 k3).e).toNat:Int)).toNat:Int))) (wv (~~~((rS b s k2 k3).e))) (by kernel_rfl) (congrArg (Value.int .u32) (u32_not ((rS b s k2 k3).e)))
       refine q_pval 130 (Op.indexAddr 153 (Operand.tmp 11) (Operand.const (Value.int IntKind.i64 6))) (Value.pointer (some ⟨b352,6,none⟩)) hF439 (fun w9 ⟨s9,hw9⟩=>(exec_indexP1 (N:=8) (by kernel_rfl) (kd:=.i64) 6 (by kernel_rfl) (by omega) U153 L152.s)) ?_
       intro a440 hF441
       have hj442:6<(([(rS b s k2 k3).a,(rS b s k2 k3).b,(rS b s k2 k3).c,(rS b s k2 k3).d,(rS b s k2 k3).e,(rS b s k2 k3).f,(rS b s k2 k3).g,(rS b s k2 k3).h]:List UInt32)).length:=(by first | omega | (simp only[List.length_append,List.length_cons,List.length_nil,List.length_map,schedTo_len,addTo_len,kTab_len,List.length_set,List.length_replicate];omega) | simp)
       refine q_pval 131 (Op.load 152 (Operand.tmp 130)) (wv ((rS b s k2 k3).g)) hF441 (fun w9 ⟨s9,hw9⟩=>(exec_load (cs:=[wv (([(rS b s k2 k3).a,(rS b s k2 k3).b,(rS b s k2 k3).c,(rS b s k2 k3).d,(rS b s k2 k3).e,(rS b s k2 k3).f,(rS b s k2 k3).g,(rS b s k2 k3).h]:List UInt32).getD 6 0)]) L152 (.inr rfl) (by kernel_rfl) (Bx.elemG (h415.step hw9 (fun h=>h.2.2.1 rfl)) (0:UInt32) 6 hj442))) ?_
       intro a443 hF444
       refine q_prun (d:=132) (Value.int .u32 (IntKind.u32.wrap ((BitVec.ofInt 32 ((~~~((rS b s k2 k3).e)).toNat:Int) &&& BitVec.ofInt 32 (((rS b s k2 k3).g).toNat:Int)).toNat:Int))) hF444 ?_
       intro a445 hF446
       have hF447:=hF446.set 132 (Value.int .u32 (IntKind.u32.wrap ((BitVec.ofInt 32 ((~~~((rS b s k2 k3).e)).toNat:Int) &&& BitVec.ofInt 32 (((rS b s k2 k3).g).toNat:Int)).toNat:Int))) (wv ((~~~((rS b s k2 k3).e)) &&& ((rS b s k2 k3).g))) (by kernel_rfl) (congrArg (Value.int .u32) (u32_and (~~~((rS b s k2 k3).e)) ((rS b s k2 k3).g)))
       refine q_prun (d:=133) (Value.int .u32 (IntKind.u32.wrap ((BitVec.ofInt 32 ((((rS b s k2 k3).e) &&& ((rS b s k2 k3).f)).toNat:Int) ^^^ BitVec.ofInt 32 (((~~~((rS b s k2 k3).e)) &&& ((rS b s k2 k3).g)).toNat:Int)).toNat:Int))) hF447 ?_
       intro a448 hF449
       have hF450:=hF449.set 133 (Value.int .u32 (IntKind.u32.wrap ((BitVec.ofInt 32 ((((rS b s k2 k3).e) &&& ((rS b s k2 k3).f)).toNat:Int) ^^^ BitVec.ofInt 32 (((~~~((rS b s k2 k3).e)) &&& ((rS b s k2 k3).g)).toNat:Int)).toNat:Int))) (wv ((((rS b s k2 k3).e) &&& ((rS b s k2 k3).f)) ^^^ ((~~~((rS b s k2 k3).e)) &&& ((rS b s k2 k3).g)))) (by kernel_rfl) (congrArg (Value.int .u32) (u32_xor (((rS b s k2 k3).e) &&& ((rS b s k2 k3).f)) ((~~~((rS b s k2 k3).e)) &&& ((rS b s k2 k3).g))))
       refine q_prun (d:=135) (wv (kTab.getD k3 0)) hF450 ?_
       intro a451 hF452
       refine q_prun (d:=137) (Value.int .i64 ((k3:Nat):Int)) hF452 ?_
       intro a453 hF454
       refine q_pval 138 (Op.indexAddr 166 (Operand.tmp 4) (Operand.tmp 137)) (Value.pointer (some ⟨b6,k3,none⟩)) hF454 (fun w9 ⟨s9,hw9⟩=>(exec_indexP1 (N:=64) (by kernel_rfl) (kd:=.i64) k3 (by kernel_rfl) (by omega) U166 L152.s)) ?_
       intro a455 hF456
       have h457:=((h381.step' st393).step' st411)
       have hj458:k3<(schedTo b (k2)).length:=(by first | omega | (simp only[List.length_append,List.length_cons,List.length_nil,List.length_map,schedTo_len,addTo_len,kTab_len,List.length_set,List.length_replicate];omega) | simp)
       refine q_pval 139 (Op.load 152 (Operand.tmp 138)) (wv ((schedTo b (k2)).getD k3 0)) hF456 (fun w9 ⟨s9,hw9⟩=>(exec_load (cs:=[wv ((schedTo b (k2)).getD k3 0)]) L152 (.inr rfl) (by kernel_rfl) (Bx.elemG (h457.step hw9 (fun h=>h.2.1 rfl)) (0:UInt32) k3 hj458))) ?_
       intro a459 hF460
       have h461:=((h380.step' st393).step' st411)
       refine p_do (q_call (some 116) (#[(Operand.tmp 115),(Operand.const (Value.int IntKind.i64 (-6)))]) (#[152,3]) hF460 C82 [(wv ((rS b s k2 k3).e)),(Value.int .i64 (-6))] (rotl_calls s374 w410 ((rS b s k2 k3).e) (-6:Int) (by decide)) ?_)
       intro a462 s463 w464 v465 st466 hP467 hF468
       have hz469:=hS412.size
       have hS470:=hS412.then st466
       refine⟨s463,st466.mono (fun b _ e=>(fun _ e=>e.elim) b e),?_⟩
       subst hP467
       have h471:=(h461.step' st466)
       have h472:=(h457.step' st466)
       have h473:=(h415.step' st466)
       refine p_do (q_call (some 118) (#[(Operand.tmp 117),(Operand.const (Value.int IntKind.i64 (-11)))]) (#[152,3]) hF468 C82 [(wv ((rS b s k2 k3).e)),(Value.int .i64 (-11))] (rotl_calls s463 w464 ((rS b s k2 k3).e) (-11:Int) (by decide)) ?_)
       intro a474 s475 w476 v477 st478 hP479 hF480
       have hz481:=hS470.size
       have hS482:=hS470.then st478
       refine⟨s475,st478.mono (fun b _ e=>(fun _ e=>e.elim) b e),?_⟩
       subst hP479
       refine q_prun (d:=119) (Value.int .u32 (IntKind.u32.wrap ((BitVec.ofInt 32 ((rotl ((rS b s k2 k3).e) (-6:Int)).toNat:Int) ^^^ BitVec.ofInt 32 ((rotl ((rS b s k2 k3).e) (-11:Int)).toNat:Int)).toNat:Int))) hF480 ?_
       intro a483 hF484
       have hF485:=hF484.set 119 (Value.int .u32 (IntKind.u32.wrap ((BitVec.ofInt 32 ((rotl ((rS b s k2 k3).e) (-6:Int)).toNat:Int) ^^^ BitVec.ofInt 32 ((rotl ((rS b s k2 k3).e) (-11:Int)).toNat:Int)).toNat:Int))) (wv ((rotl ((rS b s k2 k3).e) (-6:Int)) ^^^ (rotl ((rS b s k2 k3).e) (-11:Int)))) (by kernel_rfl) (congrArg (Value.int .u32) (u32_xor (rotl ((rS b s k2 k3).e) (-6:Int)) (rotl ((rS b s k2 k3).e) (-11:Int))))
       have h486:=(h471.step' st478)
       have h487:=(h472.step' st478)
       have h488:=(h473.step' st478)
       refine p_do (q_call (some 121) (#[(Operand.tmp 120),(Operand.const (Value.int IntKind.i64 (-25)))]) (#[152,3]) hF485 C82 [(wv ((rS b s k2 k3).e)),(Value.int .i64 (-25))] (rotl_calls s475 w476 ((rS b s k2 k3).e) (-25:Int) (by decide)) ?_)
       intro a489 s490 w491 v492 st493 hP494 hF495
       have hz496:=hS482.size
       have hS497:=hS482.then st493
       refine⟨s490,st493.mono (fun b _ e=>(fun _ e=>e.elim) b e),?_⟩
       subst hP494
       refine q_prun (d:=122) (Value.int .u32 (IntKind.u32.wrap ((BitVec.ofInt 32 (((rotl ((rS b s k2 k3).e) (-6:Int)) ^^^ (rotl ((rS b s k2 k3).e) (-11:Int))).toNat:Int) ^^^ BitVec.ofInt 32 ((rotl ((rS b s k2 k3).e) (-25:Int)).toNat:Int)).toNat:Int))) hF495 ?_
       intro a498 hF499
       have hF500:=hF499.set 122 (Value.int .u32 (IntKind.u32.wrap ((BitVec.ofInt 32 (((rotl ((rS b s k2 k3).e) (-6:Int)) ^^^ (rotl ((rS b s k2 k3).e) (-11:Int))).toNat:Int) ^^^ BitVec.ofInt 32 ((rotl ((rS b s k2 k3).e) (-25:Int)).toNat:Int)).toNat:Int))) (wv (((rotl ((rS b s k2 k3).e) (-6:Int)) ^^^ (rotl ((rS b s k2 k3).e) (-11:Int))) ^^^ (rotl ((rS b s k2 k3).e) (-25:Int)))) (by kernel_rfl) (congrArg (Value.int .u32) (u32_xor ((rotl ((rS b s k2 k3).e) (-6:Int)) ^^^ (rotl ((rS b s k2 k3).e) (-11:Int))) (rotl ((rS b s k2 k3).e) (-25:Int))))
       refine q_prun (d:=123) (Value.int .u32 (IntKind.u32.wrap ((((rS b s k2 k3).h).toNat:Int)+((((rotl ((rS b s k2 k3).e) (-6:Int)) ^^^ (rotl ((rS b s k2 k3).e) (-11:Int))) ^^^ (rotl ((rS b s k2 k3).e) (-25:Int))).toNat:Int)))) hF500 ?_
       intro a501 hF502
       have hF503:=hF502.set 123 (Value.int .u32 (IntKind.u32.wrap ((((rS b s k2 k3).h).toNat:Int)+((((rotl ((rS b s k2 k3).e) (-6:Int)) ^^^ (rotl ((rS b s k2 k3).e) (-11:Int))) ^^^ (rotl ((rS b s k2 k3).e) (-25:Int))).toNat:Int)))) (wv (((rS b s k2 k3).h)+(((rotl ((rS b s k2 k3).e) (-6:Int)) ^^^ (rotl ((rS b s k2 k3).e) (-11:Int))) ^^^ (rotl ((rS b s k2 k3).e) (-25:Int))))) (by kernel_rfl) (congrArg (Value.int .u32) (u32_add _ _))
       refine q_prun (d:=134) (Value.int .u32 (IntKind.u32.wrap (((((rS b s k2 k3).h)+(((rotl ((rS b s k2 k3).e) (-6:Int)) ^^^ (rotl ((rS b s k2 k3).e) (-11:Int))) ^^^ (rotl ((rS b s k2 k3).e) (-25:Int)))).toNat:Int)+(((((rS b s k2 k3).e) &&& ((rS b s k2 k3).f)) ^^^ ((~~~((rS b s k2 k3).e)) &&& ((rS b s k2 k3).g))).toNat:Int)))) hF503 ?_
       intro a504 hF505
       have hF506:=hF505.set 134 (Value.int .u32 (IntKind.u32.wrap (((((rS b s k2 k3).h)+(((rotl ((rS b s k2 k3).e) (-6:Int)) ^^^ (rotl ((rS b s k2 k3).e) (-11:Int))) ^^^ (rotl ((rS b s k2 k3).e) (-25:Int)))).toNat:Int)+(((((rS b s k2 k3).e) &&& ((rS b s k2 k3).f)) ^^^ ((~~~((rS b s k2 k3).e)) &&& ((rS b s k2 k3).g))).toNat:Int)))) (wv ((((rS b s k2 k3).h)+(((rotl ((rS b s k2 k3).e) (-6:Int)) ^^^ (rotl ((rS b s k2 k3).e) (-11:Int))) ^^^ (rotl ((rS b s k2 k3).e) (-25:Int))))+((((rS b s k2 k3).e) &&& ((rS b s k2 k3).f)) ^^^ ((~~~((rS b s k2 k3).e)) &&& ((rS b s k2 k3).g))))) (by kernel_rfl) (congrArg (Value.int .u32) (u32_add _ _))
       refine q_prun (d:=136) (Value.int .u32 (IntKind.u32.wrap ((((((rS b s k2 k3).h)+(((rotl ((rS b s k2 k3).e) (-6:Int)) ^^^ (rotl ((rS b s k2 k3).e) (-11:Int))) ^^^ (rotl ((rS b s k2 k3).e) (-25:Int))))+((((rS b s k2 k3).e) &&& ((rS b s k2 k3).f)) ^^^ ((~~~((rS b s k2 k3).e)) &&& ((rS b s k2 k3).g)))).toNat:Int)+((kTab.getD k3 0).toNat:Int)))) hF506 ?_
       intro a507 hF508
       have hF509:=hF508.set 136 (Value.int .u32 (IntKind.u32.wrap ((((((rS b s k2 k3).h)+(((rotl ((rS b s k2 k3).e) (-6:Int)) ^^^ (rotl ((rS b s k2 k3).e) (-11:Int))) ^^^ (rotl ((rS b s k2 k3).e) (-25:Int))))+((((rS b s k2 k3).e) &&& ((rS b s k2 k3).f)) ^^^ ((~~~((rS b s k2 k3).e)) &&& ((rS b s k2 k3).g)))).toNat:Int)+((kTab.getD k3 0).toNat:Int)))) (wv (((((rS b s k2 k3).h)+(((rotl ((rS b s k2 k3).e) (-6:Int)) ^^^ (rotl ((rS b s k2 k3).e) (-11:Int))) ^^^ (rotl ((rS b s k2 k3).e) (-25:Int))))+((((rS b s k2 k3).e) &&& ((rS b s k2 k3).f)) ^^^ ((~~~((rS b s k2 k3).e)) &&& ((rS b s k2 k3).g))))+(kTab.getD k3 0))) (by kernel_rfl) (congrArg (Value.int .u32) (u32_add _ _))
       refine q_prun (d:=140) (Value.int .u32 (IntKind.u32.wrap (((((((rS b s k2 k3).h)+(((rotl ((rS b s k2 k3).e) (-6:Int)) ^^^ (rotl ((rS b s k2 k3).e) (-11:Int))) ^^^ (rotl ((rS b s k2 k3).e) (-25:Int))))+((((rS b s k2 k3).e) &&& ((rS b s k2 k3).f)) ^^^ ((~~~((rS b s k2 k3).e)) &&& ((rS b s k2 k3).g))))+(kTab.getD k3 0)).toNat:Int)+(((schedTo b (k2)).getD k3 0).toNat:Int)))) hF509 ?_
       intro a510 hF511
       have hF512:=hF511.set 140 (Value.int .u32 (IntKind.u32.wrap (((((((rS b s k2 k3).h)+(((rotl ((rS b s k2 k3).e) (-6:Int)) ^^^ (rotl ((rS b s k2 k3).e) (-11:Int))) ^^^ (rotl ((rS b s k2 k3).e) (-25:Int))))+((((rS b s k2 k3).e) &&& ((rS b s k2 k3).f)) ^^^ ((~~~((rS b s k2 k3).e)) &&& ((rS b s k2 k3).g))))+(kTab.getD k3 0)).toNat:Int)+(((schedTo b (k2)).getD k3 0).toNat:Int)))) (wv ((((((rS b s k2 k3).h)+(((rotl ((rS b s k2 k3).e) (-6:Int)) ^^^ (rotl ((rS b s k2 k3).e) (-11:Int))) ^^^ (rotl ((rS b s k2 k3).e) (-25:Int))))+((((rS b s k2 k3).e) &&& ((rS b s k2 k3).f)) ^^^ ((~~~((rS b s k2 k3).e)) &&& ((rS b s k2 k3).g))))+(kTab.getD k3 0))+((schedTo b (k2)).getD k3 0))) (by kernel_rfl) (congrArg (Value.int .u32) (u32_add _ _))
       refine q_prun (d:=16) (wv ((((((rS b s k2 k3).h)+(((rotl ((rS b s k2 k3).e) (-6:Int)) ^^^ (rotl ((rS b s k2 k3).e) (-11:Int))) ^^^ (rotl ((rS b s k2 k3).e) (-25:Int))))+((((rS b s k2 k3).e) &&& ((rS b s k2 k3).f)) ^^^ ((~~~((rS b s k2 k3).e)) &&& ((rS b s k2 k3).g))))+(kTab.getD k3 0))+((schedTo b (k2)).getD k3 0))) hF512 ?_
       intro a513 hF514
       refine p_end ?_
       refine q_seq ?_
       refine c_plan 19 (by kernel_rfl) (by kernel_rfl) s490 (fun b=>b≠bh∧b≠b6∧b≠b352∧True) [(0,true),(2,true),(5,true),(8,true),(9,true),(10,true),(11,true),(12,true),(13,true),(14,true),(15,true),(16,true),(17,true),(18,true),(19,true),(20,true),(21,true),(22,true),(1,false),(3,false),(4,true),(6,false),(7,true),(23,true),(24,true)] [(0,2787593149816327892691964784081045188247552,32768),(1,5575186299632655785383929568162090376495104,2787593149816327892691964784081045188247552),(0,11150372599265311570767859136324180752990208,32768),(6,22300745198530623141535718272648361505980416,11150372599265311570767859136324180752990208),(10,44601490397061246283071436545296723011960832,27875931498163278926919647840810451882475520),(0,89202980794122492566142873090593446023921664,32768),(40,178405961588244985132285746181186892047843328,89202980794122492566142873090593446023921664),(80,356811923176489970264571492362373784095686656,223007451985306231415357182726483615059804160),(0,713623846352979940529142984724747568191373312,32768),(0,1427247692705959881058285969449495136382746624,2048),(512,2854495385411919762116571938898990272765493248,1427247692705959881058285969449495136382746624),(1280,5708990770823839524233143877797980545530986496,3568119231764899702645714923623737840956866560),(0,11417981541647679048466287755595961091061972992,32768),(0,22835963083295358096932575511191922182123945984,2048),(8192,45671926166590716193865151022383844364247891968,22835963083295358096932575511191922182123945984),(20480,91343852333181432387730302044767688728495783936,57089907708238395242331438777979805455309864960),(34816,182687704666362864775460604089535377456991567872,97052843104005271911963445922565669274026770432),(0,365375409332725729550921208179070754913983135744,2048),(131072,730750818665451459101842416358141509827966271488,365375409332725729550921208179070754913983135744),(0,1461501637330902918203684832716283019655932542976,2048),(524288,2923003274661805836407369665432566039311865085952,1461501637330902918203684832716283019655932542976),(1310720,5846006549323611672814739330865132078623730171904,3653754093327257295509212081790707549139831357440),(2162688,11692013098647223345629478661730264157247460343808,6028694253989974537590199934954667456080721739776),(4194432,23384026197294446691258957323460528314494920687616,11692369910570399835599743233222626531031556030464),(16777215,131072,23384026197294446691258957323460528314494920687616)] (by kernel_rfl) (by kernel_rfl) (by kernel_rfl) (by kernel_rfl) ?_
       intro w515 st516
       have hS517:=hS497.then st516
       refine q_prun (d:=141) (wv ((rS b s k2 k3).a)) hF514 ?_
       intro a518 hF519
       refine q_prun (d:=143) (wv ((rS b s k2 k3).a)) hF519 ?_
       intro a520 hF521
       refine q_prun (d:=146) (wv ((rS b s k2 k3).a)) hF521 ?_
       intro a522 hF523
       refine q_prun (d:=149) (wv ((rS b s k2 k3).a)) hF523 ?_
       intro a524 hF525
       refine q_pval 150 (Op.indexAddr 153 (Operand.tmp 11) (Operand.const (Value.int IntKind.i64 1))) (Value.pointer (some ⟨b352,1,none⟩)) hF525 (fun w9 ⟨s9,hw9⟩=>(exec_indexP1 (N:=8) (by kernel_rfl) (kd:=.i64) 1 (by kernel_rfl) (by omega) U153 L152.s)) ?_
       intro a526 hF527
       have h528:=((h488.step' st493).step' st516)
       have hj529:1<(([(rS b s k2 k3).a,(rS b s k2 k3).b,(rS b s k2 k3).c,(rS b s k2 k3).d,(rS b s k2 k3).e,(rS b s k2 k3).f,(rS b s k2 k3).g,(rS b s k2 k3).h]:List UInt32)).length:=(by first | omega | (simp only[List.length_append,List.length_cons,List.length_nil,List.length_map,schedTo_len,addTo_len,kTab_len,List.length_set,List.length_replicate];omega) | simp)
       refine q_pval 151 (Op.load 152 (Operand.tmp 150)) (wv ((rS b s k2 k3).b)) hF527 (fun w9 ⟨s9,hw9⟩=>(exec_load (cs:=[wv (([(rS b s k2 k3).a,(rS b s k2 k3).b,(rS b s k2 k3).c,(rS b s k2 k3).d,(rS b s k2 k3).e,(rS b s k2 k3).f,(rS b s k2 k3).g,(rS b s k2 k3).h]:List UInt32).getD 1 0)]) L152 (.inr rfl) (by kernel_rfl) (Bx.elemG (h528.step hw9 (fun h=>h.2.2.1 rfl)) (0:UInt32) 1 hj529))) ?_
       intro a530 hF531
       refine q_prun (d:=152) (Value.int .u32 (IntKind.u32.wrap ((BitVec.ofInt 32 (((rS b s k2 k3).a).toNat:Int) &&& BitVec.ofInt 32 (((rS b s k2 k3).b).toNat:Int)).toNat:Int))) hF531 ?_
       intro a532 hF533
       have hF534:=hF533.set 152 (Value.int .u32 (IntKind.u32.wrap ((BitVec.ofInt 32 (((rS b s k2 k3).a).toNat:Int) &&& BitVec.ofInt 32 (((rS b s k2 k3).b).toNat:Int)).toNat:Int))) (wv (((rS b s k2 k3).a) &&& ((rS b s k2 k3).b))) (by kernel_rfl) (congrArg (Value.int .u32) (u32_and ((rS b s k2 k3).a) ((rS b s k2 k3).b)))
       refine q_prun (d:=153) (wv ((rS b s k2 k3).a)) hF534 ?_
       intro a535 hF536
       refine q_pval 154 (Op.indexAddr 153 (Operand.tmp 11) (Operand.const (Value.int IntKind.i64 2))) (Value.pointer (some ⟨b352,2,none⟩)) hF536 (fun w9 ⟨s9,hw9⟩=>(exec_indexP1 (N:=8) (by kernel_rfl) (kd:=.i64) 2 (by kernel_rfl) (by omega) U153 L152.s)) ?_
       intro a537 hF538
       have hj539:2<(([(rS b s k2 k3).a,(rS b s k2 k3).b,(rS b s k2 k3).c,(rS b s k2 k3).d,(rS b s k2 k3).e,(rS b s k2 k3).f,(rS b s k2 k3).g,(rS b s k2 k3).h]:List UInt32)).length:=(by first | omega | (simp only[List.length_append,List.length_cons,List.length_nil,List.length_map,schedTo_len,addTo_len,kTab_len,List.length_set,List.length_replicate];omega) | simp)
       refine q_pval 155 (Op.load 152 (Operand.tmp 154)) (wv ((rS b s k2 k3).c)) hF538 (fun w9 ⟨s9,hw9⟩=>(exec_load (cs:=[wv (([(rS b s k2 k3).a,(rS b s k2 k3).b,(rS b s k2 k3).c,(rS b s k2 k3).d,(rS b s k2 k3).e,(rS b s k2 k3).f,(rS b s k2 k3).g,(rS b s k2 k3).h]:List UInt32).getD 2 0)]) L152 (.inr rfl) (by kernel_rfl) (Bx.elemG (h528.step hw9 (fun h=>h.2.2.1 rfl)) (0:UInt32) 2 hj539))) ?_
       intro a540 hF541
       refine q_prun (d:=156) (Value.int .u32 (IntKind.u32.wrap ((BitVec.ofInt 32 (((rS b s k2 k3).a).toNat:Int) &&& BitVec.ofInt 32 (((rS b s k2 k3).c).toNat:Int)).toNat:Int))) hF541 ?_
       intro a542 hF543
       have hF544:=hF543.set 156 (Value.int .u32 (IntKind.u32.wrap ((BitVec.ofInt 32 (((rS b s k2 k3).a).toNat:Int) &&& BitVec.ofInt 32 (((rS b s k2 k3).c).toNat:Int)).toNat:Int))) (wv (((rS b s k2 k3).a) &&& ((rS b s k2 k3).c))) (by kernel_rfl) (congrArg (Value.int .u32) (u32_and ((rS b s k2 k3).a) ((rS b s k2 k3).c)))
       refine q_prun (d:=157) (Value.int .u32 (IntKind.u32.wrap ((BitVec.ofInt 32 ((((rS b s k2 k3).a) &&& ((rS b s k2 k3).b)).toNat:Int) ^^^ BitVec.ofInt 32 ((((rS b s k2 k3).a) &&& ((rS b s k2 k3).c)).toNat:Int)).toNat:Int))) hF544 ?_
       intro a545 hF546
       have hF547:=hF546.set 157 (Value.int .u32 (IntKind.u32.wrap ((BitVec.ofInt 32 ((((rS b s k2 k3).a) &&& ((rS b s k2 k3).b)).toNat:Int) ^^^ BitVec.ofInt 32 ((((rS b s k2 k3).a) &&& ((rS b s k2 k3).c)).toNat:Int)).toNat:Int))) (wv ((((rS b s k2 k3).a) &&& ((rS b s k2 k3).b)) ^^^ (((rS b s k2 k3).a) &&& ((rS b s k2 k3).c)))) (by kernel_rfl) (congrArg (Value.int .u32) (u32_xor (((rS b s k2 k3).a) &&& ((rS b s k2 k3).b)) (((rS b s k2 k3).a) &&& ((rS b s k2 k3).c))))
       refine q_pval 158 (Op.indexAddr 153 (Operand.tmp 11) (Operand.const (Value.int IntKind.i64 1))) (Value.pointer (some ⟨b352,1,none⟩)) hF547 (fun w9 ⟨s9,hw9⟩=>(exec_indexP1 (N:=8) (by kernel_rfl) (kd:=.i64) 1 (by kernel_rfl) (by omega) U153 L152.s)) ?_
       intro a548 hF549
       have hj550:1<(([(rS b s k2 k3).a,(rS b s k2 k3).b,(rS b s k2 k3).c,(rS b s k2 k3).d,(rS b s k2 k3).e,(rS b s k2 k3).f,(rS b s k2 k3).g,(rS b s k2 k3).h]:List UInt32)).length:=(by first | omega | (simp only[List.length_append,List.length_cons,List.length_nil,List.length_map,schedTo_len,addTo_len,kTab_len,List.length_set,List.length_replicate];omega) | simp)
       refine q_pval 159 (Op.load 152 (Operand.tmp 158)) (wv ((rS b s k2 k3).b)) hF549 (fun w9 ⟨s9,hw9⟩=>(exec_load (cs:=[wv (([(rS b s k2 k3).a,(rS b s k2 k3).b,(rS b s k2 k3).c,(rS b s k2 k3).d,(rS b s k2 k3).e,(rS b s k2 k3).f,(rS b s k2 k3).g,(rS b s k2 k3).h]:List UInt32).getD 1 0)]) L152 (.inr rfl) (by kernel_rfl) (Bx.elemG (h528.step hw9 (fun h=>h.2.2.1 rfl)) (0:UInt32) 1 hj550))) ?_
       intro a551 hF552
       refine q_pval 160 (Op.indexAddr 153 (Operand.tmp 11) (Operand.const (Value.int IntKind.i64 2))) (Value.pointer (some ⟨b352,2,none⟩)) hF552 (fun w9 ⟨s9,hw9⟩=>(exec_indexP1 (N:=8) (by kernel_rfl) (kd:=.i64) 2 (by kernel_rfl) (by omega) U153 L152.s)) ?_
       intro a553 hF554
       have hj555:2<(([(rS b s k2 k3).a,(rS b s k2 k3).b,(rS b s k2 k3).c,(rS b s k2 k3).d,(rS b s k2 k3).e,(rS b s k2 k3).f,(rS b s k2 k3).g,(rS b s k2 k3).h]:List UInt32)).length:=(by first | omega | (simp only[List.length_append,List.length_cons,List.length_nil,List.length_map,schedTo_len,addTo_len,kTab_len,List.length_set,List.length_replicate];omega) | simp)
       refine q_pval 161 (Op.load 152 (Operand.tmp 160)) (wv ((rS b s k2 k3).c)) hF554 (fun w9 ⟨s9,hw9⟩=>(exec_load (cs:=[wv (([(rS b s k2 k3).a,(rS b s k2 k3).b,(rS b s k2 k3).c,(rS b s k2 k3).d,(rS b s k2 k3).e,(rS b s k2 k3).f,(rS b s k2 k3).g,(rS b s k2 k3).h]:List UInt32).getD 2 0)]) L152 (.inr rfl) (by kernel_rfl) (Bx.elemG (h528.step hw9 (fun h=>h.2.2.1 rfl)) (0:UInt32) 2 hj555))) ?_
       intro a556 hF557
       refine q_prun (d:=162) (Value.int .u32 (IntKind.u32.wrap ((BitVec.ofInt 32 (((rS b s k2 k3).b).toNat:Int) &&& BitVec.ofInt 32 (((rS b s k2 k3).c).toNat:Int)).toNat:Int))) hF557 ?_
       intro a558 hF559
       have hF560:=hF559.set 162 (Value.int .u32 (IntKind.u32.wrap ((BitVec.ofInt 32 (((rS b s k2 k3).b).toNat:Int) &&& BitVec.ofInt 32 (((rS b s k2 k3).c).toNat:Int)).toNat:Int))) (wv (((rS b s k2 k3).b) &&& ((rS b s k2 k3).c))) (by kernel_rfl) (congrArg (Value.int .u32) (u32_and ((rS b s k2 k3).b) ((rS b s k2 k3).c)))
       refine q_prun (d:=163) (Value.int .u32 (IntKind.u32.wrap ((BitVec.ofInt 32 (((((rS b s k2 k3).a) &&& ((rS b s k2 k3).b)) ^^^ (((rS b s k2 k3).a) &&& ((rS b s k2 k3).c))).toNat:Int) ^^^ BitVec.ofInt 32 ((((rS b s k2 k3).b) &&& ((rS b s k2 k3).c)).toNat:Int)).toNat:Int))) hF560 ?_
       intro a561 hF562
       have hF563:=hF562.set 163 (Value.int .u32 (IntKind.u32.wrap ((BitVec.ofInt 32 (((((rS b s k2 k3).a) &&& ((rS b s k2 k3).b)) ^^^ (((rS b s k2 k3).a) &&& ((rS b s k2 k3).c))).toNat:Int) ^^^ BitVec.ofInt 32 ((((rS b s k2 k3).b) &&& ((rS b s k2 k3).c)).toNat:Int)).toNat:Int))) (wv (((((rS b s k2 k3).a) &&& ((rS b s k2 k3).b)) ^^^ (((rS b s k2 k3).a) &&& ((rS b s k2 k3).c))) ^^^ (((rS b s k2 k3).b) &&& ((rS b s k2 k3).c)))) (by kernel_rfl) (congrArg (Value.int .u32) (u32_xor ((((rS b s k2 k3).a) &&& ((rS b s k2 k3).b)) ^^^ (((rS b s k2 k3).a) &&& ((rS b s k2 k3).c))) (((rS b s k2 k3).b) &&& ((rS b s k2 k3).c))))
       have h564:=((h486.step' st493).step' st516)
       have h565:=((h487.step' st493).step' st516)
       refine p_do (q_call (some 142) (#[(Operand.tmp 141),(Operand.const (Value.int IntKind.i64 (-2)))]) (#[152,3]) hF563 C82 [(wv ((rS b s k2 k3).a)),(Value.int .i64 (-2))] (rotl_calls s490 w515 ((rS b s k2 k3).a) (-2:Int) (by decide)) ?_)
       intro a566 s567 w568 v569 st570 hP571 hF572
       have hz573:=hS517.size
       have hS574:=hS517.then st570
       refine⟨s567,st570.mono (fun b _ e=>(fun _ e=>e.elim) b e),?_⟩
       subst hP571
       have h575:=(h564.step' st570)
       have h576:=(h565.step' st570)
       have h577:=(h528.step' st570)
       refine p_do (q_call (some 144) (#[(Operand.tmp 143),(Operand.const (Value.int IntKind.i64 (-13)))]) (#[152,3]) hF572 C82 [(wv ((rS b s k2 k3).a)),(Value.int .i64 (-13))] (rotl_calls s567 w568 ((rS b s k2 k3).a) (-13:Int) (by decide)) ?_)
       intro a578 s579 w580 v581 st582 hP583 hF584
       have hz585:=hS574.size
       have hS586:=hS574.then st582
       refine⟨s579,st582.mono (fun b _ e=>(fun _ e=>e.elim) b e),?_⟩
       subst hP583
       refine q_prun (d:=145) (Value.int .u32 (IntKind.u32.wrap ((BitVec.ofInt 32 ((rotl ((rS b s k2 k3).a) (-2:Int)).toNat:Int) ^^^ BitVec.ofInt 32 ((rotl ((rS b s k2 k3).a) (-13:Int)).toNat:Int)).toNat:Int))) hF584 ?_
       intro a587 hF588
       have hF589:=hF588.set 145 (Value.int .u32 (IntKind.u32.wrap ((BitVec.ofInt 32 ((rotl ((rS b s k2 k3).a) (-2:Int)).toNat:Int) ^^^ BitVec.ofInt 32 ((rotl ((rS b s k2 k3).a) (-13:Int)).toNat:Int)).toNat:Int))) (wv ((rotl ((rS b s k2 k3).a) (-2:Int)) ^^^ (rotl ((rS b s k2 k3).a) (-13:Int)))) (by kernel_rfl) (congrArg (Value.int .u32) (u32_xor (rotl ((rS b s k2 k3).a) (-2:Int)) (rotl ((rS b s k2 k3).a) (-13:Int))))
       have h590:=(h575.step' st582)
       have h591:=(h576.step' st582)
       have h592:=(h577.step' st582)
       refine p_do (q_call (some 147) (#[(Operand.tmp 146),(Operand.const (Value.int IntKind.i64 (-22)))]) (#[152,3]) hF589 C82 [(wv ((rS b s k2 k3).a)),(Value.int .i64 (-22))] (rotl_calls s579 w580 ((rS b s k2 k3).a) (-22:Int) (by decide)) ?_)
       intro a593 s594 w595 v596 st597 hP598 hF599
       have hz600:=hS586.size
       have hS601:=hS586.then st597
       refine⟨s594,st597.mono (fun b _ e=>(fun _ e=>e.elim) b e),?_⟩
       subst hP598
       refine q_prun (d:=148) (Value.int .u32 (IntKind.u32.wrap ((BitVec.ofInt 32 (((rotl ((rS b s k2 k3).a) (-2:Int)) ^^^ (rotl ((rS b s k2 k3).a) (-13:Int))).toNat:Int) ^^^ BitVec.ofInt 32 ((rotl ((rS b s k2 k3).a) (-22:Int)).toNat:Int)).toNat:Int))) hF599 ?_
       intro a602 hF603
       have hF604:=hF603.set 148 (Value.int .u32 (IntKind.u32.wrap ((BitVec.ofInt 32 (((rotl ((rS b s k2 k3).a) (-2:Int)) ^^^ (rotl ((rS b s k2 k3).a) (-13:Int))).toNat:Int) ^^^ BitVec.ofInt 32 ((rotl ((rS b s k2 k3).a) (-22:Int)).toNat:Int)).toNat:Int))) (wv (((rotl ((rS b s k2 k3).a) (-2:Int)) ^^^ (rotl ((rS b s k2 k3).a) (-13:Int))) ^^^ (rotl ((rS b s k2 k3).a) (-22:Int)))) (by kernel_rfl) (congrArg (Value.int .u32) (u32_xor ((rotl ((rS b s k2 k3).a) (-2:Int)) ^^^ (rotl ((rS b s k2 k3).a) (-13:Int))) (rotl ((rS b s k2 k3).a) (-22:Int))))
       refine q_prun (d:=164) (Value.int .u32 (IntKind.u32.wrap (((((rotl ((rS b s k2 k3).a) (-2:Int)) ^^^ (rotl ((rS b s k2 k3).a) (-13:Int))) ^^^ (rotl ((rS b s k2 k3).a) (-22:Int))).toNat:Int)+((((((rS b s k2 k3).a) &&& ((rS b s k2 k3).b)) ^^^ (((rS b s k2 k3).a) &&& ((rS b s k2 k3).c))) ^^^ (((rS b s k2 k3).b) &&& ((rS b s k2 k3).c))).toNat:Int)))) hF604 ?_
       intro a605 hF606
       have hF607:=hF606.set 164 (Value.int .u32 (IntKind.u32.wrap (((((rotl ((rS b s k2 k3).a) (-2:Int)) ^^^ (rotl ((rS b s k2 k3).a) (-13:Int))) ^^^ (rotl ((rS b s k2 k3).a) (-22:Int))).toNat:Int)+((((((rS b s k2 k3).a) &&& ((rS b s k2 k3).b)) ^^^ (((rS b s k2 k3).a) &&& ((rS b s k2 k3).c))) ^^^ (((rS b s k2 k3).b) &&& ((rS b s k2 k3).c))).toNat:Int)))) (wv ((((rotl ((rS b s k2 k3).a) (-2:Int)) ^^^ (rotl ((rS b s k2 k3).a) (-13:Int))) ^^^ (rotl ((rS b s k2 k3).a) (-22:Int)))+(((((rS b s k2 k3).a) &&& ((rS b s k2 k3).b)) ^^^ (((rS b s k2 k3).a) &&& ((rS b s k2 k3).c))) ^^^ (((rS b s k2 k3).b) &&& ((rS b s k2 k3).c))))) (by kernel_rfl) (congrArg (Value.int .u32) (u32_add _ _))
       refine q_prun (d:=17) (wv ((((rotl ((rS b s k2 k3).a) (-2:Int)) ^^^ (rotl ((rS b s k2 k3).a) (-13:Int))) ^^^ (rotl ((rS b s k2 k3).a) (-22:Int)))+(((((rS b s k2 k3).a) &&& ((rS b s k2 k3).b)) ^^^ (((rS b s k2 k3).a) &&& ((rS b s k2 k3).c))) ^^^ (((rS b s k2 k3).b) &&& ((rS b s k2 k3).c))))) hF607 ?_
       intro a608 hF609
       refine p_end ?_
       refine q_reg ?_
       refine q_run 2 [(166,(wv ((((rotl ((rS b s k2 k3).a) (-2:Int)) ^^^ (rotl ((rS b s k2 k3).a) (-13:Int))) ^^^ (rotl ((rS b s k2 k3).a) (-22:Int)))+(((((rS b s k2 k3).a) &&& ((rS b s k2 k3).b)) ^^^ (((rS b s k2 k3).a) &&& ((rS b s k2 k3).c))) ^^^ (((rS b s k2 k3).b) &&& ((rS b s k2 k3).c)))))),(165,(wv ((((((rS b s k2 k3).h)+(((rotl ((rS b s k2 k3).e) (-6:Int)) ^^^ (rotl ((rS b s k2 k3).e) (-11:Int))) ^^^ (rotl ((rS b s k2 k3).e) (-25:Int))))+((((rS b s k2 k3).e) &&& ((rS b s k2 k3).f)) ^^^ ((~~~((rS b s k2 k3).e)) &&& ((rS b s k2 k3).g))))+(kTab.getD k3 0))+((schedTo b (k2)).getD k3 0))))] hF609 fun a610 hF611=>?_
       refine q_one 167 (v0:=(Value.int .u32 (IntKind.u32.wrap ((((((((rS b s k2 k3).h)+(((rotl ((rS b s k2 k3).e) (-6:Int)) ^^^ (rotl ((rS b s k2 k3).e) (-11:Int))) ^^^ (rotl ((rS b s k2 k3).e) (-25:Int))))+((((rS b s k2 k3).e) &&& ((rS b s k2 k3).f)) ^^^ ((~~~((rS b s k2 k3).e)) &&& ((rS b s k2 k3).g))))+(kTab.getD k3 0))+((schedTo b (k2)).getD k3 0)).toNat:Int)+(((((rotl ((rS b s k2 k3).a) (-2:Int)) ^^^ (rotl ((rS b s k2 k3).a) (-13:Int))) ^^^ (rotl ((rS b s k2 k3).a) (-22:Int)))+(((((rS b s k2 k3).a) &&& ((rS b s k2 k3).b)) ^^^ (((rS b s k2 k3).a) &&& ((rS b s k2 k3).c))) ^^^ (((rS b s k2 k3).b) &&& ((rS b s k2 k3).c)))).toNat:Int))))) (v:=(wv (((((((rS b s k2 k3).h)+(((rotl ((rS b s k2 k3).e) (-6:Int)) ^^^ (rotl ((rS b s k2 k3).e) (-11:Int))) ^^^ (rotl ((rS b s k2 k3).e) (-25:Int))))+((((rS b s k2 k3).e) &&& ((rS b s k2 k3).f)) ^^^ ((~~~((rS b s k2 k3).e)) &&& ((rS b s k2 k3).g))))+(kTab.getD k3 0))+((schedTo b (k2)).getD k3 0))+((((rotl ((rS b s k2 k3).a) (-2:Int)) ^^^ (rotl ((rS b s k2 k3).a) (-13:Int))) ^^^ (rotl ((rS b s k2 k3).a) (-22:Int)))+(((((rS b s k2 k3).a) &&& ((rS b s k2 k3).b)) ^^^ (((rS b s k2 k3).a) &&& ((rS b s k2 k3).c))) ^^^ (((rS b s k2 k3).b) &&& ((rS b s k2 k3).c))))))) (congrArg (Value.int .u32) (u32_add _ _)) hF611 fun a612 hF613=>?_
       refine r_at (q_val 168 (Op.indexAddr 153 (Operand.tmp 11) (Operand.const (Value.int IntKind.i64 0))) hF613 (Value.pointer (some ⟨b352,0,none⟩)) (exec_indexP1 (N:=8) (by kernel_rfl) (kd:=.i64) 0 (by kernel_rfl) (by omega) U153 L152.s) ?_)
       intro a614 hF615
       have h616:=(h592.step' st597)
       have hj617:0<(([(rS b s k2 k3).a,(rS b s k2 k3).b,(rS b s k2 k3).c,(rS b s k2 k3).d,(rS b s k2 k3).e,(rS b s k2 k3).f,(rS b s k2 k3).g,(rS b s k2 k3).h]:List UInt32)).length:=(by first | omega | (simp only[List.length_append,List.length_cons,List.length_nil,List.length_map,schedTo_len,addTo_len,kTab_len,List.length_set,List.length_replicate];omega) | simp)
       refine r_at (q_val 169 (Op.load 152 (Operand.tmp 168)) hF615 (wv ((rS b s k2 k3).a)) (exec_load (cs:=[wv (([(rS b s k2 k3).a,(rS b s k2 k3).b,(rS b s k2 k3).c,(rS b s k2 k3).d,(rS b s k2 k3).e,(rS b s k2 k3).f,(rS b s k2 k3).g,(rS b s k2 k3).h]:List UInt32).getD 0 0)]) L152 (.inr rfl) (by kernel_rfl) (Bx.elemG h616 (0:UInt32) 0 hj617)) ?_)
       intro a618 hF619
       refine r_at (q_val 170 (Op.indexAddr 153 (Operand.tmp 11) (Operand.const (Value.int IntKind.i64 1))) hF619 (Value.pointer (some ⟨b352,1,none⟩)) (exec_indexP1 (N:=8) (by kernel_rfl) (kd:=.i64) 1 (by kernel_rfl) (by omega) U153 L152.s) ?_)
       intro a620 hF621
       have hj622:1<(([(rS b s k2 k3).a,(rS b s k2 k3).b,(rS b s k2 k3).c,(rS b s k2 k3).d,(rS b s k2 k3).e,(rS b s k2 k3).f,(rS b s k2 k3).g,(rS b s k2 k3).h]:List UInt32)).length:=(by first | omega | (simp only[List.length_append,List.length_cons,List.length_nil,List.length_map,schedTo_len,addTo_len,kTab_len,List.length_set,List.length_replicate];omega) | simp)
       refine r_at (q_val 171 (Op.load 152 (Operand.tmp 170)) hF621 (wv ((rS b s k2 k3).b)) (exec_load (cs:=[wv (([(rS b s k2 k3).a,(rS b s k2 k3).b,(rS b s k2 k3).c,(rS b s k2 k3).d,(rS b s k2 k3).e,(rS b s k2 k3).f,(rS b s k2 k3).g,(rS b s k2 k3).h]:List UInt32).getD 1 0)]) L152 (.inr rfl) (by kernel_rfl) (Bx.elemG h616 (0:UInt32) 1 hj622)) ?_)
       intro a623 hF624
       refine r_at (q_val 172 (Op.indexAddr 153 (Operand.tmp 11) (Operand.const (Value.int IntKind.i64 2))) hF624 (Value.pointer (some ⟨b352,2,none⟩)) (exec_indexP1 (N:=8) (by kernel_rfl) (kd:=.i64) 2 (by kernel_rfl) (by omega) U153 L152.s) ?_)
       intro a625 hF626
       have hj627:2<(([(rS b s k2 k3).a,(rS b s k2 k3).b,(rS b s k2 k3).c,(rS b s k2 k3).d,(rS b s k2 k3).e,(rS b s k2 k3).f,(rS b s k2 k3).g,(rS b s k2 k3).h]:List UInt32)).length:=(by first | omega | (simp only[List.length_append,List.length_cons,List.length_nil,List.length_map,schedTo_len,addTo_len,kTab_len,List.length_set,List.length_replicate];omega) | simp)
       refine r_at (q_val 173 (Op.load 152 (Operand.tmp 172)) hF626 (wv ((rS b s k2 k3).c)) (exec_load (cs:=[wv (([(rS b s k2 k3).a,(rS b s k2 k3).b,(rS b s k2 k3).c,(rS b s k2 k3).d,(rS b s k2 k3).e,(rS b s k2 k3).f,(rS b s k2 k3).g,(rS b s k2 k3).h]:List UInt32).getD 2 0)]) L152 (.inr rfl) (by kernel_rfl) (Bx.elemG h616 (0:UInt32) 2 hj627)) ?_)
       intro a628 hF629
       refine r_at (q_val 174 (Op.indexAddr 153 (Operand.tmp 11) (Operand.const (Value.int IntKind.i64 3))) hF629 (Value.pointer (some ⟨b352,3,none⟩)) (exec_indexP1 (N:=8) (by kernel_rfl) (kd:=.i64) 3 (by kernel_rfl) (by omega) U153 L152.s) ?_)
       intro a630 hF631
       have hj632:3<(([(rS b s k2 k3).a,(rS b s k2 k3).b,(rS b s k2 k3).c,(rS b s k2 k3).d,(rS b s k2 k3).e,(rS b s k2 k3).f,(rS b s k2 k3).g,(rS b s k2 k3).h]:List UInt32)).length:=(by first | omega | (simp only[List.length_append,List.length_cons,List.length_nil,List.length_map,schedTo_len,addTo_len,kTab_len,List.length_set,List.length_replicate];omega) | simp)
       refine r_at (q_val 175 (Op.load 152 (Operand.tmp 174)) hF631 (wv ((rS b s k2 k3).d)) (exec_load (cs:=[wv (([(rS b s k2 k3).a,(rS b s k2 k3).b,(rS b s k2 k3).c,(rS b s k2 k3).d,(rS b s k2 k3).e,(rS b s k2 k3).f,(rS b s k2 k3).g,(rS b s k2 k3).h]:List UInt32).getD 3 0)]) L152 (.inr rfl) (by kernel_rfl) (Bx.elemG h616 (0:UInt32) 3 hj632)) ?_)
       intro a633 hF634
       refine q_run 1 [(176,(wv ((((((rS b s k2 k3).h)+(((rotl ((rS b s k2 k3).e) (-6:Int)) ^^^ (rotl ((rS b s k2 k3).e) (-11:Int))) ^^^ (rotl ((rS b s k2 k3).e) (-25:Int))))+((((rS b s k2 k3).e) &&& ((rS b s k2 k3).f)) ^^^ ((~~~((rS b s k2 k3).e)) &&& ((rS b s k2 k3).g))))+(kTab.getD k3 0))+((schedTo b (k2)).getD k3 0))))] hF634 fun a635 hF636=>?_
       refine q_one 177 (v0:=(Value.int .u32 (IntKind.u32.wrap ((((rS b s k2 k3).d).toNat:Int)+(((((((rS b s k2 k3).h)+(((rotl ((rS b s k2 k3).e) (-6:Int)) ^^^ (rotl ((rS b s k2 k3).e) (-11:Int))) ^^^ (rotl ((rS b s k2 k3).e) (-25:Int))))+((((rS b s k2 k3).e) &&& ((rS b s k2 k3).f)) ^^^ ((~~~((rS b s k2 k3).e)) &&& ((rS b s k2 k3).g))))+(kTab.getD k3 0))+((schedTo b (k2)).getD k3 0)).toNat:Int))))) (v:=(wv (((rS b s k2 k3).d)+((((((rS b s k2 k3).h)+(((rotl ((rS b s k2 k3).e) (-6:Int)) ^^^ (rotl ((rS b s k2 k3).e) (-11:Int))) ^^^ (rotl ((rS b s k2 k3).e) (-25:Int))))+((((rS b s k2 k3).e) &&& ((rS b s k2 k3).f)) ^^^ ((~~~((rS b s k2 k3).e)) &&& ((rS b s k2 k3).g))))+(kTab.getD k3 0))+((schedTo b (k2)).getD k3 0))))) (congrArg (Value.int .u32) (u32_add _ _)) hF636 fun a637 hF638=>?_
       refine r_at (q_val 178 (Op.indexAddr 153 (Operand.tmp 11) (Operand.const (Value.int IntKind.i64 4))) hF638 (Value.pointer (some ⟨b352,4,none⟩)) (exec_indexP1 (N:=8) (by kernel_rfl) (kd:=.i64) 4 (by kernel_rfl) (by omega) U153 L152.s) ?_)
       intro a639 hF640
       have hj641:4<(([(rS b s k2 k3).a,(rS b s k2 k3).b,(rS b s k2 k3).c,(rS b s k2 k3).d,(rS b s k2 k3).e,(rS b s k2 k3).f,(rS b s k2 k3).g,(rS b s k2 k3).h]:List UInt32)).length:=(by first | omega | (simp only[List.length_append,List.length_cons,List.length_nil,List.length_map,schedTo_len,addTo_len,kTab_len,List.length_set,List.length_replicate];omega) | simp)
       refine r_at (q_val 179 (Op.load 152 (Operand.tmp 178)) hF640 (wv ((rS b s k2 k3).e)) (exec_load (cs:=[wv (([(rS b s k2 k3).a,(rS b s k2 k3).b,(rS b s k2 k3).c,(rS b s k2 k3).d,(rS b s k2 k3).e,(rS b s k2 k3).f,(rS b s k2 k3).g,(rS b s k2 k3).h]:List UInt32).getD 4 0)]) L152 (.inr rfl) (by kernel_rfl) (Bx.elemG h616 (0:UInt32) 4 hj641)) ?_)
       intro a642 hF643
       refine r_at (q_val 180 (Op.indexAddr 153 (Operand.tmp 11) (Operand.const (Value.int IntKind.i64 5))) hF643 (Value.pointer (some ⟨b352,5,none⟩)) (exec_indexP1 (N:=8) (by kernel_rfl) (kd:=.i64) 5 (by kernel_rfl) (by omega) U153 L152.s) ?_)
       intro a644 hF645
       have hj646:5<(([(rS b s k2 k3).a,(rS b s k2 k3).b,(rS b s k2 k3).c,(rS b s k2 k3).d,(rS b s k2 k3).e,(rS b s k2 k3).f,(rS b s k2 k3).g,(rS b s k2 k3).h]:List UInt32)).length:=(by first | omega | (simp only[List.length_append,List.length_cons,List.length_nil,List.length_map,schedTo_len,addTo_len,kTab_len,List.length_set,List.length_replicate];omega) | simp)
       refine r_at (q_val 181 (Op.load 152 (Operand.tmp 180)) hF645 (wv ((rS b s k2 k3).f)) (exec_load (cs:=[wv (([(rS b s k2 k3).a,(rS b s k2 k3).b,(rS b s k2 k3).c,(rS b s k2 k3).d,(rS b s k2 k3).e,(rS b s k2 k3).f,(rS b s k2 k3).g,(rS b s k2 k3).h]:List UInt32).getD 5 0)]) L152 (.inr rfl) (by kernel_rfl) (Bx.elemG h616 (0:UInt32) 5 hj646)) ?_)
       intro a647 hF648
       refine r_at (q_val 182 (Op.indexAddr 153 (Operand.tmp 11) (Operand.const (Value.int IntKind.i64 6))) hF648 (Value.pointer (some ⟨b352,6,none⟩)) (exec_indexP1 (N:=8) (by kernel_rfl) (kd:=.i64) 6 (by kernel_rfl) (by omega) U153 L152.s) ?_)
       intro a649 hF650
       have hj651:6<(([(rS b s k2 k3).a,(rS b s k2 k3).b,(rS b s k2 k3).c,(rS b s k2 k3).d,(rS b s k2 k3).e,(rS b s k2 k3).f,(rS b s k2 k3).g,(rS b s k2 k3).h]:List UInt32)).length:=(by first | omega | (simp only[List.length_append,List.length_cons,List.length_nil,List.length_map,schedTo_len,addTo_len,kTab_len,List.length_set,List.length_replicate];omega) | simp)
       refine r_at (q_val 183 (Op.load 152 (Operand.tmp 182)) hF650 (wv ((rS b s k2 k3).g)) (exec_load (cs:=[wv (([(rS b s k2 k3).a,(rS b s k2 k3).b,(rS b s k2 k3).c,(rS b s k2 k3).d,(rS b s k2 k3).e,(rS b s k2 k3).f,(rS b s k2 k3).g,(rS b s k2 k3).h]:List UInt32).getD 6 0)]) L152 (.inr rfl) (by kernel_rfl) (Bx.elemG h616 (0:UInt32) 6 hj651)) ?_)
       intro a652 hF653
       refine q_run 1 [(184,(Value.agg (([((((((rS b s k2 k3).h)+(((rotl ((rS b s k2 k3).e) (-6:Int)) ^^^ (rotl ((rS b s k2 k3).e) (-11:Int))) ^^^ (rotl ((rS b s k2 k3).e) (-25:Int))))+((((rS b s k2 k3).e) &&& ((rS b s k2 k3).f)) ^^^ ((~~~((rS b s k2 k3).e)) &&& ((rS b s k2 k3).g))))+(kTab.getD k3 0))+((schedTo b (k2)).getD k3 0))+((((rotl ((rS b s k2 k3).a) (-2:Int)) ^^^ (rotl ((rS b s k2 k3).a) (-13:Int))) ^^^ (rotl ((rS b s k2 k3).a) (-22:Int)))+(((((rS b s k2 k3).a) &&& ((rS b s k2 k3).b)) ^^^ (((rS b s k2 k3).a) &&& ((rS b s k2 k3).c))) ^^^ (((rS b s k2 k3).b) &&& ((rS b s k2 k3).c)))),(rS b s k2 k3).a,(rS b s k2 k3).b,(rS b s k2 k3).c,((rS b s k2 k3).d)+((((((rS b s k2 k3).h)+(((rotl ((rS b s k2 k3).e) (-6:Int)) ^^^ (rotl ((rS b s k2 k3).e) (-11:Int))) ^^^ (rotl ((rS b s k2 k3).e) (-25:Int))))+((((rS b s k2 k3).e) &&& ((rS b s k2 k3).f)) ^^^ ((~~~((rS b s k2 k3).e)) &&& ((rS b s k2 k3).g))))+(kTab.getD k3 0))+((schedTo b (k2)).getD k3 0)),(rS b s k2 k3).e,(rS b s k2 k3).f,(rS b s k2 k3).g]:List UInt32).map wv).toArray))] hF653 fun a654 hF655=>?_
       refine r_at (q_store (Operand.tmp 11) (Operand.tmp 184) hF655 h616 0 (([((((((rS b s k2 k3).h)+(((rotl ((rS b s k2 k3).e) (-6:Int)) ^^^ (rotl ((rS b s k2 k3).e) (-11:Int))) ^^^ (rotl ((rS b s k2 k3).e) (-25:Int))))+((((rS b s k2 k3).e) &&& ((rS b s k2 k3).f)) ^^^ ((~~~((rS b s k2 k3).e)) &&& ((rS b s k2 k3).g))))+(kTab.getD k3 0))+((schedTo b (k2)).getD k3 0))+((((rotl ((rS b s k2 k3).a) (-2:Int)) ^^^ (rotl ((rS b s k2 k3).a) (-13:Int))) ^^^ (rotl ((rS b s k2 k3).a) (-22:Int)))+(((((rS b s k2 k3).a) &&& ((rS b s k2 k3).b)) ^^^ (((rS b s k2 k3).a) &&& ((rS b s k2 k3).c))) ^^^ (((rS b s k2 k3).b) &&& ((rS b s k2 k3).c)))),(rS b s k2 k3).a,(rS b s k2 k3).b,(rS b s k2 k3).c,((rS b s k2 k3).d)+((((((rS b s k2 k3).h)+(((rotl ((rS b s k2 k3).e) (-6:Int)) ^^^ (rotl ((rS b s k2 k3).e) (-11:Int))) ^^^ (rotl ((rS b s k2 k3).e) (-25:Int))))+((((rS b s k2 k3).e) &&& ((rS b s k2 k3).f)) ^^^ ((~~~((rS b s k2 k3).e)) &&& ((rS b s k2 k3).g))))+(kTab.getD k3 0))+((schedTo b (k2)).getD k3 0)),(rS b s k2 k3).e,(rS b s k2 k3).f,(rS b s k2 k3).g]:List UInt32).map wv) 8 L153 ?_)
       intro a656 w657 st658 hB659 hF660
       have hS661:=hS601.and st658 (fun b e=>by subst e;omega)
       refine q_end ?_
       refine q_reg ?_
       refine q_one 185 (v0:=(Value.int .i64 (IntKind.i64.wrap (((k3:Nat):Int)+((1:Nat):Int))))) (v:=(Value.int .i64 ((k3+1:Nat):Int))) (congrArg (Value.int .i64) (i64_eq (by omega) (by omega) (by omega))) hF660 fun a662 hF663=>?_
       refine q_run 1 [(105,(Value.int .i64 ((k3+1:Nat):Int)))] hF663 fun a664 hF665=>?_
       refine q_end ?_
       have h666:=((h590.step' st597).step st658 (fun e=>absurd e (by omega)))
       have h667:=((h591.step' st597).step st658 (fun e=>absurd e (by omega)))
       have hF668:=hF665.keep [0,4,11,104,105] [(0,(Value.pointer (some ⟨bh,0,none⟩))),(4,(Value.pointer (some ⟨b6,0,none⟩))),(11,(Value.pointer (some ⟨b352,0,none⟩))),(104,(Value.agg (kTab.map wv).toArray)),(105,(Value.int .i64 ((k3+1:Nat):Int)))] (by kernel_rfl)
       exact⟨k3+1,⟨s594,hF668,hS661,h666,h667,(by have h9:=hB659;simp only[rotl6,rotl11,rotl25,rotl2,rotl13,rotl22] at h9;exact h9),(by omega)⟩,by omega⟩
      ·skip
       have hc385:=of_decide_eq_false hc385
       refine q_exit 4 ?_
       refine q_seq ?_
       refine q_reg ?_
       refine q_run 1 [(186,(Value.int .i64 ((0:Nat):Int)))] hF384 fun a669 hF670=>?_
       refine q_end ?_
       refine q_block 6 ?_
       refine q_loop (fun(k4:Nat) a671 w672=>∃(s673:Nat→Nat),Fr a671 201 [(0,(Value.pointer (some ⟨bh,0,none⟩))),(11,(Value.pointer (some ⟨b352,0,none⟩))),(186,(Value.int .i64 ((k4:Nat):Int)))]∧Stp (· = bh) σ w s673 w672∧Bx s673 w672 b352 (([(rS b s k2 k3).a,(rS b s k2 k3).b,(rS b s k2 k3).c,(rS b s k2 k3).d,(rS b s k2 k3).e,(rS b s k2 k3).f,(rS b s k2 k3).g,(rS b s k2 k3).h]:List UInt32).map wv) 153∧Bx s673 w672 bh ((addTo ([s.a,s.b,s.c,s.d,s.e,s.f,s.g,s.h]:List UInt32) ([(rS b s k2 k3).a,(rS b s k2 k3).b,(rS b s k2 k3).c,(rS b s k2 k3).d,(rS b s k2 k3).e,(rS b s k2 k3).f,(rS b s k2 k3).g,(rS b s k2 k3).h]:List UInt32) (k4)).map wv) 153∧k4≤8) (fun k4=>8 - k4) 0 ?_ ?_
       ·skip
        have hF676:=hF670.keep [0,11,186] [(0,(Value.pointer (some ⟨bh,0,none⟩))),(11,(Value.pointer (some ⟨b352,0,none⟩))),(186,(Value.int .i64 ((0:Nat):Int)))] (by kernel_rfl)
        exact⟨s374,hF676,hS376,h382,h380,(by omega)⟩
       ·rintro k4 a671 w672 ⟨s673,hF674,hS675,h677,h678,hk4⟩
        refine q_seq ?_
        refine q_reg ?_
        refine q_one 187 (congrArg Value.bool (cmp_nat_lss (k4) (8))) hF674 fun a679 hF680=>?_
        refine q_end ?_
        refine q_seq ?_
        refine q_cond 187 hF680 (decide ((k4:Nat)<8)) (fun hc681=>?_) (fun hc681=>?_)
        ·skip
         have hc681:=of_decide_eq_true hc681
         refine q_skip ?_
         refine q_seq ?_
         refine q_block 7 ?_
         refine q_seq ?_
         refine q_reg ?_
         refine q_run 2 [(18,(Value.int .i64 ((k4:Nat):Int))),(188,(Value.int .i64 ((k4:Nat):Int)))] hF680 fun a682 hF683=>?_
         refine q_end ?_
         refine c_planL 25 11 2 (by kernel_rfl) (by kernel_rfl) s673 (fun b=>b≠b352∧b≠bh∧True) [(0,true),(1,true),(2,true),(3,true),(4,true),(5,true),(6,true),(7,true),(8,true),(9,true),(10,true)] [(0,784637716923335095479473677900958302012794430558004314112,1),(0,1569275433846670190958947355801916604025588861116008628224,262144),(1,3138550867693340381917894711603833208051177722232017256448,784637716923335095479473677900958302012794430558004314112),(6,6277101735386680763835789423207666416102355444464034512896,4707826301540010572876842067405749812076766583348025884672),(8,12554203470773361527671578846415332832204710888928069025792,6277101735386680763835789423207666416102355444464034512896),(0,25108406941546723055343157692830665664409421777856138051584,262144),(32,50216813883093446110686315385661331328818843555712276103168,25108406941546723055343157692830665664409421777856138053632),(64,100433627766186892221372630771322662657637687111424552206336,50216813883093446110686315385661331328818843555712276103168),(144,200867255532373784442745261542645325315275374222849104412672,112987831236960253749044209617737995489842398000352621232128),(1,401734511064747568885490523085290650630550748445698208825344,784637716923335095479473677900958302012794430558004314112),(1023,803469022129495137770981046170581301261101496891396417650688,403303786498594239076449470441092567234576337306814217453568),(1535,0,1004336277661868922213726307713226626576376871114245522063360)] (by kernel_rfl) (by kernel_rfl) (by kernel_rfl) (by kernel_rfl) ?_
         intro w684 st685
         have hS686:=hS675.then st685
         refine q_lrun (d:=189) (Value.pointer (some ⟨bh,0,none⟩)) hF683 ?_
         intro a687 hF688
         refine q_lrun (d:=190) (Value.int .i64 ((k4:Nat):Int)) hF688 ?_
         intro a689 hF690
         refine q_lrun (d:=191) (Value.pointer (some ⟨bh,0,none⟩)) hF690 ?_
         intro a691 hF692
         refine q_lval 192 (Op.indexAddr 153 (Operand.tmp 191) (Operand.tmp 190)) (Value.pointer (some ⟨bh,k4,none⟩)) hF692 (fun w9 ⟨s9,hw9⟩=>(exec_indexP1 (N:=8) (by kernel_rfl) (kd:=.i64) k4 (by kernel_rfl) (by omega) U153 L152.s)) ?_
         intro a693 hF694
         have h695:=(h678.step' st685)
         have hj696:k4<(addTo ([s.a,s.b,s.c,s.d,s.e,s.f,s.g,s.h]:List UInt32) ([(rS b s k2 k3).a,(rS b s k2 k3).b,(rS b s k2 k3).c,(rS b s k2 k3).d,(rS b s k2 k3).e,(rS b s k2 k3).f,(rS b s k2 k3).g,(rS b s k2 k3).h]:List UInt32) (k4)).length:=(by first | omega | (simp only[List.length_append,List.length_cons,List.length_nil,List.length_map,schedTo_len,addTo_len,kTab_len,List.length_set,List.length_replicate];omega) | simp)
         refine q_lval 193 (Op.load 152 (Operand.tmp 192)) (wv ((addTo ([s.a,s.b,s.c,s.d,s.e,s.f,s.g,s.h]:List UInt32) ([(rS b s k2 k3).a,(rS b s k2 k3).b,(rS b s k2 k3).c,(rS b s k2 k3).d,(rS b s k2 k3).e,(rS b s k2 k3).f,(rS b s k2 k3).g,(rS b s k2 k3).h]:List UInt32) (k4)).getD k4 0)) hF694 (fun w9 ⟨s9,hw9⟩=>(exec_load (cs:=[wv ((addTo ([s.a,s.b,s.c,s.d,s.e,s.f,s.g,s.h]:List UInt32) ([(rS b s k2 k3).a,(rS b s k2 k3).b,(rS b s k2 k3).c,(rS b s k2 k3).d,(rS b s k2 k3).e,(rS b s k2 k3).f,(rS b s k2 k3).g,(rS b s k2 k3).h]:List UInt32) (k4)).getD k4 0)]) L152 (.inr rfl) (by kernel_rfl) (Bx.elemG (h695.step hw9 (fun h=>h.2.1 rfl)) (0:UInt32) k4 hj696))) ?_
         intro a697 hF698
         refine q_lrun (d:=194) (Value.int .i64 ((k4:Nat):Int)) hF698 ?_
         intro a699 hF700
         refine q_lval 195 (Op.indexAddr 153 (Operand.tmp 11) (Operand.tmp 194)) (Value.pointer (some ⟨b352,k4,none⟩)) hF700 (fun w9 ⟨s9,hw9⟩=>(exec_indexP1 (N:=8) (by kernel_rfl) (kd:=.i64) k4 (by kernel_rfl) (by omega) U153 L152.s)) ?_
         intro a701 hF702
         have h703:=(h677.step' st685)
         have hj704:k4<(([(rS b s k2 k3).a,(rS b s k2 k3).b,(rS b s k2 k3).c,(rS b s k2 k3).d,(rS b s k2 k3).e,(rS b s k2 k3).f,(rS b s k2 k3).g,(rS b s k2 k3).h]:List UInt32)).length:=(by first | omega | (simp only[List.length_append,List.length_cons,List.length_nil,List.length_map,schedTo_len,addTo_len,kTab_len,List.length_set,List.length_replicate];omega) | simp)
         refine q_lval 196 (Op.load 152 (Operand.tmp 195)) (wv (([(rS b s k2 k3).a,(rS b s k2 k3).b,(rS b s k2 k3).c,(rS b s k2 k3).d,(rS b s k2 k3).e,(rS b s k2 k3).f,(rS b s k2 k3).g,(rS b s k2 k3).h]:List UInt32).getD k4 0)) hF702 (fun w9 ⟨s9,hw9⟩=>(exec_load (cs:=[wv (([(rS b s k2 k3).a,(rS b s k2 k3).b,(rS b s k2 k3).c,(rS b s k2 k3).d,(rS b s k2 k3).e,(rS b s k2 k3).f,(rS b s k2 k3).g,(rS b s k2 k3).h]:List UInt32).getD k4 0)]) L152 (.inr rfl) (by kernel_rfl) (Bx.elemG (h703.step hw9 (fun h=>h.1 rfl)) (0:UInt32) k4 hj704))) ?_
         intro a705 hF706
         refine q_lrun (d:=197) (Value.int .u32 (IntKind.u32.wrap ((((addTo ([s.a,s.b,s.c,s.d,s.e,s.f,s.g,s.h]:List UInt32) ([(rS b s k2 k3).a,(rS b s k2 k3).b,(rS b s k2 k3).c,(rS b s k2 k3).d,(rS b s k2 k3).e,(rS b s k2 k3).f,(rS b s k2 k3).g,(rS b s k2 k3).h]:List UInt32) (k4)).getD k4 0).toNat:Int)+((([(rS b s k2 k3).a,(rS b s k2 k3).b,(rS b s k2 k3).c,(rS b s k2 k3).d,(rS b s k2 k3).e,(rS b s k2 k3).f,(rS b s k2 k3).g,(rS b s k2 k3).h]:List UInt32).getD k4 0).toNat:Int)))) hF706 ?_
         intro a707 hF708
         have hF709:=hF708.set 197 (Value.int .u32 (IntKind.u32.wrap ((((addTo ([s.a,s.b,s.c,s.d,s.e,s.f,s.g,s.h]:List UInt32) ([(rS b s k2 k3).a,(rS b s k2 k3).b,(rS b s k2 k3).c,(rS b s k2 k3).d,(rS b s k2 k3).e,(rS b s k2 k3).f,(rS b s k2 k3).g,(rS b s k2 k3).h]:List UInt32) (k4)).getD k4 0).toNat:Int)+((([(rS b s k2 k3).a,(rS b s k2 k3).b,(rS b s k2 k3).c,(rS b s k2 k3).d,(rS b s k2 k3).e,(rS b s k2 k3).f,(rS b s k2 k3).g,(rS b s k2 k3).h]:List UInt32).getD k4 0).toNat:Int)))) (wv (((addTo ([s.a,s.b,s.c,s.d,s.e,s.f,s.g,s.h]:List UInt32) ([(rS b s k2 k3).a,(rS b s k2 k3).b,(rS b s k2 k3).c,(rS b s k2 k3).d,(rS b s k2 k3).e,(rS b s k2 k3).f,(rS b s k2 k3).g,(rS b s k2 k3).h]:List UInt32) (k4)).getD k4 0)+(([(rS b s k2 k3).a,(rS b s k2 k3).b,(rS b s k2 k3).c,(rS b s k2 k3).d,(rS b s k2 k3).e,(rS b s k2 k3).f,(rS b s k2 k3).g,(rS b s k2 k3).h]:List UInt32).getD k4 0))) (by kernel_rfl) (congrArg (Value.int .u32) (u32_add _ _))
         refine q_lrun (d:=198) (Value.pointer (some ⟨bh,0,none⟩)) hF709 ?_
         intro a710 hF711
         refine q_lval 199 (Op.indexAddr 153 (Operand.tmp 198) (Operand.tmp 190)) (Value.pointer (some ⟨bh,k4,none⟩)) hF711 (fun w9 ⟨s9,hw9⟩=>(exec_indexP1 (N:=8) (by kernel_rfl) (kd:=.i64) k4 (by kernel_rfl) (by omega) U153 L152.s)) ?_
         intro a712 hF713
         have hj719:k4<(addTo ([s.a,s.b,s.c,s.d,s.e,s.f,s.g,s.h]:List UInt32) ([(rS b s k2 k3).a,(rS b s k2 k3).b,(rS b s k2 k3).c,(rS b s k2 k3).d,(rS b s k2 k3).e,(rS b s k2 k3).f,(rS b s k2 k3).g,(rS b s k2 k3).h]:List UInt32) (k4)).length:=(by first | omega | (simp only[List.length_append,List.length_cons,List.length_nil,List.length_map,schedTo_len,addTo_len,kTab_len,List.length_set,List.length_replicate];omega) | simp)
         refine l_last (q_storeA wv (Operand.tmp 199) (Operand.tmp 197) hF713 h695 k4 hj719 (((addTo ([s.a,s.b,s.c,s.d,s.e,s.f,s.g,s.h]:List UInt32) ([(rS b s k2 k3).a,(rS b s k2 k3).b,(rS b s k2 k3).c,(rS b s k2 k3).d,(rS b s k2 k3).e,(rS b s k2 k3).f,(rS b s k2 k3).g,(rS b s k2 k3).h]:List UInt32) (k4)).getD k4 0)+(([(rS b s k2 k3).a,(rS b s k2 k3).b,(rS b s k2 k3).c,(rS b s k2 k3).d,(rS b s k2 k3).e,(rS b s k2 k3).f,(rS b s k2 k3).g,(rS b s k2 k3).h]:List UInt32).getD k4 0)) L152 ?_)
         intro a714 w715 st716 hB717 hF718
         have hS720:=hS686.trans st716 (fun b _ e=>e.elim id id)
         refine q_reg ?_
         refine q_one 200 (v0:=(Value.int .i64 (IntKind.i64.wrap (((k4:Nat):Int)+((1:Nat):Int))))) (v:=(Value.int .i64 ((k4+1:Nat):Int))) (congrArg (Value.int .i64) (i64_eq (by omega) (by omega) (by omega))) hF718 fun a721 hF722=>?_
         refine q_run 1 [(186,(Value.int .i64 ((k4+1:Nat):Int)))] hF722 fun a723 hF724=>?_
         refine q_end ?_
         have h725:=(h703.step st716 (fun e=>absurd e (by omega)))
         have hF726:=hF724.keep [0,11,186] [(0,(Value.pointer (some ⟨bh,0,none⟩))),(11,(Value.pointer (some ⟨b352,0,none⟩))),(186,(Value.int .i64 ((k4+1:Nat):Int)))] (by kernel_rfl)
         exact⟨k4+1,⟨s673,hF726,hS720,h725,(by exact hB717),(by omega)⟩,by omega⟩
        ·skip
         have hc681:=of_decide_eq_false hc681
         refine q_exit 6 ?_
         simp only[Exit.then,Exit.inBlock,if_true]
         refine f_retN hF680 [] (by kernel_rfl) [] .nil _ rfl s673 hS675 ?_
         have e4:k4=8:=by omega
         have e3:k3=64:=by omega
         have e2:k2=64:=by omega
         subst e4 e3 e2
         exact⟨rfl,h678⟩
end Go.Proofs.YtgpaifnijnaebaaDoor.E
set_option linter.unusedVariables false
set_option linter.unusedSimpArgs false
set_option maxRecDepth 100000
set_option maxHeartbeats 2000000
namespace Go.Proofs.YtgpaifnijnaebaaDoor.E
open Go Go.RowKit
open Go.Proofs
theorem sum_calls (σ:Nat→Nat) (w:World) {v0:Value} {ps:List (List UInt8)} (h0:Rd (tSl tU8) σ w v0 ps) (hl:ps.flatten.length≤100000) (hg:Seg σ w 1 0 (kTab.map wv)) :
  Ctr Tryd.prog 63 [v0] noM σ w (fun σ' w' v=>v=.agg ((sum256 ps.flatten).map bv).toArray):=by
 obtain⟨A0,c0,rfl,hl0⟩:=h0.form
 have hbd:ps.length≤140737488355328:=Nat.le_trans (Nat.le_mul_of_pos_right _ (by decide)) h0.bd
 have hfl:=flat_len ps
 refine ctr_enter Tryd.func63 c63 (by kernel_rfl) 71 (by kernel_rfl) (Nat.le_of_ble_eq_true (by kernel_rfl)) [(0,(Value.slice A0 ps.length c0))] (by kernel_rfl) ?_
 intro a hF1
 have hS2:=Stp.refl noM σ w
 refine q_seq ?_
 refine q_reg ?_
 refine r_at (q_new 2 (Op.alloc 29) hF1 σ ((List.replicate 32 (0:UInt8)).map bv) 29 (exec_alloc ((List.replicate 32 (0:UInt8)).map bv) (fun _=>.inl (by kernel_rfl))) ?_)
 intro a3 s4 w5 b6 hb7 st8 hB9 hF10
 have hz11:=hS2.size
 have hS12:=hS2.then st8
 refine q_end ?_
 refine q_seq ?_
 refine q_reg ?_
 refine q_run 1 [(3,(Value.slice none 0 0))] hF10 fun a13 hF14=>?_
 refine q_end ?_
 refine q_seq ?_
 refine q_seq ?_
 refine q_reg ?_
 refine q_run 3 [(13,(Value.int .i64 ((0:Nat):Int))),(12,(Value.int .i64 ((ps.length:Nat):Int))),(11,(Value.slice A0 ps.length c0))] hF14 fun a15 hF16=>?_
 refine q_end ?_
 refine q_block 0 ?_
 refine q_loop (fun(k1:Nat) a17 w18=>∃(s19:Nat→Nat) (A22:Option Addr) (cp23:Nat) (m24:Nat),Fr a17 71 [(2,(Value.pointer (some ⟨b6,0,none⟩))),(3,(Value.slice A22 m24 cp23)),(11,(Value.slice A0 ps.length c0)),(12,(Value.int .i64 ((ps.length:Nat):Int))),(13,(Value.int .i64 ((k1:Nat):Int)))]∧Stp noM σ w s19 w18∧Bx s19 w18 b6 ((List.replicate 32 (0:UInt8)).map bv) 29∧Own tU8 5 w.heap.size s19 w18 (Value.slice A22 m24 cp23) ((ps.take (k1)).flatten)∧k1≤ps.length∧¬ Value.ownBlock (Value.slice A22 m24 cp23)=some b6) (fun k1=>ps.length - k1) 0 ?_ ?_
 ·skip
  have hF27:=hF16.keep [2,3,11,12,13] [(2,(Value.pointer (some ⟨b6,0,none⟩))),(3,(Value.slice none 0 0)),(11,(Value.slice A0 ps.length c0)),(12,(Value.int .i64 ((ps.length:Nat):Int))),(13,(Value.int .i64 ((0:Nat):Int)))] (by kernel_rfl)
  exact⟨s4,none,0,0,hF27,hS12,hB9,(Own.nil _ _ _ _ _),(by omega),(fun e=>by simp[Value.ownBlock] at e)⟩
 ·rintro k1 a17 w18 ⟨s19,A22,cp23,m24,hF20,hS21,h28,hO29,hk1,ne26⟩
  have hln30:=hO29.ln
  refine q_seq ?_
  refine q_reg ?_
  refine q_one 14 (congrArg Value.bool (cmp_nat_lss (k1) (ps.length))) hF20 fun a31 hF32=>?_
  refine q_end ?_
  refine q_seq ?_
  refine q_cond 14 hF32 (decide ((k1:Nat)<ps.length)) (fun hc33=>?_) (fun hc33=>?_)
  ·skip
   have hc33:=of_decide_eq_true hc33
   refine q_skip ?_
   refine q_seq ?_
   refine q_block 1 ?_
   refine q_seq ?_
   refine q_reg ?_
   have h34:=h0.step hS21
   have hi41:k1<(ps).length:=(by have hq:=h34.ln;first | omega | (simp only[List.length_append,List.length_cons,List.length_nil,List.length_map,outTo_len,List.length_set,List.length_replicate,eight_len,eightTo_len] at *;omega))
   obtain⟨b35,o36,c37,he38,hs39,hr40⟩:=(h34).at k1 hi41
   obtain⟨o42,ho42⟩:∃ o,o=o36+k1*1:=⟨_,rfl⟩
   obtain⟨v43,rfl,hr44⟩:=hr40
   obtain⟨A45,m48,c46,rfl,hl47⟩:=hr44.formL
   have hbd49:((ps[k1]'hi41)).length≤140737488355328:=Nat.le_trans (Nat.le_mul_of_pos_right _ (by decide)) hr44.bd
   have hs39:Seg s19 w18 b35 o42 [(Value.slice A45 m48 c46)]:=by rw[ho42];exact hs39
   refine r_at (q_val 15 (Op.indexAddr 38 (Operand.tmp 11) (Operand.tmp 13)) hF32 (Value.pointer (some ⟨b35,o42,none⟩)) (by rw[ho42];exact exec_index (len:=ps.length) (cap:=c0) he38 (by kernel_rfl) (kd:=.i64) k1 (by kernel_rfl) (by have:=h34.ln;omega) 1 U38 L23.s) ?_)
   intro a50 hF51
   refine r_at (q_loadS 16 (Operand.tmp 15) L23 hF51 hs39 0 fun a52 hF53=>?_)
   refine q_run 1 [(5,(Value.slice A45 m48 c46))] hF53 fun a54 hF55=>?_
   refine q_end ?_
   refine q_reg ?_
   refine q_run 2 [(18,(Value.slice A45 m48 c46)),(17,(Value.slice A22 m24 cp23))] hF55 fun a56 hF57=>?_
   have hz67:=hS21.size
   have hb66:((ps.take (k1)).flatten).length+((ps[k1]'hi41):List _).length≤1000000:=(by have h8:=hfl k1;have h9:=flat_len2 (l:=ps) (k:=k1) (by omega);omega)
   refine r_at (q_app tU8 S23 19 (Operand.tmp 17) (Operand.tmp 18) hF57 hO29 hr44 (app_small hb66 (by decide)) (by omega) hz67 ?_)
   intro a58 s59 w60 v61 st62 hO63 hn64 hF65
   obtain⟨A70,m73,c71,rfl,hl72⟩:=hO63.formL
   have hS74:=hS21.and st62 (fun b e=>hO29.ge e)
   have ne76:¬ Value.ownBlock (Value.slice A70 m73 c71)=some b6:=fun e=>ne26 (hn64 _ h28.lt e)
   refine q_run 1 [(3,(Value.slice A70 m73 c71))] hF65 fun a77 hF78=>?_
   refine q_end ?_
   refine q_reg ?_
   refine q_one 20 (v0:=(Value.int .i64 (IntKind.i64.wrap (((k1:Nat):Int)+((1:Nat):Int))))) (v:=(Value.int .i64 ((k1+1:Nat):Int))) (congrArg (Value.int .i64) (i64_eq (by omega) (by omega) (by omega))) hF78 fun a79 hF80=>?_
   refine q_run 1 [(13,(Value.int .i64 ((k1+1:Nat):Int)))] hF80 fun a81 hF82=>?_
   refine q_end ?_
   have h83:=(h28.step st62 (fun e=>ne26 e))
   have hF84:=hF82.keep [2,3,11,12,13] [(2,(Value.pointer (some ⟨b6,0,none⟩))),(3,(Value.slice A70 m73 c71)),(11,(Value.slice A0 ps.length c0)),(12,(Value.int .i64 ((ps.length:Nat):Int))),(13,(Value.int .i64 ((k1+1:Nat):Int)))] (by kernel_rfl)
   exact⟨k1+1,⟨s59,A70,c71,m73,hF84,hS74,h83,(hO63.cast (by first | rfl | omega | (simp only[List.length_append,List.length_cons,List.length_nil,List.length_map,outTo_len,List.length_set,List.length_replicate,eight_len,eightTo_len] at *;omega)) (by exact(flat_step (by omega)))),(by omega),ne76⟩,by omega⟩
  ·skip
   have hc33:=of_decide_eq_false hc33
   refine q_exit 0 ?_
   refine q_seq ?_
   refine q_reg ?_
   refine q_run 2 [(22,(Value.int .i64 ((m24:Nat):Int))),(21,(Value.slice A22 m24 cp23))] hF32 fun a85 hF86=>?_
   refine q_one 23 (congrArg (Value.int .u64) (i64_u64 ((m24:Nat):Int))) hF86 fun a87 hF88=>?_
   refine q_one 24 (v0:=(Value.int .u64 (IntKind.u64.wrap ((((ofI ((m24:Nat):Int))).toNat:Int)*((8:UInt64).toNat:Int))))) (v:=(uv ((ofI ((m24:Nat):Int))*8))) (congrArg (Value.int .u64) (u64_mul _ _)) hF88 fun a89 hF90=>?_
   refine q_run 1 [(6,(uv ((ofI ((m24:Nat):Int))*8)))] hF90 fun a91 hF92=>?_
   refine q_end ?_
   refine q_seq ?_
   refine q_reg ?_
   refine q_run 1 [(25,(Value.slice A22 m24 cp23))] hF92 fun a93 hF94=>?_
   refine r_at (q_lit tU8 26 23 5 1 (#[(0,(Operand.const (Value.int IntKind.u8 128)))]) hF94 s19 [128] [(bv 128)] ⟨_,_,rfl,rfl,rfl⟩ (fun o e=>by simp only[execOp,e];kernel_rfl) ?_)
   intro a95 s96 w97 g98 hg99 st100 hO101 hF102
   have hz103:=hS21.size
   have hS104:=hS21.then st100
   have hO105:Own tU8 5 w.heap.size s96 w97 (Value.slice (some ⟨g98,0,none⟩) 1 1) [128]:=(hO101.le (by omega:w.heap.size≤_))
   have ne107:=hO101.gb (by have:=h28.lt;omega:b6<_)
   have ne108:=hO101.gg hO29 (by omega)
   have h109:=(hO29.step' st100)
   have h110:=(h28.step' st100)
   have hz120:=hS104.size
   have hb119:((ps.take (k1)).flatten).length+([128]:List _).length≤1000000:=(by have h8:=hfl k1;simp only[List.length_cons,List.length_nil];omega)
   refine r_at (q_app tU8 S23 27 (Operand.tmp 25) (Operand.tmp 26) hF102 h109 hO105.rd (app_small hb119 (by decide)) (by omega) hz120 ?_)
   intro a111 s112 w113 v114 st115 hO116 hn117 hF118
   obtain⟨A123,m126,c124,rfl,hl125⟩:=hO116.formL
   have hS127:=hS104.and st115 (fun b e=>h109.ge e)
   have ne129:¬ Value.ownBlock (Value.slice A123 m126 c124)=some b6:=fun e=>ne26 (hn117 _ h110.lt e)
   refine q_run 1 [(3,(Value.slice A123 m126 c124))] hF118 fun a130 hF131=>?_
   refine q_end ?_
   refine q_seq ?_
   refine q_block 2 ?_
   have hB1:=hfl k1
   have h142:=(h110.step st115 (fun e=>ne26 e))
   refine q_loop (fun(k2:Nat) a132 w133=>∃(s134:Nat→Nat) (A137:Option Addr) (cp138:Nat) (m139:Nat),Fr a132 71 [(2,(Value.pointer (some ⟨b6,0,none⟩))),(3,(Value.slice A137 m139 cp138)),(6,(uv ((ofI ((m24:Nat):Int))*8)))]∧Stp noM σ w s134 w133∧Bx s134 w133 b6 ((List.replicate 32 (0:UInt8)).map bv) 29∧Own tU8 5 w.heap.size s134 w133 (Value.slice A137 m139 cp138) (((ps.take k1).flatten++[128])++List.replicate (k2) 0)∧k2≤padN ((ps.take k1).flatten).length∧¬ Value.ownBlock (Value.slice A137 m139 cp138)=some b6) (fun k2=>padN ((ps.take k1).flatten).length - k2) 0 ?_ ?_
   ·skip
    have hF143:=hF131.keep [2,3,6] [(2,(Value.pointer (some ⟨b6,0,none⟩))),(3,(Value.slice A123 m126 c124)),(6,(uv ((ofI ((m24:Nat):Int))*8)))] (by kernel_rfl)
    exact⟨s112,A123,c124,m126,hF143,hS127,h142,(hO116.cast (by first | rfl | omega | (simp only[List.length_append,List.length_cons,List.length_nil,List.length_map,outTo_len,List.length_set,List.length_replicate,eight_len,eightTo_len] at *;omega)) (by simp)),(Nat.zero_le _),ne129⟩
   ·rintro k2 a132 w133 ⟨s134,A137,cp138,m139,hF135,hS136,h144,hO145,hk2,ne141⟩
    have hln146:=hO145.ln
    have hlnX:=hO145.ln
    refine q_seq ?_
    refine q_seq ?_
    refine q_reg ?_
    refine q_run 2 [(29,(Value.int .i64 ((m139:Nat):Int))),(28,(Value.slice A137 m139 cp138))] hF135 fun a147 hF148=>?_
    refine q_one 30 (congrArg (Value.int .i64) (i64_remN m139 64)) hF148 fun a149 hF150=>?_
    refine q_one 31 (congrArg Value.bool (cmp_nat_neq (m139 % 64) (56))) hF150 fun a151 hF152=>?_
    refine q_end ?_
    refine q_cond 31 hF152 (!decide ((m139 % 64:Nat)=56)) (fun hc153=>?_) (fun hc153=>?_)
    ·skip
     have hc153:¬ ((m139 % 64:Nat)=56):=by simpa using hc153
     refine q_skip ?_
     refine q_block 3 ?_
     refine q_reg ?_
     refine q_run 1 [(32,(Value.slice A137 m139 cp138))] hF152 fun a154 hF155=>?_
     refine r_at (q_lit tU8 33 23 5 1 (#[(0,(Operand.const (Value.int IntKind.u8 0)))]) hF155 s134 [0] [(bv 0)] ⟨_,_,rfl,rfl,rfl⟩ (fun o e=>by simp only[execOp,e];kernel_rfl) ?_)
     intro a156 s157 w158 g159 hg160 st161 hO162 hF163
     have hz164:=hS136.size
     have hS165:=hS136.then st161
     have hO166:Own tU8 5 w.heap.size s157 w158 (Value.slice (some ⟨g159,0,none⟩) 1 1) [0]:=(hO162.le (by omega:w.heap.size≤_))
     have ne168:=hO162.gb (by have:=h144.lt;omega:b6<_)
     have ne169:=hO162.gg hO145 (by omega)
     have h170:=(hO145.step' st161)
     have h171:=(h144.step' st161)
     have hz181:=hS165.size
     have hb180:(((ps.take k1).flatten++[128])++List.replicate (k2) 0).length+([0]:List _).length≤1000000:=(by have h8:=padN_lt ((ps.take k1).flatten).length;have h7:=hfl k1;simp only[List.length_append,List.length_cons,List.length_nil,List.length_replicate,eightTo_len] at *;omega)
     refine r_at (q_app tU8 S23 34 (Operand.tmp 32) (Operand.tmp 33) hF163 h170 hO166.rd (app_small hb180 (by decide)) (by omega) hz181 ?_)
     intro a172 s173 w174 v175 st176 hO177 hn178 hF179
     obtain⟨A184,m187,c185,rfl,hl186⟩:=hO177.formL
     have hS188:=hS165.and st176 (fun b e=>h170.ge e)
     have ne190:¬ Value.ownBlock (Value.slice A184 m187 c185)=some b6:=fun e=>ne141 (hn178 _ h171.lt e)
     refine q_run 1 [(3,(Value.slice A184 m187 c185))] hF179 fun a191 hF192=>?_
     refine q_end ?_
     have h193:=(h171.step st176 (fun e=>ne141 e))
     have hF194:=hF192.keep [2,3,6] [(2,(Value.pointer (some ⟨b6,0,none⟩))),(3,(Value.slice A184 m187 c185)),(6,(uv ((ofI ((m24:Nat):Int))*8)))] (by kernel_rfl)
     exact⟨k2+1,⟨s173,A184,c185,m187,hF194,hS188,h193,(hO177.cast (by first | rfl | omega | (simp only[List.length_append,List.length_cons,List.length_nil,List.length_map,outTo_len,List.length_set,List.length_replicate,eight_len,eightTo_len] at *;omega)) (by exact(rep_step _ _))),(s2_lt hk2 hlnX hc153),ne190⟩,(by have:=s2_lt hk2 hlnX hc153;omega)⟩
    ·skip
     have hc153:((m139 % 64:Nat)=56):=by simpa using hc153
     refine q_exit 2 ?_
     refine q_seq ?_
     refine q_seq ?_
     refine q_reg ?_
     refine q_run 1 [(7,(Value.int .i64 ((56:Nat):Int)))] hF152 fun a195 hF196=>?_
     refine q_end ?_
     refine q_block 4 ?_
     refine q_loop (fun(k3:Nat) a197 w198=>∃(s199:Nat→Nat) (A202:Option Addr) (cp203:Nat) (m204:Nat),Fr a197 71 [(2,(Value.pointer (some ⟨b6,0,none⟩))),(3,(Value.slice A202 m204 cp203)),(6,(uv ((ofI ((m24:Nat):Int))*8))),(7,(Value.int .i64 (56 - 8*((k3:Nat):Int))))]∧Stp noM σ w s199 w198∧Bx s199 w198 b6 ((List.replicate 32 (0:UInt8)).map bv) 29∧Own tU8 5 w.heap.size s199 w198 (Value.slice A202 m204 cp203) ((((ps.take k1).flatten++[128])++List.replicate k2 0)++eightTo ((ofI ((m24:Nat):Int))*8) (k3))∧k3≤8∧¬ Value.ownBlock (Value.slice A202 m204 cp203)=some b6) (fun k3=>8 - k3) 0 ?_ ?_
     ·skip
      have hF207:=hF196.set 7 (Value.int .i64 ((56:Nat):Int)) (Value.int .i64 (56 - 8*((0:Nat):Int))) (by kernel_rfl) (congrArg (Value.int .i64) (by omega))
      have hF208:=hF207.keep [2,3,6,7] [(2,(Value.pointer (some ⟨b6,0,none⟩))),(3,(Value.slice A137 m139 cp138)),(6,(uv ((ofI ((m24:Nat):Int))*8))),(7,(Value.int .i64 (56 - 8*((0:Nat):Int))))] (by kernel_rfl)
      exact⟨s134,A137,cp138,m139,hF208,hS136,h144,(hO145.cast (by first | rfl | omega | (simp only[List.length_append,List.length_cons,List.length_nil,List.length_map,outTo_len,List.length_set,List.length_replicate,eight_len,eightTo_len] at *;omega)) (by simp[eightTo])),(by omega),ne141⟩
     ·rintro k3 a197 w198 ⟨s199,A202,cp203,m204,hF200,hS201,h209,hO210,hk3,ne206⟩
      have hln211:=hO210.ln
      refine q_seq ?_
      refine q_seq ?_
      refine q_reg ?_
      refine q_run 1 [(35,(Value.int .i64 (56 - 8*((k3:Nat):Int))))] hF200 fun a212 hF213=>?_
      refine q_one 36 (congrArg Value.bool (cmp_int_geq ((56 - 8*((k3:Nat):Int):Int)) (((0:Nat):Int)))) hF213 fun a214 hF215=>?_
      refine q_end ?_
      refine q_cond 36 hF215 (decide ((56 - 8*((k3:Nat):Int):Int)≥((0:Nat):Int))) (fun hc216=>?_) (fun hc216=>?_)
      ·skip
       have hc216:=of_decide_eq_true hc216
       refine q_skip ?_
       refine q_seq ?_
       refine q_block 5 ?_
       refine q_reg ?_
       refine q_run 3 [(41,(Value.int .i64 (56 - 8*((k3:Nat):Int)))),(40,(uv ((ofI ((m24:Nat):Int))*8))),(39,(Value.slice A202 m204 cp203))] hF215 fun a217 hF218=>?_
       refine r_at (q_val 42 (Op.binOp BinOp.shr 30 (Operand.tmp 40) (Operand.tmp 41) 3) hF218 (uv (((ofI ((m24:Nat):Int))*8) >>> (56 - 8*(k3)).toUInt64)) (exec_shr (n:=(ofI ((m24:Nat):Int))*8) (k:=.i64) (s:=(56 - 8*((k3:Nat):Int):Int)) (by kernel_rfl) (by kernel_rfl) (by omega) (by omega) (56 - 8*(k3)) (by omega)) ?_)
       intro a219 hF220
       refine q_one 43 (congrArg (Value.int .u8) (u64_u8 (((ofI ((m24:Nat):Int))*8) >>> (56 - 8*(k3)).toUInt64))) hF220 fun a221 hF222=>?_
       refine r_at (q_lit tU8 44 23 5 1 (#[(0,(Operand.tmp 43))]) hF222 s199 [(((ofI ((m24:Nat):Int))*8) >>> (56 - 8*(k3)).toUInt64).toUInt8] [(bv ((((ofI ((m24:Nat):Int))*8) >>> (56 - 8*(k3)).toUInt64).toUInt8))] ⟨_,_,rfl,rfl,rfl⟩ (fun o e=>by simp only[execOp,e];kernel_rfl) ?_)
       intro a223 s224 w225 g226 hg227 st228 hO229 hF230
       have hz231:=hS201.size
       have hS232:=hS201.then st228
       have hO233:Own tU8 5 w.heap.size s224 w225 (Value.slice (some ⟨g226,0,none⟩) 1 1) [(((ofI ((m24:Nat):Int))*8) >>> (56 - 8*(k3)).toUInt64).toUInt8]:=(hO229.le (by omega:w.heap.size≤_))
       have ne235:=hO229.gb (by have:=h209.lt;omega:b6<_)
       have ne236:=hO229.gg hO210 (by omega)
       have h237:=(hO210.step' st228)
       have h238:=(h209.step' st228)
       have hz248:=hS232.size
       have hb247:((((ps.take k1).flatten++[128])++List.replicate k2 0)++eightTo ((ofI ((m24:Nat):Int))*8) (k3)).length+([(((ofI ((m24:Nat):Int))*8) >>> (56 - 8*(k3)).toUInt64).toUInt8]:List _).length≤1000000:=(by have h8:=padN_lt ((ps.take k1).flatten).length;have h7:=hfl k1;simp only[List.length_append,List.length_cons,List.length_nil,List.length_replicate,eightTo_len] at *;omega)
       refine r_at (q_app tU8 S23 45 (Operand.tmp 39) (Operand.tmp 44) hF230 h237 hO233.rd (app_small hb247 (by decide)) (by omega) hz248 ?_)
       intro a239 s240 w241 v242 st243 hO244 hn245 hF246
       obtain⟨A251,m254,c252,rfl,hl253⟩:=hO244.formL
       have hS255:=hS232.and st243 (fun b e=>h237.ge e)
       have ne257:¬ Value.ownBlock (Value.slice A251 m254 c252)=some b6:=fun e=>ne206 (hn245 _ h238.lt e)
       refine q_run 1 [(3,(Value.slice A251 m254 c252))] hF246 fun a258 hF259=>?_
       refine q_end ?_
       refine q_reg ?_
       refine q_run 1 [(37,(Value.int .i64 (56 - 8*((k3:Nat):Int))))] hF259 fun a260 hF261=>?_
       refine q_one 38 (v0:=(Value.int .i64 (IntKind.i64.wrap ((56 - 8*((k3:Nat):Int):Int) - ((8:Nat):Int))))) (v:=(Value.int .i64 ((56 - 8*((k3:Nat):Int):Int) - ((8:Nat):Int)))) (congrArg (Value.int .i64) (i64_eq (by omega) (by omega) (by omega))) hF261 fun a262 hF263=>?_
       refine q_run 1 [(7,(Value.int .i64 ((56 - 8*((k3:Nat):Int):Int) - ((8:Nat):Int))))] hF263 fun a264 hF265=>?_
       refine q_end ?_
       have h266:=(h238.step st243 (fun e=>ne206 e))
       have hF267:=hF265.set 7 (Value.int .i64 ((56 - 8*((k3:Nat):Int):Int) - ((8:Nat):Int))) (Value.int .i64 (56 - 8*((k3+1:Nat):Int))) (by kernel_rfl) (congrArg (Value.int .i64) (by omega))
       have hF268:=hF267.keep [2,3,6,7] [(2,(Value.pointer (some ⟨b6,0,none⟩))),(3,(Value.slice A251 m254 c252)),(6,(uv ((ofI ((m24:Nat):Int))*8))),(7,(Value.int .i64 (56 - 8*((k3+1:Nat):Int))))] (by kernel_rfl)
       exact⟨k3+1,⟨s240,A251,c252,m254,hF268,hS255,h266,(hO244.cast (by first | rfl | omega | (simp only[List.length_append,List.length_cons,List.length_nil,List.length_map,outTo_len,List.length_set,List.length_replicate,eight_len,eightTo_len] at *;omega)) (by exact(e3_step (((ps.take k1).flatten++[128])++List.replicate k2 0) ((ofI ((m24:Nat):Int))*8) k3))),(by omega),ne257⟩,by omega⟩
      ·skip
       have hc216:=of_decide_eq_false hc216
       refine q_exit 4 ?_
       refine q_seq ?_
       refine q_reg ?_
       refine q_run 1 [(46,(Value.agg (([1779033703,3144134277,1013904242,2773480762,1359893119,2600822924,528734635,1541459225]:List UInt32).map wv).toArray))] hF215 fun a269 hF270=>?_
       refine r_at (q_new 8 (Op.alloc 153) hF270 s199 (([0,0,0,0,0,0,0,0]:List UInt32).map wv) 153 (exec_alloc (([0,0,0,0,0,0,0,0]:List UInt32).map wv) (fun _=>.inl (by kernel_rfl))) ?_)
       intro a271 s272 w273 b274 hb275 st276 hB277 hF278
       have hz279:=hS201.size
       have ne280:=h209.nl hb275
       have ne281:=hO210.nb hb275
       have hS282:=hS201.then st276
       refine r_at (q_store (Operand.tmp 8) (Operand.tmp 46) hF278 hB277 0 (([1779033703,3144134277,1013904242,2773480762,1359893119,2600822924,528734635,1541459225]:List UInt32).map wv) 8 L153 ?_)
       intro a283 w284 st285 hB286 hF287
       have hS288:=hS282.and st285 (fun b e=>by subst e;omega)
       refine q_end ?_
       refine q_seq ?_
       refine q_block 6 ?_
       have hk3e:k3=8:=by omega
       have hk2e:=s2_eq hk2 hlnX (by simpa using hc153)
       have h289:=((hO210.step' st276).step st285 (fun g hg e=>ne281 (by subst e;exact hg)))
       obtain⟨Mg,hMg⟩:∃ Mg:List UInt8,Mg=((((ps.take k1).flatten++[128])++List.replicate k2 0)++eightTo ((ofI ((m24:Nat):Int))*8) k3):=⟨_,rfl⟩
       have hoM:=h289.rd
       rw[← hMg] at hoM
       have hlnM:=hoM.ln
       have hmod:Mg.length % 64=0:=by rw[hMg,List.length_append,s2_len,eightTo_len];have:=pad_end ((ps.take k1).flatten).length;rw[← hk2e] at this;omega
       have h295:=((h209.step' st276).step st285 (fun e=>absurd e (by omega)))
       refine q_loop (fun(k4:Nat) a290 w291=>∃(s292:Nat→Nat) (A9:Option Addr) (c9:Nat) (n9:Nat),Fr a290 71 [(2,(Value.pointer (some ⟨b6,0,none⟩))),(3,(Value.slice A9 n9 c9)),(8,(Value.pointer (some ⟨b274,0,none⟩)))]∧Stp noM σ w s292 w291∧Bx s292 w291 b6 ((List.replicate 32 (0:UInt8)).map bv) 29∧Rd tU8 s292 w291 (Value.slice A9 n9 c9) (Mg.drop (64*(k4)))∧Bx s292 w291 b274 (([(blocksTo Mg (k4)).a,(blocksTo Mg (k4)).b,(blocksTo Mg (k4)).c,(blocksTo Mg (k4)).d,(blocksTo Mg (k4)).e,(blocksTo Mg (k4)).f,(blocksTo Mg (k4)).g,(blocksTo Mg (k4)).h]:List UInt32).map wv) 153∧n9=Mg.length - 64*(k4)∧64*(k4)≤Mg.length) (fun k4=>Mg.length - 64*k4) 0 ?_ ?_
       ·skip
        have hF296:=hF287.keep [2,3,8] [(2,(Value.pointer (some ⟨b6,0,none⟩))),(3,(Value.slice A202 m204 cp203)),(8,(Value.pointer (some ⟨b274,0,none⟩)))] (by kernel_rfl)
        exact⟨s272,A202,cp203,m204,hF296,hS288,h295,(by rw[Nat.mul_zero,List.drop_zero];exact hoM),hB286,(by omega),(by omega)⟩
       ·rintro k4 a290 w291 ⟨s292,A9,c9,n9,hF293,hS294,h297,h298,h299,hn9,hk4⟩
        refine q_seq ?_
        refine q_seq ?_
        refine q_reg ?_
        refine q_run 2 [(48,(Value.int .i64 ((n9:Nat):Int))),(47,(Value.slice A9 n9 c9))] hF293 fun a300 hF301=>?_
        refine q_one 49 (congrArg Value.bool (cmp_nat_gtr (n9) (0))) hF301 fun a302 hF303=>?_
        refine q_end ?_
        refine q_cond 49 hF303 (decide ((n9:Nat)>0)) (fun hc304=>?_) (fun hc304=>?_)
        ·skip
         have hc304:=of_decide_eq_true hc304
         refine q_skip ?_
         refine q_seq ?_
         refine q_block 7 ?_
         refine q_reg ?_
         refine q_run 1 [(52,(Value.slice A9 n9 c9))] hF303 fun a305 hF306=>?_
         have h307:=hg.step hS294
         refine r_at (q_call (some 53) (#[(Operand.tmp 8),(Operand.tmp 52)]) (#[155,23]) hF306 C71 [(Value.pointer (some ⟨b274,0,none⟩)),(Value.slice A9 n9 c9)] (block_calls s292 w291  (s:=(blocksTo Mg (k4))) h299 h298 (by rw[List.length_drop];omega) h307) ?_)
         intro a308 s309 w310 v311 st312 hP313 hF314
         have hz315:=hS294.size
         have hS316:=hS294.and st312 (fun b e=>by subst e;omega)
         obtain⟨_,hB317⟩:=hP313
         refine q_end ?_
         refine q_reg ?_
         refine q_run 1 [(50,(Value.slice A9 n9 c9))] hF314 fun a318 hF319=>?_
         have h320:=(h298.step st312)
         have hpq321:64≤((Mg.drop (64*(k4))).length):=(by have hq:=h320.ln;first | omega | (simp only[List.length_append,List.length_cons,List.length_nil,List.length_map,outTo_len,List.length_set,List.length_replicate,eight_len,eightTo_len] at *;omega))
         have hq322:((Mg.drop (64*(k4))).length)≤(Mg.drop (64*(k4))).length:=(by have hq:=h320.ln;first | omega | (simp only[List.length_append,List.length_cons,List.length_nil,List.length_map,outTo_len,List.length_set,List.length_replicate,eight_len,eightTo_len] at *;omega))
         have hr323:=Rd.cut h320 64 ((Mg.drop (64*(k4))).length) hpq321 hq322 c9 (by have:=h320.form;obtain⟨_,_,e,h⟩:=this;injection e with _ _ e;omega) (Nat.le_refl _)
         obtain⟨A324,hA326⟩:∃ A,A=(if c9=64 then A9 else A9.map (·.add (64*1))):=⟨_,rfl⟩
         obtain⟨c325,hc327⟩:∃ c,c=c9 - 64:=⟨_,rfl⟩
         have hr323:Rd tU8 s309 w310 (Value.slice A324 (((Mg.drop (64*(k4))).length) - 64) c325) (((Mg.drop (64*(k4))).take ((Mg.drop (64*(k4))).length)).drop 64):=by rw[hA326,hc327];exact hr323
         refine r_at (q_val 51 (Op.slice 23 (Operand.tmp 50) (some (Operand.const (Value.int IntKind.i64 64))) none none) hF319 (Value.slice A324 (((Mg.drop (64*(k4))).length) - 64) c325) (by rw[hA326,hc327];exact exec_slice (T:=tU8) h320 (by kernel_rfl) U23 L5.s 64 ((Mg.drop (64*(k4))).length) (.inl rfl) (.inr ⟨rfl,rfl⟩) hpq321 hq322) ?_)
         intro a328 hF329
         refine q_run 1 [(3,(Value.slice A324 (((Mg.drop (64*(k4))).length) - 64) c325))] hF329 fun a330 hF331=>?_
         refine q_end ?_
         have h332:=(h297.step st312 (fun e=>absurd e (by omega)))
         have hF333:=hF331.keep [2,3,8] [(2,(Value.pointer (some ⟨b6,0,none⟩))),(3,(Value.slice A324 (((Mg.drop (64*(k4))).length) - 64) c325)),(8,(Value.pointer (some ⟨b274,0,none⟩)))] (by kernel_rfl)
         exact⟨k4+1,⟨s309,A324,c325,((Mg.drop (64*(k4))).length) - 64,hF333,hS316,h332,(by rw[← drop_step _ k4 _ (List.length_drop ..)];exact hr323),hB317,(by rw[List.length_drop];omega),(by omega)⟩,(by omega)⟩
        ·skip
         have hc304:=of_decide_eq_false hc304
         refine q_exit 6 ?_
         refine q_seq ?_
         refine q_reg ?_
         refine r_at (q_new 9 (Op.alloc 29) hF303 s292 ((List.replicate 32 (0:UInt8)).map bv) 29 (exec_alloc ((List.replicate 32 (0:UInt8)).map bv) (fun _=>.inl (by kernel_rfl))) ?_)
         intro a334 s335 w336 b337 hb338 st339 hB340 hF341
         have hz342:=hS294.size
         have ne343:=h297.nl hb338
         have ne344:=h299.nl hb338
         have hS345:=hS294.then st339
         refine q_end ?_
         refine q_seq ?_
         refine q_seq ?_
         refine q_reg ?_
         refine q_run 1 [(54,(Value.int .i64 ((0:Nat):Int)))] hF341 fun a346 hF347=>?_
         refine q_end ?_
         refine q_block 8 ?_
         have h353:=(h297.step' st339)
         have h354:=(h299.step' st339)
         refine q_loop (fun(k5:Nat) a348 w349=>∃(s350:Nat→Nat),Fr a348 71 [(2,(Value.pointer (some ⟨b6,0,none⟩))),(8,(Value.pointer (some ⟨b274,0,none⟩))),(9,(Value.pointer (some ⟨b337,0,none⟩))),(54,(Value.int .i64 ((k5:Nat):Int)))]∧Stp noM σ w s350 w349∧Bx s350 w349 b6 ((List.replicate 32 (0:UInt8)).map bv) 29∧Bx s350 w349 b274 (([(blocksTo Mg (k4)).a,(blocksTo Mg (k4)).b,(blocksTo Mg (k4)).c,(blocksTo Mg (k4)).d,(blocksTo Mg (k4)).e,(blocksTo Mg (k4)).f,(blocksTo Mg (k4)).g,(blocksTo Mg (k4)).h]:List UInt32).map wv) 153∧Bx s350 w349 b337 ((outTo ([(blocksTo Mg k4).a,(blocksTo Mg k4).b,(blocksTo Mg k4).c,(blocksTo Mg k4).d,(blocksTo Mg k4).e,(blocksTo Mg k4).f,(blocksTo Mg k4).g,(blocksTo Mg k4).h]:List UInt32) (k5)).map bv) 29∧k5≤32) (fun k5=>32 - k5) 0 ?_ ?_
         ·skip
          have hF355:=hF347.keep [2,8,9,54] [(2,(Value.pointer (some ⟨b6,0,none⟩))),(8,(Value.pointer (some ⟨b274,0,none⟩))),(9,(Value.pointer (some ⟨b337,0,none⟩))),(54,(Value.int .i64 ((0:Nat):Int)))] (by kernel_rfl)
          exact⟨s335,hF355,hS345,h353,h354,hB340,(by omega)⟩
         ·rintro k5 a348 w349 ⟨s350,hF351,hS352,h356,h357,h358,hk5⟩
          refine q_seq ?_
          refine q_reg ?_
          refine q_one 55 (congrArg Value.bool (cmp_nat_lss (k5) (32))) hF351 fun a359 hF360=>?_
          refine q_end ?_
          refine q_seq ?_
          refine q_cond 55 hF360 (decide ((k5:Nat)<32)) (fun hc361=>?_) (fun hc361=>?_)
          ·skip
           have hc361:=of_decide_eq_true hc361
           refine q_skip ?_
           refine q_seq ?_
           refine q_block 9 ?_
           refine q_seq ?_
           refine q_reg ?_
           refine q_run 2 [(10,(Value.int .i64 ((k5:Nat):Int))),(56,(Value.int .i64 ((k5:Nat):Int)))] hF360 fun a362 hF363=>?_
           refine q_end ?_
           refine q_reg ?_
           refine q_run 2 [(58,(Value.int .i64 ((k5:Nat):Int))),(57,(Value.int .i64 ((k5:Nat):Int)))] hF363 fun a364 hF365=>?_
           refine q_one 59 (congrArg (Value.int .i64) (i64_quoN k5 4 (by omega))) hF365 fun a366 hF367=>?_
           refine r_at (q_val 60 (Op.indexAddr 153 (Operand.tmp 8) (Operand.tmp 59)) hF367 (Value.pointer (some ⟨b274,k5 / 4,none⟩)) (exec_indexP1 (N:=8) (by kernel_rfl) (kd:=.i64) (k5 / 4) (by kernel_rfl) (by omega) U153 L152.s) ?_)
           intro a368 hF369
           have hj370:k5 / 4<(([(blocksTo Mg (k4)).a,(blocksTo Mg (k4)).b,(blocksTo Mg (k4)).c,(blocksTo Mg (k4)).d,(blocksTo Mg (k4)).e,(blocksTo Mg (k4)).f,(blocksTo Mg (k4)).g,(blocksTo Mg (k4)).h]:List UInt32)).length:=(by first | omega | (simp only[List.length_append,List.length_cons,List.length_nil,List.length_map,outTo_len,List.length_set,List.length_replicate,eight_len,eightTo_len];omega) | simp)
           refine r_at (q_val 61 (Op.load 152 (Operand.tmp 60)) hF369 (wv (([(blocksTo Mg (k4)).a,(blocksTo Mg (k4)).b,(blocksTo Mg (k4)).c,(blocksTo Mg (k4)).d,(blocksTo Mg (k4)).e,(blocksTo Mg (k4)).f,(blocksTo Mg (k4)).g,(blocksTo Mg (k4)).h]:List UInt32).getD (k5 / 4) 0)) (exec_load (cs:=[wv (([(blocksTo Mg (k4)).a,(blocksTo Mg (k4)).b,(blocksTo Mg (k4)).c,(blocksTo Mg (k4)).d,(blocksTo Mg (k4)).e,(blocksTo Mg (k4)).f,(blocksTo Mg (k4)).g,(blocksTo Mg (k4)).h]:List UInt32).getD (k5 / 4) 0)]) L152 (.inr rfl) (by kernel_rfl) (Bx.elemG h357 (0:UInt32) (k5 / 4) hj370)) ?_)
           intro a371 hF372
           refine q_run 1 [(62,(Value.int .i64 ((k5:Nat):Int)))] hF372 fun a373 hF374=>?_
           refine q_one 63 (congrArg (Value.int .i64) (i64_remN k5 4)) hF374 fun a375 hF376=>?_
           refine q_one 64 (v0:=(Value.int .i64 (IntKind.i64.wrap (((k5 % 4:Nat):Int)*((8:Nat):Int))))) (v:=(Value.int .i64 (((k5 % 4)*8:Nat):Int))) (congrArg (Value.int .i64) (i64_eq (by omega) (by omega) (by omega))) hF376 fun a377 hF378=>?_
           refine q_one 65 (v0:=(Value.int .i64 (IntKind.i64.wrap (((24:Nat):Int) - (((k5 % 4)*8:Nat):Int))))) (v:=(Value.int .i64 ((24 - ((k5 % 4)*8):Nat):Int))) (congrArg (Value.int .i64) (i64_eq (by omega) (by omega) (by omega))) hF378 fun a379 hF380=>?_
           refine r_at (q_val 66 (Op.binOp BinOp.shr 152 (Operand.tmp 61) (Operand.tmp 65) 3) hF380 (wv ((([(blocksTo Mg (k4)).a,(blocksTo Mg (k4)).b,(blocksTo Mg (k4)).c,(blocksTo Mg (k4)).d,(blocksTo Mg (k4)).e,(blocksTo Mg (k4)).f,(blocksTo Mg (k4)).g,(blocksTo Mg (k4)).h]:List UInt32).getD (k5 / 4) 0) >>> (24 - ((k5 % 4)*8)).toUInt32)) (exec_shr32 (n:=([(blocksTo Mg (k4)).a,(blocksTo Mg (k4)).b,(blocksTo Mg (k4)).c,(blocksTo Mg (k4)).d,(blocksTo Mg (k4)).e,(blocksTo Mg (k4)).f,(blocksTo Mg (k4)).g,(blocksTo Mg (k4)).h]:List UInt32).getD (k5 / 4) 0) (k:=.i64) (s:=((24 - ((k5 % 4)*8):Nat):Int)) (by kernel_rfl) (by kernel_rfl) (by omega) (by omega) (24 - ((k5 % 4)*8)) rfl) ?_)
           intro a381 hF382
           refine q_one 67 (congrArg (Value.int .u8) (u32_u8 ((([(blocksTo Mg (k4)).a,(blocksTo Mg (k4)).b,(blocksTo Mg (k4)).c,(blocksTo Mg (k4)).d,(blocksTo Mg (k4)).e,(blocksTo Mg (k4)).f,(blocksTo Mg (k4)).g,(blocksTo Mg (k4)).h]:List UInt32).getD (k5 / 4) 0) >>> (24 - ((k5 % 4)*8)).toUInt32))) hF382 fun a383 hF384=>?_
           refine r_at (q_val 68 (Op.indexAddr 29 (Operand.tmp 9) (Operand.tmp 57)) hF384 (Value.pointer (some ⟨b337,k5,none⟩)) (exec_indexP1 (N:=32) (by kernel_rfl) (kd:=.i64) k5 (by kernel_rfl) (by omega) U29 L5.s) ?_)
           intro a385 hF386
           have hj392:k5<(outTo ([(blocksTo Mg k4).a,(blocksTo Mg k4).b,(blocksTo Mg k4).c,(blocksTo Mg k4).d,(blocksTo Mg k4).e,(blocksTo Mg k4).f,(blocksTo Mg k4).g,(blocksTo Mg k4).h]:List UInt32) (k5)).length:=(by first | omega | (simp only[List.length_append,List.length_cons,List.length_nil,List.length_map,outTo_len,List.length_set,List.length_replicate,eight_len,eightTo_len];omega) | simp)
           refine r_at (q_storeA bv (Operand.tmp 68) (Operand.tmp 67) hF386 h358 k5 hj392 (((([(blocksTo Mg (k4)).a,(blocksTo Mg (k4)).b,(blocksTo Mg (k4)).c,(blocksTo Mg (k4)).d,(blocksTo Mg (k4)).e,(blocksTo Mg (k4)).f,(blocksTo Mg (k4)).g,(blocksTo Mg (k4)).h]:List UInt32).getD (k5 / 4) 0) >>> (24 - ((k5 % 4)*8)).toUInt32).toUInt8) L5 ?_)
           intro a387 w388 st389 hB390 hF391
           have hS393:=hS352.and st389 (fun b e=>by subst e;omega)
           refine q_end ?_
           refine q_reg ?_
           refine q_one 69 (v0:=(Value.int .i64 (IntKind.i64.wrap (((k5:Nat):Int)+((1:Nat):Int))))) (v:=(Value.int .i64 ((k5+1:Nat):Int))) (congrArg (Value.int .i64) (i64_eq (by omega) (by omega) (by omega))) hF391 fun a394 hF395=>?_
           refine q_run 1 [(54,(Value.int .i64 ((k5+1:Nat):Int)))] hF395 fun a396 hF397=>?_
           refine q_end ?_
           have h398:=(h356.step st389 (fun e=>absurd e (by omega)))
           have h399:=(h357.step st389 (fun e=>absurd e (by omega)))
           have hF400:=hF397.keep [2,8,9,54] [(2,(Value.pointer (some ⟨b6,0,none⟩))),(8,(Value.pointer (some ⟨b274,0,none⟩))),(9,(Value.pointer (some ⟨b337,0,none⟩))),(54,(Value.int .i64 ((k5+1:Nat):Int)))] (by kernel_rfl)
           exact⟨k5+1,⟨s350,hF400,hS393,h398,h399,hB390,(by omega)⟩,by omega⟩
          ·skip
           have hc361:=of_decide_eq_false hc361
           refine q_exit 8 ?_
           refine q_seq ?_
           refine q_reg ?_
           refine r_at (q_val 70 (Op.load 29 (Operand.tmp 9)) hF360 (Value.agg ((outTo ([(blocksTo Mg k4).a,(blocksTo Mg k4).b,(blocksTo Mg k4).c,(blocksTo Mg k4).d,(blocksTo Mg k4).e,(blocksTo Mg k4).f,(blocksTo Mg k4).g,(blocksTo Mg k4).h]:List UInt32) (k5)).map bv).toArray) (exec_loadAll bv L29 h358 (by first | rfl | simp only[List.length_append,List.length_cons,List.length_nil,List.length_map,outTo_len,List.length_set,List.length_replicate,eight_len,eightTo_len]) (by kernel_rfl)) ?_)
           intro a401 hF402
           refine r_at (q_storeAll bv (Operand.tmp 2) (Operand.tmp 70) hF402 h356 (outTo ([(blocksTo Mg k4).a,(blocksTo Mg k4).b,(blocksTo Mg k4).c,(blocksTo Mg k4).d,(blocksTo Mg k4).e,(blocksTo Mg k4).f,(blocksTo Mg k4).g,(blocksTo Mg k4).h]:List UInt32) (k5)) 32 L29 (by simp only[List.length_append,List.length_cons,List.length_nil,List.length_map,outTo_len,List.length_set,List.length_replicate,eight_len,eightTo_len]) (by simp) (fun _=>rfl) ?_)
           intro a403 w404 st405 hB406 hF407
           have hS408:=hS352.and st405 (fun b e=>by subst e;omega)
           refine q_end ?_
           refine q_ret ?_
           try dsimp only[Exit.then,Exit.inBlock]
           refine f_ret hF407 [.cell 2 29] (by kernel_rfl) [.agg ((outTo ([(blocksTo Mg k4).a,(blocksTo Mg k4).b,(blocksTo Mg k4).c,(blocksTo Mg k4).d,(blocksTo Mg k4).e,(blocksTo Mg k4).f,(blocksTo Mg k4).g,(blocksTo Mg k4).h]:List UInt32) (k5)).map bv).toArray] (.cell (hF407.h 2 _ (by kernel_rfl)) (run_loadVar_cs (cs:=(outTo ([(blocksTo Mg k4).a,(blocksTo Mg k4).b,(blocksTo Mg k4).c,(blocksTo Mg k4).d,(blocksTo Mg k4).e,(blocksTo Mg k4).f,(blocksTo Mg k4).g,(blocksTo Mg k4).h]:List UInt32) (k5)).map bv) (by rw[List.length_map,outTo_len];exact L29) (.inl rfl) (fun j v hv=>by rw[Nat.zero_add,hB406.cell];exact hv)) .nil) _ rfl s350 hS408 ?_
           subst hMg
           have hN:(ofI ((m24:Nat):Int))*8=UInt64.ofNat ((ps.take k1).flatten).length*8:=by rw[ofI_nat _ (by omega)];congr 2;omega
           have e9:=sum_end hk2e hk3e hN (k4:=k4) (k5:=k5) (by omega) (by omega) (by omega) _ rfl
           have e1:k1=ps.length:=by omega
           rw[e9]
           subst e1
           rw[List.take_length]
           rfl
end Go.Proofs.YtgpaifnijnaebaaDoor.E
set_option linter.unusedVariables false
set_option linter.unusedSimpArgs false
set_option maxRecDepth 100000
set_option maxHeartbeats 2000000
namespace Go.Proofs.YtgpaifnijnaebaaDoor.E
open Go Go.RowKit
open Go.Proofs
theorem bytesEq_calls (σ:Nat→Nat) (w:World) {v0 v1:Value} {la lb:List UInt8} (h0:Rd tU8 σ w v0 la) (h1:Rd tU8 σ w v1 lb) :
  Ctr Tryd.prog 34 [v0,v1] noM σ w (fun σ' w' v=>v=.bool (decide (la=lb))):=by
 obtain⟨A0,c0,rfl,hl0⟩:=h0.form
 obtain⟨A1,c1,rfl,hl1⟩:=h1.form
 refine ctr_enter Tryd.func34 c34 (by kernel_rfl) 10 (by kernel_rfl) (Nat.le_of_ble_eq_true (by kernel_rfl)) [(0,(Value.slice A0 la.length c0)),(1,(Value.slice A1 lb.length c1))] (by kernel_rfl) ?_
 intro a hF1
 have hS2:=Stp.refl noM σ w
 refine q_seq ?_
 refine q_reg ?_
 refine q_run 1 [(4,(Value.bool false))] hF1 fun a3 hF4=>?_
 refine q_end ?_
 refine q_seq ?_
 refine q_reg ?_
 refine q_run 1 [(5,(Value.slice A0 la.length c0))] hF4 fun a5 hF6=>?_
 refine r_at (q_val 6 (Op.convert 23 9 (Operand.tmp 5)) hF6 (sv la) (exec_b2s U23 U5 U9 (by kernel_rfl) h0) ?_)
 intro a7 hF8
 refine q_run 1 [(7,(Value.slice A1 lb.length c1))] hF8 fun a9 hF10=>?_
 refine r_at (q_val 8 (Op.convert 23 9 (Operand.tmp 7)) hF10 (sv lb) (exec_b2s U23 U5 U9 (by kernel_rfl) h1) ?_)
 intro a11 hF12
 refine q_one 9 (v0:=(Value.bool ((⟨(la).toArray⟩:ByteArray).toList == (⟨(lb).toArray⟩:ByteArray).toList))) (v:=(Value.bool (decide (la=lb)))) (congrArg Value.bool (str_eql _ _)) hF12 fun a13 hF14=>?_
 refine q_run 1 [(4,(Value.bool (decide (la=lb))))] hF14 fun a15 hF16=>?_
 refine q_end ?_
 refine q_ret ?_
 try dsimp only[Exit.then,Exit.inBlock]
 refine f_ret1 hF16 4 (by kernel_rfl) (Value.bool (decide (la=lb))) (by kernel_rfl) σ hS2 ?_
 rfl
theorem rd_none {α:Type} {T:Ty α} {σ:Nat→Nat} {w:World} {xs:List α} {n c:Nat} (h:Rd T σ w (.slice none n c) xs):xs=[]:=by
  obtain⟨a,cap,e,_,_,h⟩:=h
  injection e with e1 _ _
  subst e1
  rcases h with h | ⟨b,o,cs,e2,_⟩
  · exact h
  · cases e2
theorem cloneN_calls (σ:Nat→Nat) (w:World) {la:List UInt8} {c0:Nat} (h0:Rd tU8 σ w (Value.slice none la.length c0) la) (hl:la.length≤1000000) :
  Ctr Tryd.prog 44 [(Value.slice none la.length c0)] noM σ w (fun σ' w' v=>Own tU8 5 w.heap.size σ' w' v la):=by
 refine ctr_enter Tryd.func44 c44 (by kernel_rfl) 8 (by kernel_rfl) (Nat.le_of_ble_eq_true (by kernel_rfl)) [(0,(Value.slice none la.length c0))] (by kernel_rfl) ?_
 intro a hF1
 have hS2:=Stp.refl noM σ w
 refine q_seq ?_
 refine q_reg ?_
 refine q_run 1 [(2,(Value.slice none 0 0))] hF1 fun a3 hF4=>?_
 refine q_end ?_
 refine q_seq ?_
 refine q_seq ?_
 refine q_reg ?_
 refine q_run 2 [(4,(Value.bool true)),(3,(Value.slice none la.length c0))] hF4 fun a5 hF6=>?_
 refine q_end ?_
 refine q_true 4 hF6 ?_
 refine q_seq ?_
 refine q_reg ?_
 refine q_run 1 [(2,(Value.slice none 0 0))] hF6 fun a7 hF8=>?_
 refine q_end ?_
 refine q_ret ?_
 try dsimp only[Exit.then,Exit.inBlock]
 refine f_ret1 hF8 2 (by kernel_rfl) (Value.slice none 0 0) (by kernel_rfl) σ hS2 ?_
 rw[rd_none h0]
 exact Own.nil _ _ _ _ _
theorem cloneS_calls (σ:Nat→Nat) (w:World) {ad:Addr} {la:List UInt8} {c0:Nat} (h0:Rd tU8 σ w (Value.slice (some ad) la.length c0) la) (hl:la.length≤1000000) :
  Ctr Tryd.prog 44 [(Value.slice (some ad) la.length c0)] noM σ w (fun σ' w' v=>Own tU8 5 w.heap.size σ' w' v la):=by
 refine ctr_enter Tryd.func44 c44 (by kernel_rfl) 8 (by kernel_rfl) (Nat.le_of_ble_eq_true (by kernel_rfl)) [(0,(Value.slice (some ad) la.length c0))] (by kernel_rfl) ?_
 intro a hF1
 have hS2:=Stp.refl noM σ w
 refine q_seq ?_
 refine q_reg ?_
 refine q_run 1 [(2,(Value.slice none 0 0))] hF1 fun a3 hF4=>?_
 refine q_end ?_
 refine q_seq ?_
 refine q_seq ?_
 refine q_reg ?_
 refine q_run 2 [(4,(Value.bool false)),(3,(Value.slice (some ad) la.length c0))] hF4 fun a5 hF6=>?_
 refine q_end ?_
 refine q_false 4 hF6 ?_
 refine q_skip ?_
 refine q_seq ?_
 refine q_reg ?_
 refine r_at (q_lit tU8 5 23 5 0 (#[]) hF6 σ [] [] rfl (fun o e=>by simp only[execOp,e];kernel_rfl) ?_)
 intro a7 s8 w9 g10 hg11 st12 hO13 hF14
 have hz15:=hS2.size
 have hS16:=hS2.then st12
 have hO17:Own tU8 5 w.heap.size s8 w9 (Value.slice (some ⟨g10,0,none⟩) 0 0) ([]:List UInt8):=(hO13.le (by omega:w.heap.size≤_))
 refine q_run 1 [(6,(Value.slice (some ad) la.length c0))] hF14 fun a19 hF20=>?_
 have h21:=h0.step hS16
 have hz31:=hS16.size
 have hb30:(([]:List UInt8)).length+(la:List _).length≤1000000:=(by simpa using hl)
 refine r_at (q_app tU8 S23 7 (Operand.tmp 5) (Operand.tmp 6) hF20 hO17 h21 (app_small hb30 (by decide)) (by omega) hz31 ?_)
 intro a22 s23 w24 v25 st26 hO27 hn28 hF29
 obtain⟨A34,m37,c35,rfl,hl36⟩:=hO27.formL
 have hS38:=hS16.and st26 (fun b e=>hO17.ge e)
 refine q_run 1 [(2,(Value.slice A34 m37 c35))] hF29 fun a40 hF41=>?_
 refine q_end ?_
 refine q_ret ?_
 try dsimp only[Exit.then,Exit.inBlock]
 refine f_ret1 hF41 2 (by kernel_rfl) (Value.slice A34 m37 c35) (by kernel_rfl) s23 hS38 ?_
 have h9:=hO27
 simpa using h9
theorem clone_calls (σ:Nat→Nat) (w:World) {v0:Value} {la:List UInt8} (h0:Rd tU8 σ w v0 la) (hl:la.length≤1000000):Ctr Tryd.prog 44 [v0] noM σ w (fun σ' w' v=>Own tU8 5 w.heap.size σ' w' v la):=by
  obtain⟨A0,c0,rfl,_⟩:=h0.form
  cases A0 with
  | none=>exact cloneN_calls σ w h0 hl
  | some ad=>exact cloneS_calls σ w h0 hl
theorem bytesCmp_calls (σ:Nat→Nat) (w:World) {v0 v1:Value} {la lb:List UInt8} (h0:Rd tU8 σ w v0 la) (h1:Rd tU8 σ w v1 lb) :
  Ctr Tryd.prog 43 [v0,v1] noM σ w (fun σ' w' v=>v=iv (Lib.compareBytes la lb)):=by
 obtain⟨A0,c0,rfl,hl0⟩:=h0.form
 obtain⟨A1,c1,rfl,hl1⟩:=h1.form
 refine ctr_enter Tryd.func43 c43 (by kernel_rfl) 8 (by kernel_rfl) (Nat.le_of_ble_eq_true (by kernel_rfl)) [(0,(Value.slice A0 la.length c0)),(1,(Value.slice A1 lb.length c1))] (by kernel_rfl) ?_
 intro a hF1
 have hS2:=Stp.refl noM σ w
 refine q_seq ?_
 refine q_reg ?_
 refine q_run 1 [(4,(Value.int .i64 ((0:Nat):Int)))] hF1 fun a3 hF4=>?_
 refine q_end ?_
 refine q_seq ?_
 refine q_reg ?_
 refine q_run 2 [(6,(Value.slice A1 lb.length c1)),(5,(Value.slice A0 la.length c0))] hF4 fun a5 hF6=>?_
 refine r_at (q_val 7 (Op.call (Call.mk (Callee.value (Operand.func 64)) #[(Operand.tmp 5),(Operand.tmp 6)] #[23,23])) hF6 (Value.int .i64 (Lib.compareBytes la lb)) (exec_ext [(Value.slice A0 la.length c0),(Value.slice A1 lb.length c1)] (by kernel_rfl) (run_ext (e:=Extern.BytealgCompare.compare) Tryd.func64 (by kernel_rfl) (by kernel_rfl) (by kernel_rfl) (by kernel_rfl) (run_compareB h0 h1))) ?_)
 intro a7 hF8
 refine q_run 1 [(4,(Value.int .i64 (Lib.compareBytes la lb)))] hF8 fun a9 hF10=>?_
 refine q_end ?_
 refine q_ret ?_
 try dsimp only[Exit.then,Exit.inBlock]
 refine f_ret1 hF10 4 (by kernel_rfl) (Value.int .i64 (Lib.compareBytes la lb)) (by kernel_rfl) σ hS2 ?_
 rfl
end Go.Proofs.YtgpaifnijnaebaaDoor.E
set_option linter.unusedVariables false
set_option linter.unusedSimpArgs false
set_option maxRecDepth 100000
namespace Go.Proofs.YtgpaifnijnaebaaDoor.X
open Go Go.RowKit Go.Proofs Go.Proofs.YtgpaifnijnaebaaDoor.E
theorem hk_of {l:List UInt8} (h:l.length=32):hk 32 l=l.map bv:=by
  unfold hk
  refine List.ext_getElem (by simp[h]) fun i h1 h2=>?_
  simp at h1 h2
  simp[List.getD_eq_getElem?_getD,h2]
theorem sum_ok (ps:List (List UInt8)) (hl:ps.flatten.length≤100000):FOk EN 63 ⟨[.pr wordsP,.rd 23 ps],[.n 1],Unit,fun _=>([.pr wordsP,.rd 23 ps],.a [.h 32 (sum256 ps.flatten)]),fun _=>True⟩:=by
  refine fok_val (by kernel_rfl) rfl fun ν F σ w S=>?_
  refine(sum_calls σ w (S.ent 1 _ rfl) hl (S.ent 0 _ rfl)).mono (fun _ _ h=>h) fun σ' w' v _ h=>?_
  rw[h]
  simp only[den,denC,List.append_nil,hk_of (sum256_len _)]
theorem beq_ok (a b:List UInt8):FOk EN 34 ⟨[.rd 5 a,.rd 5 b],[.n 0,.n 1],Unit,fun _=>([.rd 5 a,.rd 5 b],.b (decide (a=b))),fun _=>True⟩:=by
  refine fok_val (by kernel_rfl) rfl fun ν F σ w S=>?_
  exact(bytesEq_calls σ w (S.ent 0 _ rfl) (S.ent 1 _ rfl))
theorem bcmp_ok (a b:List UInt8):FOk EN 43 ⟨[.rd 5 a,.rd 5 b],[.n 0,.n 1],Unit,fun _=>([.rd 5 a,.rd 5 b],.i (Lib.compareBytes a b)),fun _=>True⟩:=by
  refine fok_val (by kernel_rfl) rfl fun ν F σ w S=>?_
  exact(bytesCmp_calls σ w (S.ent 0 _ rfl) (S.ent 1 _ rfl))
theorem clone_ok (a:List UInt8) (hl:a.length≤1000000):FOk EN 44 ⟨[.rd 5 a],[.n 0],Unit,fun _=>([.rd 5 a,.ow 5 a],.n 1),fun _=>True⟩ :=
  fok_own (by kernel_rfl) fun ν F σ w S=>clone_calls σ w (S.ent 0 _ rfl) hl
inductive Tr where
  | leaf (k v:List UInt8)
  | node (l r:Tr)
def z32:List UInt8:=List.replicate 32 0
def nsum (h:Int) (s:UInt64) (k v l r:List UInt8):List UInt8 :=
  if h=0 then sum256 ([0,ofI8 (k.length:Int)]++k++sum256 v) else sum256 ([1,ofI8 h]++eightTo s 8++l++r)
namespace Tr
def height:Tr→Int
  | leaf _ _=>0
  | node l r=>1+max l.height r.height
def size:Tr→UInt64
  | leaf _ _=>1
  | node l r=>l.size+r.size
def least:Tr→List UInt8
  | leaf k _=>k
  | node l _=>l.least
def key:Tr→List UInt8
  | leaf k _=>k
  | node _ r=>r.least
def hash:Tr→List UInt8
  | leaf k v=>nsum 0 1 k v z32 z32
  | node l r=>nsum (1+max l.height r.height) (l.size+r.size) r.least [] l.hash r.hash
end Tr
def lfC (k v:List UInt8) (b:Nat):List SV:=[.n b,.n (b+1),.i 0,.u 1,.h 32 z32,.h 32 z32,.h 32 (Tr.leaf k v).hash,.v (.pointer none),.v (.pointer none)]
def ndC (l r:Tr) (b:Nat):List SV:=[.n b,.v (.slice none 0 0),.i (Tr.node l r).height,.u (Tr.node l r).size,.h 32 l.hash,.h 32 r.hash,.h 32 (Tr.node l r).hash,.p (b+1) 0,.p (b+2) 0]
def ns3 (x y z:Value):NV:=fun n=>match n with | 0=>x | 1=>y | 2=>z | _=>.bool false
def At (σ:Nat→Nat) (w:World):Tr→Value→Prop
  | .leaf k v,x=>∃ b o kv vv,x=.pointer (some ⟨b,o,none⟩)∧Rd tU8 σ w kv k∧Rd tU8 σ w vv v∧Seg σ w b o (denC (ns3 kv vv (.bool false)) (lfC k v 0))
  | .node l r,x=>∃ b o kv lv rv,x=.pointer (some ⟨b,o,none⟩)∧Rd tU8 σ w kv (Tr.node l r).key∧At σ w l lv∧At σ w r rv∧Seg σ w b o (denC (ns3 kv lv rv) (ndC l r 0))
theorem At.ptr {σ:Nat→Nat} {w:World} {t:Tr} {x:Value} (h:At σ w t x):∃ b o,x=.pointer (some ⟨b,o,none⟩):=by
  cases t with
  | leaf k v=>obtain⟨b,o,_,_,e,_⟩:=h;exact⟨b,o,e⟩
  | node l r=>obtain⟨b,o,_,_,_,e,_⟩:=h;exact⟨b,o,e⟩
theorem At.step {M:Nat→Prop} {σ σ':Nat→Nat} {w w':World} (st:Stp M σ w σ' w'):∀ {t:Tr} {x:Value},At σ w t x→At σ' w' t x
  | .leaf _ _,_,⟨b,o,kv,vv,e,h1,h2,h3⟩=>⟨b,o,kv,vv,e,h1.step st,h2.step st,h3.step st⟩
  | .node l r,_,⟨b,o,kv,lv,rv,e,h1,h2,h3,h4⟩=>⟨b,o,kv,lv,rv,e,h1.step st,At.step st h2,At.step st h3,h4.step st⟩
def PT (t:Tr):PP:=⟨fun σ w v=>At σ w t v,fun st h=>h.step st⟩
theorem rd_one {σ:Nat→Nat} {w:World} {v:Value} {xs:List UInt8} (h:Rd tU8 σ w v xs):v.oneCell'=true:=by obtain⟨a,c,e,_⟩:=h.form;subst e;rfl
theorem ns3_one {x y z:Value} (hx:x.oneCell'=true) (hy:y.oneCell'=true) (hz:z.oneCell'=true):∀ n,(ns3 x y z n).oneCell'=true
  | 0=>hx
  | 1=>hy
  | 2=>hz
  | _+3=>rfl
theorem open_leaf (k v:List UInt8):Opens (G:=GT) (PT (.leaf k v)) (fun _=>[.rd 5 k,.rd 5 v]) (lfC k v):=by
  rintro base σ w x ⟨b,o,kv,vv,e,h1,h2,h3⟩
  refine⟨ns3 kv vv (.bool false),ns3_one (rd_one h1) (rd_one h2) rfl,fun ν hν=>⟨fun i en hi=>?_,b,o,e,?_⟩⟩
  · match i, hi with
    | 0,hi=>simp only[List.getElem?_cons_zero,Option.some.injEq] at hi;subst hi;exact h1
    | 1,hi=>simp only[List.getElem?_cons_succ,List.getElem?_cons_zero,Option.some.injEq] at hi;subst hi;exact h2
    | i+2,hi=>simp at hi
  · have e0 := hν 0 (by simp)
    have e1:=hν 1 (by simp)
    simp only[Nat.add_zero] at e0
    simpa [lfC,denC,den,e0,e1] using h3
theorem open_node (l r:Tr):Opens (G:=GT) (PT (.node l r)) (fun _=>[.rd 5 (Tr.node l r).key,.pn (PT l) false false,.pn (PT r) false false]) (ndC l r):=by
  rintro base σ w x ⟨b,o,kv,lv,rv,e,h1,h2,h3,h4⟩
  obtain⟨lb,lo,le⟩:=h2.ptr
  obtain⟨rb,ro,re⟩:=h3.ptr
  refine⟨ns3 kv lv rv,ns3_one (rd_one h1) (by rw[le];rfl) (by rw[re];rfl),fun ν hν=>⟨fun i en hi=>?_,b,o,e,?_⟩⟩
  · match i, hi with
    | 0,hi=>simp only[List.getElem?_cons_zero,Option.some.injEq] at hi;subst hi;exact h1
    | 1,hi=>simp only[List.getElem?_cons_succ,List.getElem?_cons_zero,Option.some.injEq] at hi;subst hi;exact⟨h2,by simp,fun _=>⟨lb,lo,le⟩⟩
    | 2,hi=>simp only[List.getElem?_cons_succ,List.getElem?_cons_zero,Option.some.injEq] at hi;subst hi;exact⟨h3,by simp,fun _=>⟨rb,ro,re⟩⟩
    | i+3,hi=>simp at hi
  · have e0 := hν 0 (by simp)
    have e1:=hν 1 (by simp)
    have e2:=hν 2 (by simp)
    simp only[Nat.add_zero] at e0
    simpa [ndC,denC,den,e0,e1,e2,Tr.key] using h4
theorem close_leaf (k v:List UInt8):Closes (G:=GT) (PT (.leaf k v)) [.rd 5 k,.rd 5 v] (lfC k v 0):=by
  intro ν σ w x b hE e hS
  refine⟨b,0,ν 0,ν 1,e,hE 0 _ rfl,hE 1 _ rfl,?_⟩
  simpa [lfC,denC,den,ns3] using hS
theorem close_node (l r:Tr):Closes (G:=GT) (PT (.node l r)) [.rd 5 (Tr.node l r).key,.pn (PT l) false false,.pn (PT r) false false] (ndC l r 0):=by
  intro ν σ w x b hE e hS
  refine⟨b,0,ν 0,ν 1,ν 2,e,hE 0 _ rfl,(hE 1 _ rfl).1,(hE 2 _ rfl).1,?_⟩
  simpa [ndC,denC,den,ns3] using hS
noncomputable def c66:Code:=(Tryd.f66.body).getD .skip
theorem eightTo_set (n:UInt64) (k:Nat) (h:k<8):((eightTo n k++List.replicate (8 - k) 0).set k (n >>> (56 - 8*(k:Int)).toNat.toUInt64).toUInt8)=eightTo n (k+1)++List.replicate (8 - (k+1)) 0:=by
  have hl:=eightTo_len n k
  rw[List.set_append_right _ _ (by omega),hl,Nat.sub_self,show 8 - k=(8 - (k+1))+1 by omega,List.replicate_succ,List.set_cons_zero,eightTo,List.append_assoc]
  rfl
theorem size_ok (n:UInt64):FOk EN 66 ⟨[],[.u n],Unit,fun _=>([.rd 5 (eightTo n 8)],.n 0),fun _=>True⟩:=by
 refine v_fun Tryd.f66 c66 MX (fun ν F σ w=>?_) Tryd.func66
 refine v_nl ?_
 refine v_loop (fun k:Nat=>([(3,.p 2 0),(5,.i k)],[.bx 156 [.h 8 (eightTo n k++List.replicate (8 - k) 0)]])) (fun k=>k≤8) (fun k=>8 - k) 0 [1] (((0:Int)=(↑(0:Nat):Int))∧(List.replicate 8 0=eightTo n 0++List.replicate (8 - 0) 0)) ⟨rfl,rfl⟩ (by decide) (fun k hk1=>?_)
 have hl:=eightTo_len n k
 refine v_if (decide ((↑k:Int)<8)) True trivial (fun h2=>?_) (fun h2=>?_)
 ·have h2:=of_decide_eq_true h2
  exact v_back (k+1) [2] ((I64 (8 * ↑k))∧(I64 (56 - 8 * ↑k))∧(0≤56 - 8*(↑k:Int)∧56 - 8*(↑k:Int)<64)∧((0:Int)≤(↑k:Int)∧(↑k:Int)<(↑(8:Nat):Int))∧(0+(↑k:Int).toNat<8)∧(0+(↑k:Int).toNat<(eightTo n k++List.replicate (8 - k) 0).length)∧(I64 (↑k+1))∧((↑k:Int)+1=(↑(k+1):Int))∧((eightTo n k++List.replicate (8 - k) 0).set (0+(↑k:Int).toNat) (n >>> (56 - 8*(↑k:Int)).toNat.toUInt64).toUInt8=eightTo n (k+1)++List.replicate (8 - (k+1)) 0)) ⟨(by(unfold I64;omega)),(by(unfold I64;omega)),(by omega),(by omega),(by omega),(by(simp;omega)),(by(unfold I64;omega)),rfl,(by(simpa using eightTo_set n k (by omega)))⟩ (show k+1≤8∧8 - (k+1)<8 - k from(by omega))
 ·have h2:=of_decide_eq_false h2
  refine v_leave (.ex 0) True trivial ?_
  exact v_ret () [3] (((eightTo n k++List.replicate (8 - k) 0).length=8∧8≤1000000)∧(eightTo n k++List.replicate (8 - k) 0=eightTo n 8)) ⟨(by(simp;omega)),(by(obtain rfl:k=8:=(by omega);simp))⟩ trivial
noncomputable def c47:Code:=(Tryd.f47.body).getD .skip
theorem thash_ok (h:Int) (s:UInt64) (k v l r:List UInt8) (h0:0≤h∧h<1000) (hk:k.length≤1000) (hv:v.length≤1000) (hl:l.length=32) (hr:r.length=32) :
  FOk EN 47 ⟨[.pr wordsP,.rd 5 k,.rd 5 v],[.a [.n 1,.n 2,.i h,.u s,.h 32 l,.h 32 r]],Unit,fun _=>([.pr wordsP,.rd 5 k,.rd 5 v],.a [.h 32 (nsum h s k v l r)]),fun _=>True⟩:=by
 refine v_fun Tryd.f47 c47 MX (fun ν F σ w=>?_) Tryd.func47
 refine v_nl ?_
 refine v_if (decide (h=0)) True trivial (fun h1=>?_) (fun h1=>?_)
 ·have h1:=of_decide_eq_true h1
  refine v_call _ [0,6] (sum_ok ([v]) (by(simp;omega))) ((wordsP=wordsP)∧([v]=[v])) ⟨rfl,rfl⟩ (fun g2 p3=>?_)
  have p3:True:=p3
  refine v_close 7 [] (close_top [] ([SV.h 32 (sum256 [v].flatten)])) ((sum256 [v].flatten=sum256 [v].flatten)) rfl ?_
  refine v_plan (.fs [0,1,2,3,5,6,7] (.o 4 (.o 8 (.o 9 (.o 10 .e))))) [4,6] True trivial ?_
  refine v_call _ [0,10] (sum_ok ([[0,ofI8 ↑k.length],k,sum256 [v].flatten]) (by(simp[sum256_len,eightTo_len];omega))) (((sum256 [v].flatten).length=32∧32≤1000000)∧(wordsP=wordsP)∧([[0,ofI8 ↑k.length],k,sum256 [v].flatten]=[[0,ofI8 ↑k.length],k,sum256 [v].flatten])) ⟨(by(simp[sum256_len,eightTo_len];done)),rfl,rfl⟩ (fun g4 p5=>?_)
  have p5:True:=p5
  exact v_ret () [] ((sum256 [[0,ofI8 ↑k.length],k,sum256 [v].flatten].flatten=nsum h s k v l r)∧(wordsP=wordsP)∧(k=k)∧(v=v)) ⟨(by(simp only[nsum];(repeat first | rw[if_pos (by omega)] | rw[if_neg (by omega)]);first | rfl | omega | (simp;done) | (simp;omega))),rfl,rfl,rfl⟩ trivial
 ·have h1:=of_decide_eq_false h1
  refine v_close 4 [1,2] (close_top [.no,.no] ([SV.n 0,SV.n 1,SV.i h,SV.u s,SV.h 32 l,SV.h 32 r])) ((h=h)∧(s=s)∧(l=l)∧(r=r)) ⟨rfl,rfl,rfl,rfl⟩ ?_
  refine v_join [21,22,23,24,25,26,27,28,29,30,31,32,33,2] [5] (fun _:Unit=>([(2,SV.p 6 0)],[Ent.bx 29 [SV.h 32 (sum256 [[1,ofI8 h],eightTo s 8,l,r].flatten)]])) (fun _=>True) ?_ (fun _ _=>?_) True trivial
  ·skip
   refine v_plan (.fs [0,1,2,4,5,7,8,9,10] (.c 3 (.o 6 (.o 11 (.o 12 (.o 13 .e)))) (.o 6 (.o 3 (.o 11 (.o 12 (.o 13 .e))))))) [] True trivial ?_
   refine v_pick ((l.length=32∧32≤1000000)∧(r.length=32∧32≤1000000)) ⟨(by omega),(by omega)⟩ ?_ ?_
   ·skip
    refine v_call _ [] (size_ok (s)) ((s=s)) rfl (fun g6 p7=>?_)
    have p7:True:=p7
    refine v_call _ [0,10] (sum_ok ([[1,ofI8 h],eightTo s 8,l,r]) (by(simp[sum256_len,eightTo_len];omega))) ((wordsP=wordsP)∧([[1,ofI8 h],eightTo s 8,l,r]=[[1,ofI8 h],eightTo s 8,l,r])) ⟨rfl,rfl⟩ (fun g8 p9=>?_)
    have p9:True:=p9
    exact v_back (()) [5] ((sum256 [[1,ofI8 h],eightTo s 8,l,r].flatten=sum256 [[1,ofI8 h],eightTo s 8,l,r].flatten)) rfl (show True from trivial)
   ·skip
    refine v_call _ [] (size_ok (s)) ((s=s)) rfl (fun g10 p11=>?_)
    have p11:True:=p11
    refine v_call _ [0,10] (sum_ok ([[1,ofI8 h],eightTo s 8,l,r]) (by(simp[sum256_len,eightTo_len];omega))) ((wordsP=wordsP)∧([[1,ofI8 h],eightTo s 8,l,r]=[[1,ofI8 h],eightTo s 8,l,r])) ⟨rfl,rfl⟩ (fun g12 p13=>?_)
    have p13:True:=p13
    exact v_back (()) [5] ((sum256 [[1,ofI8 h],eightTo s 8,l,r].flatten=sum256 [[1,ofI8 h],eightTo s 8,l,r].flatten)) rfl (show True from trivial)
  ·skip
   exact v_ret () [] ((sum256 [[1,ofI8 h],eightTo s 8,l,r].flatten=nsum h s k v l r)∧(wordsP=wordsP)∧(k=k)∧(v=v)) ⟨(by(simp[nsum, *])),rfl,rfl,rfl⟩ trivial
noncomputable def c60:Code:=(Tryd.f60.body).getD .skip
theorem leaf_ok (k v:List UInt8) (hk:k.length≤1000) (hv:v.length≤1000):FOk EN 60 ⟨[.pr wordsP,.rd 5 k,.rd 5 v],[.n 1,.n 2],Unit,fun _=>([.pr wordsP,.rd 5 k,.rd 5 v,.pn (PT (.leaf k v)) false false],.p 3 0),fun _=>True⟩:=by
 refine v_fun Tryd.f60 c60 MX (fun ν F σ w=>?_) Tryd.func60
 refine v_nl ?_
 refine v_call _ [1] (clone_ok (k) (by omega)) ((k=k)) rfl (fun g1 p2=>?_)
 have p2:True:=p2
 refine v_call _ [2] (clone_ok (v) (by omega)) ((v=v)) rfl (fun g3 p4=>?_)
 have p4:True:=p4
 refine v_call _ [0,4,5] (thash_ok (0) (1) (k) (v) (List.replicate 32 0) (List.replicate 32 0) (by decide) ‹_› ‹_› rfl rfl) (((0:Int)=(0:Int))∧((1:UInt64)=(1:UInt64))∧(List.replicate (32:Nat) (0:UInt8)=List.replicate (32:Nat) (0:UInt8))∧(List.replicate (32:Nat) (0:UInt8)=List.replicate (32:Nat) (0:UInt8))∧(wordsP=wordsP)∧(k=k)∧(v=v)) ⟨rfl,rfl,rfl,rfl,rfl,rfl,rfl⟩ (fun g5 p6=>?_)
 have p6:True:=p6
 refine v_close 6 [4,5] (close_leaf (k) (v)) (((0:Int)=(0:Int))∧((1:UInt64)=(1:UInt64))∧(List.replicate 32 0=z32)∧(List.replicate 32 0=z32)∧(nsum 0 1 k v (List.replicate 32 0) (List.replicate 32 0)=(Tr.leaf k v).hash)∧(Value.pointer none=Value.pointer none)∧(Value.pointer none=Value.pointer none)∧(k=k)∧(v=v)) ⟨rfl,rfl,rfl,rfl,rfl,rfl,rfl,rfl,rfl⟩ ?_
 exact v_ret () [6] ((wordsP=wordsP)∧(k=k)∧(v=v)∧(PLe (PT (Tr.leaf k v)) (PT (Tr.leaf k v)))∧(false=false)) ⟨rfl,rfl,rfl,fun _ _ _ h=>h,rfl⟩ trivial
def Tr.next:Tr→Tr
  | .leaf a b=>.leaf a b
  | .node l _=>l
def Tr.depth:Tr→Nat
  | .leaf _ _=>0
  | .node l r=>l.depth+r.depth+1
noncomputable def c70:Code:=(Tryd.f70.body).getD .skip
theorem least_ok (t:Tr):FOk EN 70 ⟨[.pn (PT t) false false],[.p 0 0],Unit,fun _=>([.pn (PT t) false false,.rd 5 t.least],.n 1),fun _=>True⟩:=by
 refine v_fun Tryd.f70 c70 MX (fun ν F σ w=>?_) Tryd.func70
 refine v_nl ?_
 refine v_loop (fun k:Tr=>([(0,.p 2 0)],[.pn (PT k) false false])) (fun k=>t.least=k.least) (fun k=>k.depth) t [0] ((PT t=PT t)∧(false=false)) ⟨rfl,rfl⟩ rfl (fun k hk1=>?_)
 cases k with
 | leaf a b =>
  refine v_open 2 (open_leaf (a) (b)) ((false=false)∧(PT (Tr.leaf a b)=PT (Tr.leaf a b))) ⟨rfl,rfl⟩ ?_
  refine v_leave (.ex 0) True trivial ?_
  exact v_ret () [3] ((PT t=PT t)∧(false=false)∧(a=t.least)) ⟨rfl,rfl,(by exact hk1.symm)⟩ trivial
 | node l r =>
  refine v_open 2 (open_node (l) (r)) ((false=false)∧(PT (l.node r)=PT (l.node r))) ⟨rfl,rfl⟩ ?_
  refine v_if (!false) True trivial (fun h2=>?_) (fun h2=>?_)
  ·have h2:=(nt h2)
   exact v_back ((l.node r).next) [4] ((PT l=PT (l.node r).next)∧(false=false)) ⟨rfl,rfl⟩ (show t.least=(l.node r).next.least∧(l.node r).next.depth<(l.node r).depth from(by exact⟨hk1,by simp only[Tr.next,Tr.depth];omega⟩))
  ·have h2:=(nf h2)
   contradiction
namespace Tr
def value:Tr→List UInt8
  | leaf _ v=>v
  | node _ _=>[]
def lh:Tr→List UInt8
  | leaf _ _=>z32
  | node l _=>l.hash
def rh:Tr→List UInt8
  | leaf _ _=>z32
  | node _ r=>r.hash
end Tr
def anyC (t:Tr) (b:Nat):List SV:=[.n b,.n (b+1),.i t.height,.u t.size,.h 32 t.lh,.h 32 t.rh,.h 32 t.hash,.p (b+2) 0,.p (b+3) 0]
def ns4 (x y z u:Value):NV:=fun n=>match n with | 0=>x | 1=>y | 2=>z | 3=>u | _=>.bool false
theorem ns4_one {x y z u:Value} (hx:x.oneCell'=true) (hy:y.oneCell'=true) (hz:z.oneCell'=true) (hu:u.oneCell'=true):∀ n,(ns4 x y z u n).oneCell'=true
  | 0=>hx
  | 1=>hy
  | 2=>hz
  | 3=>hu
  | _+4=>rfl
theorem open_any (t:Tr):Opens (G:=GT) (PT t) (fun _=>[.rd 5 t.key,.rd 5 t.value,.no,.no]) (anyC t):=by
  rintro base σ w x h
  have main:∀(kv vv lv rv:Value) (b o:Nat),x=.pointer (some ⟨b,o,none⟩)→Rd tU8 σ w kv t.key→Rd tU8 σ w vv t.value→lv.oneCell'=true→rv.oneCell'=true→Seg σ w b o (denC (ns4 kv vv lv rv) (anyC t 0)) →
      ∃ f:NV,(∀ n,(f n).oneCell'=true)∧∀ ν:NV,(∀ i,i<4→ν (base+i)=f i)→(∀(i:Nat) (en:Ent GT),[Ent.rd 5 t.key,.rd 5 t.value,.no,.no][i]? = some en→en.holds ν (fun _=>False) σ w (f i))∧∃ b o,x=.pointer (some ⟨b,o,none⟩)∧Seg σ w b o (denC ν (anyC t base)):=by
    intro kv vv lv rv b o e h1 h2 h3 h4 h5
    refine⟨ns4 kv vv lv rv,ns4_one (rd_one h1) (rd_one h2) h3 h4,fun ν hν=>⟨fun i en hi=>?_,b,o,e,?_⟩⟩
    · match i, hi with
      | 0,hi=>simp only[List.getElem?_cons_zero,Option.some.injEq] at hi;subst hi;exact h1
      | 1,hi=>simp only[List.getElem?_cons_succ,List.getElem?_cons_zero,Option.some.injEq] at hi;subst hi;exact h2
      | 2,hi=>simp only[List.getElem?_cons_succ,List.getElem?_cons_zero,Option.some.injEq] at hi;subst hi;trivial
      | 3,hi=>simp only[List.getElem?_cons_succ,List.getElem?_cons_zero,Option.some.injEq] at hi;subst hi;trivial
      | i+4,hi=>simp at hi
    · have e0 := hν 0 (by simp)
      have e1:=hν 1 (by simp)
      have e2:=hν 2 (by simp)
      have e3:=hν 3 (by simp)
      simp only[Nat.add_zero] at e0
      simpa [anyC,denC,den,e0,e1,e2,e3] using h5
  cases t with
  | leaf k v =>
    obtain⟨b,o,kv,vv,e,h1,h2,h3⟩:=h
    refine main kv vv (.pointer none) (.pointer none) b o e h1 h2 rfl rfl ?_
    simpa [lfC,anyC,denC,den,ns3,ns4,Tr.height,Tr.size,Tr.lh,Tr.rh,padd] using h3
  | node l r =>
    obtain⟨b,o,kv,lv,rv,e,h1,h2,h3,h4⟩:=h
    obtain⟨lb,lo,le⟩:=h2.ptr
    obtain⟨rb,ro,re⟩:=h3.ptr
    refine main kv (.slice none 0 0) lv rv b o e h1 ⟨none,0,rfl,Nat.le_refl _,Nat.zero_le _,.inl rfl⟩ (by rw[le];rfl) (by rw[re];rfl) ?_
    simpa [ndC,anyC,denC,den,ns3,ns4,Tr.lh,Tr.rh] using h4
/-- What the trees here keep to. -/
def Tr.Ok (t:Tr):Prop:=0≤t.height∧t.height<900∧t.least.length≤1000∧t.hash.length=32
noncomputable def c62:Code:=(Tryd.f62.body).getD .skip
theorem inner_ok (l r:Tr) (hl:l.Ok) (hr:r.Ok):FOk EN 62 ⟨[.pr wordsP,.pn (PT l) false false,.pn (PT r) false false],[.p 1 0,.p 2 0],Unit,fun _=>([.pr wordsP,.pn (PT l) false false,.pn (PT r) false false,.pn (PT (.node l r)) false false],.p 3 0),fun _=>True⟩:=by
 refine v_fun Tryd.f62 c62 MX (fun ν F σ w=>?_) Tryd.func62
 refine v_nl ?_
 refine v_open 1 (open_any (l)) ((PT l=PT l)) rfl ?_
 refine v_open 2 (open_any (r)) ((PT r=PT r)) rfl ?_
 refine v_plan (.fs [0,1,3,4,5,6,7,8,9,10,11,12,13,14,15,16,17,18,19,20,21,22,23,24,25,26,27,28,29,30,31,32,33] (.o 2 (.fs [34,35,36] (.o 37 .e)))) [] True trivial ?_
 refine v_call _ [2] (least_ok (r)) ((I64 (1+if l.height<r.height then r.height else l.height))∧(PLe (PT r) (PT r))∧(false=false)) ⟨(by(have h1:=hl;have h2:=hr;unfold Tr.Ok at h1 h2;unfold I64;omega)),fun _ _ _ h=>h,rfl⟩ (fun g1 p2=>?_)
 have p2:True:=p2
 refine v_call _ [0,13,3] (thash_ok (1+if l.height<r.height then r.height else l.height) (l.size+r.size) (r.least) ([]) (l.hash) (r.hash) (by(have h1:=hl;have h2:=hr;unfold Tr.Ok at h1 h2;omega)) (by(have h1:=hl;have h2:=hr;unfold Tr.Ok at h1 h2;omega)) (by decide) (by(have h1:=hl;have h2:=hr;unfold Tr.Ok at h1 h2;omega)) (by(have h1:=hl;have h2:=hr;unfold Tr.Ok at h1 h2;omega))) (((1+if l.height<r.height then r.height else l.height)=1+if l.height<r.height then r.height else l.height)∧(l.size+r.size=l.size+r.size)∧(l.hash=l.hash)∧(r.hash=r.hash)∧(wordsP=wordsP)∧(r.least=r.least)∧(Eq (α:=List UInt8) [] [])) ⟨rfl,rfl,rfl,rfl,rfl,rfl,rfl⟩ (fun g3 p4=>?_)
 have p4:True:=p4
 refine v_close 4 [13,1,2] (close_node (l) (r)) ((Value.slice none 0 0=Value.slice none 0 0)∧((1+if l.height<r.height then r.height else l.height)=(l.node r).height)∧(l.size+r.size=(l.node r).size)∧(l.hash=l.hash)∧(r.hash=r.hash)∧(nsum (1+if l.height<r.height then r.height else l.height) (l.size+r.size) r.least [] l.hash r.hash=(l.node r).hash)∧(r.least=(l.node r).key)∧(PLe (PT l) (PT l))∧(false=false)∧(PLe (PT r) (PT r))∧(false=false)) ⟨rfl,(by(congr 1;omega)),rfl,rfl,rfl,(by(congr 1;omega)),rfl,fun _ _ _ h=>h,rfl,fun _ _ _ h=>h,rfl⟩ ?_
 exact v_ret () [4] ((wordsP=wordsP)∧(PLe (PT l) (PT l))∧(false=false)∧(PLe (PT r) (PT r))∧(false=false)∧(PLe (PT (l.node r)) (PT (l.node r)))∧(false=false)) ⟨rfl,fun _ _ _ h=>h,rfl,fun _ _ _ h=>h,rfl,fun _ _ _ h=>h,rfl⟩ trivial
namespace Tr
/-- Keys and values are short. -/
def Ks:Tr→Prop
  | leaf k v=>k.length≤1000∧v.length≤1000
  | node l r=>l.Ks∧r.Ks
theorem height_nn:∀ t:Tr,0≤t.height
  | leaf _ _=>Int.le_refl _
  | node l r=>by have:=height_nn l;simp only[height];omega
theorem nsum_len (h:Int) (s:UInt64) (k v l r:List UInt8):(nsum h s k v l r).length=32:=by unfold nsum;split <;> exact sum256_len _
theorem hash_len:∀ t:Tr,t.hash.length=32
  | leaf _ _=>nsum_len ..
  | node _ _=>nsum_len ..
theorem least_le:∀ {t:Tr},t.Ks→t.least.length≤1000
  | leaf _ _,h=>h.1
  | node l _,h=>least_le (t:=l) h.1
theorem ok {t:Tr} (h:t.Ks) (hh:t.height<900):t.Ok:=⟨t.height_nn,hh,least_le h,t.hash_len⟩
theorem node_lt {l r:Tr} {n:Int} (h1:l.height<n) (h2:r.height<n):(node l r).height<n+1:=by simp only[height];omega
end Tr
noncomputable def c61:Code:=(Tryd.f61.body).getD .skip
theorem bal0_aux (l r:Tr) (hl:l.Ok) (hr:r.Ok) (h1:¬ l.height>r.height+1) (h2:¬ r.height>l.height+1):FOk EN 61 ⟨[.pr wordsP,.pn (PT l) false false,.pn (PT r) false false],[.p 1 0,.p 2 0],Unit,fun _=>([.pr wordsP,.pn (PT l) false false,.pn (PT r) false false,.pn (PT (.node l r)) false false],.p 3 0),fun _=>True⟩:=by
 refine v_fun Tryd.f61 c61 MX (fun ν F σ w=>?_) Tryd.func61
 refine v_nl ?_
 refine v_open 1 (open_any (l)) ((PT l=PT l)) rfl ?_
 refine v_open 2 (open_any (r)) ((PT r=PT r)) rfl ?_
 refine v_plan (.fs [0,1,2,3,4,5,6,7,8,9,10,11,12] .e) [] True trivial ?_
 refine v_if (decide (r.height+1<l.height)) ((I64 (r.height+1))) (by(have h1:=hl;have h2:=hr;unfold Tr.Ok at h1 h2;unfold I64;omega)) (fun h1=>?_) (fun h1=>?_)
 ·have h1:=of_decide_eq_true h1
  omega
 ·have h1:=of_decide_eq_false h1
  refine v_plan (.fs [0,1,2,3,4,5,6,7,8,9,10,11,12] .e) [] True trivial ?_
  refine v_if (decide (l.height+1<r.height)) ((I64 (l.height+1))) (by(have h1:=hl;have h2:=hr;unfold Tr.Ok at h1 h2;unfold I64;omega)) (fun h2=>?_) (fun h2=>?_)
  ·have h2:=of_decide_eq_true h2
   omega
  ·have h2:=of_decide_eq_false h2
   refine v_call _ [0,1,2] (inner_ok (l) (r) ‹_› ‹_›) ((wordsP=wordsP)∧(PLe (PT l) (PT l))∧(false=false)∧(PLe (PT r) (PT r))∧(false=false)) ⟨rfl,fun _ _ _ h=>h,rfl,fun _ _ _ h=>h,rfl⟩ (fun g3 p4=>?_)
   have p4:True:=p4
   exact v_ret () [12] ((wordsP=wordsP)∧(PLe (PT l) (PT l))∧(false=false)∧(PLe (PT r) (PT r))∧(false=false)∧(PT (l.node r)=PT (l.node r))∧(false=false)) ⟨rfl,fun _ _ _ h=>h,rfl,fun _ _ _ h=>h,rfl,rfl,rfl⟩ trivial
theorem bal1_aux (a b r:Tr) (hl:(Tr.node a b).Ok) (ha:a.Ok) (hb:b.Ok) (hbr:(Tr.node b r).Ok) (hr:r.Ok) (h1:(Tr.node a b).height>r.height+1) (h2:¬ a.height<b.height):FOk EN 61 ⟨[.pr wordsP,.pn (PT (.node a b)) false false,.pn (PT r) false false],[.p 1 0,.p 2 0],Unit,fun _=>([.pr wordsP,.pn (PT (.node a b)) false false,.pn (PT r) false false,.pn (PT (.node a (.node b r))) false false],.p 3 0),fun _=>True⟩:=by
 refine v_fun Tryd.f61 c61 MX (fun ν F σ w=>?_) Tryd.func61
 refine v_nl ?_
 refine v_open 1 (open_node (a) (b)) ((PT (a.node b)=PT (a.node b))) rfl ?_
 refine v_open 2 (open_any (r)) ((PT r=PT r)) rfl ?_
 refine v_plan (.fs [0,1,2,3,4,5,6,7,8,9,10,11,12] .e) [] True trivial ?_
 refine v_if (decide (r.height+1<(a.node b).height)) ((I64 (r.height+1))) (by(have h1:=hl;have h2:=hr;unfold Tr.Ok at h1 h2;unfold I64;omega)) (fun h1=>?_) (fun h1=>?_)
 ·have h1:=of_decide_eq_true h1
  refine v_open 5 (open_any (a)) ((PT a=PT a)) rfl ?_
  refine v_open 6 (open_any (b)) ((PT b=PT b)) rfl ?_
  refine v_plan (.fs [0,1,2,3,4,5,6,7,8,9,10,11,12,13,14,15,16] .e) [] True trivial ?_
  refine v_if (decide (a.height<b.height)) True trivial (fun h2=>?_) (fun h2=>?_)
  ·have h2:=of_decide_eq_true h2
   omega
  ·have h2:=of_decide_eq_false h2
   refine v_plan (.fs [0,1,2,3,4,5,6,7,8] (.o 9 (.o 10 (.fs [11] .e)))) [] True trivial ?_
   refine v_call _ [0,6,2] (inner_ok (b) (r) ‹_› ‹_›) ((wordsP=wordsP)∧(PLe (PT b) (PT b))∧(false=false)∧(PLe (PT r) (PT r))∧(false=false)) ⟨rfl,fun _ _ _ h=>h,rfl,fun _ _ _ h=>h,rfl⟩ (fun g3 p4=>?_)
   have p4:True:=p4
   refine v_call _ [0,5,19] (inner_ok (a) (b.node r) ‹_› ‹_›) ((wordsP=wordsP)∧(PLe (PT a) (PT a))∧(false=false)∧(PT (b.node r)=PT (b.node r))∧(false=false)) ⟨rfl,fun _ _ _ h=>h,rfl,rfl,rfl⟩ (fun g5 p6=>?_)
   have p6:True:=p6
   exact v_ret () [20] ((wordsP=wordsP)∧(PLe (PT (a.node b)) (PT (a.node b)))∧(false=false)∧(PLe (PT r) (PT r))∧(false=false)∧(PT (a.node (b.node r))=PT (a.node (b.node r)))∧(false=false)) ⟨rfl,fun _ _ _ h=>h,rfl,fun _ _ _ h=>h,rfl,rfl,rfl⟩ trivial
 ·have h1:=of_decide_eq_false h1
  omega
theorem bal2_aux (a c d r:Tr) (hl:(Tr.node a (.node c d)).Ok) (ha:a.Ok) (hb:(Tr.node c d).Ok) (hc:c.Ok) (hd:d.Ok) (hac:(Tr.node a c).Ok) (hdr:(Tr.node d r).Ok) (hr:r.Ok) (h1:(Tr.node a (.node c d)).height>r.height+1) (h2:a.height<(Tr.node c d).height):FOk EN 61 ⟨[.pr wordsP,.pn (PT (.node a (.node c d))) false false,.pn (PT r) false false],[.p 1 0,.p 2 0],Unit,fun _=>([.pr wordsP,.pn (PT (.node a (.node c d))) false false,.pn (PT r) false false,.pn (PT (.node (.node a c) (.node d r))) false false],.p 3 0),fun _=>True⟩:=by
 refine v_fun Tryd.f61 c61 MX (fun ν F σ w=>?_) Tryd.func61
 refine v_nl ?_
 refine v_open 1 (open_node (a) (c.node d)) ((PT (a.node (c.node d))=PT (a.node (c.node d)))) rfl ?_
 refine v_open 2 (open_any (r)) ((PT r=PT r)) rfl ?_
 refine v_plan (.fs [0,1,2,3,4,5,6,7,8,9,10,11,12] .e) [] True trivial ?_
 refine v_if (decide (r.height+1<(a.node (c.node d)).height)) ((I64 (r.height+1))) (by(have h1:=hl;have h2:=hr;unfold Tr.Ok at h1 h2;unfold I64;omega)) (fun h1=>?_) (fun h1=>?_)
 ·have h1:=of_decide_eq_true h1
  refine v_open 5 (open_any (a)) ((PT a=PT a)) rfl ?_
  refine v_open 6 (open_node (c) (d)) ((PT (c.node d)=PT (c.node d))) rfl ?_
  refine v_plan (.fs [0,1,2,3,4,5,6,7,8,9,10,11,12,13,14,15,16] .e) [] True trivial ?_
  refine v_if (decide (a.height<(c.node d).height)) True trivial (fun h2=>?_) (fun h2=>?_)
  ·have h2:=of_decide_eq_true h2
   refine v_plan (.fs [0,1,2,3,4,5,6,7,8,9,10,12,13,14,15,16,17,18,19] (.o 11 (.o 20 (.o 21 (.fs [22] .e))))) [] True trivial ?_
   refine v_call _ [0,5,16] (inner_ok (a) (c) ‹_› ‹_›) ((wordsP=wordsP)∧(PLe (PT a) (PT a))∧(false=false)∧(PT c=PT c)∧(false=false)) ⟨rfl,fun _ _ _ h=>h,rfl,rfl,rfl⟩ (fun g3 p4=>?_)
   have p4:True:=p4
   refine v_call _ [0,17,2] (inner_ok (d) (r) ‹_› ‹_›) ((wordsP=wordsP)∧(PT d=PT d)∧(false=false)∧(PLe (PT r) (PT r))∧(false=false)) ⟨rfl,rfl,rfl,fun _ _ _ h=>h,rfl⟩ (fun g5 p6=>?_)
   have p6:True:=p6
   refine v_call _ [0,18,19] (inner_ok (a.node c) (d.node r) ‹_› ‹_›) ((wordsP=wordsP)∧(PT (a.node c)=PT (a.node c))∧(false=false)∧(PT (d.node r)=PT (d.node r))∧(false=false)) ⟨rfl,rfl,rfl,rfl,rfl⟩ (fun g7 p8=>?_)
   have p8:True:=p8
   exact v_ret () [20] ((wordsP=wordsP)∧(PLe (PT (a.node (c.node d))) (PT (a.node (c.node d))))∧(false=false)∧(PLe (PT r) (PT r))∧(false=false)∧(PT ((a.node c).node (d.node r))=PT ((a.node c).node (d.node r)))∧(false=false)) ⟨rfl,fun _ _ _ h=>h,rfl,fun _ _ _ h=>h,rfl,rfl,rfl⟩ trivial
  ·have h2:=of_decide_eq_false h2
   omega
 ·have h1:=of_decide_eq_false h1
  omega
theorem bal3_aux (l a b:Tr) (hr:(Tr.node a b).Ok) (ha:a.Ok) (hb:b.Ok) (hla:(Tr.node l a).Ok) (hl:l.Ok) (h0:¬ l.height>(Tr.node a b).height+1) (h1:(Tr.node a b).height>l.height+1) (h2:¬ b.height<a.height):FOk EN 61 ⟨[.pr wordsP,.pn (PT l) false false,.pn (PT (.node a b)) false false],[.p 1 0,.p 2 0],Unit,fun _=>([.pr wordsP,.pn (PT l) false false,.pn (PT (.node a b)) false false,.pn (PT (.node (.node l a) b)) false false],.p 3 0),fun _=>True⟩:=by
 refine v_fun Tryd.f61 c61 MX (fun ν F σ w=>?_) Tryd.func61
 refine v_nl ?_
 refine v_open 1 (open_any (l)) ((PT l=PT l)) rfl ?_
 refine v_open 2 (open_node (a) (b)) ((PT (a.node b)=PT (a.node b))) rfl ?_
 refine v_plan (.fs [0,1,2,3,4,5,6,7,8,9,10,11,12] .e) [] True trivial ?_
 refine v_if (decide ((a.node b).height+1<l.height)) ((I64 ((a.node b).height+1))) (by(have h1:=hl;have h2:=hr;unfold Tr.Ok at h1 h2;unfold I64;omega)) (fun h1=>?_) (fun h1=>?_)
 ·have h1:=of_decide_eq_true h1
  omega
 ·have h1:=of_decide_eq_false h1
  refine v_plan (.fs [0,1,2,3,4,5,6,7,8,9,10,11,12] .e) [] True trivial ?_
  refine v_if (decide (l.height+1<(a.node b).height)) ((I64 (l.height+1))) (by(have h1:=hl;have h2:=hr;unfold Tr.Ok at h1 h2;unfold I64;omega)) (fun h2=>?_) (fun h2=>?_)
  ·have h2:=of_decide_eq_true h2
   refine v_open 10 (open_any (b)) ((PT b=PT b)) rfl ?_
   refine v_open 9 (open_any (a)) ((PT a=PT a)) rfl ?_
   refine v_plan (.fs [0,1,2,3,4,5,6,7,8,9,10,11,12,13,14,15,16] .e) [] True trivial ?_
   refine v_if (decide (b.height<a.height)) True trivial (fun h3=>?_) (fun h3=>?_)
   ·have h3:=of_decide_eq_true h3
    omega
   ·have h3:=of_decide_eq_false h3
    refine v_plan (.fs [0,1,2,3,4,6,7,8,9] (.o 5 (.o 10 (.fs [11] .e)))) [] True trivial ?_
    refine v_call _ [0,1,9] (inner_ok (l) (a) ‹_› ‹_›) ((wordsP=wordsP)∧(PLe (PT l) (PT l))∧(false=false)∧(PLe (PT a) (PT a))∧(false=false)) ⟨rfl,fun _ _ _ h=>h,rfl,fun _ _ _ h=>h,rfl⟩ (fun g4 p5=>?_)
    have p5:True:=p5
    refine v_call _ [0,19,10] (inner_ok (l.node a) (b) ‹_› ‹_›) ((wordsP=wordsP)∧(PT (l.node a)=PT (l.node a))∧(false=false)∧(PLe (PT b) (PT b))∧(false=false)) ⟨rfl,rfl,rfl,fun _ _ _ h=>h,rfl⟩ (fun g6 p7=>?_)
    have p7:True:=p7
    exact v_ret () [20] ((wordsP=wordsP)∧(PLe (PT l) (PT l))∧(false=false)∧(PLe (PT (a.node b)) (PT (a.node b)))∧(false=false)∧(PT ((l.node a).node b)=PT ((l.node a).node b))∧(false=false)) ⟨rfl,fun _ _ _ h=>h,rfl,fun _ _ _ h=>h,rfl,rfl,rfl⟩ trivial
  ·have h2:=of_decide_eq_false h2
   omega
theorem bal4_aux (l c d b:Tr) (hr:(Tr.node (.node c d) b).Ok) (ha:(Tr.node c d).Ok) (hb:b.Ok) (hc:c.Ok) (hd:d.Ok) (hlc:(Tr.node l c).Ok) (hdb:(Tr.node d b).Ok) (hl:l.Ok) (h0:¬ l.height>(Tr.node (.node c d) b).height+1) (h1:(Tr.node (.node c d) b).height>l.height+1) (h2:b.height<(Tr.node c d).height):FOk EN 61 ⟨[.pr wordsP,.pn (PT l) false false,.pn (PT (.node (.node c d) b)) false false],[.p 1 0,.p 2 0],Unit,fun _=>([.pr wordsP,.pn (PT l) false false,.pn (PT (.node (.node c d) b)) false false,.pn (PT (.node (.node l c) (.node d b))) false false],.p 3 0),fun _=>True⟩:=by
 refine v_fun Tryd.f61 c61 MX (fun ν F σ w=>?_) Tryd.func61
 refine v_nl ?_
 refine v_open 1 (open_any (l)) ((PT l=PT l)) rfl ?_
 refine v_open 2 (open_node (c.node d) (b)) ((PT ((c.node d).node b)=PT ((c.node d).node b))) rfl ?_
 refine v_plan (.fs [0,1,2,3,4,5,6,7,8,9,10,11,12] .e) [] True trivial ?_
 refine v_if (decide (((c.node d).node b).height+1<l.height)) ((I64 (((c.node d).node b).height+1))) (by(have h1:=hl;have h2:=hr;unfold Tr.Ok at h1 h2;unfold I64;omega)) (fun h1=>?_) (fun h1=>?_)
 ·have h1:=of_decide_eq_true h1
  omega
 ·have h1:=of_decide_eq_false h1
  refine v_plan (.fs [0,1,2,3,4,5,6,7,8,9,10,11,12] .e) [] True trivial ?_
  refine v_if (decide (l.height+1<((c.node d).node b).height)) ((I64 (l.height+1))) (by(have h1:=hl;have h2:=hr;unfold Tr.Ok at h1 h2;unfold I64;omega)) (fun h2=>?_) (fun h2=>?_)
  ·have h2:=of_decide_eq_true h2
   refine v_open 10 (open_any (b)) ((PT b=PT b)) rfl ?_
   refine v_open 9 (open_node (c) (d)) ((PT (c.node d)=PT (c.node d))) rfl ?_
   refine v_plan (.fs [0,1,2,3,4,5,6,7,8,9,10,11,12,13,14,15,16] .e) [] True trivial ?_
   refine v_if (decide (b.height<(c.node d).height)) True trivial (fun h3=>?_) (fun h3=>?_)
   ·have h3:=of_decide_eq_true h3
    refine v_plan (.fs [0,1,2,3,4,5,6,7,9,10,11,12,13,14,15,16,17,18,19] (.o 8 (.o 20 (.o 21 (.fs [22] .e))))) [] True trivial ?_
    refine v_call _ [0,1,16] (inner_ok (l) (c) ‹_› ‹_›) ((wordsP=wordsP)∧(PLe (PT l) (PT l))∧(false=false)∧(PT c=PT c)∧(false=false)) ⟨rfl,fun _ _ _ h=>h,rfl,rfl,rfl⟩ (fun g4 p5=>?_)
    have p5:True:=p5
    refine v_call _ [0,17,10] (inner_ok (d) (b) ‹_› ‹_›) ((wordsP=wordsP)∧(PT d=PT d)∧(false=false)∧(PLe (PT b) (PT b))∧(false=false)) ⟨rfl,rfl,rfl,fun _ _ _ h=>h,rfl⟩ (fun g6 p7=>?_)
    have p7:True:=p7
    refine v_call _ [0,18,19] (inner_ok (l.node c) (d.node b) ‹_› ‹_›) ((wordsP=wordsP)∧(PT (l.node c)=PT (l.node c))∧(false=false)∧(PT (d.node b)=PT (d.node b))∧(false=false)) ⟨rfl,rfl,rfl,rfl,rfl⟩ (fun g8 p9=>?_)
    have p9:True:=p9
    exact v_ret () [20] ((wordsP=wordsP)∧(PLe (PT l) (PT l))∧(false=false)∧(PLe (PT ((c.node d).node b)) (PT ((c.node d).node b)))∧(false=false)∧(PT ((l.node c).node (d.node b))=PT ((l.node c).node (d.node b)))∧(false=false)) ⟨rfl,fun _ _ _ h=>h,rfl,fun _ _ _ h=>h,rfl,rfl,rfl⟩ trivial
   ·have h3:=of_decide_eq_false h3
    omega
  ·have h2:=of_decide_eq_false h2
   omega
namespace Tr
def bal (l r:Tr):Tr :=
  if l.height>r.height+1 then match l with
    | leaf _ _=>node l r
    | node a b => if a.height < b.height then match b with
      | leaf _ _=>node l r
      | node c d=>node (node a c) (node d r)
      else node a (node b r)
  else if r.height>l.height+1 then match r with
    | leaf _ _=>node l r
    | node a b => if b.height < a.height then match a with
      | leaf _ _=>node l r
      | node c d=>node (node l c) (node d b)
      else node (node l a) b
  else node l r
end Tr
theorem bal_ok (l r:Tr) (hl:l.Ks) (hr:r.Ks) (hl9:l.height<800) (hr9:r.height<800):FOk EN 61 ⟨[.pr wordsP,.pn (PT l) false false,.pn (PT r) false false],[.p 1 0,.p 2 0],Unit,fun _=>([.pr wordsP,.pn (PT l) false false,.pn (PT r) false false,.pn (PT (l.bal r)) false false],.p 3 0),fun _=>True⟩:=by
  have nn:=Tr.height_nn
  unfold Tr.bal
  by_cases h1:l.height>r.height+1
  · rw [if_pos h1]
    cases l with
    | leaf k v=>have:=nn r;simp only[Tr.height] at h1;omega
    | node a b =>
      have ea:a.height<800:=by simp only[Tr.height] at hl9;omega
      have eb:b.height<800:=by simp only[Tr.height] at hl9;omega
      have oa:=Tr.ok hl.1 (by omega)
      have ob:=Tr.ok hl.2 (by omega)
      have ol:=Tr.ok hl (by omega)
      have orr:=Tr.ok hr (by omega)
      by_cases h2:a.height<b.height
      · simp only [if_pos h2]
        cases b with
        | leaf k v=>have:=nn a;simp only[Tr.height] at h2;omega
        | node c d =>
          have ec:c.height<800:=by simp only[Tr.height] at eb;omega
          have ed:d.height<800:=by simp only[Tr.height] at eb;omega
          have hb:=hl.2
          exact bal2_aux a c d r ol oa ob (Tr.ok hb.1 (by omega)) (Tr.ok hb.2 (by omega)) (Tr.ok ⟨hl.1,hb.1⟩ (Int.lt_trans (Tr.node_lt ea ec) (by decide))) (Tr.ok ⟨hb.2,hr⟩ (Int.lt_trans (Tr.node_lt ed hr9) (by decide))) orr h1 h2
      · simp only [if_neg h2]
        exact bal1_aux a b r ol oa ob (Tr.ok ⟨hl.2,hr⟩ (Int.lt_trans (Tr.node_lt eb hr9) (by decide))) orr h1 h2
  · rw [if_neg h1]
    by_cases h3:r.height>l.height+1
    · rw [if_pos h3]
      cases r with
      | leaf k v=>have:=nn l;simp only[Tr.height] at h3;omega
      | node a b =>
        have ea:a.height<800:=by simp only[Tr.height] at hr9;omega
        have eb:b.height<800:=by simp only[Tr.height] at hr9;omega
        have oa:=Tr.ok hr.1 (by omega)
        have ob:=Tr.ok hr.2 (by omega)
        have ol:=Tr.ok hl (by omega)
        have orr:=Tr.ok hr (by omega)
        by_cases h2:b.height<a.height
        · simp only [if_pos h2]
          cases a with
          | leaf k v=>have:=nn b;simp only[Tr.height] at h2;omega
          | node c d =>
            have ec:c.height<800:=by simp only[Tr.height] at ea;omega
            have ed:d.height<800:=by simp only[Tr.height] at ea;omega
            have hb:=hr.1
            exact bal4_aux l c d b orr oa ob (Tr.ok hb.1 (by omega)) (Tr.ok hb.2 (by omega)) (Tr.ok ⟨hl,hb.1⟩ (Int.lt_trans (Tr.node_lt hl9 ec) (by decide))) (Tr.ok ⟨hb.2,hr.2⟩ (Int.lt_trans (Tr.node_lt ed eb) (by decide))) ol h1 h3 h2
        · simp only [if_neg h2]
          exact bal3_aux l a b orr oa ob (Tr.ok ⟨hl,hr.1⟩ (Int.lt_trans (Tr.node_lt hl9 ea) (by decide))) ol h1 h3 h2
    · rw [if_neg h3]
      exact bal0_aux l r (Tr.ok hl (by omega)) (Tr.ok hr (by omega)) h1 h3
end Go.Proofs.YtgpaifnijnaebaaDoor.X
