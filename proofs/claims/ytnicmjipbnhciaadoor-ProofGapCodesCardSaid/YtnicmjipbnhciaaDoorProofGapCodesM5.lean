/- What the law ProofGapCodes needs: the engine, the walks of what it reaches, plain laws; part 5. -/
import Derived.Test.YtnicmjipbnhciaaDoorProofGapCodesM4
set_option linter.unnecessarySimpa false
set_option linter.deprecated false
set_option linter.unusedVariables false
set_option linter.unusedSimpArgs false
set_option maxRecDepth 100000
namespace Go.Proofs.YtnicmjipbnhciaaDoor.X
open Go Go.RowKit Go.Proofs Go.Proofs.YtnicmjipbnhciaaDoor.E
theorem ofI_len {n:Nat} (h:n≤200000):(ofI (n:Int)).toNat=n:=by
  unfold ofI
  rw[UInt64.toNat_ofNat']
  omega
theorem tu (x:UInt64) {n:Nat} (h0:(0:Int)<n) (h:n≤200000):(x % ofI (n:Int)).toNat<n:=by
  have e:=ofI_len h
  rw[UInt64.toNat_mod,e];exact Nat.mod_lt _ (by omega)
theorem tu0 {n:Nat} (h0:(0:Int)<n) (h:n≤200000):ofI (n:Int)≠0:=by
  intro q
  have e:=ofI_len h
  rw[q] at e
  have:(0:UInt64).toNat=0:=rfl
  omega
theorem tu9 {x:UInt64} {n:Nat} (h0:(0:Int)<n) (h:n≤200000):x % ofI (n:Int)<9223372036854775808:=by
  apply UInt64.lt_iff_toNat_lt.2
  have:=tu x h0 h
  have e3:(9223372036854775808:UInt64).toNat=9223372036854775808:=rfl
  omega
theorem m98 {x:UInt8} (h:¬ x % 9=8):x % 9<8:=by
  apply UInt8.lt_iff_toNat_lt.2
  have e9:(9:UInt8).toNat=9:=rfl
  have e8:(8:UInt8).toNat=8:=rfl
  have h1:(x % 9).toNat=x.toNat % 9:=by rw[UInt8.toNat_mod,e9]
  have h2:¬ (x % 9).toNat=8:=fun q=>h (UInt8.toNat_inj.1 q)
  omega
noncomputable def ccK14_35:Code:=(Tryd.f35.body).getD .skip
theorem Turned_ok (b:List UInt8) (at_:List Int) (bits:List UInt8) (hb:b.length≤200000):FOk EN 35 ⟨[.rd 5 (b),.rd 3 at_,.rd 5 (bits)],[.n 0,.n 1,.n 2],List UInt8,fun v=>([.rd 5 (b),.rd 3 at_,.rd 5 (bits),.rd 5 (v)],.n 3),fun v=>v.length≤b.length⟩:=by
 refine v_fun Tryd.f35 ccK14_35 MX (fun ν F σ w=>?_) Tryd.func35
 refine v_nl ?_
 refine v_mark 5 ?_
 refine v_cut 5 ?_
 refine v_loop (fun k:Nat × List UInt8=>([(8,.i (k.1:Int)),(7,.n 8)],[.mu 5 k.2])) (fun k=>k.1≤4∧k.2.length≤b.length) (fun k=>4 - k.1) (0,b) [7] ((0+b.length≤1000000)∧((0:Int)=(↑(0:Nat):Int))∧([]++b=b)) ⟨(by omega),rfl,rfl⟩ (by exact⟨Nat.zero_le _,Nat.le_refl _⟩) (fun k hk1=>?_)
 refine v_guard 17 (decide ((↑k.fst:Int)<(↑at_.length:Int))) True trivial (fun h2=>?_) (fun h2=>?_)
 ·have h2:=of_decide_eq_true h2
  refine v_guard 23 (decide ((↑k.fst:Int)<(↑bits.length:Int))) True trivial (fun h3=>?_) (fun h3=>?_)
  ·have h3:=of_decide_eq_true h3
   refine v_guard 27 (decide ((↑k.fst:Int)<4)) True trivial (fun h4=>?_) (fun h4=>?_)
   ·have h4:=of_decide_eq_true h4
    refine v_if (decide (0<(↑k.snd.length:Int))) True trivial (fun h5=>?_) (fun h5=>?_)
    ·have h5:=of_decide_eq_true h5
     refine v_if (decide (bits.getD (↑k.fst:Int).toNat 0 % 9=8)) ((0≤(↑k.fst:Int)∧(↑k.fst:Int)<(↑at_.length:Int))∧(ofI ↑k.snd.length≠0)∧(ofI (at_.getD (↑k.fst:Int).toNat 0) % ofI (↑k.snd.length:Int)<9223372036854775808)∧(0≤(↑k.fst:Int)∧(↑k.fst:Int)<(↑bits.length:Int))∧((9:UInt8)≠(0:UInt8))) ⟨(by omega),(by exact tu0 ‹_› (by omega)),(by exact tu9 ‹_› (by omega)),(by omega),(by decide)⟩ (fun h6=>?_) (fun h6=>?_)
     ·have h6:=of_decide_eq_true h6
      refine v_plan (.fs [0,1,2,3,4,5,6,7] (.o 8 (.fs [9] .e))) [] True trivial ?_
      exact v_back ((k.fst+1,List.take (↑(ofI (at_.getD (↑k.fst:Int).toNat 0) % ofI (↑k.snd.length:Int)).toNat:Int).toNat k.snd++List.drop ((↑(ofI (at_.getD (↑k.fst:Int).toNat 0) % ofI (↑k.snd.length:Int)).toNat:Int)+1).toNat k.snd)) [11] ((0≤(↑(ofI (at_.getD (↑k.fst:Int).toNat 0) % ofI (↑k.snd.length:Int)).toNat:Int)∧(↑(ofI (at_.getD (↑k.fst:Int).toNat 0) % ofI (↑k.snd.length:Int)).toNat:Int)≤(↑(ofI (at_.getD (↑k.fst:Int).toNat 0) % ofI (↑k.snd.length:Int)).toNat:Int)∧(↑(ofI (at_.getD (↑k.fst:Int).toNat 0) % ofI (↑k.snd.length:Int)).toNat:Int)≤(↑k.snd.length:Int)∧0<k.snd.length)∧(I64 ((↑(ofI (at_.getD (↑k.fst:Int).toNat 0) % ofI (↑k.snd.length:Int)).toNat:Int)+1))∧(0≤(↑(ofI (at_.getD (↑k.fst:Int).toNat 0) % ofI (↑k.snd.length:Int)).toNat:Int)+1∧(↑(ofI (at_.getD (↑k.fst:Int).toNat 0) % ofI (↑k.snd.length:Int)).toNat:Int)+1≤(↑k.snd.length:Int)∧0<k.snd.length)∧(0=0∧(↑(ofI (at_.getD (↑k.fst:Int).toNat 0) % ofI (↑k.snd.length:Int)).toNat:Int).toNat=(↑(ofI (at_.getD (↑k.fst:Int).toNat 0) % ofI (↑k.snd.length:Int)).toNat:Int).toNat∧k.snd.length=k.snd.length∧(↑(ofI (at_.getD (↑k.fst:Int).toNat 0) % ofI (↑k.snd.length:Int)).toNat:Int).toNat≤k.snd.length∧((↑(ofI (at_.getD (↑k.fst:Int).toNat 0) % ofI (↑k.snd.length:Int)).toNat:Int)+1).toNat≤k.snd.length∧0<k.snd.length∧(↑(ofI (at_.getD (↑k.fst:Int).toNat 0) % ofI (↑k.snd.length:Int)).toNat:Int).toNat+(k.snd.length - ((↑(ofI (at_.getD (↑k.fst:Int).toNat 0) % ofI (↑k.snd.length:Int)).toNat:Int)+1).toNat)≤1000000)∧(I64 (↑k.fst+1))∧((↑k.fst:Int)+1=(↑(k.fst+1):Int))∧(List.take (↑(ofI (at_.getD (↑k.fst:Int).toNat 0) % ofI (↑k.snd.length:Int)).toNat:Int).toNat k.snd++List.drop ((↑(ofI (at_.getD (↑k.fst:Int).toNat 0) % ofI (↑k.snd.length:Int)).toNat:Int)+1).toNat k.snd=List.take (↑(ofI (at_.getD (↑k.fst:Int).toNat 0) % ofI (↑k.snd.length:Int)).toNat:Int).toNat k.snd++List.drop ((↑(ofI (at_.getD (↑k.fst:Int).toNat 0) % ofI (↑k.snd.length:Int)).toNat:Int)+1).toNat k.snd)) ⟨(by(have hz:=tu (ofI (at_.getD (k.1:Int).toNat 0)) (n:=k.2.length) ‹_› (by omega);omega)),(by(have hz:=tu (ofI (at_.getD (k.1:Int).toNat 0)) (n:=k.2.length) ‹_› (by omega);unfold I64;omega)),(by(have hz:=tu (ofI (at_.getD (k.1:Int).toNat 0)) (n:=k.2.length) ‹_› (by omega);omega)),(by(have hz:=tu (ofI (at_.getD (k.1:Int).toNat 0)) (n:=k.2.length) ‹_› (by omega);omega)),(by(unfold I64;omega)),rfl,rfl⟩ (show(k.fst+1≤4∧(List.take (↑(ofI (at_.getD (↑k.fst:Int).toNat 0) % ofI (↑k.snd.length:Int)).toNat:Int).toNat k.snd++List.drop ((↑(ofI (at_.getD (↑k.fst:Int).toNat 0) % ofI (↑k.snd.length:Int)).toNat:Int)+1).toNat k.snd).length≤b.length)∧4 - (k.fst+1)<4 - k.fst from(by(simp;omega)))
     ·have h6:=of_decide_eq_false h6
      refine v_plan (.fs [0,1,2,4,5,6,7,8,9] (.o 3 (.fs [10,11] (.o 12 .e)))) [4] True trivial ?_
      exact v_back ((k.fst+1,k.snd.set (↑(ofI (at_.getD (↑k.fst:Int).toNat 0) % ofI (↑k.snd.length:Int)).toNat:Int).toNat (k.snd.getD (↑(ofI (at_.getD (↑k.fst:Int).toNat 0) % ofI (↑k.snd.length:Int)).toNat:Int).toNat 0 ^^^ 1 <<< (bits.getD (↑k.fst:Int).toNat 0 % 9)))) [8] ((0≤(↑(ofI (at_.getD (↑k.fst:Int).toNat 0) % ofI (↑k.snd.length:Int)).toNat:Int)∧(↑(ofI (at_.getD (↑k.fst:Int).toNat 0) % ofI (↑k.snd.length:Int)).toNat:Int)<(↑k.snd.length:Int))∧(0≤(↑k.fst:Int)∧(↑k.fst:Int)<(↑bits.length:Int))∧((9:UInt8)≠(0:UInt8))∧(bits.getD (↑k.fst:Int).toNat 0 % 9<8)∧((↑(ofI (at_.getD (↑k.fst:Int).toNat 0) % ofI (↑k.snd.length:Int)).toNat:Int).toNat<k.snd.length)∧(0≤(↑(ofI (at_.getD (↑k.fst:Int).toNat 0) % ofI (↑k.snd.length:Int)).toNat:Int)∧(↑(ofI (at_.getD (↑k.fst:Int).toNat 0) % ofI (↑k.snd.length:Int)).toNat:Int)<(↑k.snd.length:Int))∧((↑(ofI (at_.getD (↑k.fst:Int).toNat 0) % ofI (↑k.snd.length:Int)).toNat:Int).toNat<k.snd.length)∧(I64 (↑k.fst+1))∧((↑k.fst:Int)+1=(↑(k.fst+1):Int))∧(k.snd.set (↑(ofI (at_.getD (↑k.fst:Int).toNat 0) % ofI (↑k.snd.length:Int)).toNat:Int).toNat (k.snd.getD (↑(ofI (at_.getD (↑k.fst:Int).toNat 0) % ofI (↑k.snd.length:Int)).toNat:Int).toNat 0 ^^^ 1 <<< (bits.getD (↑k.fst:Int).toNat 0 % 9))=k.snd.set (↑(ofI (at_.getD (↑k.fst:Int).toNat 0) % ofI (↑k.snd.length:Int)).toNat:Int).toNat (k.snd.getD (↑(ofI (at_.getD (↑k.fst:Int).toNat 0) % ofI (↑k.snd.length:Int)).toNat:Int).toNat 0 ^^^ 1 <<< (bits.getD (↑k.fst:Int).toNat 0 % 9)))) ⟨(by(have hz:=tu (ofI (at_.getD (k.1:Int).toNat 0)) (n:=k.2.length) ‹_› (by omega);omega)),(by omega),(by decide),(by exact m98 ‹_›),(by(have hz:=tu (ofI (at_.getD (k.1:Int).toNat 0)) (n:=k.2.length) ‹_› (by omega);omega)),(by(have hz:=tu (ofI (at_.getD (k.1:Int).toNat 0)) (n:=k.2.length) ‹_› (by omega);omega)),(by(have hz:=tu (ofI (at_.getD (k.1:Int).toNat 0)) (n:=k.2.length) ‹_› (by omega);omega)),(by(unfold I64;omega)),rfl,rfl⟩ (show(k.fst+1≤4∧(k.snd.set (↑(ofI (at_.getD (↑k.fst:Int).toNat 0) % ofI (↑k.snd.length:Int)).toNat:Int).toNat (k.snd.getD (↑(ofI (at_.getD (↑k.fst:Int).toNat 0) % ofI (↑k.snd.length:Int)).toNat:Int).toNat 0 ^^^ 1 <<< (bits.getD (↑k.fst:Int).toNat 0 % 9))).length≤b.length)∧4 - (k.fst+1)<4 - k.fst from(by(simp;omega)))
    ·have h5:=of_decide_eq_false h5
     refine v_leave (.ex 0) True trivial ?_
     refine v_stop 8 True trivial ?_
     exact v_ret (k.snd) [8] ((b=b)∧(at_=at_)∧(bits=bits)∧(k.snd=k.snd)) ⟨rfl,rfl,rfl,rfl⟩ (by omega)
   ·have h4:=of_decide_eq_false h4
    refine v_leave (.ex 0) True trivial ?_
    refine v_stop 8 True trivial ?_
    exact v_ret (k.snd) [8] ((b=b)∧(at_=at_)∧(bits=bits)∧(k.snd=k.snd)) ⟨rfl,rfl,rfl,rfl⟩ (by omega)
  ·have h3:=of_decide_eq_false h3
   refine v_leave (.ex 0) True trivial ?_
   refine v_stop 8 True trivial ?_
   exact v_ret (k.snd) [8] ((b=b)∧(at_=at_)∧(bits=bits)∧(k.snd=k.snd)) ⟨rfl,rfl,rfl,rfl⟩ (by omega)
 ·have h2:=of_decide_eq_false h2
  refine v_leave (.ex 0) True trivial ?_
  refine v_stop 8 True trivial ?_
  exact v_ret (k.snd) [8] ((b=b)∧(at_=at_)∧(bits=bits)∧(k.snd=k.snd)) ⟨rfl,rfl,rfl,rfl⟩ (by omega)
def encV (v:List UInt8):List UInt8:=[hi v.length,lo v.length]++v
def packTo (l:List (List UInt8)) (k:Nat):List UInt8:=((l.take k).map encV).flatten
theorem packTo_succ {l:List (List UInt8)} {k:Nat} (hk:k<l.length):packTo l (k+1)=packTo l k++encV (l.getD k []):=by
  unfold packTo
  rw[List.take_add_one,List.getD_eq_getElem?_getD,List.getElem?_eq_getElem hk]
  simp only[Option.toList,List.map_append,List.flatten_append,List.map_cons,List.map_nil,List.flatten_cons,List.flatten_nil,List.append_nil,Option.getD_some]
theorem packTo_mono (l:List (List UInt8)):∀(d k:Nat),(packTo l k).length≤(packTo l (k+d)).length
  | 0,k=>Nat.le_refl _
  | d + 1, k => by
    refine Nat.le_trans (packTo_mono l d k) ?_
    rcases Nat.lt_or_ge (k+d) l.length with c | c
    · rw[show k+(d+1)=k+d+1 by omega,packTo_succ c];simp
    · unfold packTo;rw[List.take_of_length_le (by omega),List.take_of_length_le (by omega)];exact Nat.le_refl _
theorem packTo_le {l:List (List UInt8)} {k:Nat} (hk:k<l.length):(packTo l k).length+2+(l.getD k []).length≤(packTo l l.length).length:=by
  have:=packTo_mono l (l.length - (k+1)) (k+1)
  rw[show k+1+(l.length - (k+1))=l.length by omega,packTo_succ hk] at this
  simp only[encV,List.length_append,List.length_cons,List.length_nil] at this
  omega
theorem packTo_two (l:List (List UInt8)):∀ k,k≤l.length→2*k≤(packTo l k).length
  | 0,_=>Nat.zero_le _
  | k + 1, h => by
    have:=packTo_two l k (by omega)
    rw[packTo_succ (by omega)]
    simp only[encV,List.length_append,List.length_cons,List.length_nil];omega
def packL (l:List (List UInt8)):Bool:=l.any fun v=>decide (65535<v.length)
def packE (l:List (List UInt8)):Int:=if packL l=true then 3 else 0
def packR (l:List (List UInt8)):List UInt8:=if packL l=true then[] else packTo l l.length
def QI (l:List (List UInt8)) (k:Nat):Prop:=k≤l.length∧∀ j,j<k→(l.getD j []).length≤65535
section
variable {l:List (List UInt8)} {k:Nat}
theorem QI.start:QI l 0:=⟨Nat.zero_le _,fun j h=>absurd h (by omega)⟩
theorem QI.next (h:QI l k) (hk:(k:Int)<l.length) (hs:¬ (65535:Int)<(l.getD (k:Int).toNat []).length):QI l (k+1)∧l.length - (k+1)<l.length - k:=by
  rw[Int.toNat_natCast] at hs
  refine⟨⟨by omega,fun j hj=>?_⟩,by omega⟩
  rcases Nat.lt_or_ge j k with c | c
  · exact h.2 j c
  · have : j = k := by omega
    subst this;omega
theorem QI.hit (hk:(k:Int)<l.length) (hs:(65535:Int)<(l.getD (k:Int).toNat []).length):packL l=true:=by
  rw[Int.toNat_natCast] at hs
  unfold packL
  rw[List.any_eq_true]
  have hk':k<l.length:=by omega
  refine⟨l[k],List.getElem_mem hk',?_⟩
  rw[List.getD_eq_getElem?_getD,List.getElem?_eq_getElem hk'] at hs
  simp only[Option.getD_some] at hs
  exact decide_eq_true (by omega)
theorem QI.stop (h:QI l k) (hk:¬ (k:Int)<l.length):packL l=false:=by
  unfold packL
  rw[List.any_eq_false]
  intro v hv
  obtain⟨j,hj,rfl⟩:=List.getElem_of_mem hv
  have:=h.2 j (by have:=h.1;omega)
  rw[List.getD_eq_getElem?_getD,List.getElem?_eq_getElem hj] at this
  simp only[Option.getD_some] at this
  simp;omega
theorem pk1 (hk:(k:Int)<l.length) (hs:(65535:Int)<(l.getD (k:Int).toNat []).length):[]=packR l∧3=packE l:=by unfold packR packE;rw[if_pos (QI.hit hk hs),if_pos (QI.hit hk hs)];exact⟨rfl,rfl⟩
theorem pk2 (h:QI l k) (hk:¬ (k:Int)<l.length):packTo l k=packR l∧0=packE l:=by
  have e:k=l.length:=by have:=h.1;omega
  unfold packR packE;rw[if_neg (by rw[h.stop hk];decide),if_neg (by rw[h.stop hk];decide),e];exact⟨rfl,rfl⟩
theorem pk3 (hk:(k:Int)<l.length):packTo l k++[ofI8 (((l.getD (k:Int).toNat []).length:Int) / 256),ofI8 ((l.getD (k:Int).toNat []).length:Int)]++l.getD (k:Int).toNat []=packTo l (k+1):=by
  rw[packTo_succ (by omega),Int.toNat_natCast];simp[encV,hi,lo]
theorem pk4 (hk:(k:Int)<l.length):packTo l k++[ofI8 (((l.getD (k:Int).toNat []).length:Int) / 256),ofI8 (((l.getD (k:Int).toNat []).length:Int) % 256)]++l.getD (k:Int).toNat []=packTo l (k+1):=by
  rw[packTo_succ (by omega),Int.toNat_natCast]
  have e:ofI8 (((l.getD k []).length:Int) % 256)=ofI8 ((l.getD k []).length:Int):=by
    unfold ofI8
    apply UInt8.toNat_inj.1
    rw[UInt8.toNat_ofNat',UInt8.toNat_ofNat']
    omega
  rw[e];simp[encV,hi,lo]
end
noncomputable def ccK1_83:Code:=(Tryd.f83.body).getD .skip
theorem pack_ok (l:List (List UInt8)) (hp:(packTo l l.length).length≤900000):FOk EN 83 ⟨[.rd 22 l],[.n 0],Unit,fun _=>([.rd 22 l,.ow 5 (packR l)],.t [.n 1,.i (packE l)]),fun _=>True⟩:=by
 refine v_fun Tryd.f83 ccK1_83 MX (fun ν F σ w=>?_) Tryd.func83
 refine v_nl ?_
 refine v_loop (fun k:Nat=>([(9,.i k),(4,.n 2)],[.ow 5 (packTo l k)])) (fun k=>QI l k) (fun k=>l.length - k) 0 [1] (((0:Int)=(↑(0:Nat):Int))∧([]=packTo l 0)) ⟨rfl,rfl⟩ (by exact QI.start) (fun k hk1=>?_)
 refine v_if (decide ((↑k:Int)<(↑l.length:Int))) True trivial (fun h2=>?_) (fun h2=>?_)
 ·have h2:=of_decide_eq_true h2
  refine v_if (decide (65535<(↑(l.getD (↑k:Int).toNat []).length:Int))) ((0≤(↑k:Int)∧(↑k:Int)<(↑l.length:Int))) (by omega) (fun h3=>?_) (fun h3=>?_)
  ·have h3:=of_decide_eq_true h3
   refine v_leave .rt True trivial ?_
   exact v_ret () [1] ((3=packE l)∧(l=l)∧([]=packR l)) ⟨(by exact(pk1 ‹_› ‹_›).2),rfl,(by exact(pk1 ‹_› ‹_›).1)⟩ trivial
  ·have h3:=of_decide_eq_false h3
   exact v_back (k+1) [7] ((0≤(↑(l.getD (↑k:Int).toNat []).length:Int))∧((8:UInt64)<(64:UInt64))∧((packTo l k).length+2≤1000000)∧((packTo l k++[ofI8 ((↑(l.getD (↑k:Int).toNat []).length:Int) / 256),ofI8 (↑(l.getD (↑k:Int).toNat []).length:Int)]).length+(l.getD (↑k:Int).toNat []).length≤1000000)∧(I64 (↑k+1))∧((↑k:Int)+1=(↑(k+1):Int))∧(packTo l k++[ofI8 ((↑(l.getD (↑k:Int).toNat []).length:Int) / 256),ofI8 (↑(l.getD (↑k:Int).toNat []).length:Int)]++l.getD (↑k:Int).toNat []=packTo l (k+1))) ⟨(by omega),(by decide),(by(have:=packTo_le (l:=l) (k:=k) (by omega);omega)),(by(have:=packTo_le (l:=l) (k:=k) (by omega);simp only[List.length_append,List.length_cons,List.length_nil,Int.toNat_natCast] at *;omega)),(by(have:=packTo_two l l.length (Nat.le_refl _);unfold I64;omega)),rfl,(by exact pk3 ‹_›)⟩ (show QI l (k+1)∧l.length - (k+1)<l.length - k from(by exact QI.next ‹_› ‹_› ‹_›))
 ·have h2:=of_decide_eq_false h2
  refine v_leave (.ex 0) True trivial ?_
  exact v_ret () [2] ((0=packE l)∧(l=l)∧(packTo l k=packR l)) ⟨(by exact(pk2 ‹_› ‹_›).2),rfl,(by exact(pk2 ‹_› ‹_›).1)⟩ trivial
noncomputable def ccK1_86:Code:=(Tryd.f86.body).getD .skip
theorem packr_ok (l:List (List UInt8)) (hp:(packTo l l.length).length≤900000):FOk EN 86 ⟨[.rd 22 l],[.n 0],Unit,fun _=>([.rd 22 l,.ow 5 (packTo l l.length)],.n 1),fun _=>True⟩:=by
 refine v_fun Tryd.f86 ccK1_86 MX (fun ν F σ w=>?_) Tryd.func86
 refine v_nl ?_
 refine v_loop (fun k:Nat=>([(4,.i k),(3,.n 2)],[.ow 5 (packTo l k)])) (fun k=>k≤l.length) (fun k=>l.length - k) 0 [1] (((0:Int)=(↑(0:Nat):Int))∧([]=packTo l 0)) ⟨rfl,rfl⟩ (by omega) (fun k hk1=>?_)
 refine v_if (decide ((↑k:Int)<(↑l.length:Int))) True trivial (fun h2=>?_) (fun h2=>?_)
 ·have h2:=of_decide_eq_true h2
  refine v_plan (.fs [0,1,2,3,4,5,6,7,8,9,10,11,12,13,14] (.o 15 (.o 16 (.fs [17] .e)))) [] True trivial ?_
  exact v_back (k+1) [11] ((0≤(↑k:Int)∧(↑k:Int)<(↑l.length:Int))∧((0:Int)≤(↑(l.getD (↑k:Int).toNat []).length:Int)∧(↑(l.getD (↑k:Int).toNat []).length:Int)<(9223372036854775808:Int)∧(0:Int)<(256:Int))∧(0≤(↑k:Int)∧(↑k:Int)<(↑l.length:Int))∧((0:Int)≤(↑(l.getD (↑k:Int).toNat []).length:Int)∧(0:Int)<(256:Int))∧((packTo l k).length+2≤1000000)∧(0≤(↑k:Int)∧(↑k:Int)<(↑l.length:Int))∧((packTo l k++[ofI8 ((↑(l.getD (↑k:Int).toNat []).length:Int) / 256),ofI8 ((↑(l.getD (↑k:Int).toNat []).length:Int) % 256)]).length+(l.getD (↑k:Int).toNat []).length≤1000000)∧(I64 (↑k+1))∧((↑k:Int)+1=(↑(k+1):Int))∧(packTo l k++[ofI8 ((↑(l.getD (↑k:Int).toNat []).length:Int) / 256),ofI8 ((↑(l.getD (↑k:Int).toNat []).length:Int) % 256)]++l.getD (↑k:Int).toNat []=packTo l (k+1))) ⟨(by omega),(by(have:=packTo_le (l:=l) (k:=k) (by omega);simp only[List.length_append,List.length_cons,List.length_nil,Int.toNat_natCast] at *;omega)),(by omega),(by omega),(by(have:=packTo_le (l:=l) (k:=k) (by omega);omega)),(by omega),(by(have:=packTo_le (l:=l) (k:=k) (by omega);simp only[List.length_append,List.length_cons,List.length_nil,Int.toNat_natCast] at *;omega)),(by(have:=packTo_two l l.length (Nat.le_refl _);unfold I64;omega)),rfl,(by exact pk4 ‹_›)⟩ (show k+1≤l.length∧l.length - (k+1)<l.length - k from(by omega))
 ·have h2:=of_decide_eq_false h2
  refine v_leave (.ex 0) True trivial ?_
  exact v_ret () [2] ((l=l)∧(packTo l k=packTo l l.length)) ⟨rfl,(by(congr 1;omega))⟩ trivial
theorem pcR_lt {b:List UInt8} (h:¬ b.length=0):(pcR b).length<b.length:=by
  unfold pcR;split
  · simp;omega
  · simp;omega
def unpk (out:List (List UInt8)) (b:List UInt8):List (List UInt8) × Int :=
  if h:b.length=0 then(out,0)
  else if pcE b≠0 then([],pcE b)
  else unpk (out++[pcV b]) (pcR b)
termination_by b.length
decreasing_by exact pcR_lt h
section
variable {X:List (List UInt8) × Int} {out:List (List UInt8)} {b b0:List UInt8}
theorem un1 (hk:X=unpk out b∧out.length+b.length≤b0.length) (h:¬ (0:Int)<b.length):out=X.1∧0=X.2:=by rw[hk.1,unpk,dif_pos (by omega)];exact⟨rfl,rfl⟩
theorem un2 (hk:X=unpk out b∧out.length+b.length≤b0.length) (h:(0:Int)<b.length) (h1:pcE b≠0):[]=X.1∧pcE b=X.2:=by rw[hk.1,unpk,dif_neg (by omega),if_pos h1];exact⟨rfl,rfl⟩
theorem un3 (hk:X=unpk out b∧out.length+b.length≤b0.length) (h:(0:Int)<b.length) (h1:¬ pcE b≠0):(X=unpk (out++[pcV b]) (pcR b)∧(out++[pcV b]).length+(pcR b).length≤b0.length)∧(pcR b).length<b.length:=by
  have:=pcR_lt (b:=b) (by omega)
  refine⟨⟨by rw[hk.1,unpk,dif_neg (by omega),if_neg h1],?_⟩,this⟩
  have:=hk.2;simp only[List.length_append,List.length_cons,List.length_nil] at *;omega
theorem pcB_E (b:List UInt8):pcB b=decide (pcE b=0):=by unfold pcB pcE;split <;> rfl
theorem un4 (hk:X=unpk out b∧out.length+b.length≤b0.length) (h:(0:Int)<b.length) (h1:pcB b=false):[]=X.1∧4=X.2:=by
  rw[pcB_E] at h1
  have h2:pcE b≠0:=of_decide_eq_false h1
  have e:pcE b=4:=by unfold pcE at h2 ⊢;split at h2 <;> simp_all
  have:=un2 hk h h2;rw[e] at this;exact this
theorem un5 (hk:X=unpk out b∧out.length+b.length≤b0.length) (h:(0:Int)<b.length) (h1:pcB b=true):(X=unpk (out++[pcV b]) (pcR b)∧(out++[pcV b]).length+(pcR b).length≤b0.length)∧(pcR b).length<b.length:=by
  rw[pcB_E] at h1;exact un3 hk h (by simpa using h1)
end
noncomputable def ccK1_88:Code:=(Tryd.f88.body).getD .skip
theorem unpack_ok (b:List UInt8) (h:b.length≤900000):FOk EN 88 ⟨[.rd 5 (b)],[.n 0],Unit,fun _=>([.rd 5 (b),.ow 22 (unpk [] b).1],.t [.n 1,.i (unpk [] b).2]),fun _=>True⟩:=by
 refine v_fun Tryd.f88 ccK1_88 MX (fun ν F σ w=>?_) Tryd.func88
 refine v_nl ?_
 refine v_loop (fun k:List (List UInt8) × List UInt8=>([(4,.n 2),(0,.n 3)],[.ow 22 k.1,.rd 5 (k.2)])) (fun k=>unpk [] b=unpk k.1 k.2∧k.1.length+k.2.length≤b.length) (fun k=>k.2.length) ([],b) [1,0] ((Eq (α:=List (List UInt8)) [] [])∧(b=b)) ⟨rfl,rfl⟩ (by exact⟨rfl,by simp⟩) (fun k hk1=>?_)
 refine v_if (decide (0<(↑k.snd.length:Int))) True trivial (fun h2=>?_) (fun h2=>?_)
 ·have h2:=of_decide_eq_true h2
  refine v_call _ [3] (piece_ok (k.snd) (by omega)) ((k.snd=k.snd)) rfl (fun g3 p4=>?_)
  have p4:True:=p4
  refine v_if (decide (pcE k.snd≠0)) True trivial (fun h5=>?_) (fun h5=>?_)
  ·have h5:=of_decide_eq_true h5
   refine v_leave .rt True trivial ?_
   exact v_ret () [1] ((pcE k.snd=(unpk [] b).snd)∧(b=b)∧([]=(unpk [] b).fst)) ⟨(by exact(un2 ‹_› ‹_› ‹_›).2),rfl,(by exact(un2 ‹_› ‹_› ‹_›).1)⟩ trivial
  ·have h5:=of_decide_eq_false h5
   exact v_back ((k.fst++[pcV k.snd],pcR k.snd)) [9,5] ((0+(pcV k.snd).length≤1000000)∧(k.fst.length+1≤1000000)∧(k.fst++[[]++pcV k.snd]=k.fst++[pcV k.snd])∧(pcR k.snd=pcR k.snd)) ⟨(by(have:=pcVR_len k.2;omega)),(by omega),rfl,rfl⟩ (show(unpk [] b=unpk (k.fst++[pcV k.snd]) (pcR k.snd)∧(k.fst++[pcV k.snd]).length+(pcR k.snd).length≤b.length)∧(pcR k.snd).length<k.snd.length from(by exact un3 ‹_› ‹_› ‹_›))
 ·have h2:=of_decide_eq_false h2
  refine v_leave (.ex 0) True trivial ?_
  exact v_ret () [2] ((0=(unpk [] b).snd)∧(b=b)∧(k.fst=(unpk [] b).fst)) ⟨(by exact(un1 ‹_› ‹_›).2),rfl,(by exact(un1 ‹_› ‹_›).1)⟩ trivial
noncomputable def ccK1_91:Code:=(Tryd.f91.body).getD .skip
theorem unpackr_ok (b:List UInt8) (h:b.length≤900000):FOk EN 91 ⟨[.rd 5 (b)],[.n 0],Unit,fun _=>([.rd 5 (b),.ow 22 (unpk [] b).1],.t [.n 1,.i (unpk [] b).2]),fun _=>True⟩:=by
 refine v_fun Tryd.f91 ccK1_91 MX (fun ν F σ w=>?_) Tryd.func91
 refine v_nl ?_
 refine v_loop (fun k:List (List UInt8) × List UInt8=>([(4,.n 2),(0,.n 3)],[.ow 22 k.1,.rd 5 (k.2)])) (fun k=>unpk [] b=unpk k.1 k.2∧k.1.length+k.2.length≤b.length) (fun k=>k.2.length) ([],b) [1,0] ((Eq (α:=List (List UInt8)) [] [])∧(b=b)) ⟨rfl,rfl⟩ (by exact⟨rfl,by simp⟩) (fun k hk1=>?_)
 refine v_if (decide (0<(↑k.snd.length:Int))) True trivial (fun h2=>?_) (fun h2=>?_)
 ·have h2:=of_decide_eq_true h2
  refine v_call _ [3] (piecer_ok (k.snd) (by omega)) ((k.snd=k.snd)) rfl (fun g3 p4=>?_)
  have p4:True:=p4
  refine v_if (!pcB k.snd) True trivial (fun h5=>?_) (fun h5=>?_)
  ·have h5:=(nt h5)
   refine v_leave .rt True trivial ?_
   exact v_ret () [1] ((4=(unpk [] b).snd)∧(b=b)∧([]=(unpk [] b).fst)) ⟨(by exact(un4 ‹_› ‹_› ‹_›).2),rfl,(by exact(un4 ‹_› ‹_› ‹_›).1)⟩ trivial
  ·have h5:=(nf h5)
   exact v_back ((k.fst++[pcV k.snd],pcR k.snd)) [7,5] ((k.fst.length+1≤1000000)∧(k.fst++[pcV k.snd]=k.fst++[pcV k.snd])∧(pcR k.snd=pcR k.snd)) ⟨(by omega),rfl,rfl⟩ (show(unpk [] b=unpk (k.fst++[pcV k.snd]) (pcR k.snd)∧(k.fst++[pcV k.snd]).length+(pcR k.snd).length≤b.length)∧(pcR k.snd).length<k.snd.length from(by exact un5 ‹_› ‹_› ‹_›))
 ·have h2:=of_decide_eq_false h2
  refine v_leave (.ex 0) True trivial ?_
  exact v_ret () [2] ((0=(unpk [] b).snd)∧(b=b)∧(k.fst=(unpk [] b).fst)) ⟨(by exact(un1 ‹_› ‹_›).2),rfl,(by exact(un1 ‹_› ‹_›).1)⟩ trivial
abbrev kT:Turn:=⟨0,0,false,zero32⟩
def tnB (t:Turn):List UInt8:=putF (if t.right=true then putF (putF (putF [] 1 (numTo (ofI t.height) 8)) 2 (numTo t.size 8)) 3 [1] else putF (putF [] 1 (numTo (ofI t.height) 8)) 2 (numTo t.size 8)) 4 t.other.l
def tnBad (t:Turn):Bool:=decide (t.height<1∨64<t.height)
theorem putF_len (b:List UInt8) (t:UInt8) (v:List UInt8):(putF b t v).length≤b.length+v.length+3:=by
  unfold putF;split
  · simp
  · split
    · omega
    · simp;omega
section
variable {n m:UInt64} {o:Sum32} {b:List UInt8}
theorem q1:(putF [] 1 (numTo n 8)).length≤11:=by have:=putF_len [] 1 (numTo n 8);have:=numTo_len n 8;simp only[List.length_nil] at *;omega
theorem q2:(putF (putF [] 1 (numTo n 8)) 2 (numTo m 8)).length≤22:=by have:=putF_len (putF [] 1 (numTo n 8)) 2 (numTo m 8);have:=numTo_len m 8;have:=q1 (n:=n);omega
theorem q3:(putF (putF (putF [] 1 (numTo n 8)) 2 (numTo m 8)) 3 [1]).length≤26:=by have:=putF_len (putF (putF [] 1 (numTo n 8)) 2 (numTo m 8)) 3 [1];have:=q2 (n:=n) (m:=m);simp only[List.length_cons,List.length_nil] at *;omega
theorem f1:([]:List UInt8).length+(numTo n 8).length≤900000:=by have:=numTo_len n 8;simp only[List.length_nil];omega
theorem f2:(putF [] 1 (numTo n 8)).length+(numTo m 8).length≤900000:=by have:=numTo_len m 8;have:=q1 (n:=n);omega
theorem f3:(putF (putF [] 1 (numTo n 8)) 2 (numTo m 8)).length+([1]:List UInt8).length≤900000:=by have:=q2 (n:=n) (m:=m);simp only[List.length_cons,List.length_nil];omega
theorem f4:(putF (putF (putF [] 1 (numTo n 8)) 2 (numTo m 8)) 3 [1]).length+o.l.length≤900000:=by have:=q3 (n:=n) (m:=m);have:=o.h;omega
theorem f5:(putF (putF [] 1 (numTo n 8)) 2 (numTo m 8)).length+o.l.length≤900000:=by have:=q2 (n:=n) (m:=m);have:=o.h;omega
theorem tnB_len (t:Turn):(tnB t).length≤61:=by
  unfold tnB
  split
  · have := putF_len (putF (putF (putF [] 1 (numTo (ofI t.height) 8)) 2 (numTo t.size 8)) 3 [1]) 4 t.other.l
    have:=q3 (n:=ofI t.height) (m:=t.size);have:=t.other.h;omega
  · have := putF_len (putF (putF [] 1 (numTo (ofI t.height) 8)) 2 (numTo t.size 8)) 4 t.other.l
    have:=q2 (n:=ofI t.height) (m:=t.size);have:=t.other.h;omega
end
theorem packTo_tn (ts:List Turn):∀ k,k≤ts.length→(packTo (ts.map tnB) k).length≤63*k
  | 0,_=>Nat.le_refl _
  | k + 1, h => by
    have:=packTo_tn ts k (by omega)
    rw[packTo_succ (by rw[List.length_map];omega)]
    have e:(ts.map tnB).getD k []=tnB (ts[k]'(by omega)):=by rw[List.getD_eq_getElem?_getD,List.getElem?_map,List.getElem?_eq_getElem (by omega)];rfl
    have:=tnB_len (ts[k]'(by omega))
    simp only[encV,List.length_append,List.length_cons,List.length_nil,e] at *;omega
theorem pack_tn {ts:List Turn} (h:ts.length≤64):(packTo (ts.map tnB) (ts.map tnB).length).length≤4032:=by
  rw[List.length_map];have:=packTo_tn ts ts.length (Nat.le_refl _);omega
theorem packL_tn (ts:List Turn):packL (ts.map tnB)=false:=by
  unfold packL
  rw[List.any_eq_false]
  intro v hv
  obtain⟨t,_,rfl⟩:=List.mem_map.1 hv
  have:=tnB_len t
  simp;omega
def tnP (p:Proof):List UInt8:=packTo (p.turns.map tnB) p.turns.length
def encE (p:Proof):Int:=if 64<p.turns.length then 3 else if p.turns.any tnBad=true then 12 else if putE p.key≠0 then 3 else if putE p.value≠0 then 3 else 0
def encB (p:Proof):List UInt8:=if 64<p.turns.length then[] else if p.turns.any tnBad=true then[] else if putE p.key≠0 then[] else if putE p.value≠0 then[] else putF (putF (putF [] 1 p.key) 2 p.value) 3 (tnP p)
def NJ (ts:List Turn) (k:Nat):Prop:=ts.length≤64∧k≤ts.length∧∀ j,j<k→tnBad (ts.getD j kT)=false
section
variable {ts:List Turn} {k:Nat} {p:Proof}
theorem NJ.start (h:¬ (64:Int)<ts.length):NJ ts 0:=⟨by omega,Nat.zero_le _,fun j h=>absurd h (by omega)⟩
theorem NJ.next (h:NJ ts k) (hk:(k:Int)<ts.length) (h1:¬ (ts.getD (k:Int).toNat kT).height<1) (h2:¬ 64<(ts.getD (k:Int).toNat kT).height):NJ ts (k+1)∧ts.length - (k+1)<ts.length - k:=by
  rw[Int.toNat_natCast] at h1 h2
  refine⟨⟨h.1,by omega,fun j hj=>?_⟩,by omega⟩
  rcases Nat.lt_or_ge j k with c | c
  · exact h.2.2 j c
  · have : j = k := by omega
    subst this;exact decide_eq_false (by omega)
theorem NJ.hit (h:NJ ts k) (hk:(k:Int)<ts.length) (hb:tnBad (ts.getD (k:Int).toNat kT)=true):ts.any tnBad=true:=by
  rw[Int.toNat_natCast] at hb
  have hk':k<ts.length:=by omega
  rw[List.any_eq_true]
  refine⟨ts[k],List.getElem_mem hk',?_⟩
  rw[List.getD_eq_getElem?_getD,List.getElem?_eq_getElem hk'] at hb;exact hb
theorem NJ.stop (h:NJ ts k) (hk:¬ (k:Int)<ts.length):ts.any tnBad=false:=by
  rw[List.any_eq_false]
  intro v hv
  obtain⟨j,hj,rfl⟩:=List.getElem_of_mem hv
  have:=h.2.2 j (by have:=h.2.1;omega)
  rw[List.getD_eq_getElem?_getD,List.getElem?_eq_getElem hj] at this
  simpa using this
theorem tn_step (hk:(k:Int)<ts.length) {x:List UInt8} (hx:x=tnB (ts.getD (k:Int).toNat kT)):(ts.take k).map tnB++[x]=(ts.take (k+1)).map tnB:=by
  rw[hx,Int.toNat_natCast,List.take_add_one,List.getD_eq_getElem?_getD,List.getElem?_eq_getElem (by omega)];simp only[Option.toList,List.map_append,List.map_cons,List.map_nil,Option.getD_some]
theorem tn_r (hk:(k:Int)<ts.length) (h:(ts.getD (k:Int).toNat kT).right=true):(ts.take k).map tnB++[putF (putF (putF (putF [] 1 (numTo (ofI (ts.getD (k:Int).toNat kT).height) 8)) 2 (numTo (ts.getD (k:Int).toNat kT).size 8)) 3 [1]) 4 (ts.getD (k:Int).toNat kT).other.l]=(ts.take (k+1)).map tnB :=
  tn_step hk (by unfold tnB;rw[if_pos h])
theorem tn_l (hk:(k:Int)<ts.length) (h:(ts.getD (k:Int).toNat kT).right=false):(ts.take k).map tnB++[putF (putF (putF [] 1 (numTo (ofI (ts.getD (k:Int).toNat kT).height) 8)) 2 (numTo (ts.getD (k:Int).toNat kT).size 8)) 4 (ts.getD (k:Int).toNat kT).other.l]=(ts.take (k+1)).map tnB :=
  tn_step hk (by unfold tnB;rw[if_neg (by rw[h];decide)])
theorem NJ.all (h:NJ ts k) (hk:¬ (k:Int)<ts.length):(ts.take k).map tnB=ts.map tnB:=by rw[List.take_of_length_le (by omega)]
theorem NJ.pk (h:NJ ts k) (hk:¬ (k:Int)<ts.length):(packTo ((ts.take k).map tnB) ((ts.take k).map tnB).length).length≤900000:=by rw[h.all hk];exact Nat.le_trans (pack_tn h.1) (by decide)
theorem NJ.pr (h:NJ ts k) (hk:¬ (k:Int)<ts.length):packR ((ts.take k).map tnB)=packTo (ts.map tnB) ts.length:=by
  rw[h.all hk];unfold packR;rw[if_neg (by rw[packL_tn];decide),List.length_map]
theorem NJ.pl (h:NJ ts k) (hk:¬ (k:Int)<ts.length):(packR ((ts.take k).map tnB)).length≤4032:=by
  rw[h.pr hk];have:=pack_tn h.1;rwa [List.length_map] at this
theorem en0 (h:(64:Int)<p.turns.length):[]=encB p∧3=encE p:=by
  refine⟨?_,?_⟩
  · unfold encB;rw[if_pos (by omega)]
  · unfold encE;rw[if_pos (by omega)]
theorem en1 (h:NJ p.turns k) (hk:(k:Int)<p.turns.length) (hb:(p.turns.getD (k:Int).toNat kT).height<1∨64<(p.turns.getD (k:Int).toNat kT).height):[]=encB p∧12=encE p:=by
  have:=h.hit hk (decide_eq_true hb)
  refine⟨?_,?_⟩
  · unfold encB;rw[if_neg (by have:=h.1;omega),if_pos this]
  · unfold encE;rw[if_neg (by have:=h.1;omega),if_pos this]
theorem putE_ne {v:List UInt8}:putE v≠0↔65535<v.length:=by unfold putE;split <;> simp_all
theorem putE_3 {v:List UInt8} (h:putE v≠0):putE v=3:=by unfold putE at *;split <;> simp_all
theorem en2 (h:NJ p.turns k) (hk:¬ (k:Int)<p.turns.length) (hb:¬ putE p.key=0):putF [] 1 p.key=encB p∧putE p.key=encE p:=by
  have:=h.stop hk
  have e:putF [] 1 p.key=[]:=by unfold putF;rw[if_pos (putE_ne.1 hb)]
  refine⟨?_,?_⟩
  · unfold encB;rw[if_neg (by have:=h.1;omega),if_neg (by rw[this];decide),if_pos hb];exact e
  · unfold encE;rw[if_neg (by have:=h.1;omega),if_neg (by rw[this];decide),if_pos hb];exact putE_3 hb
theorem en3 (h:NJ p.turns k) (hk:¬ (k:Int)<p.turns.length) (h1:putE p.key=0) (hb:¬ putE p.value=0):putF (putF [] 1 p.key) 2 p.value=encB p∧putE p.value=encE p:=by
  have:=h.stop hk
  have e:∀ b,putF b 2 p.value=[]:=fun b=>by unfold putF;rw[if_pos (putE_ne.1 hb)]
  refine⟨?_,?_⟩
  · unfold encB;rw[if_neg (by have:=h.1;omega),if_neg (by rw[this];decide),if_neg (fun q=>q h1),if_pos hb];exact e _
  · unfold encE;rw[if_neg (by have:=h.1;omega),if_neg (by rw[this];decide),if_neg (fun q=>q h1),if_pos hb];exact putE_3 hb
theorem en4 (h:NJ p.turns k) (hk:¬ (k:Int)<p.turns.length) (h1:putE p.key=0) (h2:putE p.value=0):putF (putF (putF [] 1 p.key) 2 p.value) 3 (packR ((p.turns.take k).map tnB))=encB p∧putE (packR ((p.turns.take k).map tnB))=encE p:=by
  have:=h.stop hk
  have hl:=h.pl hk
  have e:putE (packR ((p.turns.take k).map tnB))=0:=by unfold putE;rw[if_neg (by omega)]
  rw[e,h.pr hk]
  refine⟨?_,?_⟩
  · unfold encB;rw[if_neg (by have:=h.1;omega),if_neg (by rw[this];decide),if_neg (fun q=>q h1),if_neg (fun q=>q h2)];rfl
  · unfold encE;rw[if_neg (by have:=h.1;omega),if_neg (by rw[this];decide),if_neg (fun q=>q h1),if_neg (fun q=>q h2)]
end
noncomputable def ccK2_33:Code:=(Tryd.f33.body).getD .skip
theorem Encode_ok (p:Proof) (h1:p.key.length≤200000) (h2:p.value.length≤200000) (h3:p.turns.length≤1000000):FOk EN 33 ⟨[.rd 5 (p.key),.rd 5 (p.value),.rd 121 p.turns],[.a [.n 0,.n 1,.n 2]],Unit,fun _=>([.rd 5 (p.key),.rd 5 (p.value),.rd 121 p.turns,.ow 5 (encB p)],.t [.n 3,.i (encE p)]),fun _=>True⟩:=by
 refine v_fun Tryd.f33 ccK2_33 MX (fun ν F σ w=>?_) Tryd.func33
 refine v_nl ?_
 refine v_if (decide (64<(↑p.turns.length:Int))) True trivial (fun h1=>?_) (fun h1=>?_)
 ·have h1:=of_decide_eq_true h1
  exact v_ret () [3] ((3=encE p)∧(p.key=p.key)∧(p.value=p.value)∧(p.turns=p.turns)∧([]=encB p)) ⟨(by exact(en0 ‹_›).2),rfl,rfl,rfl,(by exact(en0 ‹_›).1)⟩ trivial
 ·have h1:=of_decide_eq_false h1
  refine v_loop (fun k:Nat=>([(20,.i k),(4,.n 5)],[.ow 22 ((p.turns.take k).map tnB)])) (fun k=>NJ p.turns k) (fun k=>p.turns.length - k) 0 [3] (((0:Int)=(↑(0:Nat):Int))∧([]=List.map tnB (List.take 0 p.turns))) ⟨rfl,rfl⟩ (by exact(NJ.start ‹_›)) (fun k hk2=>?_)
  refine v_if (decide ((↑k:Int)<(↑p.turns.length:Int))) True trivial (fun h3=>?_) (fun h3=>?_)
  ·have h3:=of_decide_eq_true h3
   refine v_guard 27 (decide ((p.turns.getD (↑k:Int).toNat (Turn.mk 0 0 false zero32)).height<1)) ((0≤(↑k:Int)∧(↑k:Int)<(↑p.turns.length:Int))) (by omega) (fun h4=>?_) (fun h4=>?_)
   ·have h4:=of_decide_eq_true h4
    refine v_leave .rt True trivial ?_
    exact v_ret () [3] ((12=encE p)∧(p.key=p.key)∧(p.value=p.value)∧(p.turns=p.turns)∧([]=encB p)) ⟨(by exact(en1 ‹_› ‹_› (Or.inl ‹_›)).2),rfl,rfl,rfl,(by exact(en1 ‹_› ‹_› (Or.inl ‹_›)).1)⟩ trivial
   ·have h4:=of_decide_eq_false h4
    refine v_if (decide (64<(p.turns.getD (↑k:Int).toNat (Turn.mk 0 0 false zero32)).height)) True trivial (fun h5=>?_) (fun h5=>?_)
    ·have h5:=of_decide_eq_true h5
     refine v_leave .rt True trivial ?_
     exact v_ret () [3] ((12=encE p)∧(p.key=p.key)∧(p.value=p.value)∧(p.turns=p.turns)∧([]=encB p)) ⟨(by exact(en1 ‹_› ‹_› (Or.inr ‹_›)).2),rfl,rfl,rfl,(by exact(en1 ‹_› ‹_› (Or.inr ‹_›)).1)⟩ trivial
    ·have h5:=of_decide_eq_false h5
     refine v_call _ [] (num_ok (ofI (p.turns.getD (↑k:Int).toNat (Turn.mk 0 0 false zero32)).height)) ((ofI (p.turns.getD (↑k:Int).toNat (Turn.mk 0 0 false zero32)).height=ofI (p.turns.getD (↑k:Int).toNat (Turn.mk 0 0 false zero32)).height)) rfl (fun g6 p7=>?_)
     have p7:True:=p7
     refine v_call _ [3,8] (put_ok ([]) (1) (numTo (ofI (p.turns.getD (↑k:Int).toNat (Turn.mk 0 0 false zero32)).height) 8) (by exact f1)) (((1:UInt8)=(1:UInt8))∧(Eq (α:=List UInt8) [] [])∧(numTo (ofI (p.turns.getD (↑k:Int).toNat (Turn.mk 0 0 false zero32)).height) 8=numTo (ofI (p.turns.getD (↑k:Int).toNat (Turn.mk 0 0 false zero32)).height) 8)) ⟨rfl,rfl,rfl⟩ (fun g8 p9=>?_)
     have p9:True:=p9
     refine v_call _ [] (num_ok ((p.turns.getD (↑k:Int).toNat (Turn.mk 0 0 false zero32)).size)) (((p.turns.getD (↑k:Int).toNat (Turn.mk 0 0 false zero32)).size=(p.turns.getD (↑k:Int).toNat (Turn.mk 0 0 false zero32)).size)) rfl (fun g10 p11=>?_)
     have p11:True:=p11
     refine v_call _ [9,10] (put_ok (putF [] 1 (numTo (ofI (p.turns.getD (↑k:Int).toNat (Turn.mk 0 0 false zero32)).height) 8)) (2) (numTo (p.turns.getD (↑k:Int).toNat (Turn.mk 0 0 false zero32)).size 8) (by exact f2)) (((2:UInt8)=(2:UInt8))∧(putF [] 1 (numTo (ofI (p.turns.getD (↑k:Int).toNat (Turn.mk 0 0 false zero32)).height) 8)=putF [] 1 (numTo (ofI (p.turns.getD (↑k:Int).toNat (Turn.mk 0 0 false zero32)).height) 8))∧(numTo (p.turns.getD (↑k:Int).toNat (Turn.mk 0 0 false zero32)).size 8=numTo (p.turns.getD (↑k:Int).toNat (Turn.mk 0 0 false zero32)).size 8)) ⟨rfl,rfl,rfl⟩ (fun g12 p13=>?_)
     have p13:True:=p13
     refine v_if ((p.turns.getD (↑k:Int).toNat (Turn.mk 0 0 false zero32)).right) True trivial (fun h14=>?_) (fun h14=>?_)
     ·skip
      refine v_call _ [11,12] (put_ok (putF (putF [] 1 (numTo (ofI (p.turns.getD (↑k:Int).toNat (Turn.mk 0 0 false zero32)).height) 8)) 2 (numTo (p.turns.getD (↑k:Int).toNat (Turn.mk 0 0 false zero32)).size 8)) (3) ([1]) (by exact f3)) (((3:UInt8)=(3:UInt8))∧(putF (putF [] 1 (numTo (ofI (p.turns.getD (↑k:Int).toNat (Turn.mk 0 0 false zero32)).height) 8)) 2 (numTo (p.turns.getD (↑k:Int).toNat (Turn.mk 0 0 false zero32)).size 8)=putF (putF [] 1 (numTo (ofI (p.turns.getD (↑k:Int).toNat (Turn.mk 0 0 false zero32)).height) 8)) 2 (numTo (p.turns.getD (↑k:Int).toNat (Turn.mk 0 0 false zero32)).size 8))∧([(1:UInt8)]=[(1:UInt8)])) ⟨rfl,rfl,rfl⟩ (fun g15 p16=>?_)
      have p16:True:=p16
      refine v_call _ [13,14] (put_ok (putF (putF (putF [] 1 (numTo (ofI (p.turns.getD (↑k:Int).toNat (Turn.mk 0 0 false zero32)).height) 8)) 2 (numTo (p.turns.getD (↑k:Int).toNat (Turn.mk 0 0 false zero32)).size 8)) 3 [1]) (4) ((p.turns.getD (↑k:Int).toNat (Turn.mk 0 0 false zero32)).other.l) (by exact f4)) (((p.turns.getD (↑k:Int).toNat (Turn.mk 0 0 false zero32)).other.l.length=32∧32≤1000000)∧((4:UInt8)=(4:UInt8))∧(putF (putF (putF [] 1 (numTo (ofI (p.turns.getD (↑k:Int).toNat (Turn.mk 0 0 false zero32)).height) 8)) 2 (numTo (p.turns.getD (↑k:Int).toNat (Turn.mk 0 0 false zero32)).size 8)) 3 [1]=putF (putF (putF [] 1 (numTo (ofI (p.turns.getD (↑k:Int).toNat (Turn.mk 0 0 false zero32)).height) 8)) 2 (numTo (p.turns.getD (↑k:Int).toNat (Turn.mk 0 0 false zero32)).size 8)) 3 [1])∧((p.turns.getD (↑k:Int).toNat (Turn.mk 0 0 false zero32)).other.l=(p.turns.getD (↑k:Int).toNat (Turn.mk 0 0 false zero32)).other.l)) ⟨(by exact⟨Sum32.h _,by decide⟩),rfl,rfl,rfl⟩ (fun g17 p18=>?_)
      have p18:True:=p18
      exact v_back (k+1) [17] (((List.map tnB (List.take k p.turns)).length+1≤1000000)∧(I64 (↑k+1))∧((↑k:Int)+1=(↑(k+1):Int))∧(List.map tnB (List.take k p.turns)++[putF (putF (putF (putF [] 1 (numTo (ofI (p.turns.getD (↑k:Int).toNat (Turn.mk 0 0 false zero32)).height) 8)) 2 (numTo (p.turns.getD (↑k:Int).toNat (Turn.mk 0 0 false zero32)).size 8)) 3 [1]) 4 (p.turns.getD (↑k:Int).toNat (Turn.mk 0 0 false zero32)).other.l]=List.map tnB (List.take (k+1) p.turns))) ⟨(by(simp;omega)),(by(unfold I64;omega)),rfl,(by exact tn_r ‹_› ‹_›)⟩ (show NJ p.turns (k+1)∧p.turns.length - (k+1)<p.turns.length - k from(by exact NJ.next ‹_› ‹_› ‹_› ‹_›))
     ·skip
      refine v_call _ [11,12] (put_ok (putF (putF [] 1 (numTo (ofI (p.turns.getD (↑k:Int).toNat (Turn.mk 0 0 false zero32)).height) 8)) 2 (numTo (p.turns.getD (↑k:Int).toNat (Turn.mk 0 0 false zero32)).size 8)) (4) ((p.turns.getD (↑k:Int).toNat (Turn.mk 0 0 false zero32)).other.l) (by exact f5)) (((p.turns.getD (↑k:Int).toNat (Turn.mk 0 0 false zero32)).other.l.length=32∧32≤1000000)∧((4:UInt8)=(4:UInt8))∧(putF (putF [] 1 (numTo (ofI (p.turns.getD (↑k:Int).toNat (Turn.mk 0 0 false zero32)).height) 8)) 2 (numTo (p.turns.getD (↑k:Int).toNat (Turn.mk 0 0 false zero32)).size 8)=putF (putF [] 1 (numTo (ofI (p.turns.getD (↑k:Int).toNat (Turn.mk 0 0 false zero32)).height) 8)) 2 (numTo (p.turns.getD (↑k:Int).toNat (Turn.mk 0 0 false zero32)).size 8))∧((p.turns.getD (↑k:Int).toNat (Turn.mk 0 0 false zero32)).other.l=(p.turns.getD (↑k:Int).toNat (Turn.mk 0 0 false zero32)).other.l)) ⟨(by exact⟨Sum32.h _,by decide⟩),rfl,rfl,rfl⟩ (fun g19 p20=>?_)
      have p20:True:=p20
      exact v_back (k+1) [15] (((List.map tnB (List.take k p.turns)).length+1≤1000000)∧(I64 (↑k+1))∧((↑k:Int)+1=(↑(k+1):Int))∧(List.map tnB (List.take k p.turns)++[putF (putF (putF [] 1 (numTo (ofI (p.turns.getD (↑k:Int).toNat (Turn.mk 0 0 false zero32)).height) 8)) 2 (numTo (p.turns.getD (↑k:Int).toNat (Turn.mk 0 0 false zero32)).size 8)) 4 (p.turns.getD (↑k:Int).toNat (Turn.mk 0 0 false zero32)).other.l]=List.map tnB (List.take (k+1) p.turns))) ⟨(by(simp;omega)),(by(unfold I64;omega)),rfl,(by exact tn_l ‹_› ‹_›)⟩ (show NJ p.turns (k+1)∧p.turns.length - (k+1)<p.turns.length - k from(by exact NJ.next ‹_› ‹_› ‹_› ‹_›))
  ·have h3:=of_decide_eq_false h3
   refine v_leave (.ex 0) True trivial ?_
   refine v_call _ [5] (pack_ok (List.map tnB (List.take k p.turns)) (by exact NJ.pk ‹_› ‹_›)) ((List.map tnB (List.take k p.turns)=List.map tnB (List.take k p.turns))) rfl (fun g21 p22=>?_)
   have p22:True:=p22
   refine v_call _ [3,0] (put_ok ([]) (1) (p.key) (by(simp;omega))) (((1:UInt8)=(1:UInt8))∧(Eq (α:=List UInt8) [] [])∧(p.key=p.key)) ⟨rfl,rfl,rfl⟩ (fun g23 p24=>?_)
   have p24:True:=p24
   refine v_if (decide (putE p.key=0)) True trivial (fun h25=>?_) (fun h25=>?_)
   ·have h25:=of_decide_eq_true h25
    refine v_call _ [7,1] (put_ok (putF [] 1 p.key) (2) (p.value) (by(have hz:=putF_len [] 1 p.key;rw[List.length_nil] at hz;omega))) (((2:UInt8)=(2:UInt8))∧(putF [] 1 p.key=putF [] 1 p.key)∧(p.value=p.value)) ⟨rfl,rfl,rfl⟩ (fun g26 p27=>?_)
    have p27:True:=p27
    refine v_if (decide (putE p.value=0)) True trivial (fun h28=>?_) (fun h28=>?_)
    ·have h28:=of_decide_eq_true h28
     refine v_call _ [8,6] (put_ok (putF (putF [] 1 p.key) 2 p.value) (3) (packR (List.map tnB (List.take k p.turns))) (by(have hz:=putF_len [] 1 p.key;rw[List.length_nil] at hz;have hy:=putF_len (putF [] 1 p.key) 2 p.value;have hx:=NJ.pl (ts:=p.turns) (k:=k) ‹_› ‹_›;omega))) (((3:UInt8)=(3:UInt8))∧(putF (putF [] 1 p.key) 2 p.value=putF (putF [] 1 p.key) 2 p.value)∧(packR (List.map tnB (List.take k p.turns))=packR (List.map tnB (List.take k p.turns)))) ⟨rfl,rfl,rfl⟩ (fun g29 p30=>?_)
     have p30:True:=p30
     exact v_ret () [9] ((putE (packR (List.map tnB (List.take k p.turns)))=encE p)∧(p.key=p.key)∧(p.value=p.value)∧(p.turns=p.turns)∧(putF (putF (putF [] 1 p.key) 2 p.value) 3 (packR (List.map tnB (List.take k p.turns)))=encB p)) ⟨(by exact(en4 ‹_› ‹_› ‹_› ‹_›).2),rfl,rfl,rfl,(by exact(en4 ‹_› ‹_› ‹_› ‹_›).1)⟩ trivial
    ·have h28:=of_decide_eq_false h28
     exact v_ret () [8] ((putE p.value=encE p)∧(p.key=p.key)∧(p.value=p.value)∧(p.turns=p.turns)∧(putF (putF [] 1 p.key) 2 p.value=encB p)) ⟨(by exact(en3 ‹_› ‹_› ‹_› ‹_›).2),rfl,rfl,rfl,(by exact(en3 ‹_› ‹_› ‹_› ‹_›).1)⟩ trivial
   ·have h25:=of_decide_eq_false h25
    refine v_if (decide (putE p.key=0)) True trivial (fun h31=>?_) (fun h31=>?_)
    ·have h31:=of_decide_eq_true h31
     omega
    ·have h31:=of_decide_eq_false h31
     exact v_ret () [7] ((putE p.key=encE p)∧(p.key=p.key)∧(p.value=p.value)∧(p.turns=p.turns)∧(putF [] 1 p.key=encB p)) ⟨(by exact(en2 ‹_› ‹_› ‹_›).2),rfl,rfl,rfl,(by exact(en2 ‹_› ‹_› ‹_›).1)⟩ trivial
theorem dropZ_snoc (x:UInt8):∀ l:List UInt8,dropZ (l++[x])=if dropZ l=[] then(if x=0 then[] else[x]) else dropZ l++[x]
  | []=>by simp[dropZ]
  | y :: l => by
    by_cases h:y=0
    · have := dropZ_snoc x l
      simp only[List.cons_append,dropZ,if_pos h];exact this
    · simp only[List.cons_append,dropZ,if_neg h,List.cons_ne_nil,if_false]
theorem numTo_eq (n:UInt64):∀ k:Nat,numTo n k=dropZ (eightTo n k)
  | 0=>rfl
  | k + 1 => by
    have e:(8*(7 - (k:Int))).toNat=(56 - 8*(k:Int)).toNat:=by omega
    have ih:=numTo_eq n k
    unfold numTo eightTo
    rw[dropZ_snoc,← ih,numStep,e]
    by_cases hl:numTo n k=[]
    · rw [hl, if_pos rfl]
      by_cases hx:(n >>> (56 - 8*(k:Int)).toNat.toUInt64).toUInt8=0
      · rw[if_neg (by simp[hx]),if_pos hx]
      · rw[if_pos (.inl hx),if_neg hx];rfl
    · rw[if_neg hl,if_pos (.inr (List.length_pos_iff.2 hl))]
theorem putR_eq {b:List UInt8} {t:UInt8} {v:List UInt8} (h:v.length≤65535):putR b t v=putF b t v:=by
  unfold putR putF
  rw[if_neg (show ¬ 65535<v.length by omega)]
  split
  · rfl
  · have e:ofI8 ((v.length:Int) % 256)=lo v.length:=by
      unfold lo ofI8
      apply UInt8.toNat_inj.1
      rw[UInt8.toNat_ofNat',UInt8.toNat_ofNat']
      omega
    rw[e];rfl
def tnR (t:Turn):List UInt8:=putR (if t.right=true then putR (putR (putR [] 1 (dropZ (eightTo (ofI t.height) 8))) 2 (dropZ (eightTo t.size 8))) 3 [1] else putR (putR [] 1 (dropZ (eightTo (ofI t.height) 8))) 2 (dropZ (eightTo t.size 8))) 4 t.other.l
theorem tnR_eq (t:Turn):tnR t=tnB t:=by
  have h1:=numTo_len (ofI t.height) 8
  have h2:=numTo_len t.size 8
  have h3:=t.other.h
  unfold tnR tnB
  rw[← numTo_eq,← numTo_eq,putR_eq (v:=t.other.l) (by omega),putR_eq (v:=numTo (ofI t.height) 8) (by omega),putR_eq (v:=numTo t.size 8) (by omega),putR_eq (v:=[1]) (by decide)]
theorem map_tnR (ts:List Turn):ts.map tnR=ts.map tnB:=by congr 1;funext t;exact tnR_eq t
section
variable {n m:UInt64} {o:Sum32} {ts:List Turn} {k:Nat} {p:Proof}
theorem dz (n:UInt64):(dropZ (eightTo n 8)).length≤8:=by rw[← numTo_eq];exact numTo_len n 8
theorem putR_len (b:List UInt8) (t:UInt8) (v:List UInt8):(putR b t v).length≤b.length+v.length+3:=by
  unfold putR;split
  · omega
  · simp;omega
theorem r1:(putR [] 1 (dropZ (eightTo n 8))).length≤11:=by have:=putR_len [] 1 (dropZ (eightTo n 8));have:=dz n;simp only[List.length_nil] at *;omega
theorem r2:(putR (putR [] 1 (dropZ (eightTo n 8))) 2 (dropZ (eightTo m 8))).length≤22:=by have:=putR_len (putR [] 1 (dropZ (eightTo n 8))) 2 (dropZ (eightTo m 8));have:=dz m;have:=r1 (n:=n);omega
theorem r3:(putR (putR (putR [] 1 (dropZ (eightTo n 8))) 2 (dropZ (eightTo m 8))) 3 [1]).length≤26:=by have:=putR_len (putR (putR [] 1 (dropZ (eightTo n 8))) 2 (dropZ (eightTo m 8))) 3 [1];have:=r2 (n:=n) (m:=m);simp only[List.length_cons,List.length_nil] at *;omega
theorem g1:([]:List UInt8).length+(dropZ (eightTo n 8)).length≤900000:=by have:=dz n;simp only[List.length_nil];omega
theorem g2:(putR [] 1 (dropZ (eightTo n 8))).length+(dropZ (eightTo m 8)).length≤900000:=by have:=dz m;have:=r1 (n:=n);omega
theorem g3:(putR (putR [] 1 (dropZ (eightTo n 8))) 2 (dropZ (eightTo m 8))).length+([1]:List UInt8).length≤900000:=by have:=r2 (n:=n) (m:=m);simp only[List.length_cons,List.length_nil];omega
theorem g4:(putR (putR (putR [] 1 (dropZ (eightTo n 8))) 2 (dropZ (eightTo m 8))) 3 [1]).length+o.l.length≤900000:=by have:=r3 (n:=n) (m:=m);have:=o.h;omega
theorem g5:(putR (putR [] 1 (dropZ (eightTo n 8))) 2 (dropZ (eightTo m 8))).length+o.l.length≤900000:=by have:=r2 (n:=n) (m:=m);have:=o.h;omega
theorem tq_step (hk:(k:Int)<ts.length) {x:List UInt8} (hx:x=tnR (ts.getD (k:Int).toNat kT)):(ts.take k).map tnR++[x]=(ts.take (k+1)).map tnR:=by
  rw[map_tnR,map_tnR];exact tn_step hk (by rw[hx,tnR_eq])
theorem tq_r (hk:(k:Int)<ts.length) (h:(ts.getD (k:Int).toNat kT).right=true):(ts.take k).map tnR++[putR (putR (putR (putR [] 1 (dropZ (eightTo (ofI (ts.getD (k:Int).toNat kT).height) 8))) 2 (dropZ (eightTo (ts.getD (k:Int).toNat kT).size 8))) 3 [1]) 4 (ts.getD (k:Int).toNat kT).other.l]=(ts.take (k+1)).map tnR :=
  tq_step hk (by unfold tnR;rw[if_pos h])
theorem tq_l (hk:(k:Int)<ts.length) (h:(ts.getD (k:Int).toNat kT).right=false):(ts.take k).map tnR++[putR (putR (putR [] 1 (dropZ (eightTo (ofI (ts.getD (k:Int).toNat kT).height) 8))) 2 (dropZ (eightTo (ts.getD (k:Int).toNat kT).size 8))) 4 (ts.getD (k:Int).toNat kT).other.l]=(ts.take (k+1)).map tnR :=
  tq_step hk (by unfold tnR;rw[if_neg (by rw[h];decide)])
theorem NJ.pkR (h:NJ ts k) (hk:¬ (k:Int)<ts.length):(packTo ((ts.take k).map tnR) ((ts.take k).map tnR).length).length≤4032:=by
  rw[map_tnR,h.all hk];exact pack_tn h.1
theorem NJ.prR (h:NJ ts k) (hk:¬ (k:Int)<ts.length):packTo ((ts.take k).map tnR) ((ts.take k).map tnR).length=packTo (ts.map tnB) ts.length:=by
  rw[map_tnR,h.all hk,List.length_map]
theorem eR2 (h:NJ p.turns k) (hk:¬ (k:Int)<p.turns.length) (hb:65535<p.key.length):[]=encB p∧3=encE p:=by
  have:=en2 h hk (putE_ne.2 hb)
  have e:putF [] 1 p.key=[]:=by unfold putF;rw[if_pos hb]
  rw[e,putE_3 (putE_ne.2 hb)] at this;exact this
theorem eR3 (h:NJ p.turns k) (hk:¬ (k:Int)<p.turns.length) (h1:¬ 65535<p.key.length) (hb:65535<p.value.length):[]=encB p∧3=encE p:=by
  have:=en3 h hk (by unfold putE;rw[if_neg h1]) (putE_ne.2 hb)
  have e:putF (putF [] 1 p.key) 2 p.value=[]:=by rw[putF,if_pos hb]
  rw[e,putE_3 (putE_ne.2 hb)] at this;exact this
theorem eR4 (h:NJ p.turns k) (hk:¬ (k:Int)<p.turns.length) (h1:¬ 65535<p.key.length) (h2:¬ 65535<p.value.length):putR (putR (putR [] 1 p.key) 2 p.value) 3 (packTo ((p.turns.take k).map tnR) ((p.turns.take k).map tnR).length)=encB p∧0=encE p:=by
  have:=en4 h hk (by unfold putE;rw[if_neg h1]) (by unfold putE;rw[if_neg h2])
  have hl:=h.pkR hk
  have hp:=h.pl hk
  rw[h.pr hk] at this hp
  rw[h.prR hk] at hl ⊢
  rw[putR_eq (v:=packTo _ _) (by omega),putR_eq (v:=p.key) (by omega),putR_eq (v:=p.value) (by omega)]
  have e:putE (packTo (p.turns.map tnB) p.turns.length)=0:=by unfold putE;rw[if_neg (by omega)]
  rw[e] at this;exact this
end
noncomputable def ccK3_34:Code:=(Tryd.f34.body).getD .skip
theorem EncodeProof_ok (p:Proof) (h1:p.key.length≤200000) (h2:p.value.length≤200000) (h3:p.turns.length≤1000000):FOk EN 34 ⟨[.rd 5 (p.key),.rd 5 (p.value),.rd 121 p.turns],[.a [.n 0,.n 1,.n 2]],Unit,fun _=>([.rd 5 (p.key),.rd 5 (p.value),.rd 121 p.turns,.rd 5 (encB p)],.t [.n 3,.i (encE p)]),fun _=>True⟩:=by
 refine v_fun Tryd.f34 ccK3_34 MX (fun ν F σ w=>?_) Tryd.func34
 refine v_nl ?_
 refine v_if (decide (64<(↑p.turns.length:Int))) True trivial (fun h1=>?_) (fun h1=>?_)
 ·have h1:=of_decide_eq_true h1
  exact v_ret () [3] ((3=encE p)∧(p.key=p.key)∧(p.value=p.value)∧(p.turns=p.turns)∧([]=encB p)) ⟨(by exact(en0 ‹_›).2),rfl,rfl,rfl,(by exact(en0 ‹_›).1)⟩ trivial
 ·have h1:=of_decide_eq_false h1
  refine v_loop (fun k:Nat=>([(5,.i k),(4,.n 5)],[.ow 22 ((p.turns.take k).map tnR)])) (fun k=>NJ p.turns k) (fun k=>p.turns.length - k) 0 [3] (((0:Int)=(↑(0:Nat):Int))∧([]=List.map tnR (List.take 0 p.turns))) ⟨rfl,rfl⟩ (by exact(NJ.start ‹_›)) (fun k hk2=>?_)
  refine v_if (decide ((↑k:Int)<(↑p.turns.length:Int))) True trivial (fun h3=>?_) (fun h3=>?_)
  ·have h3:=of_decide_eq_true h3
   refine v_guard 27 (decide ((p.turns.getD (↑k:Int).toNat (Turn.mk 0 0 false zero32)).height<1)) ((0≤(↑k:Int)∧(↑k:Int)<(↑p.turns.length:Int))) (by omega) (fun h4=>?_) (fun h4=>?_)
   ·have h4:=of_decide_eq_true h4
    refine v_leave .rt True trivial ?_
    exact v_ret () [3] ((12=encE p)∧(p.key=p.key)∧(p.value=p.value)∧(p.turns=p.turns)∧([]=encB p)) ⟨(by exact(en1 ‹_› ‹_› (Or.inl ‹_›)).2),rfl,rfl,rfl,(by exact(en1 ‹_› ‹_› (Or.inl ‹_›)).1)⟩ trivial
   ·have h4:=of_decide_eq_false h4
    refine v_if (decide (64<(p.turns.getD (↑k:Int).toNat (Turn.mk 0 0 false zero32)).height)) True trivial (fun h5=>?_) (fun h5=>?_)
    ·have h5:=of_decide_eq_true h5
     refine v_leave .rt True trivial ?_
     exact v_ret () [3] ((12=encE p)∧(p.key=p.key)∧(p.value=p.value)∧(p.turns=p.turns)∧([]=encB p)) ⟨(by exact(en1 ‹_› ‹_› (Or.inr ‹_›)).2),rfl,rfl,rfl,(by exact(en1 ‹_› ‹_› (Or.inr ‹_›)).1)⟩ trivial
    ·have h5:=of_decide_eq_false h5
     refine v_plan (.fs [0,1,2,5,6] (.o 3 (.o 4 (.o 7 (.o 8 (.fs [9] .e)))))) [4,5,7] True trivial ?_
     refine v_call _ [] (numr_ok (ofI (p.turns.getD (↑k:Int).toNat (Turn.mk 0 0 false zero32)).height)) ((ofI (p.turns.getD (↑k:Int).toNat (Turn.mk 0 0 false zero32)).height=ofI (p.turns.getD (↑k:Int).toNat (Turn.mk 0 0 false zero32)).height)) rfl (fun g6 p7=>?_)
     have p7:True:=p7
     refine v_call _ [3,8] (putr_ok ([]) (1) (dropZ (eightTo (ofI (p.turns.getD (↑k:Int).toNat (Turn.mk 0 0 false zero32)).height) 8)) (by exact g1)) (((1:UInt8)=(1:UInt8))∧(Eq (α:=List UInt8) [] [])∧(dropZ (eightTo (ofI (p.turns.getD (↑k:Int).toNat (Turn.mk 0 0 false zero32)).height) 8)=dropZ (eightTo (ofI (p.turns.getD (↑k:Int).toNat (Turn.mk 0 0 false zero32)).height) 8))) ⟨rfl,rfl,rfl⟩ (fun g8 p9=>?_)
     have p9:True:=p9
     refine v_call _ [] (numr_ok ((p.turns.getD (↑k:Int).toNat (Turn.mk 0 0 false zero32)).size)) (((p.turns.getD (↑k:Int).toNat (Turn.mk 0 0 false zero32)).size=(p.turns.getD (↑k:Int).toNat (Turn.mk 0 0 false zero32)).size)) rfl (fun g10 p11=>?_)
     have p11:True:=p11
     refine v_call _ [9,10] (putr_ok (putR [] 1 (dropZ (eightTo (ofI (p.turns.getD (↑k:Int).toNat (Turn.mk 0 0 false zero32)).height) 8))) (2) (dropZ (eightTo (p.turns.getD (↑k:Int).toNat (Turn.mk 0 0 false zero32)).size 8)) (by exact g2)) (((2:UInt8)=(2:UInt8))∧(putR [] 1 (dropZ (eightTo (ofI (p.turns.getD (↑k:Int).toNat (Turn.mk 0 0 false zero32)).height) 8))=putR [] 1 (dropZ (eightTo (ofI (p.turns.getD (↑k:Int).toNat (Turn.mk 0 0 false zero32)).height) 8)))∧(dropZ (eightTo (p.turns.getD (↑k:Int).toNat (Turn.mk 0 0 false zero32)).size 8)=dropZ (eightTo (p.turns.getD (↑k:Int).toNat (Turn.mk 0 0 false zero32)).size 8))) ⟨rfl,rfl,rfl⟩ (fun g12 p13=>?_)
     have p13:True:=p13
     refine v_if ((p.turns.getD (↑k:Int).toNat (Turn.mk 0 0 false zero32)).right) True trivial (fun h14=>?_) (fun h14=>?_)
     ·skip
      refine v_call _ [11,12] (putr_ok (putR (putR [] 1 (dropZ (eightTo (ofI (p.turns.getD (↑k:Int).toNat (Turn.mk 0 0 false zero32)).height) 8))) 2 (dropZ (eightTo (p.turns.getD (↑k:Int).toNat (Turn.mk 0 0 false zero32)).size 8))) (3) ([1]) (by exact g3)) (((3:UInt8)=(3:UInt8))∧(putR (putR [] 1 (dropZ (eightTo (ofI (p.turns.getD (↑k:Int).toNat (Turn.mk 0 0 false zero32)).height) 8))) 2 (dropZ (eightTo (p.turns.getD (↑k:Int).toNat (Turn.mk 0 0 false zero32)).size 8))=putR (putR [] 1 (dropZ (eightTo (ofI (p.turns.getD (↑k:Int).toNat (Turn.mk 0 0 false zero32)).height) 8))) 2 (dropZ (eightTo (p.turns.getD (↑k:Int).toNat (Turn.mk 0 0 false zero32)).size 8)))∧([(1:UInt8)]=[(1:UInt8)])) ⟨rfl,rfl,rfl⟩ (fun g15 p16=>?_)
      have p16:True:=p16
      refine v_call _ [13,14] (putr_ok (putR (putR (putR [] 1 (dropZ (eightTo (ofI (p.turns.getD (↑k:Int).toNat (Turn.mk 0 0 false zero32)).height) 8))) 2 (dropZ (eightTo (p.turns.getD (↑k:Int).toNat (Turn.mk 0 0 false zero32)).size 8))) 3 [1]) (4) ((p.turns.getD (↑k:Int).toNat (Turn.mk 0 0 false zero32)).other.l) (by exact g4)) (((p.turns.getD (↑k:Int).toNat (Turn.mk 0 0 false zero32)).other.l.length=32∧32≤1000000)∧((4:UInt8)=(4:UInt8))∧(putR (putR (putR [] 1 (dropZ (eightTo (ofI (p.turns.getD (↑k:Int).toNat (Turn.mk 0 0 false zero32)).height) 8))) 2 (dropZ (eightTo (p.turns.getD (↑k:Int).toNat (Turn.mk 0 0 false zero32)).size 8))) 3 [1]=putR (putR (putR [] 1 (dropZ (eightTo (ofI (p.turns.getD (↑k:Int).toNat (Turn.mk 0 0 false zero32)).height) 8))) 2 (dropZ (eightTo (p.turns.getD (↑k:Int).toNat (Turn.mk 0 0 false zero32)).size 8))) 3 [1])∧((p.turns.getD (↑k:Int).toNat (Turn.mk 0 0 false zero32)).other.l=(p.turns.getD (↑k:Int).toNat (Turn.mk 0 0 false zero32)).other.l)) ⟨(by exact⟨Sum32.h _,by decide⟩),rfl,rfl,rfl⟩ (fun g17 p18=>?_)
      have p18:True:=p18
      exact v_back (k+1) [17] (((List.map tnR (List.take k p.turns)).length+1≤1000000)∧(I64 (↑k+1))∧((↑k:Int)+1=(↑(k+1):Int))∧(List.map tnR (List.take k p.turns)++[putR (putR (putR (putR [] 1 (dropZ (eightTo (ofI (p.turns.getD (↑k:Int).toNat (Turn.mk 0 0 false zero32)).height) 8))) 2 (dropZ (eightTo (p.turns.getD (↑k:Int).toNat (Turn.mk 0 0 false zero32)).size 8))) 3 [1]) 4 (p.turns.getD (↑k:Int).toNat (Turn.mk 0 0 false zero32)).other.l]=List.map tnR (List.take (k+1) p.turns))) ⟨(by(simp;omega)),(by(unfold I64;omega)),rfl,(by exact tq_r ‹_› ‹_›)⟩ (show NJ p.turns (k+1)∧p.turns.length - (k+1)<p.turns.length - k from(by exact NJ.next ‹_› ‹_› ‹_› ‹_›))
     ·skip
      refine v_call _ [11,12] (putr_ok (putR (putR [] 1 (dropZ (eightTo (ofI (p.turns.getD (↑k:Int).toNat (Turn.mk 0 0 false zero32)).height) 8))) 2 (dropZ (eightTo (p.turns.getD (↑k:Int).toNat (Turn.mk 0 0 false zero32)).size 8))) (4) ((p.turns.getD (↑k:Int).toNat (Turn.mk 0 0 false zero32)).other.l) (by exact g5)) (((p.turns.getD (↑k:Int).toNat (Turn.mk 0 0 false zero32)).other.l.length=32∧32≤1000000)∧((4:UInt8)=(4:UInt8))∧(putR (putR [] 1 (dropZ (eightTo (ofI (p.turns.getD (↑k:Int).toNat (Turn.mk 0 0 false zero32)).height) 8))) 2 (dropZ (eightTo (p.turns.getD (↑k:Int).toNat (Turn.mk 0 0 false zero32)).size 8))=putR (putR [] 1 (dropZ (eightTo (ofI (p.turns.getD (↑k:Int).toNat (Turn.mk 0 0 false zero32)).height) 8))) 2 (dropZ (eightTo (p.turns.getD (↑k:Int).toNat (Turn.mk 0 0 false zero32)).size 8)))∧((p.turns.getD (↑k:Int).toNat (Turn.mk 0 0 false zero32)).other.l=(p.turns.getD (↑k:Int).toNat (Turn.mk 0 0 false zero32)).other.l)) ⟨(by exact⟨Sum32.h _,by decide⟩),rfl,rfl,rfl⟩ (fun g19 p20=>?_)
      have p20:True:=p20
      exact v_back (k+1) [15] (((List.map tnR (List.take k p.turns)).length+1≤1000000)∧(I64 (↑k+1))∧((↑k:Int)+1=(↑(k+1):Int))∧(List.map tnR (List.take k p.turns)++[putR (putR (putR [] 1 (dropZ (eightTo (ofI (p.turns.getD (↑k:Int).toNat (Turn.mk 0 0 false zero32)).height) 8))) 2 (dropZ (eightTo (p.turns.getD (↑k:Int).toNat (Turn.mk 0 0 false zero32)).size 8))) 4 (p.turns.getD (↑k:Int).toNat (Turn.mk 0 0 false zero32)).other.l]=List.map tnR (List.take (k+1) p.turns))) ⟨(by(simp;omega)),(by(unfold I64;omega)),rfl,(by exact tq_l ‹_› ‹_›)⟩ (show NJ p.turns (k+1)∧p.turns.length - (k+1)<p.turns.length - k from(by exact NJ.next ‹_› ‹_› ‹_› ‹_›))
  ·have h3:=of_decide_eq_false h3
   refine v_leave (.ex 0) True trivial ?_
   refine v_guard 57 (decide (65535<(↑p.key.length:Int))) True trivial (fun h21=>?_) (fun h21=>?_)
   ·have h21:=of_decide_eq_true h21
    exact v_ret () [3] ((3=encE p)∧(p.key=p.key)∧(p.value=p.value)∧(p.turns=p.turns)∧([]=encB p)) ⟨(by exact(eR2 ‹_› ‹_› (by omega)).2),rfl,rfl,rfl,(by exact(eR2 ‹_› ‹_› (by omega)).1)⟩ trivial
   ·have h21:=of_decide_eq_false h21
    refine v_if (decide (65535<(↑p.value.length:Int))) True trivial (fun h22=>?_) (fun h22=>?_)
    ·have h22:=of_decide_eq_true h22
     exact v_ret () [3] ((3=encE p)∧(p.key=p.key)∧(p.value=p.value)∧(p.turns=p.turns)∧([]=encB p)) ⟨(by exact(eR3 ‹_› ‹_› (by omega) (by omega)).2),rfl,rfl,rfl,(by exact(eR3 ‹_› ‹_› (by omega) (by omega)).1)⟩ trivial
    ·have h22:=of_decide_eq_false h22
     refine v_plan (.fs [0,1,3,4,6] (.o 2 (.o 5 (.o 7 (.o 8 (.fs [9,10] .e)))))) [4,5] True trivial ?_
     refine v_call _ [3,0] (putr_ok ([]) (1) (p.key) (by(simp;omega))) (((1:UInt8)=(1:UInt8))∧(Eq (α:=List UInt8) [] [])∧(p.key=p.key)) ⟨rfl,rfl,rfl⟩ (fun g23 p24=>?_)
     have p24:True:=p24
     refine v_call _ [6,1] (putr_ok (putR [] 1 p.key) (2) (p.value) (by(have hz:=putR_len [] 1 p.key;rw[List.length_nil] at hz;omega))) (((2:UInt8)=(2:UInt8))∧(putR [] 1 p.key=putR [] 1 p.key)∧(p.value=p.value)) ⟨rfl,rfl,rfl⟩ (fun g25 p26=>?_)
     have p26:True:=p26
     refine v_call _ [5] (packr_ok (List.map tnR (List.take k p.turns)) (by(have hz:=putR_len [] 1 p.key;rw[List.length_nil] at hz;have hy:=putR_len (putR [] 1 p.key) 2 p.value;have hx:=NJ.pkR (ts:=p.turns) (k:=k) ‹_› ‹_›;omega))) ((List.map tnR (List.take k p.turns)=List.map tnR (List.take k p.turns))) rfl (fun g27 p28=>?_)
     have p28:True:=p28
     refine v_call _ [7,8] (putr_ok (putR (putR [] 1 p.key) 2 p.value) (3) (packTo (List.map tnR (List.take k p.turns)) (List.map tnR (List.take k p.turns)).length) (by(have hz:=putR_len [] 1 p.key;rw[List.length_nil] at hz;have hy:=putR_len (putR [] 1 p.key) 2 p.value;have hx:=NJ.pkR (ts:=p.turns) (k:=k) ‹_› ‹_›;omega))) (((3:UInt8)=(3:UInt8))∧(putR (putR [] 1 p.key) 2 p.value=putR (putR [] 1 p.key) 2 p.value)∧(packTo (List.map tnR (List.take k p.turns)) (List.map tnR (List.take k p.turns)).length=packTo (List.map tnR (List.take k p.turns)) (List.map tnR (List.take k p.turns)).length)) ⟨rfl,rfl,rfl⟩ (fun g29 p30=>?_)
     have p30:True:=p30
     exact v_ret () [9] ((0=encE p)∧(p.key=p.key)∧(p.value=p.value)∧(p.turns=p.turns)∧(putR (putR (putR [] 1 p.key) 2 p.value) 3 (packTo (List.map tnR (List.take k p.turns)) (List.map tnR (List.take k p.turns)).length)=encB p)) ⟨(by exact(eR4 ‹_› ‹_› (by omega) (by omega)).2),rfl,rfl,rfl,(by exact(eR4 ‹_› ‹_› (by omega) (by omega)).1)⟩ trivial
def lastT (out:List Field):Int:=match out.reverse with | []=>-1 | f::_=>(f.tag.toNat:Int)
theorem lastT_snoc (out:List Field) (f:Field):lastT (out++[f])=(f.tag.toNat:Int):=by unfold lastT;rw[List.reverse_append];rfl
theorem lastT_iff {out:List Field} {x:UInt8}:((x.toNat:Int)≤lastT out)↔((0:Int)<out.length∧x≤(out.getD ((out.length:Int) - 1).toNat ⟨0,[]⟩).tag):=by
  rcases List.eq_nil_or_concat out with rfl | ⟨l,f,rfl⟩
  · simp[lastT];omega
  · rw [List.concat_eq_append, lastT_snoc]
    have e:(((l++[f]).length:Int) - 1).toNat=l.length:=by simp
    rw[e]
    have e2:(l++[f]).getD l.length ⟨0,[]⟩=f:=by simp[List.getD_eq_getElem?_getD]
    rw[e2,UInt8.le_iff_toNat_le]
    simp
section
variable {X:List Field × Int} {out:List Field} {b b0:List UInt8}
theorem rp_b (hk:X=parse out b∧out.length+b.length≤b0.length) (h:(0:Int)<b.length) (h1:pcB (b.drop 1)=false):[]=X.1∧4=X.2:=by
  rw[pcB_E] at h1
  have h2:pcE (b.drop 1)≠0:=of_decide_eq_false h1
  have e:pcE (b.drop 1)=4:=by unfold pcE at h2 ⊢;split at h2 <;> simp_all
  have:=parse_b hk h h2;rw[e] at this;exact this
theorem pcB_t (h1:pcB (b.drop 1)=true):¬ pcE (b.drop 1)≠0:=by rw[pcB_E] at h1;simpa using h1
theorem rp_c (hk:X=parse out b∧out.length+b.length≤b0.length) (h:(0:Int)<b.length) (h1:pcB (b.drop 1)=true) (h2:((pcV (b.drop 1)).length:Int)=0):[]=X.1∧6=X.2:=parse_c hk h (pcB_t h1) h2
theorem rp_d (hk:X=parse out b∧out.length+b.length≤b0.length) (h:(0:Int)<b.length) (h1:pcB (b.drop 1)=true) (h2:¬ ((pcV (b.drop 1)).length:Int)=0) (h3:((b.getD 0 0).toNat:Int)≤lastT out):[]=X.1∧5=X.2:=parse_d hk h (pcB_t h1) h2 (lastT_iff.1 h3).1 (lastT_iff.1 h3).2
theorem ofI8_nat (x:UInt8):ofI8 (x.toNat:Int)=x:=by
  unfold ofI8
  apply UInt8.toNat_inj.1
  rw[UInt8.toNat_ofNat']
  have:=x.toNat_lt
  omega
theorem rp_e (hk:X=parse out b∧out.length+b.length≤b0.length) (h:(0:Int)<b.length) (h1:pcB (b.drop 1)=true) (h2:¬ ((pcV (b.drop 1)).length:Int)=0) (h3:¬ ((b.getD 0 0).toNat:Int)≤lastT out) :
    (X=parse (out++[⟨b.getD 0 0,pcV (b.drop 1)⟩]) (pcR (b.drop 1))∧(out++[(⟨b.getD 0 0,pcV (b.drop 1)⟩:Field)]).length+(pcR (b.drop 1)).length≤b0.length)∧(pcR (b.drop 1)).length<b.length:=parse_e hk h (pcB_t h1) h2 (fun q=>h3 (lastT_iff.2 q))
theorem rp_f {x:UInt8} {v:List UInt8}:(x.toNat:Int)=lastT (out++[⟨x,v⟩]):=(lastT_snoc out ⟨x,v⟩).symm
theorem rp_g:out++[(⟨ofI8 ((b.getD 0 0).toNat:Int),pcV (b.drop 1)⟩:Field)]=out++[⟨b.getD 0 0,pcV (b.drop 1)⟩]:=by rw[ofI8_nat]
end
noncomputable def ccK4_90:Code:=(Tryd.f90.body).getD .skip
theorem rparse_ok (b:List UInt8) (h:b.length≤900000):FOk EN 90 ⟨[.rd 5 (b)],[.n 0],Unit,fun _=>([.rd 5 (b),.ow 167 (parse [] b).1],.t [.n 1,.i (parse [] b).2]),fun _=>True⟩:=by
 refine v_fun Tryd.f90 ccK4_90 MX (fun ν F σ w=>?_) Tryd.func90
 refine v_nl ?_
 refine v_loop (fun k:List Field × List UInt8=>([(4,.n 2),(5,.i (lastT k.1)),(0,.n 3)],[.ow 167 k.1,.rd 5 (k.2)])) (fun k=>parse [] b=parse k.1 k.2∧k.1.length+k.2.length≤b.length) (fun k=>k.2.length) ([],b) [1,0] ((-1=lastT [])∧(Eq (α:=List Field) [] [])∧(b=b)) ⟨rfl,rfl,rfl⟩ (by exact⟨rfl,by simp⟩) (fun k hk1=>?_)
 refine v_if (decide (0<(↑k.snd.length:Int))) True trivial (fun h2=>?_) (fun h2=>?_)
 ·have h2:=of_decide_eq_true h2
  refine v_call _ [5] (piecer_ok (List.drop 1 k.snd) (by(simp;omega))) (((0:Int)≤(0:Int)∧(0:Int)<(↑k.snd.length:Int))∧((0:Int)≤(1:Int)∧(1:Int)≤(↑k.snd.length:Int))∧(List.drop 1 k.snd=List.drop 1 k.snd)) ⟨(by omega),(by omega),rfl⟩ (fun g3 p4=>?_)
  have p4:True:=p4
  refine v_if (!pcB (List.drop 1 k.snd)) True trivial (fun h5=>?_) (fun h5=>?_)
  ·have h5:=(nt h5)
   refine v_leave .rt True trivial ?_
   exact v_ret () [1] ((4=(parse [] b).snd)∧(b=b)∧([]=(parse [] b).fst)) ⟨(by exact(rp_b ‹_› ‹_› ‹_›).2),rfl,(by exact(rp_b ‹_› ‹_› ‹_›).1)⟩ trivial
  ·have h5:=(nf h5)
   refine v_if (decide ((↑(pcV (List.drop 1 k.snd)).length:Int)=0)) True trivial (fun h6=>?_) (fun h6=>?_)
   ·have h6:=of_decide_eq_true h6
    refine v_leave .rt True trivial ?_
    exact v_ret () [1] ((6=(parse [] b).snd)∧(b=b)∧([]=(parse [] b).fst)) ⟨(by exact(rp_c ‹_› ‹_› ‹_› ‹_›).2),rfl,(by exact(rp_c ‹_› ‹_› ‹_› ‹_›).1)⟩ trivial
   ·have h6:=of_decide_eq_false h6
    refine v_if (decide (↑(k.snd.getD 0 0).toNat≤lastT k.fst)) True trivial (fun h7=>?_) (fun h7=>?_)
    ·have h7:=of_decide_eq_true h7
     refine v_leave .rt True trivial ?_
     exact v_ret () [1] ((5=(parse [] b).snd)∧(b=b)∧([]=(parse [] b).fst)) ⟨(by exact(rp_d ‹_› ‹_› ‹_› ‹_› ‹_›).2),rfl,(by exact(rp_d ‹_› ‹_› ‹_› ‹_› ‹_›).1)⟩ trivial
    ·have h7:=of_decide_eq_false h7
     exact v_back ((k.fst++[Field.mk (k.snd.getD 0 0) (pcV (List.drop 1 k.snd))],pcR (List.drop 1 k.snd))) [9,7] ((k.fst.length+1≤1000000)∧(↑(k.snd.getD 0 0).toNat=lastT (k.fst++[Field.mk (k.snd.getD 0 0) (pcV (List.drop 1 k.snd))]))∧(k.fst++[Field.mk (ofI8 ↑(k.snd.getD 0 0).toNat) (pcV (List.drop 1 k.snd))]=k.fst++[Field.mk (k.snd.getD 0 0) (pcV (List.drop 1 k.snd))])∧(pcR (List.drop 1 k.snd)=pcR (List.drop 1 k.snd))) ⟨(by omega),(by exact rp_f),(by exact rp_g),rfl⟩ (show(parse [] b=parse (k.fst++[Field.mk (k.snd.getD 0 0) (pcV (List.drop 1 k.snd))]) (pcR (List.drop 1 k.snd))∧(k.fst++[Field.mk (k.snd.getD 0 0) (pcV (List.drop 1 k.snd))]).length+(pcR (List.drop 1 k.snd)).length≤b.length)∧(pcR (List.drop 1 k.snd)).length<k.snd.length from(by exact rp_e ‹_› ‹_› ‹_› ‹_› ‹_›))
 ·have h2:=of_decide_eq_false h2
  refine v_leave (.ex 0) True trivial ?_
  exact v_ret () [2] ((0=(parse [] b).snd)∧(b=b)∧(k.fst=(parse [] b).fst)) ⟨(by exact(parse_a ‹_› ‹_›).2),rfl,(by exact(parse_a ‹_› ‹_›).1)⟩ trivial
def cpTo (b:List UInt8) (k:Nat):List UInt8:=b.take k++List.replicate (32 - k) 0
theorem cpTo_len {b:List UInt8} {k:Nat} (h:b.length=32) (hk:k≤32):(cpTo b k).length=32:=by simp[cpTo];omega
theorem cpTo_step {b:List UInt8} {k:Nat} (h:(b.length:Int)=32) (hk:(k:Int)<32):(cpTo b k).set (0+(k:Int).toNat) (b.getD (k:Int).toNat 0)=cpTo b (k+1):=by
  have hb:b.length=32:=by omega
  have hk':k<32:=by omega
  rw[Nat.zero_add,Int.toNat_natCast]
  have eg:b.getD k 0=b[k]'(by omega):=by rw[List.getD_eq_getElem?_getD,List.getElem?_eq_getElem (by omega)];rfl
  rw[eg]
  have e1:b.take (k+1)=b.take k++[b[k]'(by omega)]:=by rw[List.take_add_one,List.getElem?_eq_getElem (by omega)];rfl
  have e2:List.replicate (32 - k) (0:UInt8)=0::List.replicate (32 - (k+1)) 0:=by rw[← List.replicate_succ];congr 1;omega
  have e3:(b.take k).length=k:=by rw[List.length_take];omega
  unfold cpTo
  rw[e1,e2,List.set_append,if_neg (by omega),e3,Nat.sub_self,List.set_cons_zero,List.append_assoc];rfl
def sumR (b:List UInt8):List UInt8:=if b.length=32 then b else List.replicate 32 0
theorem sumR_no {b:List UInt8} (h:(b.length:Int)≠32):List.replicate 32 0=sumR b∧false=decide (b.length=32):=by
  have:¬ b.length=32:=by omega
  unfold sumR;rw[if_neg this];simp[this]
theorem sumR_yes {b:List UInt8} {k:Nat} (h:¬ (b.length:Int)≠32) (h1:k≤32) (h2:¬ (k:Int)<32):cpTo b k=sumR b∧true=decide (b.length=32):=by
  have hb:b.length=32:=by omega
  have:k=32:=by omega
  subst this
  unfold sumR cpTo;rw[if_pos hb];simp[hb,List.take_of_length_le]
noncomputable def ccK4_120:Code:=(Tryd.f120.body).getD .skip
theorem sum5_ok (b:List UInt8):FOk EN 120 ⟨[.rd 5 (b)],[.n 0],Unit,fun _=>([.rd 5 (b)],.t [.a [.h 32 (sumR b)],.b (decide (b.length=32))]),fun _=>True⟩:=by
 refine v_fun Tryd.f120 ccK4_120 MX (fun ν F σ w=>?_) Tryd.func120
 refine v_nl ?_
 refine v_if (decide ((↑b.length:Int)≠32)) True trivial (fun h1=>?_) (fun h1=>?_)
 ·have h1:=of_decide_eq_true h1
  exact v_ret () [] ((List.replicate 32 0=sumR b)∧(false=decide (b.length=32))∧(b=b)) ⟨(by exact(sumR_no ‹_›).1),(by(simp;omega)),rfl⟩ trivial
 ·have h1:=of_decide_eq_false h1
  refine v_loop (fun k:Nat=>([(5,.i k),(4,.p 4 0)],[.bx 52 [.h 32 (cpTo b k)]])) (fun k=>k≤32) (fun k=>32 - k) 0 [3] (((0:Int)=(↑(0:Nat):Int))∧(List.replicate 32 0=cpTo b 0)) ⟨rfl,rfl⟩ (by decide) (fun k hk2=>?_)
  refine v_if (decide ((↑k:Int)<32)) True trivial (fun h3=>?_) (fun h3=>?_)
  ·have h3:=of_decide_eq_true h3
   exact v_back (k+1) [4] ((0≤(↑k:Int)∧(↑k:Int)<(↑b.length:Int))∧((0:Int)≤(↑k:Int)∧(↑k:Int)<(↑(32:Nat):Int))∧(0+(↑k:Int).toNat<32)∧(0+(↑k:Int).toNat<(cpTo b k).length)∧(I64 (↑k+1))∧((↑k:Int)+1=(↑(k+1):Int))∧((cpTo b k).set (0+(↑k:Int).toNat) (b.getD (↑k:Int).toNat 0)=cpTo b (k+1))) ⟨(by omega),(by omega),(by omega),(by(rw[cpTo_len (by omega) (by omega)];omega)),(by(unfold I64;omega)),rfl,(by exact cpTo_step (by omega) ‹_›)⟩ (show k+1≤32∧32 - (k+1)<32 - k from(by omega))
  ·have h3:=of_decide_eq_false h3
   refine v_leave (.ex 0) True trivial ?_
   exact v_ret () [] ((cpTo b k=sumR b)∧(true=decide (b.length=32))∧(b=b)) ⟨(by exact(sumR_yes ‹_› ‹_› ‹_›).1),(by(simp;omega)),rfl⟩ trivial
theorem parse0_aux:FOk EN 87 ⟨[.rd 5 []],[.n 0],Unit,fun _=>([.rd 5 [],.nl],.t [.n 1,.i 0]),fun _=>True⟩:=by
 refine v_fun Tryd.f87 c87 MX (fun ν F σ w=>?_) Tryd.func87
 refine v_nl ?_
 refine v_loop (fun k:Unit=>([(0,.n 0),(4,.v (.slice none 0 0))],[])) (fun k=>True) (fun k=>0) () [] ((Value.slice none 0 0=Value.slice none 0 0)) rfl trivial (fun k hk1=>?_)
 refine v_if (decide ((0:Int)<(↑(0:Nat):Int))) True trivial (fun h2=>?_) (fun h2=>?_)
 ·have h2:=of_decide_eq_true h2
  omega
 ·have h2:=of_decide_eq_false h2
  refine v_leave (.ex 0) True trivial ?_
  exact v_ret () [1] (((0:Int)=(0:Int))∧(Eq (α:=List UInt8) [] [])) ⟨rfl,rfl⟩ trivial
theorem or256 (x:UInt64) (c:UInt8):x <<< 8 ||| c.toUInt64=x*256+c.toUInt64:=by
  apply UInt64.toNat_inj.1
  rw[UInt64.toNat_or,UInt64.toNat_shiftLeft,UInt64.toNat_add,UInt64.toNat_mul,UInt8.toNat_toUInt64]
  have hc:=c.toNat_lt
  have e8:(8:UInt64).toNat % 64=8:=rfl
  have e256:(256:UInt64).toNat=256:=rfl
  rw[e8,e256]
  have h1:x.toNat <<< 8 % 2 ^ 64=(x.toNat % 2 ^ 56) <<< 8:=by rw[Nat.shiftLeft_eq,Nat.shiftLeft_eq];omega
  rw[h1,← Nat.shiftLeft_add_eq_or_of_lt (by omega),Nat.shiftLeft_eq]
  omega
theorem valTo_eq (b:List UInt8):∀ k,valRTo b k=valTo b k
  | 0=>rfl
  | k+1=>by unfold valRTo valTo;rw[valTo_eq b k,or256]
theorem valRV_eq (b:List UInt8):valRV b=valV b:=by unfold valRV valV;rw[valTo_eq]
theorem valB_eq (b:List UInt8):valB b=decide (valE b=0):=by
  unfold valB valE;split
  · rfl
  · split <;> rfl
abbrev kF:Field:=⟨0,[]⟩
def hMin (n:UInt64):Int:=if n<1048576 then(n.toNat:Int) else 1048576
theorem hMin_eq (n:UInt64):(((if 1048576<n then 1048576 else n:UInt64)).toNat:Int)=hMin n:=by
  unfold hMin
  by_cases h:n<1048576
  · rw[if_pos h,if_neg (fun q=>by have:=UInt64.lt_iff_toNat_lt.1 h;have:=UInt64.lt_iff_toNat_lt.1 q;omega)]
  · rw [if_neg h]
    by_cases q:(1048576:UInt64)<n
    · rw[if_pos q];rfl
    · rw [if_neg q]
      have h1:¬ n.toNat<(1048576:UInt64).toNat:=fun r=>h (UInt64.lt_iff_toNat_lt.2 r)
      have h2:¬ (1048576:UInt64).toNat<n.toNat:=fun r=>q (UInt64.lt_iff_toNat_lt.2 r)
      have e:(1048576:UInt64).toNat=1048576:=rfl
      omega
def fErr (f:Field):Int :=
  if f.tag=1 then valE f.value else if f.tag=2 then valE f.value
  else if f.tag=3 then(if valV f.value≠1 then 7 else valE f.value)
  else if f.tag=4 then(if(f.value.length:Int)≠32 then 7 else 0) else 8
def fSet (t:Turn) (f:Field):Turn :=
  if f.tag=1 then⟨hMin (valV f.value),t.size,t.right,t.other⟩ else if f.tag=2 then⟨t.height,valV f.value,t.right,t.other⟩
  else if f.tag=3 then⟨t.height,t.size,true,t.other⟩ else if f.tag=4 then⟨t.height,t.size,t.right,mk32 f.value⟩ else t
def fTo (l:List Field) (k:Nat):Turn:=(l.take k).foldl fSet kT
theorem fTo_succ {l:List Field} {k:Nat} (hk:(k:Int)<l.length):fTo l (k+1)=fSet (fTo l k) (l.getD (k:Int).toNat kF):=by
  unfold fTo
  rw[Int.toNat_natCast,List.take_add_one,List.getD_eq_getElem?_getD,List.getElem?_eq_getElem (by omega)]
  simp only[Option.toList,List.foldl_append,List.foldl_cons,List.foldl_nil,Option.getD_some]
def fFirst:List Field→Int
  | []=>0
  | f::l=>if fErr f≠0 then fErr f else fFirst l
def fEnd (l:List Field):Bool:=decide (0<l.length) && decide ((l.getD ((l.length:Int) - 1).toNat kF).tag=4)
def tnE (b:List UInt8):Int:=if(parse [] b).2≠0 then(parse [] b).2 else if fFirst (parse [] b).1≠0 then fFirst (parse [] b).1 else if fEnd (parse [] b).1=true then 0 else 8
def tnV (b:List UInt8):Turn:=if(parse [] b).2≠0 then kT else if fFirst (parse [] b).1≠0 then kT else if fEnd (parse [] b).1=true then fTo (parse [] b).1 (parse [] b).1.length else kT
def FJ (l:List Field) (k:Nat):Prop:=k≤l.length∧fFirst l=fFirst (l.drop k)
section
variable {b:List UInt8} {l:List Field} {k:Nat}
theorem FJ.start:FJ l 0:=⟨Nat.zero_le _,rfl⟩
theorem FJ.at (h:FJ l k) (hk:(k:Int)<l.length):fFirst l=if fErr (l.getD (k:Int).toNat kF)≠0 then fErr (l.getD (k:Int).toNat kF) else fFirst (l.drop (k+1)):=by
  rw[h.2,List.drop_eq_getElem_cons (by omega),fFirst,Int.toNat_natCast,List.getD_eq_getElem?_getD,List.getElem?_eq_getElem (by omega)];rfl
theorem FJ.next (h:FJ l k) (hk:(k:Int)<l.length) (he:fErr (l.getD (k:Int).toNat kF)=0):FJ l (k+1)∧l.length - (k+1)<l.length - k:=by
  refine⟨⟨by omega,?_⟩,by omega⟩
  rw[h.at hk,if_neg (by rw[he];decide)]
theorem FJ.hit (h:FJ l k) (hk:(k:Int)<l.length) {e:Int} (he:fErr (l.getD (k:Int).toNat kF)=e) (h0:e≠0):fFirst l=e:=by
  rw[h.at hk,if_pos (by rw[he];exact h0),he]
theorem FJ.stop (h:FJ l k) (hk:¬ (k:Int)<l.length):fFirst l=0:=by
  rw[h.2,List.drop_of_length_le (by omega)];rfl
theorem tn1 (h:(parse [] b).2≠0):kT=tnV b∧(parse [] b).2=tnE b:=by
  refine⟨?_,?_⟩
  · unfold tnV;rw[if_pos h]
  · unfold tnE;rw[if_pos h]
theorem tn2 (h:¬ (parse [] b).2≠0) {e:Int} (h1:fFirst (parse [] b).1=e) (h0:e≠0):kT=tnV b∧e=tnE b:=by
  refine⟨?_,?_⟩
  · unfold tnV;rw[if_neg h,if_pos (by rw[h1];exact h0)]
  · unfold tnE;rw[if_neg h,if_pos (by rw[h1];exact h0),h1]
theorem tn3 (h:¬ (parse [] b).2≠0) (h1:fFirst (parse [] b).1=0) (h2:fEnd (parse [] b).1=false):kT=tnV b∧8=tnE b:=by
  refine⟨?_,?_⟩
  · unfold tnV;rw[if_neg h,if_neg (by rw[h1];decide),if_neg (by rw[h2];decide)]
  · unfold tnE;rw[if_neg h,if_neg (by rw[h1];decide),if_neg (by rw[h2];decide)]
theorem tn4 (h:¬ (parse [] b).2≠0) (h1:fFirst (parse [] b).1=0) (h2:fEnd (parse [] b).1=true):fTo (parse [] b).1 (parse [] b).1.length=tnV b∧0=tnE b:=by
  refine⟨?_,?_⟩
  · unfold tnV;rw[if_neg h,if_neg (by rw[h1];decide),if_pos h2]
  · unfold tnE;rw[if_neg h,if_neg (by rw[h1];decide),if_pos h2]
theorem parse_lenG:∀(n:Nat) (out:List Field) (x:List UInt8),x.length≤n→(parse out x).1.length≤out.length+x.length:=by
  intro n
  induction n with
  | zero=>intro out x hx;rw[parse,dif_pos (by omega)];simp
  | succ n ih =>
    intro out x hx
    rw[parse]
    split
    · simp
    · rename_i h1
      have:=pcR_len (x.drop 1);have:=drop1_lt h1
      split
      · simp
      · split
        · simp
        · split
          · simp
          · refine Nat.le_trans (ih _ _ (by omega)) ?_
            simp only[List.length_append,List.length_cons,List.length_nil];omega
theorem parse_len (b:List UInt8):(parse [] b).1.length≤b.length:=by have:=parse_lenG b.length [] b (Nat.le_refl _);simpa using this
theorem parse_ne (hb:¬ b=[]) (h:¬ (parse [] b).2≠0):0<(parse [] b).1.length:=by
  have h0:¬ b.length=0:=fun q=>hb (List.eq_nil_of_length_eq_zero q)
  have key:∀(n:Nat) (out:List Field) (x:List UInt8),x.length≤n→0<out.length→¬ (parse out x).2≠0→0<(parse out x).1.length:=by
    intro n
    induction n with
    | zero=>intro out x hx ho _;rw[parse,dif_pos (by omega)];exact ho
    | succ n ih =>
      intro out x hx ho hp
      rw[parse] at hp ⊢
      split
      · exact ho
      · rename_i h1
        rw[dif_neg h1] at hp
        split
        · rename_i h2;rw[if_pos h2] at hp;exact absurd hp (fun q=>q h2)
        · rename_i h2
          rw[if_neg h2] at hp
          split
          · rename_i h3;rw[if_pos h3] at hp;exact absurd hp (by decide)
          · rename_i h3
            rw[if_neg h3] at hp
            split
            · rename_i h4;rw[if_pos h4] at hp;exact absurd hp (by decide)
            · rename_i h4
              rw[if_neg h4] at hp
              exact ih _ _ (by have:=pcR_len (x.drop 1);have:=drop1_lt h1;omega) (by simp) hp
  rw[parse] at h ⊢
  rw[dif_neg h0] at h ⊢
  split
  · rename_i h2;rw[if_pos h2] at h;exact absurd h (fun q=>q h2)
  · rename_i h2
    rw[if_neg h2] at h
    split
    · rename_i h3;rw[if_pos h3] at h;exact absurd h (by decide)
    · rename_i h3
      rw[if_neg h3] at h
      split
      · rename_i h4;exact absurd h4.1 (by simp)
      · rename_i h4
        rw[if_neg h4] at h
        exact key _ _ _ (Nat.le_refl _) (by simp) h
end
abbrev pF (b:List UInt8) (n:Nat):Field:=(parse [] b).1.getD (n:Int).toNat ⟨0,[]⟩
section
variable {b:List UInt8} {l:List Field} {k:Nat} {f:Field}
theorem fe1 (h:f.tag=1):fErr f=valE f.value:=by unfold fErr;rw[if_pos h]
theorem fe2 (h1:¬ f.tag=1) (h:f.tag=2):fErr f=valE f.value:=by unfold fErr;rw[if_neg h1,if_pos h]
theorem fe3 (h1:¬ f.tag=1) (h2:¬ f.tag=2) (h:f.tag=3) (hv:valV f.value≠1):fErr f=7:=by unfold fErr;rw[if_neg h1,if_neg h2,if_pos h,if_pos hv]
theorem fe3a (h1:¬ f.tag=1) (h2:¬ f.tag=2) (h:f.tag=3) (hv:¬ valV f.value≠1):fErr f=valE f.value:=by unfold fErr;rw[if_neg h1,if_neg h2,if_pos h,if_neg hv]
theorem fe4 (h1:¬ f.tag=1) (h2:¬ f.tag=2) (h3:¬ f.tag=3) (h:f.tag=4) (hv:(f.value.length:Int)≠32):fErr f=7:=by unfold fErr;rw[if_neg h1,if_neg h2,if_neg h3,if_pos h,if_pos hv]
theorem fe4a (h1:¬ f.tag=1) (h2:¬ f.tag=2) (h3:¬ f.tag=3) (h:f.tag=4) (hv:¬ (f.value.length:Int)≠32):fErr f=0:=by unfold fErr;rw[if_neg h1,if_neg h2,if_neg h3,if_pos h,if_neg hv]
theorem fe5 (h1:¬ f.tag=1) (h2:¬ f.tag=2) (h3:¬ f.tag=3) (h:¬ f.tag=4):fErr f=8:=by unfold fErr;rw[if_neg h1,if_neg h2,if_neg h3,if_neg h]
theorem nn {x:Int} (h:¬ x≠0):x=0:=Decidable.not_not.1 h
theorem er {e:Int} (hp:¬ (parse [] b).2≠0) (hF:FJ (parse [] b).1 k) (hk:(k:Int)<(parse [] b).1.length) (he:fErr ((parse [] b).1.getD (k:Int).toNat kF)=e) (h0:e≠0):kT=tnV b∧e=tnE b:=tn2 hp (hF.hit hk he h0) h0
theorem s1 (hk:(k:Int)<l.length) (h:(l.getD (k:Int).toNat kF).tag=1):fTo l (k+1)=⟨hMin (valV (l.getD (k:Int).toNat kF).value),(fTo l k).size,(fTo l k).right,(fTo l k).other⟩:=by rw[fTo_succ hk,fSet,if_pos h]
theorem s2 (hk:(k:Int)<l.length) (h1:¬ (l.getD (k:Int).toNat kF).tag=1) (h:(l.getD (k:Int).toNat kF).tag=2):fTo l (k+1)=⟨(fTo l k).height,valV (l.getD (k:Int).toNat kF).value,(fTo l k).right,(fTo l k).other⟩:=by rw[fTo_succ hk,fSet,if_neg h1,if_pos h]
theorem s3 (hk:(k:Int)<l.length) (h1:¬ (l.getD (k:Int).toNat kF).tag=1) (h2:¬ (l.getD (k:Int).toNat kF).tag=2) (h:(l.getD (k:Int).toNat kF).tag=3):fTo l (k+1)=⟨(fTo l k).height,(fTo l k).size,true,(fTo l k).other⟩:=by rw[fTo_succ hk,fSet,if_neg h1,if_neg h2,if_pos h]
theorem s4 (hk:(k:Int)<l.length) (h1:¬ (l.getD (k:Int).toNat kF).tag=1) (h2:¬ (l.getD (k:Int).toNat kF).tag=2) (h3:¬ (l.getD (k:Int).toNat kF).tag=3) (h:(l.getD (k:Int).toNat kF).tag=4) (hv:¬ ((l.getD (k:Int).toNat kF).value.length:Int)≠32):fTo l (k+1)=⟨(fTo l k).height,(fTo l k).size,(fTo l k).right,mk32 (l.getD (k:Int).toNat kF).value⟩:=by rw[fTo_succ hk,fSet,if_neg h1,if_neg h2,if_neg h3,if_pos h]
theorem tk32 {v:List UInt8} (h:¬ (v.length:Int)≠32):v.take 32=(mk32 v).l:=by
  have e:v.length=32:=by omega
  rw[List.take_of_length_le (by omega)];exact(mk32_of e).symm
theorem hMin_lt (n:UInt64):(if 1048576<n then 1048576 else n:UInt64)<9223372036854775808:=by
  apply UInt64.lt_iff_toNat_lt.2
  have e2:(1048576:UInt64).toNat=1048576:=rfl
  have e3:(9223372036854775808:UInt64).toNat=9223372036854775808:=rfl
  split
  · omega
  · rename_i h
    have:¬ (1048576:UInt64).toNat<n.toNat:=fun q=>h (UInt64.lt_iff_toNat_lt.2 q)
    omega
theorem FJ.i64 (h:(k:Int)<(parse [] b).1.length) (hl:b.length≤900000):I64 ((k:Int)+1):=by have:=parse_len b;unfold I64;omega
theorem tnG (hp:¬ (parse [] b).2≠0) (hF:FJ (parse [] b).1 k) (hk:¬ (k:Int)<(parse [] b).1.length) (h0:0<(parse [] b).1.length) (h:((parse [] b).1.getD (((parse [] b).1.length:Int) - 1).toNat kF).tag≠4):kT=tnV b∧8=tnE b :=
  tn3 hp (hF.stop hk) (by unfold fEnd;rw[decide_eq_false h];simp)
theorem tnH (hp:¬ (parse [] b).2≠0) (hF:FJ (parse [] b).1 k) (hk:¬ (k:Int)<(parse [] b).1.length) (h0:0<(parse [] b).1.length) (h:¬ ((parse [] b).1.getD (((parse [] b).1.length:Int) - 1).toNat kF).tag≠4):fTo (parse [] b).1 k=tnV b∧0=tnE b:=by
  have e:k=(parse [] b).1.length:=by have:=hF.1;omega
  have:=tn4 (b:=b) hp (hF.stop hk) (by unfold fEnd;rw[decide_eq_true h0,decide_eq_true (Decidable.not_not.1 h)];rfl)
  rw[← e] at this;exact this
end
noncomputable def ccK6_89:Code:=(Tryd.f89.body).getD .skip
theorem turn1_aux (b:List UInt8) (hb:¬ b=[]) (hlb:b.length≤900000):FOk EN 89 ⟨[.rd 5 (b)],[.n 0],Unit,fun _=>([.rd 5 (b)],.t [.a [.i (tnV b).height,.u (tnV b).size,.b (tnV b).right,.h 32 (tnV b).other.l],.i (tnE b)]),fun _=>True⟩:=by
 refine v_fun Tryd.f89 ccK6_89 MX (fun ν F σ w=>?_) Tryd.func89
 refine v_nl ?_
 refine v_call _ [0] (parse_ok (b) ‹_›) ((b=b)) rfl (fun g1 p2=>?_)
 have p2:True:=p2
 refine v_if (decide ((parse [] b).snd≠0)) True trivial (fun h3=>?_) (fun h3=>?_)
 ·have h3:=of_decide_eq_true h3
  exact v_ret () [] ((0=(tnV b).height)∧(0=(tnV b).size)∧(false=(tnV b).right)∧(List.replicate 32 0=(tnV b).other.l)∧((parse [] b).snd=tnE b)∧(b=b)) ⟨(by(rw[← (tn1 ‹_›).1] <;> rfl)),(by(rw[← (tn1 ‹_›).1] <;> rfl)),(by(rw[← (tn1 ‹_›).1] <;> rfl)),(by(rw[← (tn1 ‹_›).1] <;> rfl)),(by exact(tn1 ‹_›).2),rfl⟩ trivial
 ·have h3:=of_decide_eq_false h3
  refine v_loop (fun k:Nat=>([(22,.i k),(6,.p 5 0)],[.bx 121 [.i (fTo (parse [] b).1 k).height,.u (fTo (parse [] b).1 k).size,.b (fTo (parse [] b).1 k).right,.h 32 (fTo (parse [] b).1 k).other.l]])) (fun k=>FJ (parse [] b).1 k) (fun k=>(parse [] b).1.length - k) 0 [4] (((0:Int)=(↑(0:Nat):Int))∧(0=(fTo (parse [] b).fst 0).height)∧(0=(fTo (parse [] b).fst 0).size)∧(false=(fTo (parse [] b).fst 0).right)∧(List.replicate 32 0=(fTo (parse [] b).fst 0).other.l)) ⟨rfl,rfl,rfl,rfl,rfl⟩ (by exact FJ.start) (fun k hk4=>?_)
  refine v_if (decide ((↑k:Int)<(↑(parse [] b).fst.length:Int))) True trivial (fun h5=>?_) (fun h5=>?_)
  ·have h5:=of_decide_eq_true h5
   refine v_call _ [6] (value_ok ((pF b k).value)) ((0≤(↑k:Int)∧(↑k:Int)<(↑(parse [] b).fst.length:Int))∧((pF b k).value=(pF b k).value)) ⟨(by omega),rfl⟩ (fun g6 p7=>?_)
   have p7:True:=p7
   refine v_if (decide ((pF b k).tag=1)) True trivial (fun h8=>?_) (fun h8=>?_)
   ·have h8:=of_decide_eq_true h8
    refine v_if (decide (valE (pF b k).value≠0)) (((if 1048576<valV (pF b k).value then 1048576 else valV (pF b k).value)<9223372036854775808)) (by exact hMin_lt _) (fun h9=>?_) (fun h9=>?_)
    ·have h9:=of_decide_eq_true h9
     refine v_leave .rt True trivial ?_
     exact v_ret () [] ((0=(tnV b).height)∧(0=(tnV b).size)∧(false=(tnV b).right)∧(List.replicate 32 0=(tnV b).other.l)∧(valE (pF b k).value=tnE b)∧(b=b)) ⟨(by(rw[← (er (b:=b) (k:=k) ‹_› ‹_› ‹_› (fe1 ‹_›) ‹_›).1] <;> rfl)),(by(rw[← (er (b:=b) (k:=k) ‹_› ‹_› ‹_› (fe1 ‹_›) ‹_›).1] <;> rfl)),(by(rw[← (er (b:=b) (k:=k) ‹_› ‹_› ‹_› (fe1 ‹_›) ‹_›).1] <;> rfl)),(by(rw[← (er (b:=b) (k:=k) ‹_› ‹_› ‹_› (fe1 ‹_›) ‹_›).1] <;> rfl)),(by exact(er ‹_› ‹_› ‹_› (fe1 ‹_›) ‹_›).2),rfl⟩ trivial
    ·have h9:=of_decide_eq_false h9
     exact v_back (k+1) [5] ((I64 (↑k+1))∧((↑k:Int)+1=(↑(k+1):Int))∧((↑(if 1048576<valV (pF b k).value then 1048576 else valV (pF b k).value).toNat:Int)=(fTo (parse [] b).fst (k+1)).height)∧((fTo (parse [] b).fst k).size=(fTo (parse [] b).fst (k+1)).size)∧((fTo (parse [] b).fst k).right=(fTo (parse [] b).fst (k+1)).right)∧((fTo (parse [] b).fst k).other.l=(fTo (parse [] b).fst (k+1)).other.l)) ⟨(by exact FJ.i64 ‹_› ‹_›),rfl,(by(rw[s1 ‹_› ‹_›];exact hMin_eq _)),(by(rw[s1 ‹_› ‹_›])),(by(rw[s1 ‹_› ‹_›])),(by(rw[s1 ‹_› ‹_›]))⟩ (show FJ (parse [] b).fst (k+1)∧(parse [] b).fst.length - (k+1)<(parse [] b).fst.length - k from(by exact FJ.next ‹_› ‹_› ((fe1 ‹_›).trans (nn ‹_›))))
   ·have h8:=of_decide_eq_false h8
    refine v_if (decide ((pF b k).tag=2)) True trivial (fun h10=>?_) (fun h10=>?_)
    ·have h10:=of_decide_eq_true h10
     refine v_if (decide (valE (pF b k).value≠0)) True trivial (fun h11=>?_) (fun h11=>?_)
     ·have h11:=of_decide_eq_true h11
      refine v_leave .rt True trivial ?_
      exact v_ret () [] ((0=(tnV b).height)∧(0=(tnV b).size)∧(false=(tnV b).right)∧(List.replicate 32 0=(tnV b).other.l)∧(valE (pF b k).value=tnE b)∧(b=b)) ⟨(by(rw[← (er (b:=b) (k:=k) ‹_› ‹_› ‹_› (fe2 ‹_› ‹_›) ‹_›).1] <;> rfl)),(by(rw[← (er (b:=b) (k:=k) ‹_› ‹_› ‹_› (fe2 ‹_› ‹_›) ‹_›).1] <;> rfl)),(by(rw[← (er (b:=b) (k:=k) ‹_› ‹_› ‹_› (fe2 ‹_› ‹_›) ‹_›).1] <;> rfl)),(by(rw[← (er (b:=b) (k:=k) ‹_› ‹_› ‹_› (fe2 ‹_› ‹_›) ‹_›).1] <;> rfl)),(by exact(er ‹_› ‹_› ‹_› (fe2 ‹_› ‹_›) ‹_›).2),rfl⟩ trivial
     ·have h11:=of_decide_eq_false h11
      exact v_back (k+1) [5] ((I64 (↑k+1))∧((↑k:Int)+1=(↑(k+1):Int))∧((fTo (parse [] b).fst k).height=(fTo (parse [] b).fst (k+1)).height)∧(valV (pF b k).value=(fTo (parse [] b).fst (k+1)).size)∧((fTo (parse [] b).fst k).right=(fTo (parse [] b).fst (k+1)).right)∧((fTo (parse [] b).fst k).other.l=(fTo (parse [] b).fst (k+1)).other.l)) ⟨(by exact FJ.i64 ‹_› ‹_›),rfl,(by(rw[s2 ‹_› ‹_› ‹_›])),(by(rw[s2 ‹_› ‹_› ‹_›])),(by(rw[s2 ‹_› ‹_› ‹_›])),(by(rw[s2 ‹_› ‹_› ‹_›]))⟩ (show FJ (parse [] b).fst (k+1)∧(parse [] b).fst.length - (k+1)<(parse [] b).fst.length - k from(by exact FJ.next ‹_› ‹_› ((fe2 ‹_› ‹_›).trans (nn ‹_›))))
    ·have h10:=of_decide_eq_false h10
     refine v_if (decide ((pF b k).tag=3)) True trivial (fun h12=>?_) (fun h12=>?_)
     ·have h12:=of_decide_eq_true h12
      refine v_if (decide (valV (pF b k).value≠1)) True trivial (fun h13=>?_) (fun h13=>?_)
      ·have h13:=of_decide_eq_true h13
       refine v_leave .rt True trivial ?_
       exact v_ret () [] ((0=(tnV b).height)∧(0=(tnV b).size)∧(false=(tnV b).right)∧(List.replicate 32 0=(tnV b).other.l)∧(7=tnE b)∧(b=b)) ⟨(by(rw[← (er (b:=b) (k:=k) ‹_› ‹_› ‹_› (fe3 ‹_› ‹_› ‹_› ‹_›) (by decide)).1] <;> rfl)),(by(rw[← (er (b:=b) (k:=k) ‹_› ‹_› ‹_› (fe3 ‹_› ‹_› ‹_› ‹_›) (by decide)).1] <;> rfl)),(by(rw[← (er (b:=b) (k:=k) ‹_› ‹_› ‹_› (fe3 ‹_› ‹_› ‹_› ‹_›) (by decide)).1] <;> rfl)),(by(rw[← (er (b:=b) (k:=k) ‹_› ‹_› ‹_› (fe3 ‹_› ‹_› ‹_› ‹_›) (by decide)).1] <;> rfl)),(by exact(er ‹_› ‹_› ‹_› (fe3 ‹_› ‹_› ‹_› ‹_›) (by decide)).2),rfl⟩ trivial
      ·have h13:=of_decide_eq_false h13
       refine v_if (decide (valE (pF b k).value≠0)) True trivial (fun h14=>?_) (fun h14=>?_)
       ·have h14:=of_decide_eq_true h14
        refine v_leave .rt True trivial ?_
        exact v_ret () [] ((0=(tnV b).height)∧(0=(tnV b).size)∧(false=(tnV b).right)∧(List.replicate 32 0=(tnV b).other.l)∧(valE (pF b k).value=tnE b)∧(b=b)) ⟨(by(rw[← (er (b:=b) (k:=k) ‹_› ‹_› ‹_› (fe3a ‹_› ‹_› ‹_› ‹_›) ‹_›).1] <;> rfl)),(by(rw[← (er (b:=b) (k:=k) ‹_› ‹_› ‹_› (fe3a ‹_› ‹_› ‹_› ‹_›) ‹_›).1] <;> rfl)),(by(rw[← (er (b:=b) (k:=k) ‹_› ‹_› ‹_› (fe3a ‹_› ‹_› ‹_› ‹_›) ‹_›).1] <;> rfl)),(by(rw[← (er (b:=b) (k:=k) ‹_› ‹_› ‹_› (fe3a ‹_› ‹_› ‹_› ‹_›) ‹_›).1] <;> rfl)),(by exact(er ‹_› ‹_› ‹_› (fe3a ‹_› ‹_› ‹_› ‹_›) ‹_›).2),rfl⟩ trivial
       ·have h14:=of_decide_eq_false h14
        exact v_back (k+1) [5] ((I64 (↑k+1))∧((↑k:Int)+1=(↑(k+1):Int))∧((fTo (parse [] b).fst k).height=(fTo (parse [] b).fst (k+1)).height)∧((fTo (parse [] b).fst k).size=(fTo (parse [] b).fst (k+1)).size)∧(true=(fTo (parse [] b).fst (k+1)).right)∧((fTo (parse [] b).fst k).other.l=(fTo (parse [] b).fst (k+1)).other.l)) ⟨(by exact FJ.i64 ‹_› ‹_›),rfl,(by(rw[s3 ‹_› ‹_› ‹_› ‹_›])),(by(rw[s3 ‹_› ‹_› ‹_› ‹_›])),(by(rw[s3 ‹_› ‹_› ‹_› ‹_›])),(by(rw[s3 ‹_› ‹_› ‹_› ‹_›]))⟩ (show FJ (parse [] b).fst (k+1)∧(parse [] b).fst.length - (k+1)<(parse [] b).fst.length - k from(by exact FJ.next ‹_› ‹_› ((fe3a ‹_› ‹_› ‹_› ‹_›).trans (nn ‹_›))))
     ·have h12:=of_decide_eq_false h12
      refine v_if (decide ((pF b k).tag=4)) True trivial (fun h15=>?_) (fun h15=>?_)
      ·have h15:=of_decide_eq_true h15
       refine v_if (decide ((↑(pF b k).value.length:Int)≠32)) True trivial (fun h16=>?_) (fun h16=>?_)
       ·have h16:=of_decide_eq_true h16
        refine v_leave .rt True trivial ?_
        exact v_ret () [] ((0=(tnV b).height)∧(0=(tnV b).size)∧(false=(tnV b).right)∧(List.replicate 32 0=(tnV b).other.l)∧(7=tnE b)∧(b=b)) ⟨(by(rw[← (er (b:=b) (k:=k) ‹_› ‹_› ‹_› (fe4 ‹_› ‹_› ‹_› ‹_› ‹_›) (by decide)).1] <;> rfl)),(by(rw[← (er (b:=b) (k:=k) ‹_› ‹_› ‹_› (fe4 ‹_› ‹_› ‹_› ‹_› ‹_›) (by decide)).1] <;> rfl)),(by(rw[← (er (b:=b) (k:=k) ‹_› ‹_› ‹_› (fe4 ‹_› ‹_› ‹_› ‹_› ‹_›) (by decide)).1] <;> rfl)),(by(rw[← (er (b:=b) (k:=k) ‹_› ‹_› ‹_› (fe4 ‹_› ‹_› ‹_› ‹_› ‹_›) (by decide)).1] <;> rfl)),(by exact(er ‹_› ‹_› ‹_› (fe4 ‹_› ‹_› ‹_› ‹_› ‹_›) (by decide)).2),rfl⟩ trivial
       ·have h16:=of_decide_eq_false h16
        refine v_if (decide ((0:Int)≠(0:Int))) ((0<32∧32≤(pF b k).value.length)) (by omega) (fun h17=>?_) (fun h17=>?_)
        ·have h17:=of_decide_eq_true h17
         omega
        ·have h17:=of_decide_eq_false h17
         exact v_back (k+1) [5] ((I64 (↑k+1))∧((↑k:Int)+1=(↑(k+1):Int))∧((fTo (parse [] b).fst k).height=(fTo (parse [] b).fst (k+1)).height)∧((fTo (parse [] b).fst k).size=(fTo (parse [] b).fst (k+1)).size)∧((fTo (parse [] b).fst k).right=(fTo (parse [] b).fst (k+1)).right)∧(List.take 32 (pF b k).value=(fTo (parse [] b).fst (k+1)).other.l)) ⟨(by exact FJ.i64 ‹_› ‹_›),rfl,(by(rw[s4 ‹_› ‹_› ‹_› ‹_› ‹_› ‹_›])),(by(rw[s4 ‹_› ‹_› ‹_› ‹_› ‹_› ‹_›])),(by(rw[s4 ‹_› ‹_› ‹_› ‹_› ‹_› ‹_›])),(by(rw[s4 ‹_› ‹_› ‹_› ‹_› ‹_› ‹_›];exact tk32 ‹_›))⟩ (show FJ (parse [] b).fst (k+1)∧(parse [] b).fst.length - (k+1)<(parse [] b).fst.length - k from(by exact FJ.next ‹_› ‹_› (fe4a ‹_› ‹_› ‹_› ‹_› ‹_›)))
      ·have h15:=of_decide_eq_false h15
       refine v_leave .rt True trivial ?_
       exact v_ret () [] ((0=(tnV b).height)∧(0=(tnV b).size)∧(false=(tnV b).right)∧(List.replicate 32 0=(tnV b).other.l)∧(8=tnE b)∧(b=b)) ⟨(by(rw[← (er (b:=b) (k:=k) ‹_› ‹_› ‹_› (fe5 ‹_› ‹_› ‹_› ‹_›) (by decide)).1] <;> rfl)),(by(rw[← (er (b:=b) (k:=k) ‹_› ‹_› ‹_› (fe5 ‹_› ‹_› ‹_› ‹_›) (by decide)).1] <;> rfl)),(by(rw[← (er (b:=b) (k:=k) ‹_› ‹_› ‹_› (fe5 ‹_› ‹_› ‹_› ‹_›) (by decide)).1] <;> rfl)),(by(rw[← (er (b:=b) (k:=k) ‹_› ‹_› ‹_› (fe5 ‹_› ‹_› ‹_› ‹_›) (by decide)).1] <;> rfl)),(by exact(er ‹_› ‹_› ‹_› (fe5 ‹_› ‹_› ‹_› ‹_›) (by decide)).2),rfl⟩ trivial
  ·have h5:=of_decide_eq_false h5
   refine v_leave (.ex 0) True trivial ?_
   refine v_if (decide (((parse [] b).fst.getD ((↑(parse [] b).fst.length:Int) - 1).toNat (Field.mk 0 [])).tag≠4)) ((0<(parse [] b).fst.length)∧(I64 (↑(parse [] b).fst.length - 1))∧(0≤(↑(parse [] b).fst.length:Int) - 1∧(↑(parse [] b).fst.length:Int) - 1<(↑(parse [] b).fst.length:Int))) ⟨(by exact parse_ne ‹_› ‹_›),(by(have hz:=parse_ne (b:=b) ‹_› ‹_›;have hy:=parse_len b;unfold I64;omega)),(by(have hz:=parse_ne (b:=b) ‹_› ‹_›;omega))⟩ (fun h18=>?_) (fun h18=>?_)
   ·have h18:=of_decide_eq_true h18
    exact v_ret () [] ((0=(tnV b).height)∧(0=(tnV b).size)∧(false=(tnV b).right)∧(List.replicate 32 0=(tnV b).other.l)∧(8=tnE b)∧(b=b)) ⟨(by(rw[← (tnG (b:=b) (k:=k) ‹_› ‹_› ‹_› (parse_ne ‹_› ‹_›) ‹_›).1] <;> rfl)),(by(rw[← (tnG (b:=b) (k:=k) ‹_› ‹_› ‹_› (parse_ne ‹_› ‹_›) ‹_›).1] <;> rfl)),(by(rw[← (tnG (b:=b) (k:=k) ‹_› ‹_› ‹_› (parse_ne ‹_› ‹_›) ‹_›).1] <;> rfl)),(by(rw[← (tnG (b:=b) (k:=k) ‹_› ‹_› ‹_› (parse_ne ‹_› ‹_›) ‹_›).1] <;> rfl)),(by exact(tnG (b:=b) (k:=k) ‹_› ‹_› ‹_› (parse_ne ‹_› ‹_›) ‹_›).2),rfl⟩ trivial
   ·have h18:=of_decide_eq_false h18
    exact v_ret () [] (((fTo (parse [] b).fst k).height=(tnV b).height)∧((fTo (parse [] b).fst k).size=(tnV b).size)∧((fTo (parse [] b).fst k).right=(tnV b).right)∧((fTo (parse [] b).fst k).other.l=(tnV b).other.l)∧(0=tnE b)∧(b=b)) ⟨(by(rw[← (tnH (b:=b) (k:=k) ‹_› ‹_› ‹_› (parse_ne ‹_› ‹_›) ‹_›).1])),(by(rw[← (tnH (b:=b) (k:=k) ‹_› ‹_› ‹_› (parse_ne ‹_› ‹_›) ‹_›).1])),(by(rw[← (tnH (b:=b) (k:=k) ‹_› ‹_› ‹_› (parse_ne ‹_› ‹_›) ‹_›).1])),(by(rw[← (tnH (b:=b) (k:=k) ‹_› ‹_› ‹_› (parse_ne ‹_› ‹_›) ‹_›).1])),(by exact(tnH (b:=b) (k:=k) ‹_› ‹_› ‹_› (parse_ne ‹_› ‹_›) ‹_›).2),rfl⟩ trivial
theorem parse_nil:parse [] []=([],0):=by rw[parse,dif_pos (show([]:List UInt8).length=0 from rfl)]
theorem t0:kT=tnV []∧8=tnE []:=tn3 (by rw[parse_nil];decide) (by rw[parse_nil];rfl) (by rw[parse_nil];rfl)
noncomputable def ccK7_89:Code:=(Tryd.f89.body).getD .skip
theorem turn0_aux (hp:FOk EN 87 ⟨[.rd 5 []],[.n 0],Unit,fun _=>([.rd 5 [],.nl],.t [.n 1,.i 0]),fun _=>True⟩):FOk EN 89 ⟨[.rd 5 (([]:List UInt8))],[.n 0],Unit,fun _=>([.rd 5 (([]:List UInt8))],.t [.a [.i (tnV []).height,.u (tnV []).size,.b (tnV []).right,.h 32 (tnV []).other.l],.i (tnE [])]),fun _=>True⟩:=by
 refine v_fun Tryd.f89 ccK7_89 MX (fun ν F σ w=>?_) Tryd.func89
 refine v_nl ?_
 refine v_call _ [0] (hp) ((Eq (α:=List UInt8) [] [])) rfl (fun g1 p2=>?_)
 have p2:True:=p2
 refine v_if (decide ((0:Int)≠(0:Int))) True trivial (fun h3=>?_) (fun h3=>?_)
 ·have h3:=of_decide_eq_true h3
  omega
 ·have h3:=of_decide_eq_false h3
  refine v_loop (fun k:Unit=>([(22,.i 0)],[])) (fun k=>True) (fun k=>0) () [] (((0:Int)=(0:Int))) rfl trivial (fun k hk4=>?_)
  refine v_if (decide ((0:Int)<(↑(0:Nat):Int))) True trivial (fun h5=>?_) (fun h5=>?_)
  ·have h5:=of_decide_eq_true h5
   omega
  ·have h5:=of_decide_eq_false h5
   refine v_leave (.ex 0) True trivial ?_
   exact v_ret () [] ((0=(tnV []).height)∧(0=(tnV []).size)∧(false=(tnV []).right)∧(List.replicate 32 0=(tnV []).other.l)∧(8=tnE [])∧(Eq (α:=List UInt8) [] [])) ⟨(by(rw[← t0.1] <;> rfl)),(by(rw[← t0.1] <;> rfl)),(by(rw[← t0.1] <;> rfl)),(by(rw[← t0.1] <;> rfl)),(by exact t0.2),rfl⟩ trivial
theorem turn_ok (b:List UInt8) (hlb:b.length≤900000):FOk EN 89 ⟨[.rd 5 b],[.n 0],Unit,fun _=>([.rd 5 b],.t [.a [.i (tnV b).height,.u (tnV b).size,.b (tnV b).right,.h 32 (tnV b).other.l],.i (tnE b)]),fun _=>True⟩:=by
  by_cases hb:b=[]
  · subst hb;exact turn0_aux parse0_aux
  · exact turn1_aux b hb hlb
theorem hR1 {v:List UInt8} (h:valRV v<1048576):((valRV v).toNat:Int)=hMin (valV v):=by rw[valRV_eq] at *;unfold hMin;rw[if_pos h]
theorem hR2 {v:List UInt8} (h:¬ valRV v<1048576):(1048576:Int)=hMin (valV v):=by rw[valRV_eq] at *;unfold hMin;rw[if_neg h]
theorem hR3 {v:List UInt8} (h:valRV v<1048576):valRV v<9223372036854775808:=by
  apply UInt64.lt_iff_toNat_lt.2
  have:=UInt64.lt_iff_toNat_lt.1 h
  have e2:(1048576:UInt64).toNat=1048576:=rfl
  have e3:(9223372036854775808:UInt64).toNat=9223372036854775808:=rfl
  omega
theorem sumR_len (v:List UInt8):(sumR v).length=32:=by unfold sumR;split <;> simp_all
theorem sm32 {v:List UInt8} (h:v.length=32):sumR v=(mk32 v).l:=by unfold sumR;rw[if_pos h];exact(mk32_of h).symm
theorem valE7 {v:List UInt8} (h:valE v≠0):valE v=7:=by unfold valE at *;split <;> simp_all
theorem vB0 {v:List UInt8} (h:valB v=false):valE v=7:=by rw[valB_eq] at h;exact valE7 (of_decide_eq_false h)
theorem vB1 {v:List UInt8} (h:valB v=true):valE v=0:=by rw[valB_eq] at h;exact of_decide_eq_true h
def fSetR (t:Turn) (f:Field):Turn :=
  if f.tag=1 then⟨hMin (valV f.value),t.size,t.right,t.other⟩ else if f.tag=2 then⟨t.height,valV f.value,t.right,t.other⟩
  else if f.tag=3 then⟨t.height,t.size,true,t.other⟩ else if f.tag=4 then⟨t.height,t.size,t.right,mk32 (sumR f.value)⟩ else t
def fRun:List Field→Turn→Turn
  | [],t=>t
  | f::l,t=>if fErr f≠0 then fSetR t f else fRun l (fSet t f)
theorem fRun_ok:∀(l:List Field) (t:Turn),fFirst l=0→fRun l t=l.foldl fSet t
  | [],_,_=>rfl
  | f :: l, t, h => by
    unfold fFirst at h;unfold fRun
    split at h
    · rename_i h1;exact absurd h h1
    · rename_i h1;rw[if_neg h1,List.foldl_cons];exact fRun_ok l _ h
def tnW (b:List UInt8):Turn:=if(parse [] b).2≠0 then kT else fRun (parse [] b).1 kT
theorem tnW_eq {b:List UInt8} (h:tnE b=0):tnW b=tnV b:=by
  unfold tnE at h;unfold tnW tnV
  split at h
  · rename_i h1;exact absurd h h1
  · rename_i h1
    rw[if_neg h1,if_neg h1]
    split at h
    · rename_i h2;exact absurd h h2
    · rename_i h2
      rw[if_neg h2]
      split at h
      · rename_i h3;rw[if_pos h3,fRun_ok _ _ (Decidable.not_not.1 h2)];unfold fTo;rw[List.take_length]
      · cases h
def FR (l:List Field) (k:Nat):Prop:=fRun l kT=fRun (l.drop k) (fTo l k)
section
variable {b:List UInt8} {l:List Field} {k:Nat} {f:Field}
theorem FR.start:FJ l 0∧FR l 0:=⟨FJ.start,rfl⟩
theorem FR.at (h:FR l k) (hk:(k:Int)<l.length):fRun l kT=if fErr (l.getD (k:Int).toNat kF)≠0 then fSetR (fTo l k) (l.getD (k:Int).toNat kF) else fRun (l.drop (k+1)) (fSet (fTo l k) (l.getD (k:Int).toNat kF)):=by
  rw[h,List.drop_eq_getElem_cons (by omega),fRun,Int.toNat_natCast,List.getD_eq_getElem?_getD,List.getElem?_eq_getElem (by omega)];rfl
theorem FR.next (h:FJ l k∧FR l k) (hk:(k:Int)<l.length) (he:fErr (l.getD (k:Int).toNat kF)=0):(FJ l (k+1)∧FR l (k+1))∧l.length - (k+1)<l.length - k:=by
  have:=h.1.next hk he
  refine⟨⟨this.1,?_⟩,this.2⟩
  unfold FR
  rw[h.2.at hk,if_neg (by rw[he];decide),fTo_succ hk]
theorem FR.hit (hp:¬ (parse [] b).2≠0) (h:FR (parse [] b).1 k) (hk:(k:Int)<(parse [] b).1.length) (he:fErr ((parse [] b).1.getD (k:Int).toNat kF)≠0):tnW b=fSetR (fTo (parse [] b).1 k) ((parse [] b).1.getD (k:Int).toNat kF):=by
  unfold tnW;rw[if_neg hp,h.at hk,if_pos he]
theorem v3 {v:List UInt8} (h:valB v=false):valV v≠1:=by
  have e:=vB0 h
  intro q
  unfold valE at e;unfold valV at q
  split at e
  · rename_i h1;rw[if_pos h1] at q;exact absurd q (by decide)
  · rename_i h1
    rw[if_neg h1] at q
    split at e
    · rename_i h2;rw[if_pos h2] at q;exact absurd q (by decide)
    · cases e
theorem w0 (h:(parse [] b).2≠0):tnW b=kT:=by unfold tnW;rw[if_pos h]
theorem w1 (hp:¬ (parse [] b).2≠0) (hR:FR (parse [] b).1 k) (hk:(k:Int)<(parse [] b).1.length) (h1:((parse [] b).1.getD (k:Int).toNat kF).tag=1) (hv:valB ((parse [] b).1.getD (k:Int).toNat kF).value=false):tnW b=⟨hMin (valV ((parse [] b).1.getD (k:Int).toNat kF).value),(fTo (parse [] b).1 k).size,(fTo (parse [] b).1 k).right,(fTo (parse [] b).1 k).other⟩:=by
  rw[FR.hit hp hR hk (by rw[fe1 h1,vB0 hv];decide)];unfold fSetR;rw[if_pos h1]
theorem w2 (hp:¬ (parse [] b).2≠0) (hR:FR (parse [] b).1 k) (hk:(k:Int)<(parse [] b).1.length) (h1:¬ ((parse [] b).1.getD (k:Int).toNat kF).tag=1) (h2:((parse [] b).1.getD (k:Int).toNat kF).tag=2) (hv:valB ((parse [] b).1.getD (k:Int).toNat kF).value=false):tnW b=⟨(fTo (parse [] b).1 k).height,valV ((parse [] b).1.getD (k:Int).toNat kF).value,(fTo (parse [] b).1 k).right,(fTo (parse [] b).1 k).other⟩:=by
  rw[FR.hit hp hR hk (by rw[fe2 h1 h2,vB0 hv];decide)];unfold fSetR;rw[if_neg h1,if_pos h2]
theorem w3 (hp:¬ (parse [] b).2≠0) (hR:FR (parse [] b).1 k) (hk:(k:Int)<(parse [] b).1.length) (h1:¬ ((parse [] b).1.getD (k:Int).toNat kF).tag=1) (h2:¬ ((parse [] b).1.getD (k:Int).toNat kF).tag=2) (h3:((parse [] b).1.getD (k:Int).toNat kF).tag=3) (hv:valB ((parse [] b).1.getD (k:Int).toNat kF).value=false):tnW b=⟨(fTo (parse [] b).1 k).height,(fTo (parse [] b).1 k).size,true,(fTo (parse [] b).1 k).other⟩:=by
  rw[FR.hit hp hR hk (by rw[fe3 h1 h2 h3 (v3 hv)];decide)];unfold fSetR;rw[if_neg h1,if_neg h2,if_pos h3]
theorem w3a (hp:¬ (parse [] b).2≠0) (hR:FR (parse [] b).1 k) (hk:(k:Int)<(parse [] b).1.length) (h1:¬ ((parse [] b).1.getD (k:Int).toNat kF).tag=1) (h2:¬ ((parse [] b).1.getD (k:Int).toNat kF).tag=2) (h3:((parse [] b).1.getD (k:Int).toNat kF).tag=3) (hv:¬ valRV ((parse [] b).1.getD (k:Int).toNat kF).value=1):tnW b=⟨(fTo (parse [] b).1 k).height,(fTo (parse [] b).1 k).size,true,(fTo (parse [] b).1 k).other⟩:=by
  rw[FR.hit hp hR hk (by rw[fe3 h1 h2 h3 (fun q=>hv (by rw[valRV_eq];exact q))];decide)];unfold fSetR;rw[if_neg h1,if_neg h2,if_pos h3]
theorem w4 (hp:¬ (parse [] b).2≠0) (hR:FR (parse [] b).1 k) (hk:(k:Int)<(parse [] b).1.length) (h1:¬ ((parse [] b).1.getD (k:Int).toNat kF).tag=1) (h2:¬ ((parse [] b).1.getD (k:Int).toNat kF).tag=2) (h3:¬ ((parse [] b).1.getD (k:Int).toNat kF).tag=3) (h4:((parse [] b).1.getD (k:Int).toNat kF).tag=4) (hv:¬ ((parse [] b).1.getD (k:Int).toNat kF).value.length=32):tnW b=⟨(fTo (parse [] b).1 k).height,(fTo (parse [] b).1 k).size,(fTo (parse [] b).1 k).right,mk32 (sumR ((parse [] b).1.getD (k:Int).toNat kF).value)⟩:=by
  rw[FR.hit hp hR hk (by rw[fe4 h1 h2 h3 h4 (by omega)];decide)];unfold fSetR;rw[if_neg h1,if_neg h2,if_neg h3,if_pos h4]
theorem w5 (hp:¬ (parse [] b).2≠0) (hR:FR (parse [] b).1 k) (hk:(k:Int)<(parse [] b).1.length) (h1:¬ ((parse [] b).1.getD (k:Int).toNat kF).tag=1) (h2:¬ ((parse [] b).1.getD (k:Int).toNat kF).tag=2) (h3:¬ ((parse [] b).1.getD (k:Int).toNat kF).tag=3) (h4:¬ ((parse [] b).1.getD (k:Int).toNat kF).tag=4):tnW b=(fTo (parse [] b).1 k):=by
  rw[FR.hit hp hR hk (by rw[fe5 h1 h2 h3 h4];decide)];unfold fSetR;rw[if_neg h1,if_neg h2,if_neg h3,if_neg h4]
theorem w6 (hp:¬ (parse [] b).2≠0) (hR:FR (parse [] b).1 k) (hk:¬ (k:Int)<(parse [] b).1.length):tnW b=(fTo (parse [] b).1 k):=by unfold tnW;rw[if_neg hp,hR,List.drop_of_length_le (by omega)];rfl
theorem ee1 (hp:¬ (parse [] b).2≠0) (hF:FJ (parse [] b).1 k) (hk:(k:Int)<(parse [] b).1.length) (h1:((parse [] b).1.getD (k:Int).toNat kF).tag=1) (hv:valB ((parse [] b).1.getD (k:Int).toNat kF).value=false):7=tnE b:=(er hp hF hk ((fe1 h1).trans (vB0 hv)) (by decide)).2
theorem ee2 (hp:¬ (parse [] b).2≠0) (hF:FJ (parse [] b).1 k) (hk:(k:Int)<(parse [] b).1.length) (h1:¬ ((parse [] b).1.getD (k:Int).toNat kF).tag=1) (h2:((parse [] b).1.getD (k:Int).toNat kF).tag=2) (hv:valB ((parse [] b).1.getD (k:Int).toNat kF).value=false):7=tnE b:=(er hp hF hk ((fe2 h1 h2).trans (vB0 hv)) (by decide)).2
theorem ee3 (hp:¬ (parse [] b).2≠0) (hF:FJ (parse [] b).1 k) (hk:(k:Int)<(parse [] b).1.length) (h1:¬ ((parse [] b).1.getD (k:Int).toNat kF).tag=1) (h2:¬ ((parse [] b).1.getD (k:Int).toNat kF).tag=2) (h3:((parse [] b).1.getD (k:Int).toNat kF).tag=3) (hv:valB ((parse [] b).1.getD (k:Int).toNat kF).value=false):7=tnE b:=(er hp hF hk (fe3 h1 h2 h3 (v3 hv)) (by decide)).2
theorem ee3a (hp:¬ (parse [] b).2≠0) (hF:FJ (parse [] b).1 k) (hk:(k:Int)<(parse [] b).1.length) (h1:¬ ((parse [] b).1.getD (k:Int).toNat kF).tag=1) (h2:¬ ((parse [] b).1.getD (k:Int).toNat kF).tag=2) (h3:((parse [] b).1.getD (k:Int).toNat kF).tag=3) (hv:¬ valRV ((parse [] b).1.getD (k:Int).toNat kF).value=1):7=tnE b:=(er hp hF hk (fe3 h1 h2 h3 (fun q=>hv (by rw[valRV_eq];exact q))) (by decide)).2
theorem ee4 (hp:¬ (parse [] b).2≠0) (hF:FJ (parse [] b).1 k) (hk:(k:Int)<(parse [] b).1.length) (h1:¬ ((parse [] b).1.getD (k:Int).toNat kF).tag=1) (h2:¬ ((parse [] b).1.getD (k:Int).toNat kF).tag=2) (h3:¬ ((parse [] b).1.getD (k:Int).toNat kF).tag=3) (h4:((parse [] b).1.getD (k:Int).toNat kF).tag=4) (hv:¬ ((parse [] b).1.getD (k:Int).toNat kF).value.length=32):7=tnE b:=(er hp hF hk (fe4 h1 h2 h3 h4 (by omega)) (by decide)).2
theorem ee5 (hp:¬ (parse [] b).2≠0) (hF:FJ (parse [] b).1 k) (hk:(k:Int)<(parse [] b).1.length) (h1:¬ ((parse [] b).1.getD (k:Int).toNat kF).tag=1) (h2:¬ ((parse [] b).1.getD (k:Int).toNat kF).tag=2) (h3:¬ ((parse [] b).1.getD (k:Int).toNat kF).tag=3) (h4:¬ ((parse [] b).1.getD (k:Int).toNat kF).tag=4):8=tnE b:=(er hp hF hk (fe5 h1 h2 h3 h4) (by decide)).2
theorem s4n (hk:(k:Int)<l.length) (h1:¬ (l.getD (k:Int).toNat kF).tag=1) (h2:¬ (l.getD (k:Int).toNat kF).tag=2) (h3:¬ (l.getD (k:Int).toNat kF).tag=3) (h:(l.getD (k:Int).toNat kF).tag=4) (hv:(l.getD (k:Int).toNat kF).value.length=32):fTo l (k+1)=⟨(fTo l k).height,(fTo l k).size,(fTo l k).right,mk32 (l.getD (k:Int).toNat kF).value⟩:=s4 hk h1 h2 h3 h (by omega)
theorem n1 (h1:f.tag=1) (hv:valB f.value=true):fErr f=0:=(fe1 h1).trans (vB1 hv)
theorem n2 (h1:¬ f.tag=1) (h2:f.tag=2) (hv:valB f.value=true):fErr f=0:=(fe2 h1 h2).trans (vB1 hv)
theorem n3 (h1:¬ f.tag=1) (h2:¬ f.tag=2) (h3:f.tag=3) (hv:valB f.value=true) (h:valRV f.value=1):fErr f=0:=(fe3a h1 h2 h3 (fun q=>q (by rw[← valRV_eq];exact h))).trans (vB1 hv)
theorem n4 (h1:¬ f.tag=1) (h2:¬ f.tag=2) (h3:¬ f.tag=3) (h4:f.tag=4) (hv:f.value.length=32):fErr f=0:=fe4a h1 h2 h3 h4 (by omega)
theorem tnG5 (hp:¬ (parse [] b).2≠0) (hF:FJ (parse [] b).1 k) (hk:¬ (k:Int)<(parse [] b).1.length) (h0:((parse [] b).1.length:Int)=0):8=tnE b:=(tn3 hp (hF.stop hk) (by unfold fEnd;rw[decide_eq_false (by omega)];rfl)).2
end
noncomputable def ccK8_92:Code:=(Tryd.f92.body).getD .skip
theorem turn5_ok (b:List UInt8) (hlb:b.length≤900000):FOk EN 92 ⟨[.rd 5 (b)],[.n 0],Unit,fun _=>([.rd 5 (b)],.t [.a [.i (tnW b).height,.u (tnW b).size,.b (tnW b).right,.h 32 (tnW b).other.l],.i (tnE b)]),fun _=>True⟩:=by
 refine v_fun Tryd.f92 ccK8_92 MX (fun ν F σ w=>?_) Tryd.func92
 refine v_nl ?_
 refine v_call _ [0] (rparse_ok (b) ‹_›) ((b=b)) rfl (fun g1 p2=>?_)
 have p2:True:=p2
 refine v_if (decide ((parse [] b).snd≠0)) True trivial (fun h3=>?_) (fun h3=>?_)
 ·have h3:=of_decide_eq_true h3
  exact v_ret () [] ((0=(tnW b).height)∧(0=(tnW b).size)∧(false=(tnW b).right)∧(List.replicate 32 0=(tnW b).other.l)∧((parse [] b).snd=tnE b)∧(b=b)) ⟨(by(rw[w0 ‹_›])),(by(rw[w0 ‹_›])),(by(rw[w0 ‹_›])),(by(rw[w0 ‹_›] <;> rfl)),(by exact(tn1 ‹_›).2),rfl⟩ trivial
 ·have h3:=of_decide_eq_false h3
  refine v_loop (fun k:Nat=>([(7,.i k),(4,.p 5 0)],[.bx 121 [.i (fTo (parse [] b).1 k).height,.u (fTo (parse [] b).1 k).size,.b (fTo (parse [] b).1 k).right,.h 32 (fTo (parse [] b).1 k).other.l]])) (fun k=>FJ (parse [] b).1 k∧FR (parse [] b).1 k) (fun k=>(parse [] b).1.length - k) 0 [3] (((0:Int)=(↑(0:Nat):Int))∧(0=(fTo (parse [] b).fst 0).height)∧(0=(fTo (parse [] b).fst 0).size)∧(false=(fTo (parse [] b).fst 0).right)∧(List.replicate 32 0=(fTo (parse [] b).fst 0).other.l)) ⟨rfl,rfl,rfl,rfl,rfl⟩ (by exact FR.start) (fun k hk4=>?_)
  have i1:=(‹FJ (parse [] b).1 k∧FR (parse [] b).1 k›).1
  have i2:=(‹FJ (parse [] b).1 k∧FR (parse [] b).1 k›).2
  refine v_if (decide ((↑k:Int)<(↑(parse [] b).fst.length:Int))) True trivial (fun h5=>?_) (fun h5=>?_)
  ·have h5:=of_decide_eq_true h5
   refine v_call _ [6] (valuer_ok ((pF b k).value)) ((0≤(↑k:Int)∧(↑k:Int)<(↑(parse [] b).fst.length:Int))∧((pF b k).value=(pF b k).value)) ⟨(by omega),rfl⟩ (fun g6 p7=>?_)
   have p7:True:=p7
   refine v_if (decide ((pF b k).tag=1)) ((0≤(↑k:Int)∧(↑k:Int)<(↑(parse [] b).fst.length:Int))) (by omega) (fun h8=>?_) (fun h8=>?_)
   ·have h8:=of_decide_eq_true h8
    refine v_if (decide (valRV (pF b k).value<1048576)) True trivial (fun h9=>?_) (fun h9=>?_)
    ·have h9:=of_decide_eq_true h9
     refine v_if (!valB (pF b k).value) ((valRV (pF b k).value<9223372036854775808)) (by exact hR3 ‹_›) (fun h10=>?_) (fun h10=>?_)
     ·have h10:=(nt h10)
      refine v_leave .rt True trivial ?_
      exact v_ret () [] (((↑(valRV (pF b k).value).toNat:Int)=(tnW b).height)∧((fTo (parse [] b).fst k).size=(tnW b).size)∧((fTo (parse [] b).fst k).right=(tnW b).right)∧((fTo (parse [] b).fst k).other.l=(tnW b).other.l)∧(7=tnE b)∧(b=b)) ⟨(by(rw[w1 ‹_› ‹_› ‹_› ‹_› ‹_›];exact hR1 ‹_›)),(by(rw[w1 ‹_› ‹_› ‹_› ‹_› ‹_›])),(by(rw[w1 ‹_› ‹_› ‹_› ‹_› ‹_›])),(by(rw[w1 ‹_› ‹_› ‹_› ‹_› ‹_›])),(by exact ee1 ‹_› ‹_› ‹_› ‹_› ‹_›),rfl⟩ trivial
     ·have h10:=(nf h10)
      exact v_back (k+1) [5] ((I64 (↑k+1))∧((↑k:Int)+1=(↑(k+1):Int))∧((↑(valRV (pF b k).value).toNat:Int)=(fTo (parse [] b).fst (k+1)).height)∧((fTo (parse [] b).fst k).size=(fTo (parse [] b).fst (k+1)).size)∧((fTo (parse [] b).fst k).right=(fTo (parse [] b).fst (k+1)).right)∧((fTo (parse [] b).fst k).other.l=(fTo (parse [] b).fst (k+1)).other.l)) ⟨(by exact FJ.i64 ‹_› ‹_›),rfl,(by(rw[s1 ‹_› ‹_›];exact hR1 ‹_›)),(by(rw[s1 ‹_› ‹_›])),(by(rw[s1 ‹_› ‹_›])),(by(rw[s1 ‹_› ‹_›]))⟩ (show(FJ (parse [] b).fst (k+1)∧FR (parse [] b).fst (k+1))∧(parse [] b).fst.length - (k+1)<(parse [] b).fst.length - k from(by exact FR.next ‹_› ‹_› (n1 ‹_› ‹_›)))
    ·have h9:=of_decide_eq_false h9
     refine v_if (!valB (pF b k).value) True trivial (fun h11=>?_) (fun h11=>?_)
     ·have h11:=(nt h11)
      refine v_leave .rt True trivial ?_
      exact v_ret () [] ((1048576=(tnW b).height)∧((fTo (parse [] b).fst k).size=(tnW b).size)∧((fTo (parse [] b).fst k).right=(tnW b).right)∧((fTo (parse [] b).fst k).other.l=(tnW b).other.l)∧(7=tnE b)∧(b=b)) ⟨(by(rw[w1 ‹_› ‹_› ‹_› ‹_› ‹_›];exact hR2 ‹_›)),(by(rw[w1 ‹_› ‹_› ‹_› ‹_› ‹_›])),(by(rw[w1 ‹_› ‹_› ‹_› ‹_› ‹_›])),(by(rw[w1 ‹_› ‹_› ‹_› ‹_› ‹_›])),(by exact ee1 ‹_› ‹_› ‹_› ‹_› ‹_›),rfl⟩ trivial
     ·have h11:=(nf h11)
      exact v_back (k+1) [5] ((I64 (↑k+1))∧((↑k:Int)+1=(↑(k+1):Int))∧(1048576=(fTo (parse [] b).fst (k+1)).height)∧((fTo (parse [] b).fst k).size=(fTo (parse [] b).fst (k+1)).size)∧((fTo (parse [] b).fst k).right=(fTo (parse [] b).fst (k+1)).right)∧((fTo (parse [] b).fst k).other.l=(fTo (parse [] b).fst (k+1)).other.l)) ⟨(by exact FJ.i64 ‹_› ‹_›),rfl,(by(rw[s1 ‹_› ‹_›];exact hR2 ‹_›)),(by(rw[s1 ‹_› ‹_›])),(by(rw[s1 ‹_› ‹_›])),(by(rw[s1 ‹_› ‹_›]))⟩ (show(FJ (parse [] b).fst (k+1)∧FR (parse [] b).fst (k+1))∧(parse [] b).fst.length - (k+1)<(parse [] b).fst.length - k from(by exact FR.next ‹_› ‹_› (n1 ‹_› ‹_›)))
   ·have h8:=of_decide_eq_false h8
    refine v_if (decide ((pF b k).tag=2)) True trivial (fun h12=>?_) (fun h12=>?_)
    ·have h12:=of_decide_eq_true h12
     refine v_if (!valB (pF b k).value) True trivial (fun h13=>?_) (fun h13=>?_)
     ·have h13:=(nt h13)
      refine v_leave .rt True trivial ?_
      exact v_ret () [] (((fTo (parse [] b).fst k).height=(tnW b).height)∧(valRV (pF b k).value=(tnW b).size)∧((fTo (parse [] b).fst k).right=(tnW b).right)∧((fTo (parse [] b).fst k).other.l=(tnW b).other.l)∧(7=tnE b)∧(b=b)) ⟨(by(rw[w2 ‹_› ‹_› ‹_› ‹_› ‹_› ‹_›])),(by(rw[w2 ‹_› ‹_› ‹_› ‹_› ‹_› ‹_›];exact valRV_eq _)),(by(rw[w2 ‹_› ‹_› ‹_› ‹_› ‹_› ‹_›])),(by(rw[w2 ‹_› ‹_› ‹_› ‹_› ‹_› ‹_›])),(by exact ee2 ‹_› ‹_› ‹_› ‹_› ‹_› ‹_›),rfl⟩ trivial
     ·have h13:=(nf h13)
      exact v_back (k+1) [5] ((I64 (↑k+1))∧((↑k:Int)+1=(↑(k+1):Int))∧((fTo (parse [] b).fst k).height=(fTo (parse [] b).fst (k+1)).height)∧(valRV (pF b k).value=(fTo (parse [] b).fst (k+1)).size)∧((fTo (parse [] b).fst k).right=(fTo (parse [] b).fst (k+1)).right)∧((fTo (parse [] b).fst k).other.l=(fTo (parse [] b).fst (k+1)).other.l)) ⟨(by exact FJ.i64 ‹_› ‹_›),rfl,(by(rw[s2 ‹_› ‹_› ‹_›])),(by(rw[s2 ‹_› ‹_› ‹_›];exact valRV_eq _)),(by(rw[s2 ‹_› ‹_› ‹_›])),(by(rw[s2 ‹_› ‹_› ‹_›]))⟩ (show(FJ (parse [] b).fst (k+1)∧FR (parse [] b).fst (k+1))∧(parse [] b).fst.length - (k+1)<(parse [] b).fst.length - k from(by exact FR.next ‹_› ‹_› (n2 ‹_› ‹_› ‹_›)))
    ·have h12:=of_decide_eq_false h12
     refine v_if (decide ((pF b k).tag=3)) True trivial (fun h14=>?_) (fun h14=>?_)
     ·have h14:=of_decide_eq_true h14
      refine v_guard 55 (valB (pF b k).value) True trivial (fun h15=>?_) (fun h15=>?_)
      ·skip
       refine v_if (!decide (valRV (pF b k).value=1)) True trivial (fun h16=>?_) (fun h16=>?_)
       ·have h16:=of_decide_eq_false (nt h16)
        refine v_leave .rt True trivial ?_
        exact v_ret () [] (((fTo (parse [] b).fst k).height=(tnW b).height)∧((fTo (parse [] b).fst k).size=(tnW b).size)∧(true=(tnW b).right)∧((fTo (parse [] b).fst k).other.l=(tnW b).other.l)∧(7=tnE b)∧(b=b)) ⟨(by(rw[w3a ‹_› ‹_› ‹_› ‹_› ‹_› ‹_› ‹_›])),(by(rw[w3a ‹_› ‹_› ‹_› ‹_› ‹_› ‹_› ‹_›])),(by(rw[w3a ‹_› ‹_› ‹_› ‹_› ‹_› ‹_› ‹_›])),(by(rw[w3a ‹_› ‹_› ‹_› ‹_› ‹_› ‹_› ‹_›])),(by exact ee3a ‹_› ‹_› ‹_› ‹_› ‹_› ‹_› ‹_›),rfl⟩ trivial
       ·have h16:=of_decide_eq_true (nf h16)
        exact v_back (k+1) [5] ((I64 (↑k+1))∧((↑k:Int)+1=(↑(k+1):Int))∧((fTo (parse [] b).fst k).height=(fTo (parse [] b).fst (k+1)).height)∧((fTo (parse [] b).fst k).size=(fTo (parse [] b).fst (k+1)).size)∧(true=(fTo (parse [] b).fst (k+1)).right)∧((fTo (parse [] b).fst k).other.l=(fTo (parse [] b).fst (k+1)).other.l)) ⟨(by exact FJ.i64 ‹_› ‹_›),rfl,(by(rw[s3 ‹_› ‹_› ‹_› ‹_›])),(by(rw[s3 ‹_› ‹_› ‹_› ‹_›])),(by(rw[s3 ‹_› ‹_› ‹_› ‹_›])),(by(rw[s3 ‹_› ‹_› ‹_› ‹_›]))⟩ (show(FJ (parse [] b).fst (k+1)∧FR (parse [] b).fst (k+1))∧(parse [] b).fst.length - (k+1)<(parse [] b).fst.length - k from(by exact FR.next ‹_› ‹_› (n3 ‹_› ‹_› ‹_› ‹_› ‹_›)))
      ·skip
       refine v_if (!false) True trivial (fun h17=>?_) (fun h17=>?_)
       ·have h17:=(nt h17)
        refine v_leave .rt True trivial ?_
        exact v_ret () [] (((fTo (parse [] b).fst k).height=(tnW b).height)∧((fTo (parse [] b).fst k).size=(tnW b).size)∧(true=(tnW b).right)∧((fTo (parse [] b).fst k).other.l=(tnW b).other.l)∧(7=tnE b)∧(b=b)) ⟨(by(rw[w3 ‹_› ‹_› ‹_› ‹_› ‹_› ‹_› ‹_›])),(by(rw[w3 ‹_› ‹_› ‹_› ‹_› ‹_› ‹_› ‹_›])),(by(rw[w3 ‹_› ‹_› ‹_› ‹_› ‹_› ‹_› ‹_›])),(by(rw[w3 ‹_› ‹_› ‹_› ‹_› ‹_› ‹_› ‹_›])),(by exact ee3 ‹_› ‹_› ‹_› ‹_› ‹_› ‹_› ‹_›),rfl⟩ trivial
       ·have h17:=(nf h17)
        contradiction
     ·have h14:=of_decide_eq_false h14
      refine v_if (decide ((pF b k).tag=4)) True trivial (fun h18=>?_) (fun h18=>?_)
      ·have h18:=of_decide_eq_true h18
       refine v_call _ [10] (sum5_ok ((pF b k).value)) ((0≤(↑k:Int)∧(↑k:Int)<(↑(parse [] b).fst.length:Int))∧((pF b k).value=(pF b k).value)) ⟨(by omega),rfl⟩ (fun g19 p20=>?_)
       have p20:True:=p20
       refine v_if (!decide ((pF b k).value.length=32)) True trivial (fun h21=>?_) (fun h21=>?_)
       ·have h21:=of_decide_eq_false (nt h21)
        refine v_leave .rt True trivial ?_
        exact v_ret () [] (((fTo (parse [] b).fst k).height=(tnW b).height)∧((fTo (parse [] b).fst k).size=(tnW b).size)∧((fTo (parse [] b).fst k).right=(tnW b).right)∧(sumR (pF b k).value=(tnW b).other.l)∧(7=tnE b)∧(b=b)) ⟨(by(rw[w4 ‹_› ‹_› ‹_› ‹_› ‹_› ‹_› ‹_› ‹_›])),(by(rw[w4 ‹_› ‹_› ‹_› ‹_› ‹_› ‹_› ‹_› ‹_›])),(by(rw[w4 ‹_› ‹_› ‹_› ‹_› ‹_› ‹_› ‹_› ‹_›])),(by(rw[w4 ‹_› ‹_› ‹_› ‹_› ‹_› ‹_› ‹_› ‹_›];exact(mk32_of (sumR_len _)).symm)),(by exact ee4 ‹_› ‹_› ‹_› ‹_› ‹_› ‹_› ‹_› ‹_›),rfl⟩ trivial
       ·have h21:=of_decide_eq_true (nf h21)
        exact v_back (k+1) [5] ((I64 (↑k+1))∧((↑k:Int)+1=(↑(k+1):Int))∧((fTo (parse [] b).fst k).height=(fTo (parse [] b).fst (k+1)).height)∧((fTo (parse [] b).fst k).size=(fTo (parse [] b).fst (k+1)).size)∧((fTo (parse [] b).fst k).right=(fTo (parse [] b).fst (k+1)).right)∧(sumR (pF b k).value=(fTo (parse [] b).fst (k+1)).other.l)) ⟨(by exact FJ.i64 ‹_› ‹_›),rfl,(by(rw[s4n ‹_› ‹_› ‹_› ‹_› ‹_› ‹_›])),(by(rw[s4n ‹_› ‹_› ‹_› ‹_› ‹_› ‹_›])),(by(rw[s4n ‹_› ‹_› ‹_› ‹_› ‹_› ‹_›])),(by(rw[s4n ‹_› ‹_› ‹_› ‹_› ‹_› ‹_›];exact sm32 ‹_›))⟩ (show(FJ (parse [] b).fst (k+1)∧FR (parse [] b).fst (k+1))∧(parse [] b).fst.length - (k+1)<(parse [] b).fst.length - k from(by exact FR.next ‹_› ‹_› (n4 ‹_› ‹_› ‹_› ‹_› ‹_›)))
      ·have h18:=of_decide_eq_false h18
       refine v_leave .rt True trivial ?_
       exact v_ret () [] (((fTo (parse [] b).fst k).height=(tnW b).height)∧((fTo (parse [] b).fst k).size=(tnW b).size)∧((fTo (parse [] b).fst k).right=(tnW b).right)∧((fTo (parse [] b).fst k).other.l=(tnW b).other.l)∧(8=tnE b)∧(b=b)) ⟨(by(rw[w5 ‹_› ‹_› ‹_› ‹_› ‹_› ‹_› ‹_›])),(by(rw[w5 ‹_› ‹_› ‹_› ‹_› ‹_› ‹_› ‹_›])),(by(rw[w5 ‹_› ‹_› ‹_› ‹_› ‹_› ‹_› ‹_›])),(by(rw[w5 ‹_› ‹_› ‹_› ‹_› ‹_› ‹_› ‹_›])),(by exact ee5 ‹_› ‹_› ‹_› ‹_› ‹_› ‹_› ‹_›),rfl⟩ trivial
  ·have h5:=of_decide_eq_false h5
   refine v_leave (.ex 0) True trivial ?_
   refine v_guard 78 (decide ((↑(parse [] b).fst.length:Int)=0)) True trivial (fun h22=>?_) (fun h22=>?_)
   ·have h22:=of_decide_eq_true h22
    exact v_ret () [] (((fTo (parse [] b).fst k).height=(tnW b).height)∧((fTo (parse [] b).fst k).size=(tnW b).size)∧((fTo (parse [] b).fst k).right=(tnW b).right)∧((fTo (parse [] b).fst k).other.l=(tnW b).other.l)∧(8=tnE b)∧(b=b)) ⟨(by(rw[w6 ‹_› ‹_› ‹_›])),(by(rw[w6 ‹_› ‹_› ‹_›])),(by(rw[w6 ‹_› ‹_› ‹_›])),(by(rw[w6 ‹_› ‹_› ‹_›])),(by exact tnG5 ‹_› ‹_› ‹_› ‹_›),rfl⟩ trivial
   ·have h22:=of_decide_eq_false h22
    refine v_if (decide (((parse [] b).fst.getD ((↑(parse [] b).fst.length:Int) - 1).toNat (Field.mk 0 [])).tag≠4)) ((I64 (↑(parse [] b).fst.length - 1))∧(0≤(↑(parse [] b).fst.length:Int) - 1∧(↑(parse [] b).fst.length:Int) - 1<(↑(parse [] b).fst.length:Int))) ⟨(by(have hy:=parse_len b;unfold I64;omega)),(by omega)⟩ (fun h23=>?_) (fun h23=>?_)
    ·have h23:=of_decide_eq_true h23
     exact v_ret () [] (((fTo (parse [] b).fst k).height=(tnW b).height)∧((fTo (parse [] b).fst k).size=(tnW b).size)∧((fTo (parse [] b).fst k).right=(tnW b).right)∧((fTo (parse [] b).fst k).other.l=(tnW b).other.l)∧(8=tnE b)∧(b=b)) ⟨(by(rw[w6 ‹_› ‹_› ‹_›])),(by(rw[w6 ‹_› ‹_› ‹_›])),(by(rw[w6 ‹_› ‹_› ‹_›])),(by(rw[w6 ‹_› ‹_› ‹_›])),(by exact(tnG (b:=b) (k:=k) ‹_› ‹_› ‹_› (by omega) ‹_›).2),rfl⟩ trivial
    ·have h23:=of_decide_eq_false h23
     exact v_ret () [] (((fTo (parse [] b).fst k).height=(tnW b).height)∧((fTo (parse [] b).fst k).size=(tnW b).size)∧((fTo (parse [] b).fst k).right=(tnW b).right)∧((fTo (parse [] b).fst k).other.l=(tnW b).other.l)∧(0=tnE b)∧(b=b)) ⟨(by(rw[w6 ‹_› ‹_› ‹_›])),(by(rw[w6 ‹_› ‹_› ‹_›])),(by(rw[w6 ‹_› ‹_› ‹_›])),(by(rw[w6 ‹_› ‹_› ‹_›])),(by exact(tnH (b:=b) (k:=k) ‹_› ‹_› ‹_› (by omega) ‹_›).2),rfl⟩ trivial
def tsFirst:List (List UInt8)→Int
  | []=>0
  | x::l=>if tnE x≠0 then tnE x else tsFirst l
def dcErr (f:Field):Int :=
  if f.tag=1 then 0 else if f.tag=2 then 0
  else if f.tag=3 then(if(unpk [] f.value).2≠0 then(unpk [] f.value).2 else tsFirst (unpk [] f.value).1) else 8
def dcSet (p:Proof) (f:Field):Proof :=
  if f.tag=1 then⟨f.value,p.value,p.turns⟩ else if f.tag=2 then⟨p.key,f.value,p.turns⟩
  else if f.tag=3 then⟨p.key,p.value,p.turns++(unpk [] f.value).1.map tnV⟩ else p
abbrev kP:Proof:=⟨[],[],[]⟩
def dTo (l:List Field) (k:Nat):Proof:=(l.take k).foldl dcSet kP
def dFirst:List Field→Int
  | []=>0
  | f::l=>if dcErr f≠0 then dcErr f else dFirst l
def decE (b:List UInt8):Int:=if(parse [] b).2≠0 then(parse [] b).2 else if dFirst (parse [] b).1≠0 then dFirst (parse [] b).1 else encE (dTo (parse [] b).1 (parse [] b).1.length)
def decP (b:List UInt8):Proof:=if(parse [] b).2≠0 then kP else if dFirst (parse [] b).1≠0 then kP else if encE (dTo (parse [] b).1 (parse [] b).1.length)≠0 then kP else dTo (parse [] b).1 (parse [] b).1.length
def vSum (l:List Field):Nat:=(l.map fun f=>f.value.length).sum
theorem vSum_app (a c:List Field):vSum (a++c)=vSum a+vSum c:=by simp[vSum]
theorem parse_sumG:∀(n:Nat) (out:List Field) (x:List UInt8),x.length≤n→vSum (parse out x).1≤vSum out+x.length:=by
  intro n
  induction n with
  | zero=>intro out x hx;rw[parse,dif_pos (by omega)];simp
  | succ n ih =>
    intro out x hx
    rw[parse]
    split
    · simp
    · rename_i h1
      have e1:=pcVR_len (x.drop 1);have e2:=drop1_lt h1
      split
      · simp[vSum]
      · split
        · simp[vSum]
        · split
          · simp[vSum]
          · refine Nat.le_trans (ih _ _ (by omega)) ?_
            rw[vSum_app]
            simp only[vSum,List.map_cons,List.map_nil,List.sum_cons,List.sum_nil];omega
theorem parse_sum (b:List UInt8):vSum (parse [] b).1≤b.length:=by have:=parse_sumG b.length [] b (Nat.le_refl _);simpa [vSum] using this
theorem unpk_lenG:∀(n:Nat) (out:List (List UInt8)) (x:List UInt8),x.length≤n→(unpk out x).1.length≤out.length+x.length:=by
  intro n
  induction n with
  | zero=>intro out x hx;rw[unpk,dif_pos (by omega)];simp
  | succ n ih =>
    intro out x hx
    rw[unpk]
    split
    · simp
    · rename_i h1
      have:=pcR_lt h1
      split
      · simp
      · refine Nat.le_trans (ih _ _ (by omega)) ?_
        simp only[List.length_append,List.length_cons,List.length_nil];omega
theorem unpk_len (x:List UInt8):(unpk [] x).1.length≤x.length:=by have:=unpk_lenG x.length [] x (Nat.le_refl _);simpa using this
theorem unpk_valG:∀(n:Nat) (out:List (List UInt8)) (x:List UInt8) (m:Nat),x.length≤n→x.length≤m→(∀ y∈out,y.length≤m)→∀ y∈(unpk out x).1,y.length≤m:=by
  intro n
  induction n with
  | zero=>intro out x m hx _ ho;rw[unpk,dif_pos (by omega)];exact ho
  | succ n ih =>
    intro out x m hx hm ho
    rw[unpk]
    split
    · exact ho
    · rename_i h1
      have e1:=pcR_lt h1
      have e2:=pcVR_len x
      split
      · simp
      · refine ih _ _ m (by omega) (by omega) fun y hy => ?_
        rcases List.mem_append.1 hy with hy | hy
        · exact ho y hy
        · rw[List.mem_singleton.1 hy];omega
theorem unpk_val {x y:List UInt8} (hy:y∈(unpk [] x).1):y.length≤x.length:=unpk_valG x.length [] x x.length (Nat.le_refl _) (Nat.le_refl _) (fun _ h=>by simp at h) y hy
structure DJ (b:List UInt8) (l:List Field) (k:Nat):Prop where
  le:k≤l.length
  fi:dFirst l=dFirst (l.drop k)
  ky:(dTo l k).key.length≤vSum (l.take k)
  vl:(dTo l k).value.length≤vSum (l.take k)
  tn:(dTo l k).turns.length≤vSum (l.take k)
  sm:vSum l≤b.length
section
variable {b:List UInt8} {l:List Field} {k m:Nat} {f:Field} {xs:List (List UInt8)} {T:List Turn}
theorem dTo_succ (hk:(k:Int)<l.length):dTo l (k+1)=dcSet (dTo l k) (l.getD (k:Int).toNat kF):=by
  unfold dTo
  rw[Int.toNat_natCast,List.take_add_one,List.getD_eq_getElem?_getD,List.getElem?_eq_getElem (by omega)]
  simp only[Option.toList,List.foldl_append,List.foldl_cons,List.foldl_nil,Option.getD_some]
theorem vSum_succ (hk:(k:Int)<l.length):vSum (l.take (k+1))=vSum (l.take k)+(l.getD (k:Int).toNat kF).value.length:=by
  rw[Int.toNat_natCast,List.take_add_one,vSum_app,List.getD_eq_getElem?_getD,List.getElem?_eq_getElem (by omega)];simp[vSum,Option.toList]
theorem vSum_take (l:List Field) (k:Nat):vSum (l.take k)≤vSum l:=by
  have:=vSum_app (l.take k) (l.drop k);rw[List.take_append_drop] at this;omega
theorem DJ.start:DJ b (parse [] b).1 0:=⟨Nat.zero_le _,rfl,Nat.zero_le _,Nat.zero_le _,Nat.zero_le _,parse_sum b⟩
theorem DJ.v (h:DJ b l k) (hk:(k:Int)<l.length):vSum (l.take k)+(l.getD (k:Int).toNat kF).value.length≤b.length:=by
  have:=vSum_succ hk;have:=vSum_take l (k+1);have:=h.sm;omega
theorem DJ.at (h:DJ b l k) (hk:(k:Int)<l.length):dFirst l=if dcErr (l.getD (k:Int).toNat kF)≠0 then dcErr (l.getD (k:Int).toNat kF) else dFirst (l.drop (k+1)):=by
  rw[h.fi,List.drop_eq_getElem_cons (by omega),dFirst,Int.toNat_natCast,List.getD_eq_getElem?_getD,List.getElem?_eq_getElem (by omega)];rfl
theorem DJ.next (h:DJ b l k) (hk:(k:Int)<l.length) (he:dcErr (l.getD (k:Int).toNat kF)=0):DJ b l (k+1)∧l.length - (k+1)<l.length - k:=by
  have hs:=vSum_succ hk
  have h1:=h.ky;have h2:=h.vl;have h3:=h.tn
  refine⟨⟨by omega,by rw[h.at hk,if_neg (by rw[he];decide)],?_,?_,?_,h.sm⟩,by omega⟩ <;> rw[dTo_succ hk,hs] <;> unfold dcSet
  · split
    · show(l.getD (k:Int).toNat kF).value.length≤_;omega
    · split
      · show(dTo l k).key.length≤_;omega
      · split
        · show(dTo l k).key.length≤_;omega
        · omega
  · split
    · show(dTo l k).value.length≤_;omega
    · split
      · show(l.getD (k:Int).toNat kF).value.length≤_;omega
      · split
        · show(dTo l k).value.length≤_;omega
        · omega
  · split
    · show(dTo l k).turns.length≤_;omega
    · split
      · show(dTo l k).turns.length≤_;omega
      · split
        · show ((dTo l k).turns ++ _).length ≤ _
          have:=unpk_len (l.getD (k:Int).toNat kF).value
          rw[List.length_append,List.length_map];omega
        · omega
theorem dd1 (h:(parse [] b).2≠0):kP=decP b∧(parse [] b).2=decE b:=by
  refine⟨?_,?_⟩
  · unfold decP;rw[if_pos h]
  · unfold decE;rw[if_pos h]
theorem dd2 {e:Int} (hp:¬ (parse [] b).2≠0) (h:DJ b (parse [] b).1 k) (hk:(k:Int)<(parse [] b).1.length) (he:dcErr ((parse [] b).1.getD (k:Int).toNat kF)=e) (h0:e≠0):kP=decP b∧e=decE b:=by
  have hf:dFirst (parse [] b).1=e:=by rw[h.at hk,if_pos (by rw[he];exact h0),he]
  refine⟨?_,?_⟩
  · unfold decP;rw[if_neg hp,if_pos (by rw[hf];exact h0)]
  · unfold decE;rw[if_neg hp,if_pos (by rw[hf];exact h0),hf]
theorem DJ.stop (h:DJ b l k) (hk:¬ (k:Int)<l.length):dFirst l=0∧k=l.length:=by
  have e:k=l.length:=by have:=h.le;omega
  refine⟨?_,e⟩
  rw[h.fi,List.drop_of_length_le (by omega)];rfl
theorem dd3 (hp:¬ (parse [] b).2≠0) (h:DJ b (parse [] b).1 k) (hk:¬ (k:Int)<(parse [] b).1.length) (he:encE (dTo (parse [] b).1 k)≠0):kP=decP b∧encE (dTo (parse [] b).1 k)=decE b:=by
  obtain⟨h1,h2⟩:=h.stop hk
  rw[h2] at he ⊢
  refine⟨?_,?_⟩
  · unfold decP;rw[if_neg hp,if_neg (by rw[h1];decide),if_pos he]
  · unfold decE;rw[if_neg hp,if_neg (by rw[h1];decide)]
theorem dd4 (hp:¬ (parse [] b).2≠0) (h:DJ b (parse [] b).1 k) (hk:¬ (k:Int)<(parse [] b).1.length) (he:¬ encE (dTo (parse [] b).1 k)≠0):dTo (parse [] b).1 k=decP b∧0=decE b:=by
  obtain⟨h1,h2⟩:=h.stop hk
  rw[h2] at he ⊢
  refine⟨?_,?_⟩
  · unfold decP;rw[if_neg hp,if_neg (by rw[h1];decide),if_neg he]
  · unfold decE;rw[if_neg hp,if_neg (by rw[h1];decide)];exact(Decidable.not_not.1 he).symm
theorem de1 (h:f.tag=1):dcErr f=0:=by unfold dcErr;rw[if_pos h]
theorem de2 (h1:¬ f.tag=1) (h:f.tag=2):dcErr f=0:=by unfold dcErr;rw[if_neg h1,if_pos h]
theorem de3 (h1:¬ f.tag=1) (h2:¬ f.tag=2) (h:f.tag=3) (hv:(unpk [] f.value).2≠0):dcErr f=(unpk [] f.value).2:=by unfold dcErr;rw[if_neg h1,if_neg h2,if_pos h,if_pos hv]
theorem de3a (h1:¬ f.tag=1) (h2:¬ f.tag=2) (h:f.tag=3) (hv:¬ (unpk [] f.value).2≠0):dcErr f=tsFirst (unpk [] f.value).1:=by unfold dcErr;rw[if_neg h1,if_neg h2,if_pos h,if_neg hv]
theorem de5 (h1:¬ f.tag=1) (h2:¬ f.tag=2) (h3:¬ f.tag=3):dcErr f=8:=by unfold dcErr;rw[if_neg h1,if_neg h2,if_neg h3]
def TJ (xs:List (List UInt8)) (m:Nat):Prop:=m≤xs.length∧tsFirst xs=tsFirst (xs.drop m)
theorem TJ.start:TJ xs 0:=⟨Nat.zero_le _,rfl⟩
theorem TJ.at (h:TJ xs m) (hk:(m:Int)<xs.length):tsFirst xs=if tnE (xs.getD (m:Int).toNat [])≠0 then tnE (xs.getD (m:Int).toNat []) else tsFirst (xs.drop (m+1)):=by
  rw[h.2,List.drop_eq_getElem_cons (by omega),tsFirst,Int.toNat_natCast,List.getD_eq_getElem?_getD,List.getElem?_eq_getElem (by omega)];rfl
theorem TJ.next (h:TJ xs m) (hk:(m:Int)<xs.length) (he:¬ tnE (xs.getD (m:Int).toNat [])≠0):TJ xs (m+1)∧xs.length - (m+1)<xs.length - m :=
  ⟨⟨by omega,by rw[h.at hk,if_neg he]⟩,by omega⟩
theorem TJ.hit (h:TJ xs m) (hk:(m:Int)<xs.length) (he:tnE (xs.getD (m:Int).toNat [])≠0):tsFirst xs=tnE (xs.getD (m:Int).toNat []):=by rw[h.at hk,if_pos he]
theorem TJ.stop (h:TJ xs m) (hk:¬ (m:Int)<xs.length):tsFirst xs=0:=by rw[h.2,List.drop_of_length_le (by omega)];rfl
theorem TJ.add (hk:(m:Int)<xs.length) {t:Turn} (ht:t=tnV (xs.getD (m:Int).toNat [])):T++(xs.take m).map tnV++[t]=T++(xs.take (m+1)).map tnV:=by
  rw[ht,Int.toNat_natCast,List.take_add_one,List.getD_eq_getElem?_getD,List.getElem?_eq_getElem (by omega)]
  simp only[Option.toList,List.map_append,List.map_cons,List.map_nil,Option.getD_some,List.append_assoc]
theorem TJ.addV (hk:(m:Int)<xs.length):T++(xs.take m).map tnV++[⟨(tnV (xs.getD (m:Int).toNat [])).height,(tnV (xs.getD (m:Int).toNat [])).size,(tnV (xs.getD (m:Int).toNat [])).right,mk32 (tnV (xs.getD (m:Int).toNat [])).other.l⟩]=T++(xs.take (m+1)).map tnV:=TJ.add hk (by rw[mk32_l])
theorem TJ.addW (hk:(m:Int)<xs.length) (he:¬ tnE (xs.getD (m:Int).toNat [])≠0):T++(xs.take m).map tnV++[⟨(tnW (xs.getD (m:Int).toNat [])).height,(tnW (xs.getD (m:Int).toNat [])).size,(tnW (xs.getD (m:Int).toNat [])).right,mk32 (tnW (xs.getD (m:Int).toNat [])).other.l⟩]=T++(xs.take (m+1)).map tnV:=TJ.add hk (by rw[mk32_l,tnW_eq (Decidable.not_not.1 he)])
theorem TJ.zero:T=T++(xs.take 0).map tnV:=by simp
theorem xs_len (hD:DJ b l k) (hk:(k:Int)<l.length) (hb:b.length≤200000):((l.getD (k:Int).toNat kF).value).length≤900000:=by have:=hD.v hk;omega
theorem x_len (hD:DJ b l k) (hk:(k:Int)<l.length) (hb:b.length≤200000) (hm:(m:Int)<(unpk [] (l.getD (k:Int).toNat kF).value).1.length):((unpk [] (l.getD (k:Int).toNat kF).value).1.getD (m:Int).toNat []).length≤900000:=by
  have h0:=hD.v hk
  generalize l.getD (k:Int).toNat kF=f at *
  rw[Int.toNat_natCast,List.getD_eq_getElem?_getD,List.getElem?_eq_getElem (by omega)]
  have:=unpk_val (List.getElem_mem (l:=(unpk [] f.value).1) (n:=m) (by omega))
  show((unpk [] f.value).1[m]).length≤_
  omega
theorem t_len (hD:DJ b l k) (hk:(k:Int)<l.length) (hb:b.length≤200000) (hm:(m:Int)<(unpk [] (l.getD (k:Int).toNat kF).value).1.length):((dTo l k).turns++((unpk [] (l.getD (k:Int).toNat kF).value).1.take m).map tnV).length+1≤1000000:=by
  have:=hD.v hk;have:=hD.tn;have:=unpk_len (l.getD (k:Int).toNat kF).value
  simp only[List.length_append,List.length_map,List.length_take];omega
theorem m64 (hD:DJ b l k) (hk:(k:Int)<l.length) (hb:b.length≤200000) (hm:(m:Int)<(unpk [] (l.getD (k:Int).toNat kF).value).1.length):I64 ((m:Int)+1):=by
  have:=hD.v hk;have:=unpk_len (l.getD (k:Int).toNat kF).value;unfold I64;omega
theorem d_s1 (hk:(k:Int)<l.length) (h:(l.getD (k:Int).toNat kF).tag=1):dTo l (k+1)=⟨(l.getD (k:Int).toNat kF).value,(dTo l k).value,(dTo l k).turns⟩:=by rw[dTo_succ hk,dcSet,if_pos h]
theorem d_s2 (hk:(k:Int)<l.length) (h1:¬ (l.getD (k:Int).toNat kF).tag=1) (h:(l.getD (k:Int).toNat kF).tag=2):dTo l (k+1)=⟨(dTo l k).key,(l.getD (k:Int).toNat kF).value,(dTo l k).turns⟩:=by rw[dTo_succ hk,dcSet,if_neg h1,if_pos h]
theorem d_s3 (hk:(k:Int)<l.length) (h1:¬ (l.getD (k:Int).toNat kF).tag=1) (h2:¬ (l.getD (k:Int).toNat kF).tag=2) (h:(l.getD (k:Int).toNat kF).tag=3):dTo l (k+1)=⟨(dTo l k).key,(dTo l k).value,(dTo l k).turns++(unpk [] (l.getD (k:Int).toNat kF).value).1.map tnV⟩:=by rw[dTo_succ hk,dcSet,if_neg h1,if_neg h2,if_pos h]
theorem d_t {T:List Turn} (hm:¬ (m:Int)<xs.length):T++(xs.take m).map tnV=T++xs.map tnV:=by rw[List.take_of_length_le (by omega)]
theorem DJ.k2 (hD:DJ b l k) (hb:b.length≤200000):(dTo l k).key.length≤200000:=by have:=hD.ky;have:=vSum_take l k;have:=hD.sm;omega
theorem DJ.v2 (hD:DJ b l k) (hb:b.length≤200000):(dTo l k).value.length≤200000:=by have:=hD.vl;have:=vSum_take l k;have:=hD.sm;omega
theorem DJ.t2 (hD:DJ b l k) (hb:b.length≤200000):(dTo l k).turns.length≤1000000:=by have:=hD.tn;have:=vSum_take l k;have:=hD.sm;omega
end
noncomputable def ccK9_36:Code:=(Tryd.f36.body).getD .skip
theorem Decode_ok (b:List UInt8) (hlb:b.length≤200000):FOk EN 36 ⟨[.rd 5 (b)],[.n 0],Unit,fun _=>([.rd 5 (b),.rd 5 ((decP b).key),.rd 5 ((decP b).value),.rd 121 (decP b).turns],.t [.a [.n 1,.n 2,.n 3],.i (decE b)]),fun _=>True⟩:=by
 refine v_fun Tryd.f36 ccK9_36 MX (fun ν F σ w=>?_) Tryd.func36
 refine v_nl ?_
 refine v_call _ [0] (parse_ok (b) (by omega)) ((b=b)) rfl (fun g1 p2=>?_)
 have p2:True:=p2
 refine v_if (decide ((parse [] b).snd≠0)) True trivial (fun h3=>?_) (fun h3=>?_)
 ·have h3:=of_decide_eq_true h3
  exact v_ret () [1,1,1] (((parse [] b).snd=decE b)∧(b=b)∧([]=(decP b).key)∧([]=(decP b).value)∧([]=(decP b).turns)) ⟨(by exact(dd1 ‹_›).2),rfl,(by(rw[← (dd1 ‹_›).1] <;> rfl)),(by(rw[← (dd1 ‹_›).1] <;> rfl)),(by(rw[← (dd1 ‹_›).1] <;> rfl))⟩ trivial
 ·have h3:=of_decide_eq_false h3
  refine v_loop (fun k:Nat=>([(28,.i k),(6,.p 5 0)],[.bx 26 [.n 6,.n 7,.n 8],.rd 5 ((dTo (parse [] b).1 k).key),.rd 5 ((dTo (parse [] b).1 k).value),.ow 121 (dTo (parse [] b).1 k).turns])) (fun k=>DJ b (parse [] b).1 k) (fun k=>(parse [] b).1.length - k) 0 [4,1,1,1] (((0:Int)=(↑(0:Nat):Int))∧([]=(dTo (parse [] b).fst 0).key)∧([]=(dTo (parse [] b).fst 0).value)∧([]=(dTo (parse [] b).fst 0).turns)) ⟨rfl,rfl,rfl,rfl⟩ (by exact DJ.start) (fun k hk4=>?_)
  refine v_if (decide ((↑k:Int)<(↑(parse [] b).fst.length:Int))) True trivial (fun h5=>?_) (fun h5=>?_)
  ·have h5:=of_decide_eq_true h5
   refine v_if (decide ((pF b k).tag=1)) ((0≤(↑k:Int)∧(↑k:Int)<(↑(parse [] b).fst.length:Int))) (by omega) (fun h6=>?_) (fun h6=>?_)
   ·have h6:=of_decide_eq_true h6
    exact v_back (k+1) [5,9,7,8] ((I64 (↑k+1))∧((↑k:Int)+1=(↑(k+1):Int))∧((pF b k).value=(dTo (parse [] b).fst (k+1)).key)∧((dTo (parse [] b).fst k).value=(dTo (parse [] b).fst (k+1)).value)∧((dTo (parse [] b).fst k).turns=(dTo (parse [] b).fst (k+1)).turns)) ⟨(by(have hy:=parse_len b;unfold I64;omega)),rfl,(by(rw[d_s1 ‹_› ‹_›])),(by(rw[d_s1 ‹_› ‹_›])),(by(rw[d_s1 ‹_› ‹_›]))⟩ (show DJ b (parse [] b).fst (k+1)∧(parse [] b).fst.length - (k+1)<(parse [] b).fst.length - k from(by exact DJ.next ‹_› ‹_› (de1 ‹_›)))
   ·have h6:=of_decide_eq_false h6
    refine v_if (decide ((pF b k).tag=2)) True trivial (fun h7=>?_) (fun h7=>?_)
    ·have h7:=of_decide_eq_true h7
     exact v_back (k+1) [5,6,9,8] ((I64 (↑k+1))∧((↑k:Int)+1=(↑(k+1):Int))∧((dTo (parse [] b).fst k).key=(dTo (parse [] b).fst (k+1)).key)∧((pF b k).value=(dTo (parse [] b).fst (k+1)).value)∧((dTo (parse [] b).fst k).turns=(dTo (parse [] b).fst (k+1)).turns)) ⟨(by(have hy:=parse_len b;unfold I64;omega)),rfl,(by(rw[d_s2 ‹_› ‹_› ‹_›])),(by(rw[d_s2 ‹_› ‹_› ‹_›])),(by(rw[d_s2 ‹_› ‹_› ‹_›]))⟩ (show DJ b (parse [] b).fst (k+1)∧(parse [] b).fst.length - (k+1)<(parse [] b).fst.length - k from(by exact DJ.next ‹_› ‹_› (de2 ‹_› ‹_›)))
    ·have h7:=of_decide_eq_false h7
     refine v_if (decide ((pF b k).tag=3)) True trivial (fun h8=>?_) (fun h8=>?_)
     ·have h8:=of_decide_eq_true h8
      refine v_call _ [9] (unpack_ok ((pF b k).value) (by exact xs_len ‹_› ‹_› ‹_›)) (((pF b k).value=(pF b k).value)) rfl (fun g9 p10=>?_)
      have p10:True:=p10
      refine v_if (decide ((unpk [] (pF b k).value).snd≠0)) True trivial (fun h11=>?_) (fun h11=>?_)
      ·have h11:=of_decide_eq_true h11
       refine v_leave .rt True trivial ?_
       exact v_ret () [1,1,1] (((unpk [] (pF b k).value).snd=decE b)∧(b=b)∧([]=(decP b).key)∧([]=(decP b).value)∧([]=(decP b).turns)) ⟨(by exact(dd2 ‹_› ‹_› ‹_› (de3 ‹_› ‹_› ‹_› ‹_›) ‹_›).2),rfl,(by(rw[← (dd2 (b:=b) (k:=k) ‹_› ‹_› ‹_› (de3 ‹_› ‹_› ‹_› ‹_›) ‹_›).1] <;> rfl)),(by(rw[← (dd2 (b:=b) (k:=k) ‹_› ‹_› ‹_› (de3 ‹_› ‹_› ‹_› ‹_›) ‹_›).1] <;> rfl)),(by(rw[← (dd2 (b:=b) (k:=k) ‹_› ‹_› ‹_› (de3 ‹_› ‹_› ‹_› ‹_›) ‹_›).1] <;> rfl))⟩ trivial
      ·have h11:=of_decide_eq_false h11
       refine v_loop (fun m:Nat=>([(59,.i m),(6,.p 13 0)],[.bx 26 [.n 6,.n 7,.n 14],.ow 121 ((dTo (parse [] b).1 k).turns++((unpk [] ((parse [] b).1.getD (k:Int).toNat kF).value).1.take m).map tnV)])) (fun m=>TJ (unpk [] ((parse [] b).1.getD (k:Int).toNat kF).value).1 m) (fun m=>(unpk [] ((parse [] b).1.getD (k:Int).toNat kF).value).1.length - m) 0 [5,8] (((0:Int)=(↑(0:Nat):Int))∧((dTo (parse [] b).fst k).turns=(dTo (parse [] b).fst k).turns++List.map tnV (List.take 0 (unpk [] ((parse [] b).fst.getD (↑k:Int).toNat kF).value).fst))) ⟨rfl,(by exact TJ.zero)⟩ (by exact TJ.start) (fun m hk12=>?_)
       refine v_if (decide ((↑m:Int)<(↑(unpk [] (pF b k).value).fst.length:Int))) True trivial (fun h13=>?_) (fun h13=>?_)
       ·have h13:=of_decide_eq_true h13
        refine v_call _ [15] (turn_ok ((unpk [] (pF b k).value).fst.getD (↑m:Int).toNat []) (by exact x_len ‹_› ‹_› ‹_› ‹_›)) ((0≤(↑m:Int)∧(↑m:Int)<(↑(unpk [] (pF b k).value).fst.length:Int))∧((unpk [] (pF b k).value).fst.getD (↑m:Int).toNat []=(unpk [] (pF b k).value).fst.getD (↑m:Int).toNat [])) ⟨(by omega),rfl⟩ (fun g14 p15=>?_)
        have p15:True:=p15
        refine v_if (decide (tnE ((unpk [] (pF b k).value).fst.getD (↑m:Int).toNat [])≠0)) True trivial (fun h16=>?_) (fun h16=>?_)
        ·have h16:=of_decide_eq_true h16
         refine v_leave .rt True trivial ?_
         refine v_leave .rt True trivial ?_
         exact v_ret () [1,1,1] ((tnE ((unpk [] (pF b k).value).fst.getD (↑m:Int).toNat [])=decE b)∧(b=b)∧([]=(decP b).key)∧([]=(decP b).value)∧([]=(decP b).turns)) ⟨(by exact(dd2 ‹_› ‹_› ‹_› ((de3a ‹_› ‹_› ‹_› ‹_›).trans (TJ.hit ‹_› ‹_› ‹_›)) ‹_›).2),rfl,(by(rw[← (dd2 (b:=b) (k:=k) ‹_› ‹_› ‹_› ((de3a ‹_› ‹_› ‹_› ‹_›).trans (TJ.hit ‹_› ‹_› ‹_›)) ‹_›).1] <;> rfl)),(by(rw[← (dd2 (b:=b) (k:=k) ‹_› ‹_› ‹_› ((de3a ‹_› ‹_› ‹_› ‹_›).trans (TJ.hit ‹_› ‹_› ‹_›)) ‹_›).1] <;> rfl)),(by(rw[← (dd2 (b:=b) (k:=k) ‹_› ‹_› ‹_› ((de3a ‹_› ‹_› ‹_› ‹_›).trans (TJ.hit ‹_› ‹_› ‹_›)) ‹_›).1] <;> rfl))⟩ trivial
        ·have h16:=of_decide_eq_false h16
         exact v_back (m+1) [13,19] ((((dTo (parse [] b).fst k).turns++List.map tnV (List.take m (unpk [] ((parse [] b).fst.getD (↑k:Int).toNat kF).value).fst)).length+1≤1000000)∧(I64 (↑m+1))∧((↑m:Int)+1=(↑(m+1):Int))∧((dTo (parse [] b).fst k).turns++List.map tnV (List.take m (unpk [] ((parse [] b).fst.getD (↑k:Int).toNat kF).value).fst)++[Turn.mk (tnV ((unpk [] (pF b k).value).fst.getD (↑m:Int).toNat [])).height (tnV ((unpk [] (pF b k).value).fst.getD (↑m:Int).toNat [])).size (tnV ((unpk [] (pF b k).value).fst.getD (↑m:Int).toNat [])).right (mk32 (tnV ((unpk [] (pF b k).value).fst.getD (↑m:Int).toNat [])).other.l)]=(dTo (parse [] b).fst k).turns++List.map tnV (List.take (m+1) (unpk [] ((parse [] b).fst.getD (↑k:Int).toNat kF).value).fst))) ⟨(by exact t_len ‹_› ‹_› ‹_› ‹_›),(by exact m64 ‹_› ‹_› ‹_› ‹_›),rfl,(by exact TJ.addV ‹_›)⟩ (show TJ (unpk [] ((parse [] b).fst.getD (↑k:Int).toNat kF).value).fst (m+1)∧(unpk [] ((parse [] b).fst.getD (↑k:Int).toNat kF).value).fst.length - (m+1)<(unpk [] ((parse [] b).fst.getD (↑k:Int).toNat kF).value).fst.length - m from(by exact TJ.next ‹_› ‹_› ‹_›))
       ·have h13:=of_decide_eq_false h13
        refine v_leave (.ex 3) True trivial ?_
        exact v_back (k+1) [13,6,7,14] ((I64 (↑k+1))∧((↑k:Int)+1=(↑(k+1):Int))∧((dTo (parse [] b).fst k).key=(dTo (parse [] b).fst (k+1)).key)∧((dTo (parse [] b).fst k).value=(dTo (parse [] b).fst (k+1)).value)∧((dTo (parse [] b).fst k).turns++List.map tnV (List.take m (unpk [] ((parse [] b).fst.getD (↑k:Int).toNat kF).value).fst)=(dTo (parse [] b).fst (k+1)).turns)) ⟨(by(have hy:=parse_len b;unfold I64;omega)),rfl,(by(rw[d_s3 ‹_› ‹_› ‹_› ‹_›])),(by(rw[d_s3 ‹_› ‹_› ‹_› ‹_›])),(by(rw[d_s3 ‹_› ‹_› ‹_› ‹_›];exact d_t ‹_›))⟩ (show DJ b (parse [] b).fst (k+1)∧(parse [] b).fst.length - (k+1)<(parse [] b).fst.length - k from(by exact DJ.next ‹_› ‹_› ((de3a ‹_› ‹_› ‹_› ‹_›).trans (TJ.stop ‹_› ‹_›))))
     ·have h8:=of_decide_eq_false h8
      refine v_leave .rt True trivial ?_
      exact v_ret () [1,1,1] ((8=decE b)∧(b=b)∧([]=(decP b).key)∧([]=(decP b).value)∧([]=(decP b).turns)) ⟨(by exact(dd2 ‹_› ‹_› ‹_› (de5 ‹_› ‹_› ‹_›) (by decide)).2),rfl,(by(rw[← (dd2 (b:=b) (k:=k) ‹_› ‹_› ‹_› (de5 ‹_› ‹_› ‹_›) (by decide)).1] <;> rfl)),(by(rw[← (dd2 (b:=b) (k:=k) ‹_› ‹_› ‹_› (de5 ‹_› ‹_› ‹_›) (by decide)).1] <;> rfl)),(by(rw[← (dd2 (b:=b) (k:=k) ‹_› ‹_› ‹_› (de5 ‹_› ‹_› ‹_›) (by decide)).1] <;> rfl))⟩ trivial
  ·have h5:=of_decide_eq_false h5
   refine v_leave (.ex 0) True trivial ?_
   refine v_call _ [6,7,8] (Encode_ok (dTo (parse [] b).fst k) (by exact DJ.k2 ‹_› ‹_›) (by exact DJ.v2 ‹_› ‹_›) (by exact DJ.t2 ‹_› ‹_›)) (((dTo (parse [] b).fst k).key=(dTo (parse [] b).fst k).key)∧((dTo (parse [] b).fst k).value=(dTo (parse [] b).fst k).value)∧((dTo (parse [] b).fst k).turns=(dTo (parse [] b).fst k).turns)) ⟨rfl,rfl,rfl⟩ (fun g17 p18=>?_)
   have p18:True:=p18
   refine v_if (decide (encE (dTo (parse [] b).fst k)≠0)) True trivial (fun h19=>?_) (fun h19=>?_)
   ·have h19:=of_decide_eq_true h19
    exact v_ret () [1,1,1] ((encE (dTo (parse [] b).fst k)=decE b)∧(b=b)∧([]=(decP b).key)∧([]=(decP b).value)∧([]=(decP b).turns)) ⟨(by exact(dd3 ‹_› ‹_› ‹_› ‹_›).2),rfl,(by(rw[← (dd3 (b:=b) (k:=k) ‹_› ‹_› ‹_› ‹_›).1] <;> rfl)),(by(rw[← (dd3 (b:=b) (k:=k) ‹_› ‹_› ‹_› ‹_›).1] <;> rfl)),(by(rw[← (dd3 (b:=b) (k:=k) ‹_› ‹_› ‹_› ‹_›).1] <;> rfl))⟩ trivial
   ·have h19:=of_decide_eq_false h19
    exact v_ret () [6,7,8] ((0=decE b)∧(b=b)∧((dTo (parse [] b).fst k).key=(decP b).key)∧((dTo (parse [] b).fst k).value=(decP b).value)∧((dTo (parse [] b).fst k).turns=(decP b).turns)) ⟨(by exact(dd4 ‹_› ‹_› ‹_› ‹_›).2),rfl,(by(rw[← (dd4 (b:=b) (k:=k) ‹_› ‹_› ‹_› ‹_›).1])),(by(rw[← (dd4 (b:=b) (k:=k) ‹_› ‹_› ‹_› ‹_›).1])),(by(rw[← (dd4 (b:=b) (k:=k) ‹_› ‹_› ‹_› ‹_›).1]))⟩ trivial
noncomputable def ccK10_37:Code:=(Tryd.f37.body).getD .skip
theorem DecodeProof_ok (b:List UInt8) (hlb:b.length≤200000):FOk EN 37 ⟨[.rd 5 (b)],[.n 0],Unit,fun _=>([.rd 5 (b),.rd 5 ((decP b).key),.rd 5 ((decP b).value),.rd 121 (decP b).turns],.t [.a [.n 1,.n 2,.n 3],.i (decE b)]),fun _=>True⟩:=by
 refine v_fun Tryd.f37 ccK10_37 MX (fun ν F σ w=>?_) Tryd.func37
 refine v_nl ?_
 refine v_call _ [0] (rparse_ok (b) (by omega)) ((b=b)) rfl (fun g1 p2=>?_)
 have p2:True:=p2
 refine v_if (decide ((parse [] b).snd≠0)) True trivial (fun h3=>?_) (fun h3=>?_)
 ·have h3:=of_decide_eq_true h3
  exact v_ret () [1,1,1] (((parse [] b).snd=decE b)∧(b=b)∧([]=(decP b).key)∧([]=(decP b).value)∧([]=(decP b).turns)) ⟨(by exact(dd1 ‹_›).2),rfl,(by(rw[← (dd1 ‹_›).1] <;> rfl)),(by(rw[← (dd1 ‹_›).1] <;> rfl)),(by(rw[← (dd1 ‹_›).1] <;> rfl))⟩ trivial
 ·have h3:=of_decide_eq_false h3
  refine v_loop (fun k:Nat=>([(7,.i k),(4,.p 5 0)],[.bx 26 [.n 6,.n 7,.n 8],.rd 5 ((dTo (parse [] b).1 k).key),.rd 5 ((dTo (parse [] b).1 k).value),.ow 121 (dTo (parse [] b).1 k).turns])) (fun k=>DJ b (parse [] b).1 k) (fun k=>(parse [] b).1.length - k) 0 [3,1,1,1] (((0:Int)=(↑(0:Nat):Int))∧([]=(dTo (parse [] b).fst 0).key)∧([]=(dTo (parse [] b).fst 0).value)∧([]=(dTo (parse [] b).fst 0).turns)) ⟨rfl,rfl,rfl,rfl⟩ (by exact DJ.start) (fun k hk4=>?_)
  refine v_if (decide ((↑k:Int)<(↑(parse [] b).fst.length:Int))) True trivial (fun h5=>?_) (fun h5=>?_)
  ·have h5:=of_decide_eq_true h5
   refine v_if (decide ((pF b k).tag=1)) ((0≤(↑k:Int)∧(↑k:Int)<(↑(parse [] b).fst.length:Int))) (by omega) (fun h6=>?_) (fun h6=>?_)
   ·have h6:=of_decide_eq_true h6
    exact v_back (k+1) [5,11,7,8] ((0≤(↑k:Int)∧(↑k:Int)<(↑(parse [] b).fst.length:Int))∧(I64 (↑k+1))∧((↑k:Int)+1=(↑(k+1):Int))∧((pF b k).value=(dTo (parse [] b).fst (k+1)).key)∧((dTo (parse [] b).fst k).value=(dTo (parse [] b).fst (k+1)).value)∧((dTo (parse [] b).fst k).turns=(dTo (parse [] b).fst (k+1)).turns)) ⟨(by omega),(by(have hy:=parse_len b;unfold I64;omega)),rfl,(by(rw[d_s1 ‹_› ‹_›])),(by(rw[d_s1 ‹_› ‹_›])),(by(rw[d_s1 ‹_› ‹_›]))⟩ (show DJ b (parse [] b).fst (k+1)∧(parse [] b).fst.length - (k+1)<(parse [] b).fst.length - k from(by exact DJ.next ‹_› ‹_› (de1 ‹_›)))
   ·have h6:=of_decide_eq_false h6
    refine v_if (decide ((pF b k).tag=2)) True trivial (fun h7=>?_) (fun h7=>?_)
    ·have h7:=of_decide_eq_true h7
     exact v_back (k+1) [5,6,11,8] ((0≤(↑k:Int)∧(↑k:Int)<(↑(parse [] b).fst.length:Int))∧(I64 (↑k+1))∧((↑k:Int)+1=(↑(k+1):Int))∧((dTo (parse [] b).fst k).key=(dTo (parse [] b).fst (k+1)).key)∧((pF b k).value=(dTo (parse [] b).fst (k+1)).value)∧((dTo (parse [] b).fst k).turns=(dTo (parse [] b).fst (k+1)).turns)) ⟨(by omega),(by(have hy:=parse_len b;unfold I64;omega)),rfl,(by(rw[d_s2 ‹_› ‹_› ‹_›])),(by(rw[d_s2 ‹_› ‹_› ‹_›])),(by(rw[d_s2 ‹_› ‹_› ‹_›]))⟩ (show DJ b (parse [] b).fst (k+1)∧(parse [] b).fst.length - (k+1)<(parse [] b).fst.length - k from(by exact DJ.next ‹_› ‹_› (de2 ‹_› ‹_›)))
    ·have h7:=of_decide_eq_false h7
     refine v_if (decide ((pF b k).tag=3)) True trivial (fun h8=>?_) (fun h8=>?_)
     ·have h8:=of_decide_eq_true h8
      refine v_call _ [11] (unpackr_ok ((pF b k).value) (by exact xs_len ‹_› ‹_› ‹_›)) ((0≤(↑k:Int)∧(↑k:Int)<(↑(parse [] b).fst.length:Int))∧((pF b k).value=(pF b k).value)) ⟨(by omega),rfl⟩ (fun g9 p10=>?_)
      have p10:True:=p10
      refine v_if (decide ((unpk [] (pF b k).value).snd≠0)) True trivial (fun h11=>?_) (fun h11=>?_)
      ·have h11:=of_decide_eq_true h11
       refine v_leave .rt True trivial ?_
       exact v_ret () [1,1,1] (((unpk [] (pF b k).value).snd=decE b)∧(b=b)∧([]=(decP b).key)∧([]=(decP b).value)∧([]=(decP b).turns)) ⟨(by exact(dd2 ‹_› ‹_› ‹_› (de3 ‹_› ‹_› ‹_› ‹_›) ‹_›).2),rfl,(by(rw[← (dd2 (b:=b) (k:=k) ‹_› ‹_› ‹_› (de3 ‹_› ‹_› ‹_› ‹_›) ‹_›).1] <;> rfl)),(by(rw[← (dd2 (b:=b) (k:=k) ‹_› ‹_› ‹_› (de3 ‹_› ‹_› ‹_› ‹_›) ‹_›).1] <;> rfl)),(by(rw[← (dd2 (b:=b) (k:=k) ‹_› ‹_› ‹_› (de3 ‹_› ‹_› ‹_› ‹_›) ‹_›).1] <;> rfl))⟩ trivial
      ·have h11:=of_decide_eq_false h11
       refine v_loop (fun m:Nat=>([(10,.i m),(4,.p 14 0)],[.bx 26 [.n 6,.n 7,.n 15],.ow 121 ((dTo (parse [] b).1 k).turns++((unpk [] ((parse [] b).1.getD (k:Int).toNat kF).value).1.take m).map tnV)])) (fun m=>TJ (unpk [] ((parse [] b).1.getD (k:Int).toNat kF).value).1 m) (fun m=>(unpk [] ((parse [] b).1.getD (k:Int).toNat kF).value).1.length - m) 0 [5,8] (((0:Int)=(↑(0:Nat):Int))∧((dTo (parse [] b).fst k).turns=(dTo (parse [] b).fst k).turns++List.map tnV (List.take 0 (unpk [] ((parse [] b).fst.getD (↑k:Int).toNat kF).value).fst))) ⟨rfl,(by exact TJ.zero)⟩ (by exact TJ.start) (fun m hk12=>?_)
       refine v_if (decide ((↑m:Int)<(↑(unpk [] (pF b k).value).fst.length:Int))) True trivial (fun h13=>?_) (fun h13=>?_)
       ·have h13:=of_decide_eq_true h13
        refine v_call _ [16] (turn5_ok ((unpk [] (pF b k).value).fst.getD (↑m:Int).toNat []) (by exact x_len ‹_› ‹_› ‹_› ‹_›)) ((0≤(↑m:Int)∧(↑m:Int)<(↑(unpk [] (pF b k).value).fst.length:Int))∧((unpk [] (pF b k).value).fst.getD (↑m:Int).toNat []=(unpk [] (pF b k).value).fst.getD (↑m:Int).toNat [])) ⟨(by omega),rfl⟩ (fun g14 p15=>?_)
        have p15:True:=p15
        refine v_if (decide (tnE ((unpk [] (pF b k).value).fst.getD (↑m:Int).toNat [])≠0)) True trivial (fun h16=>?_) (fun h16=>?_)
        ·have h16:=of_decide_eq_true h16
         refine v_leave .rt True trivial ?_
         refine v_leave .rt True trivial ?_
         exact v_ret () [1,1,1] ((tnE ((unpk [] (pF b k).value).fst.getD (↑m:Int).toNat [])=decE b)∧(b=b)∧([]=(decP b).key)∧([]=(decP b).value)∧([]=(decP b).turns)) ⟨(by exact(dd2 ‹_› ‹_› ‹_› ((de3a ‹_› ‹_› ‹_› ‹_›).trans (TJ.hit ‹_› ‹_› ‹_›)) ‹_›).2),rfl,(by(rw[← (dd2 (b:=b) (k:=k) ‹_› ‹_› ‹_› ((de3a ‹_› ‹_› ‹_› ‹_›).trans (TJ.hit ‹_› ‹_› ‹_›)) ‹_›).1] <;> rfl)),(by(rw[← (dd2 (b:=b) (k:=k) ‹_› ‹_› ‹_› ((de3a ‹_› ‹_› ‹_› ‹_›).trans (TJ.hit ‹_› ‹_› ‹_›)) ‹_›).1] <;> rfl)),(by(rw[← (dd2 (b:=b) (k:=k) ‹_› ‹_› ‹_› ((de3a ‹_› ‹_› ‹_› ‹_›).trans (TJ.hit ‹_› ‹_› ‹_›)) ‹_›).1] <;> rfl))⟩ trivial
        ·have h16:=of_decide_eq_false h16
         exact v_back (m+1) [14,20] ((((dTo (parse [] b).fst k).turns++List.map tnV (List.take m (unpk [] ((parse [] b).fst.getD (↑k:Int).toNat kF).value).fst)).length+1≤1000000)∧(I64 (↑m+1))∧((↑m:Int)+1=(↑(m+1):Int))∧((dTo (parse [] b).fst k).turns++List.map tnV (List.take m (unpk [] ((parse [] b).fst.getD (↑k:Int).toNat kF).value).fst)++[Turn.mk (tnW ((unpk [] (pF b k).value).fst.getD (↑m:Int).toNat [])).height (tnW ((unpk [] (pF b k).value).fst.getD (↑m:Int).toNat [])).size (tnW ((unpk [] (pF b k).value).fst.getD (↑m:Int).toNat [])).right (mk32 (tnW ((unpk [] (pF b k).value).fst.getD (↑m:Int).toNat [])).other.l)]=(dTo (parse [] b).fst k).turns++List.map tnV (List.take (m+1) (unpk [] ((parse [] b).fst.getD (↑k:Int).toNat kF).value).fst))) ⟨(by exact t_len ‹_› ‹_› ‹_› ‹_›),(by exact m64 ‹_› ‹_› ‹_› ‹_›),rfl,(by exact TJ.addW ‹_› ‹_›)⟩ (show TJ (unpk [] ((parse [] b).fst.getD (↑k:Int).toNat kF).value).fst (m+1)∧(unpk [] ((parse [] b).fst.getD (↑k:Int).toNat kF).value).fst.length - (m+1)<(unpk [] ((parse [] b).fst.getD (↑k:Int).toNat kF).value).fst.length - m from(by exact TJ.next ‹_› ‹_› ‹_›))
       ·have h13:=of_decide_eq_false h13
        refine v_leave (.ex 3) True trivial ?_
        exact v_back (k+1) [14,6,7,15] ((I64 (↑k+1))∧((↑k:Int)+1=(↑(k+1):Int))∧((dTo (parse [] b).fst k).key=(dTo (parse [] b).fst (k+1)).key)∧((dTo (parse [] b).fst k).value=(dTo (parse [] b).fst (k+1)).value)∧((dTo (parse [] b).fst k).turns++List.map tnV (List.take m (unpk [] ((parse [] b).fst.getD (↑k:Int).toNat kF).value).fst)=(dTo (parse [] b).fst (k+1)).turns)) ⟨(by(have hy:=parse_len b;unfold I64;omega)),rfl,(by(rw[d_s3 ‹_› ‹_› ‹_› ‹_›])),(by(rw[d_s3 ‹_› ‹_› ‹_› ‹_›])),(by(rw[d_s3 ‹_› ‹_› ‹_› ‹_›];exact d_t ‹_›))⟩ (show DJ b (parse [] b).fst (k+1)∧(parse [] b).fst.length - (k+1)<(parse [] b).fst.length - k from(by exact DJ.next ‹_› ‹_› ((de3a ‹_› ‹_› ‹_› ‹_›).trans (TJ.stop ‹_› ‹_›))))
     ·have h8:=of_decide_eq_false h8
      refine v_leave .rt True trivial ?_
      exact v_ret () [1,1,1] ((8=decE b)∧(b=b)∧([]=(decP b).key)∧([]=(decP b).value)∧([]=(decP b).turns)) ⟨(by exact(dd2 ‹_› ‹_› ‹_› (de5 ‹_› ‹_› ‹_›) (by decide)).2),rfl,(by(rw[← (dd2 (b:=b) (k:=k) ‹_› ‹_› ‹_› (de5 ‹_› ‹_› ‹_›) (by decide)).1] <;> rfl)),(by(rw[← (dd2 (b:=b) (k:=k) ‹_› ‹_› ‹_› (de5 ‹_› ‹_› ‹_›) (by decide)).1] <;> rfl)),(by(rw[← (dd2 (b:=b) (k:=k) ‹_› ‹_› ‹_› (de5 ‹_› ‹_› ‹_›) (by decide)).1] <;> rfl))⟩ trivial
  ·have h5:=of_decide_eq_false h5
   refine v_leave (.ex 0) True trivial ?_
   refine v_call _ [6,7,8] (EncodeProof_ok (dTo (parse [] b).fst k) (by exact DJ.k2 ‹_› ‹_›) (by exact DJ.v2 ‹_› ‹_›) (by exact DJ.t2 ‹_› ‹_›)) (((dTo (parse [] b).fst k).key=(dTo (parse [] b).fst k).key)∧((dTo (parse [] b).fst k).value=(dTo (parse [] b).fst k).value)∧((dTo (parse [] b).fst k).turns=(dTo (parse [] b).fst k).turns)) ⟨rfl,rfl,rfl⟩ (fun g17 p18=>?_)
   have p18:True:=p18
   refine v_if (decide (encE (dTo (parse [] b).fst k)≠0)) True trivial (fun h19=>?_) (fun h19=>?_)
   ·have h19:=of_decide_eq_true h19
    exact v_ret () [1,1,1] ((encE (dTo (parse [] b).fst k)=decE b)∧(b=b)∧([]=(decP b).key)∧([]=(decP b).value)∧([]=(decP b).turns)) ⟨(by exact(dd3 ‹_› ‹_› ‹_› ‹_›).2),rfl,(by(rw[← (dd3 (b:=b) (k:=k) ‹_› ‹_› ‹_› ‹_›).1] <;> rfl)),(by(rw[← (dd3 (b:=b) (k:=k) ‹_› ‹_› ‹_› ‹_›).1] <;> rfl)),(by(rw[← (dd3 (b:=b) (k:=k) ‹_› ‹_› ‹_› ‹_›).1] <;> rfl))⟩ trivial
   ·have h19:=of_decide_eq_false h19
    exact v_ret () [6,7,8] ((0=decE b)∧(b=b)∧((dTo (parse [] b).fst k).key=(decP b).key)∧((dTo (parse [] b).fst k).value=(decP b).value)∧((dTo (parse [] b).fst k).turns=(decP b).turns)) ⟨(by exact(dd4 ‹_› ‹_› ‹_› ‹_›).2),rfl,(by(rw[← (dd4 (b:=b) (k:=k) ‹_› ‹_› ‹_› ‹_›).1])),(by(rw[← (dd4 (b:=b) (k:=k) ‹_› ‹_› ‹_› ‹_›).1])),(by(rw[← (dd4 (b:=b) (k:=k) ‹_› ‹_› ‹_› ‹_›).1]))⟩ trivial
def gE (o:Option Proof):Int:=if o.isNone=true then 0 else if encE (gp o)≠0 then encE (gp o) else putE (encB (gp o))
def gB (b:List UInt8) (tag:UInt8) (o:Option Proof):List UInt8:=if o.isNone=true then b else putF b tag (encB (gp o))
def egE (l r:Option Proof):Int:=if gE l≠0 then gE l else gE r
def egB (l r:Option Proof):List UInt8:=if gE l≠0 then[] else if gE r≠0 then[] else gB (gB [] 1 l) 2 r
def gTo (l r:Option Proof):Nat→List UInt8
  | 0=>[]
  | 1=>gB [] 1 l
  | _=>gB (gB [] 1 l) 2 r
def EI (l r:Option Proof) (i:Nat):Prop:=i≤2∧(1≤i→gE l=0)∧(2≤i→gE r=0)
section
variable {l r o:Option Proof} {i:Nat}
theorem encB_len (p:Proof):(encB p).length≤p.key.length+p.value.length+5000:=by
  unfold encB
  split
  · simp
  · split
    · simp
    · split
      · simp
      · split
        · simp
        · have h1 := putF_len [] 1 p.key
          have h2:=putF_len (putF [] 1 p.key) 2 p.value
          have h3:=putF_len (putF (putF [] 1 p.key) 2 p.value) 3 (tnP p)
          have h4:(tnP p).length≤4032:=by
            have:=pack_tn (ts:=p.turns) (by omega);unfold tnP;rwa [List.length_map] at this
          rw[List.length_nil] at h1;omega
theorem EI.start:EI l r 0:=⟨by omega,by omega,by omega⟩
theorem EI.it (h:EI l r i) (hi:(i:Int)<(2:Nat)):(i=0∧[l,r].getD (i:Int).toNat none=l)∨(i=1∧[l,r].getD (i:Int).toNat none=r):=by
  have:i=0∨i=1:=by omega
  rcases this with rfl | rfl
  · exact .inl ⟨rfl,rfl⟩
  · exact .inr ⟨rfl,rfl⟩
theorem EI.next (h:EI l r i) (hi:(i:Int)<(2:Nat)) (hs:gE ([l,r].getD (i:Int).toNat none)=0):EI l r (i+1)∧2 - (i+1)<2 - i:=by
  refine⟨?_,by omega⟩
  rcases h.it hi with⟨rfl,e1⟩ | ⟨rfl,e1⟩
  · rw[e1] at hs;exact⟨by omega,fun _=>hs,by omega⟩
  · rw[e1] at hs;exact⟨by omega,fun _=>h.2.1 (by omega),fun _=>hs⟩
theorem EI.hit (h:EI l r i) (hi:(i:Int)<(2:Nat)) {e:Int} (hs:gE ([l,r].getD (i:Int).toNat none)=e) (h0:e≠0):[]=egB l r∧e=egE l r:=by
  rcases h.it hi with⟨rfl,e1⟩ | ⟨rfl,e1⟩
  · rw [e1] at hs
    refine⟨?_,?_⟩
    · unfold egB;rw[if_pos (by rw[hs];exact h0)]
    · unfold egE;rw[if_pos (by rw[hs];exact h0),hs]
  · rw [e1] at hs
    have hz:=h.2.1 (by omega)
    refine⟨?_,?_⟩
    · unfold egB;rw[if_neg (by rw[hz];decide),if_pos (by rw[hs];exact h0)]
    · unfold egE;rw[if_neg (by rw[hz];decide),hs]
theorem EI.stop (h:EI l r i) (hi:¬ (i:Int)<(2:Nat)):gTo l r i=egB l r∧0=egE l r:=by
  have e:i=2:=by have:=h.1;omega
  subst e
  have h1:=h.2.1 (by omega);have h2:=h.2.2 (by omega)
  refine⟨?_,?_⟩
  · unfold egB;rw[if_neg (by rw[h1];decide),if_neg (by rw[h2];decide)];rfl
  · unfold egE;rw[if_neg (by rw[h1];decide),h2]
theorem gE0 (h:o.isNone=true):gE o=0:=by unfold gE;rw[if_pos h]
theorem gE1 (h:o.isNone=false) (h1:encE (gp o)≠0):gE o=encE (gp o):=by unfold gE;rw[if_neg (by rw[h];decide),if_pos h1]
theorem gE2 (h:o.isNone=false) (h1:encE (gp o)=0):gE o=putE (encB (gp o)):=by unfold gE;rw[if_neg (by rw[h];decide),if_neg (fun q=>q h1)]
theorem gT0 (hi:(i:Int)<(2:Nat)) (h:([l,r].getD (i:Int).toNat none).isNone=true):gTo l r i=gTo l r (i+1):=by
  have:i=0∨i=1:=by omega
  rcases this with rfl | rfl
  · show[]=gB [] 1 l;unfold gB;rw[if_pos (show l.isNone=true from h)]
  · show gB [] 1 l=gB (gB [] 1 l) 2 r;rw[gB,gB,if_pos (show r.isNone=true from h)]
theorem gT1 (hi:(i:Int)<(2:Nat)) (h:([l,r].getD (i:Int).toNat none).isNone=false):putF (gTo l r i) (ofI8 ((i:Int)+1)) (encB (gp ([l,r].getD (i:Int).toNat none)))=gTo l r (i+1):=by
  have:i=0∨i=1:=by omega
  rcases this with rfl | rfl
  · show _=gB [] 1 l;unfold gB;rw[if_neg (show ¬ l.isNone=true by rw[show l.isNone=false from h];decide)];rfl
  · show _=gB (gB [] 1 l) 2 r;rw[show gB (gB [] 1 l) 2 r=putF (gB [] 1 l) 2 (encB (gp r)) by rw[gB,if_neg (show ¬ r.isNone=true by rw[show r.isNone=false from h];decide)]];rfl
theorem gB_len {b:List UInt8} {t:UInt8} (h:(gp o).key.length≤100000∧(gp o).value.length≤100000):(gB b t o).length≤b.length+205003:=by
  unfold gB;split
  · omega
  · have:=putF_len b t (encB (gp o));have:=encB_len (gp o);omega
theorem gT_len (hl:(gp l).key.length≤100000∧(gp l).value.length≤100000) (hr:(gp r).key.length≤100000∧(gp r).value.length≤100000) (hi:(i:Int)<(2:Nat)):(gTo l r i).length+(encB (gp ([l,r].getD (i:Int).toNat none))).length≤900000:=by
  have h1:=gB_len (b:=[]) (t:=1) hl
  have h2:=encB_len (gp l);have h3:=encB_len (gp r)
  rw[List.length_nil] at h1
  have:i=0∨i=1:=by omega
  rcases this with rfl | rfl
  · show([]:List UInt8).length+(encB (gp l)).length≤_;rw[List.length_nil];omega
  · show(gB [] 1 l).length+(encB (gp r)).length≤_;omega
theorem gk (hl:(gp l).key.length≤100000∧(gp l).value.length≤100000) (hr:(gp r).key.length≤100000∧(gp r).value.length≤100000) (hi:(i:Int)<(2:Nat)):(gp ([l,r].getD (i:Int).toNat none)).key.length≤200000∧(gp ([l,r].getD (i:Int).toNat none)).value.length≤200000:=by
  have:i=0∨i=1:=by omega
  rcases this with rfl | rfl
  · exact⟨Nat.le_trans hl.1 (by decide),Nat.le_trans hl.2 (by decide)⟩
  · exact⟨Nat.le_trans hr.1 (by decide),Nat.le_trans hr.2 (by decide)⟩
theorem gt2 (hl:(gp l).turns.length≤1000000) (hr:(gp r).turns.length≤1000000) (hi:(i:Int)<(2:Nat)):(gp ([l,r].getD (i:Int).toNat none)).turns.length≤1000000:=by
  have:i=0∨i=1:=by omega
  rcases this with rfl | rfl
  · exact hl
  · exact hr
end
noncomputable def ccK11_38:Code:=(Tryd.f38.body).getD .skip
theorem EncodeGap_ok (l r:Option Proof) (hl:(gp l).key.length≤100000∧(gp l).value.length≤100000) (hr:(gp r).key.length≤100000∧(gp r).value.length≤100000) (hl2:(gp l).turns.length≤1000000) (hr2:(gp r).turns.length≤1000000):FOk EN 38 ⟨[.pt 26 l,.pt 26 r],[.a [.n 0,.n 1]],Unit,fun _=>([.pt 26 l,.pt 26 r,.ow 5 (egB l r)],.t [.n 2,.i (egE l r)]),fun _=>True⟩:=by
 refine v_fun Tryd.f38 ccK11_38 MX (fun ν F σ w=>?_) Tryd.func38
 refine v_nl ?_
 refine v_loop (fun i:Nat=>([(15,.i i),(13,.n 5),(4,.n 6)],[.ow 29 [l,r],.ow 5 (gTo l r i)])) (fun i=>EI l r i) (fun i=>2 - i) 0 [4,2] (((0:Int)=(↑(0:Nat):Int))∧([l,r]=[l,r])∧([]=gTo l r 0)) ⟨rfl,rfl,rfl⟩ (by exact EI.start) (fun i hk1=>?_)
 have i1:=(‹EI l r i›).1
 refine v_if (decide ((↑i:Int)<(↑(2:Nat):Int))) True trivial (fun h2=>?_) (fun h2=>?_)
 ·have h2:=of_decide_eq_true h2
  refine v_if (([l,r].getD (↑i:Int).toNat none).isNone) (((0:Int)≤(↑i:Int)∧(↑i:Int)<(↑(2:Nat):Int))) (by omega) (fun h3=>?_) (fun h3=>?_)
  ·skip
   exact v_back (i+1) [5,6] ((I64 (↑i+1))∧((↑i:Int)+1=(↑(i+1):Int))∧([l,r]=[l,r])∧(gTo l r i=gTo l r (i+1))) ⟨(by(unfold I64;omega)),rfl,rfl,(by exact gT0 ‹_› ‹_›)⟩ (show EI l r (i+1)∧2 - (i+1)<2 - i from(by exact EI.next ‹_› ‹_› (by first | exact gE0 ‹_› | exact(gE2 ‹_› ‹_›).trans (Decidable.not_not.1 ‹_›))))
  ·skip
   refine v_open 7 (open_pf ([l,r].getD (↑i:Int).toNat none) ‹_›) ((PPt GT 26 ([l,r].getD (↑i:Int).toNat none)=PPt GT 26 ([l,r].getD (↑i:Int).toNat none))) rfl ?_
   refine v_call _ [9,10,11] (Encode_ok (gp ([l,r].getD (↑i:Int).toNat none)) (by exact(gk (l:=l) (r:=r) (i:=i) ‹_› ‹_› ‹_›).1) (by exact(gk (l:=l) (r:=r) (i:=i) ‹_› ‹_› ‹_›).2) (by exact gt2 (l:=l) (r:=r) (i:=i) ‹_› ‹_› ‹_›)) (((gp ([l,r].getD (↑i:Int).toNat none)).key=(gp ([l,r].getD (↑i:Int).toNat none)).key)∧((gp ([l,r].getD (↑i:Int).toNat none)).value=(gp ([l,r].getD (↑i:Int).toNat none)).value)∧((gp ([l,r].getD (↑i:Int).toNat none)).turns=(gp ([l,r].getD (↑i:Int).toNat none)).turns)) ⟨rfl,rfl,rfl⟩ (fun g4 p5=>?_)
   have p5:True:=p5
   refine v_if (decide (encE (gp ([l,r].getD (↑i:Int).toNat none))=0)) True trivial (fun h6=>?_) (fun h6=>?_)
   ·have h6:=of_decide_eq_true h6
    refine v_call _ [6,12] (put_ok (gTo l r i) (ofI8 (↑i+1)) (encB (gp ([l,r].getD (↑i:Int).toNat none))) (by exact gT_len ‹_› ‹_› ‹_›)) ((I64 (↑i+1))∧(ofI8 (↑i+1)=ofI8 (↑i+1))∧(gTo l r i=gTo l r i)∧(encB (gp ([l,r].getD (↑i:Int).toNat none))=encB (gp ([l,r].getD (↑i:Int).toNat none)))) ⟨(by(unfold I64;omega)),rfl,rfl,rfl⟩ (fun g7 p8=>?_)
    have p8:True:=p8
    refine v_if (decide (putE (encB (gp ([l,r].getD (↑i:Int).toNat none)))≠0)) True trivial (fun h9=>?_) (fun h9=>?_)
    ·have h9:=of_decide_eq_true h9
     refine v_leave .rt True trivial ?_
     exact v_ret () [2] ((putE (encB (gp ([l,r].getD (↑i:Int).toNat none)))=egE l r)∧(l=l)∧(r=r)∧([]=egB l r)) ⟨(by exact(EI.hit (i:=i) ‹_› ‹_› (by first | exact gE1 ‹_› ‹_› | exact gE2 ‹_› ‹_›) ‹_›).2),rfl,rfl,(by exact(EI.hit (i:=i) ‹_› ‹_› (by first | exact gE1 ‹_› ‹_› | exact gE2 ‹_› ‹_›) ‹_›).1)⟩ trivial
    ·have h9:=of_decide_eq_false h9
     exact v_back (i+1) [5,13] ((I64 (↑i+1))∧((↑i:Int)+1=(↑(i+1):Int))∧([l,r]=[l,r])∧(putF (gTo l r i) (ofI8 ((↑i:Int)+1)) (encB (gp ([l,r].getD (↑i:Int).toNat none)))=gTo l r (i+1))) ⟨(by(unfold I64;omega)),rfl,rfl,(by exact gT1 ‹_› ‹_›)⟩ (show EI l r (i+1)∧2 - (i+1)<2 - i from(by exact EI.next ‹_› ‹_› (by first | exact gE0 ‹_› | exact(gE2 ‹_› ‹_›).trans (Decidable.not_not.1 ‹_›))))
   ·have h6:=of_decide_eq_false h6
    refine v_if (decide (encE (gp ([l,r].getD (↑i:Int).toNat none))≠0)) True trivial (fun h10=>?_) (fun h10=>?_)
    ·have h10:=of_decide_eq_true h10
     refine v_leave .rt True trivial ?_
     exact v_ret () [2] ((encE (gp ([l,r].getD (↑i:Int).toNat none))=egE l r)∧(l=l)∧(r=r)∧([]=egB l r)) ⟨(by exact(EI.hit (i:=i) ‹_› ‹_› (by first | exact gE1 ‹_› ‹_› | exact gE2 ‹_› ‹_›) ‹_›).2),rfl,rfl,(by exact(EI.hit (i:=i) ‹_› ‹_› (by first | exact gE1 ‹_› ‹_› | exact gE2 ‹_› ‹_›) ‹_›).1)⟩ trivial
    ·have h10:=of_decide_eq_false h10
     omega
 ·have h2:=of_decide_eq_false h2
  refine v_leave (.ex 0) True trivial ?_
  exact v_ret () [6] ((0=egE l r)∧(l=l)∧(r=r)∧(gTo l r i=egB l r)) ⟨(by exact(EI.stop ‹_› ‹_›).2),rfl,rfl,(by exact(EI.stop ‹_› ‹_›).1)⟩ trivial
section
variable {l r o:Option Proof} {b:List UInt8} {t:UInt8}
theorem gb (h:o.isNone=false) (h1:encE (gp o)=0) (h2:¬ (65535:Int)<(encB (gp o)).length):gE o=0:=by
  rw[gE2 h h1];unfold putE;rw[if_neg (by omega)]
theorem gd (h:o.isNone=false) (h1:encE (gp o)=0) (h2:(65535:Int)<(encB (gp o)).length):gE o=3:=by
  rw[gE2 h h1];unfold putE;rw[if_pos (by omega)]
theorem egl {e:Int} (h:gE l=e) (h0:e≠0):[]=egB l r∧e=egE l r:=by
  refine⟨?_,?_⟩
  · unfold egB;rw[if_pos (by rw[h];exact h0)]
  · unfold egE;rw[if_pos (by rw[h];exact h0),h]
theorem egr {e:Int} (hl:gE l=0) (h:gE r=e) (h0:e≠0):[]=egB l r∧e=egE l r:=by
  refine⟨?_,?_⟩
  · unfold egB;rw[if_neg (by rw[hl];decide),if_pos (by rw[h];exact h0)]
  · unfold egE;rw[if_neg (by rw[hl];decide),h]
theorem ego (hl:gE l=0) (hr:gE r=0):gB (gB [] 1 l) 2 r=egB l r∧0=egE l r:=by
  refine⟨?_,?_⟩
  · unfold egB;rw[if_neg (by rw[hl];decide),if_neg (by rw[hr];decide)]
  · unfold egE;rw[if_neg (by rw[hl];decide),hr]
theorem gBn (h:o.isNone=true):gB b t o=b:=by unfold gB;rw[if_pos h]
theorem gBs (h:o.isNone=false) (h2:¬ (65535:Int)<(encB (gp o)).length):gB b t o=putR b t (encB (gp o)):=by
  unfold gB;rw[if_neg (by rw[h];decide),putR_eq (by omega)]
theorem eo1 (h1:l.isNone=true) (h2:r.isNone=true):[]=egB l r∧0=egE l r:=by have:=ego (gE0 h1) (gE0 h2);rwa [gBn h2,gBn h1] at this
theorem eo2 (h1:l.isNone=false) (a1:encE (gp l)=0) (a2:¬ (65535:Int)<(encB (gp l)).length) (h2:r.isNone=true):putR [] 1 (encB (gp l))=egB l r∧0=egE l r:=by have:=ego (gb h1 a1 a2) (gE0 h2);rwa [gBn h2,gBs h1 a2] at this
theorem eo3 (h1:l.isNone=true) (h2:r.isNone=false) (b1:encE (gp r)=0) (b2:¬ (65535:Int)<(encB (gp r)).length):putR [] 2 (encB (gp r))=egB l r∧0=egE l r:=by have:=ego (gE0 h1) (gb h2 b1 b2);rwa [gBs h2 b2,gBn h1] at this
theorem eo4 (h1:l.isNone=false) (a1:encE (gp l)=0) (a2:¬ (65535:Int)<(encB (gp l)).length) (h2:r.isNone=false) (b1:encE (gp r)=0) (b2:¬ (65535:Int)<(encB (gp r)).length):putR (putR [] 1 (encB (gp l))) 2 (encB (gp r))=egB l r∧0=egE l r:=by have:=ego (gb h1 a1 a2) (gb h2 b1 b2);rwa [gBs h2 b2,gBs h1 a2] at this
theorem gl3 (hl:(gp l).key.length≤100000∧(gp l).value.length≤100000) (hr:(gp r).key.length≤100000∧(gp r).value.length≤100000):(putR [] 1 (encB (gp l))).length+(encB (gp r)).length≤900000:=by
  have:=encB_len (gp l);have:=encB_len (gp r);have:=putR_len [] 1 (encB (gp l));rw[List.length_nil] at this;omega
end
noncomputable def ccK12_39:Code:=(Tryd.f39.body).getD .skip
theorem rEncodeGap_ok (l r:Option Proof) (hl:(gp l).key.length≤100000∧(gp l).value.length≤100000) (hr:(gp r).key.length≤100000∧(gp r).value.length≤100000) (hl2:(gp l).turns.length≤1000000) (hr2:(gp r).turns.length≤1000000):FOk EN 39 ⟨[.pt 26 l,.pt 26 r],[.a [.n 0,.n 1]],Unit,fun _=>([.pt 26 l,.pt 26 r,.rd 5 (egB l r)],.t [.n 2,.i (egE l r)]),fun _=>True⟩:=by
 refine v_fun Tryd.f39 ccK12_39 MX (fun ν F σ w=>?_) Tryd.func39
 refine v_nl ?_
 refine v_if (!l.isNone) True trivial (fun h1=>?_) (fun h1=>?_)
 ·have h1:=(nt h1)
  refine v_open 0 (open_pf (l) ‹_›) ((PPt GT 26 l=PPt GT 26 l)) rfl ?_
  refine v_call _ [4,5,6] (EncodeProof_ok (gp l) (by omega) (by omega) ‹_›) (((gp l).key=(gp l).key)∧((gp l).value=(gp l).value)∧((gp l).turns=(gp l).turns)) ⟨rfl,rfl,rfl⟩ (fun g2 p3=>?_)
  have p3:True:=p3
  refine v_guard 22 (decide (encE (gp l)=0)) True trivial (fun h4=>?_) (fun h4=>?_)
  ·have h4:=of_decide_eq_true h4
   refine v_if (decide (65535<(↑(encB (gp l)).length:Int))) True trivial (fun h5=>?_) (fun h5=>?_)
   ·have h5:=of_decide_eq_true h5
    refine v_if (decide ((3:Int)≠(0:Int))) True trivial (fun h6=>?_) (fun h6=>?_)
    ·have h6:=of_decide_eq_true h6
     exact v_ret () [2] ((3=egE l r)∧(PLe (PPt GT 26 l) (PPt GT 26 l))∧(r=r)∧([]=egB l r)) ⟨(by exact(egl (by first | exact gE1 ‹_› ‹_› | exact gd ‹_› ‹_› ‹_›) (by first | assumption | decide)).2),fun _ _ _ h=>h,rfl,(by exact(egl (by first | exact gE1 ‹_› ‹_› | exact gd ‹_› ‹_› ‹_›) (by first | assumption | decide)).1)⟩ trivial
    ·have h6:=of_decide_eq_false h6
     omega
   ·have h5:=of_decide_eq_false h5
    refine v_if (decide (encE (gp l)≠0)) True trivial (fun h7=>?_) (fun h7=>?_)
    ·have h7:=of_decide_eq_true h7
     omega
    ·have h7:=of_decide_eq_false h7
     refine v_call _ [2,7] (putr_ok ([]) (1) (encB (gp l)) (by(simp;omega))) (((1:UInt8)=(1:UInt8))∧(Eq (α:=List UInt8) [] [])∧(encB (gp l)=encB (gp l))) ⟨rfl,rfl,rfl⟩ (fun g8 p9=>?_)
     have p9:True:=p9
     refine v_if (!r.isNone) True trivial (fun h10=>?_) (fun h10=>?_)
     ·have h10:=(nt h10)
      refine v_open 1 (open_pf (r) ‹_›) ((PPt GT 26 r=PPt GT 26 r)) rfl ?_
      refine v_call _ [9,10,11] (EncodeProof_ok (gp r) (by omega) (by omega) ‹_›) (((gp r).key=(gp r).key)∧((gp r).value=(gp r).value)∧((gp r).turns=(gp r).turns)) ⟨rfl,rfl,rfl⟩ (fun g11 p12=>?_)
      have p12:True:=p12
      refine v_guard 46 (decide (encE (gp r)=0)) True trivial (fun h13=>?_) (fun h13=>?_)
      ·have h13:=of_decide_eq_true h13
       refine v_if (decide (65535<(↑(encB (gp r)).length:Int))) True trivial (fun h14=>?_) (fun h14=>?_)
       ·have h14:=of_decide_eq_true h14
        refine v_if (decide ((3:Int)≠(0:Int))) True trivial (fun h15=>?_) (fun h15=>?_)
        ·have h15:=of_decide_eq_true h15
         exact v_ret () [2] ((3=egE l r)∧(PLe (PPt GT 26 l) (PPt GT 26 l))∧(PLe (PPt GT 26 r) (PPt GT 26 r))∧([]=egB l r)) ⟨(by exact(egr (by first | exact gE0 ‹_› | exact gb ‹_› ‹_› ‹_›) (by first | exact gE1 ‹_› ‹_› | exact gd ‹_› ‹_› ‹_›) (by first | assumption | decide)).2),fun _ _ _ h=>h,fun _ _ _ h=>h,(by exact(egr (by first | exact gE0 ‹_› | exact gb ‹_› ‹_› ‹_›) (by first | exact gE1 ‹_› ‹_› | exact gd ‹_› ‹_› ‹_›) (by first | assumption | decide)).1)⟩ trivial
        ·have h15:=of_decide_eq_false h15
         omega
       ·have h14:=of_decide_eq_false h14
        refine v_if (decide (encE (gp r)≠0)) True trivial (fun h16=>?_) (fun h16=>?_)
        ·have h16:=of_decide_eq_true h16
         omega
        ·have h16:=of_decide_eq_false h16
         refine v_call _ [8,12] (putr_ok (putR [] 1 (encB (gp l))) (2) (encB (gp r)) (by exact gl3 ‹_› ‹_›)) (((2:UInt8)=(2:UInt8))∧(putR [] 1 (encB (gp l))=putR [] 1 (encB (gp l)))∧(encB (gp r)=encB (gp r))) ⟨rfl,rfl,rfl⟩ (fun g17 p18=>?_)
         have p18:True:=p18
         exact v_ret () [13] ((0=egE l r)∧(PLe (PPt GT 26 l) (PPt GT 26 l))∧(PLe (PPt GT 26 r) (PPt GT 26 r))∧(putR (putR [] 1 (encB (gp l))) 2 (encB (gp r))=egB l r)) ⟨(by exact(eo4 ‹_› ‹_› ‹_› ‹_› ‹_› ‹_›).2),fun _ _ _ h=>h,fun _ _ _ h=>h,(by exact(eo4 ‹_› ‹_› ‹_› ‹_› ‹_› ‹_›).1)⟩ trivial
      ·have h13:=of_decide_eq_false h13
       refine v_if (decide (encE (gp r)≠0)) True trivial (fun h19=>?_) (fun h19=>?_)
       ·have h19:=of_decide_eq_true h19
        exact v_ret () [2] ((encE (gp r)=egE l r)∧(PLe (PPt GT 26 l) (PPt GT 26 l))∧(PLe (PPt GT 26 r) (PPt GT 26 r))∧([]=egB l r)) ⟨(by exact(egr (by first | exact gE0 ‹_› | exact gb ‹_› ‹_› ‹_›) (by first | exact gE1 ‹_› ‹_› | exact gd ‹_› ‹_› ‹_›) (by first | assumption | decide)).2),fun _ _ _ h=>h,fun _ _ _ h=>h,(by exact(egr (by first | exact gE0 ‹_› | exact gb ‹_› ‹_› ‹_›) (by first | exact gE1 ‹_› ‹_› | exact gd ‹_› ‹_› ‹_›) (by first | assumption | decide)).1)⟩ trivial
       ·have h19:=of_decide_eq_false h19
        omega
     ·have h10:=(nf h10)
      exact v_ret () [8] ((0=egE l r)∧(PLe (PPt GT 26 l) (PPt GT 26 l))∧(r=r)∧(putR [] 1 (encB (gp l))=egB l r)) ⟨(by exact(eo2 ‹_› ‹_› ‹_› ‹_›).2),fun _ _ _ h=>h,rfl,(by exact(eo2 ‹_› ‹_› ‹_› ‹_›).1)⟩ trivial
  ·have h4:=of_decide_eq_false h4
   refine v_if (decide (encE (gp l)≠0)) True trivial (fun h20=>?_) (fun h20=>?_)
   ·have h20:=of_decide_eq_true h20
    exact v_ret () [2] ((encE (gp l)=egE l r)∧(PLe (PPt GT 26 l) (PPt GT 26 l))∧(r=r)∧([]=egB l r)) ⟨(by exact(egl (by first | exact gE1 ‹_› ‹_› | exact gd ‹_› ‹_› ‹_›) (by first | assumption | decide)).2),fun _ _ _ h=>h,rfl,(by exact(egl (by first | exact gE1 ‹_› ‹_› | exact gd ‹_› ‹_› ‹_›) (by first | assumption | decide)).1)⟩ trivial
   ·have h20:=of_decide_eq_false h20
    omega
 ·have h1:=(nf h1)
  refine v_if (!r.isNone) True trivial (fun h21=>?_) (fun h21=>?_)
  ·have h21:=(nt h21)
   refine v_open 1 (open_pf (r) ‹_›) ((PPt GT 26 r=PPt GT 26 r)) rfl ?_
   refine v_call _ [4,5,6] (EncodeProof_ok (gp r) (by omega) (by omega) ‹_›) (((gp r).key=(gp r).key)∧((gp r).value=(gp r).value)∧((gp r).turns=(gp r).turns)) ⟨rfl,rfl,rfl⟩ (fun g22 p23=>?_)
   have p23:True:=p23
   refine v_guard 46 (decide (encE (gp r)=0)) True trivial (fun h24=>?_) (fun h24=>?_)
   ·have h24:=of_decide_eq_true h24
    refine v_if (decide (65535<(↑(encB (gp r)).length:Int))) True trivial (fun h25=>?_) (fun h25=>?_)
    ·have h25:=of_decide_eq_true h25
     refine v_if (decide ((3:Int)≠(0:Int))) True trivial (fun h26=>?_) (fun h26=>?_)
     ·have h26:=of_decide_eq_true h26
      exact v_ret () [2] ((3=egE l r)∧(l=l)∧(PLe (PPt GT 26 r) (PPt GT 26 r))∧([]=egB l r)) ⟨(by exact(egr (by first | exact gE0 ‹_› | exact gb ‹_› ‹_› ‹_›) (by first | exact gE1 ‹_› ‹_› | exact gd ‹_› ‹_› ‹_›) (by first | assumption | decide)).2),rfl,fun _ _ _ h=>h,(by exact(egr (by first | exact gE0 ‹_› | exact gb ‹_› ‹_› ‹_›) (by first | exact gE1 ‹_› ‹_› | exact gd ‹_› ‹_› ‹_›) (by first | assumption | decide)).1)⟩ trivial
     ·have h26:=of_decide_eq_false h26
      omega
    ·have h25:=of_decide_eq_false h25
     refine v_if (decide (encE (gp r)≠0)) True trivial (fun h27=>?_) (fun h27=>?_)
     ·have h27:=of_decide_eq_true h27
      omega
     ·have h27:=of_decide_eq_false h27
      refine v_call _ [2,7] (putr_ok ([]) (2) (encB (gp r)) (by(simp;omega))) (((2:UInt8)=(2:UInt8))∧(Eq (α:=List UInt8) [] [])∧(encB (gp r)=encB (gp r))) ⟨rfl,rfl,rfl⟩ (fun g28 p29=>?_)
      have p29:True:=p29
      exact v_ret () [8] ((0=egE l r)∧(l=l)∧(PLe (PPt GT 26 r) (PPt GT 26 r))∧(putR [] 2 (encB (gp r))=egB l r)) ⟨(by exact(eo3 ‹_› ‹_› ‹_› ‹_›).2),rfl,fun _ _ _ h=>h,(by exact(eo3 ‹_› ‹_› ‹_› ‹_›).1)⟩ trivial
   ·have h24:=of_decide_eq_false h24
    refine v_if (decide (encE (gp r)≠0)) True trivial (fun h30=>?_) (fun h30=>?_)
    ·have h30:=of_decide_eq_true h30
     exact v_ret () [2] ((encE (gp r)=egE l r)∧(l=l)∧(PLe (PPt GT 26 r) (PPt GT 26 r))∧([]=egB l r)) ⟨(by exact(egr (by first | exact gE0 ‹_› | exact gb ‹_› ‹_› ‹_›) (by first | exact gE1 ‹_› ‹_› | exact gd ‹_› ‹_› ‹_›) (by first | assumption | decide)).2),rfl,fun _ _ _ h=>h,(by exact(egr (by first | exact gE0 ‹_› | exact gb ‹_› ‹_› ‹_›) (by first | exact gE1 ‹_› ‹_› | exact gd ‹_› ‹_› ‹_›) (by first | assumption | decide)).1)⟩ trivial
    ·have h30:=of_decide_eq_false h30
     omega
  ·have h21:=(nf h21)
   exact v_ret () [2] ((0=egE l r)∧(l=l)∧(r=r)∧([]=egB l r)) ⟨(by exact(eo1 ‹_› ‹_›).2),rfl,rfl,(by exact(eo1 ‹_› ‹_›).1)⟩ trivial
abbrev Gp:=Option Proof × Option Proof
def ggErr (f:Field):Int:=if f.tag=1 then decE f.value else if f.tag=2 then decE f.value else 8
def ggSet (g:Gp) (f:Field):Gp:=if f.tag=1 then(some (decP f.value),g.2) else(g.1,some (decP f.value))
def ggTo (l:List Field) (k:Nat):Gp:=(l.take k).foldl ggSet (none,none)
def ggFirst:List Field→Int
  | []=>0
  | f::l=>if ggErr f≠0 then ggErr f else ggFirst l
def degE (b:List UInt8):Int:=if(parse [] b).2≠0 then(parse [] b).2 else ggFirst (parse [] b).1
def degG (b:List UInt8):Gp:=if(parse [] b).2≠0 then(none,none) else if ggFirst (parse [] b).1≠0 then(none,none) else ggTo (parse [] b).1 (parse [] b).1.length
def GJ (b:List UInt8) (l:List Field) (k:Nat):Prop:=k≤l.length∧ggFirst l=ggFirst (l.drop k)∧vSum l≤b.length
section
variable {b:List UInt8} {l:List Field} {k:Nat} {f:Field}
theorem ggTo_succ (hk:(k:Int)<l.length):ggTo l (k+1)=ggSet (ggTo l k) (l.getD (k:Int).toNat kF):=by
  unfold ggTo
  rw[Int.toNat_natCast,List.take_add_one,List.getD_eq_getElem?_getD,List.getElem?_eq_getElem (by omega)]
  simp only[Option.toList,List.foldl_append,List.foldl_cons,List.foldl_nil,Option.getD_some]
theorem GJ.start:GJ b (parse [] b).1 0:=⟨Nat.zero_le _,rfl,parse_sum b⟩
theorem GJ.v (h:GJ b l k) (hk:(k:Int)<l.length) (hb:b.length≤200000):(l.getD (k:Int).toNat kF).value.length≤200000:=by
  have:=vSum_succ hk;have:=vSum_take l (k+1);have:=h.2.2;omega
theorem GJ.at (h:GJ b l k) (hk:(k:Int)<l.length):ggFirst l=if ggErr (l.getD (k:Int).toNat kF)≠0 then ggErr (l.getD (k:Int).toNat kF) else ggFirst (l.drop (k+1)):=by
  rw[h.2.1,List.drop_eq_getElem_cons (by omega),ggFirst,Int.toNat_natCast,List.getD_eq_getElem?_getD,List.getElem?_eq_getElem (by omega)];rfl
theorem GJ.next (h:GJ b l k) (hk:(k:Int)<l.length) (he:ggErr (l.getD (k:Int).toNat kF)=0):GJ b l (k+1)∧l.length - (k+1)<l.length - k :=
  ⟨⟨by omega,by rw[h.at hk,if_neg (by rw[he];decide)],h.2.2⟩,by omega⟩
theorem dg1 (h:(parse [] b).2≠0):((none,none):Gp)=degG b∧(parse [] b).2=degE b:=by
  refine⟨?_,?_⟩
  · unfold degG;rw[if_pos h]
  · unfold degE;rw[if_pos h]
theorem dg2 {e:Int} (hp:¬ (parse [] b).2≠0) (h:GJ b (parse [] b).1 k) (hk:(k:Int)<(parse [] b).1.length) (he:ggErr ((parse [] b).1.getD (k:Int).toNat kF)=e) (h0:e≠0):((none,none):Gp)=degG b∧e=degE b:=by
  have hf:ggFirst (parse [] b).1=e:=by rw[h.at hk,if_pos (by rw[he];exact h0),he]
  refine⟨?_,?_⟩
  · unfold degG;rw[if_neg hp,if_pos (by rw[hf];exact h0)]
  · unfold degE;rw[if_neg hp,hf]
theorem dg4 (hp:¬ (parse [] b).2≠0) (h:GJ b (parse [] b).1 k) (hk:¬ (k:Int)<(parse [] b).1.length):ggTo (parse [] b).1 k=degG b∧0=degE b:=by
  have e:k=(parse [] b).1.length:=by have:=h.1;omega
  have hf:ggFirst (parse [] b).1=0:=by rw[h.2.1,List.drop_of_length_le (by omega)];rfl
  rw[e]
  refine⟨?_,?_⟩
  · unfold degG;rw[if_neg hp,if_neg (by rw[hf];decide)]
  · unfold degE;rw[if_neg hp,hf]
theorem ge1 (h:¬ f.tag≠1):ggErr f=decE f.value:=by unfold ggErr;rw[if_pos (Decidable.not_not.1 h)]
theorem ge2 (h1:f.tag≠1) (h:¬ f.tag≠2):ggErr f=decE f.value:=by unfold ggErr;rw[if_neg h1,if_pos (Decidable.not_not.1 h)]
theorem ge3 (h1:f.tag≠1) (h:f.tag≠2):ggErr f=8:=by unfold ggErr;rw[if_neg h1,if_neg h]
theorem g_s1 (hk:(k:Int)<l.length) (h:(l.getD (k:Int).toNat kF).tag=1):ggTo l (k+1)=(some (decP (l.getD (k:Int).toNat kF).value),(ggTo l k).2):=by rw[ggTo_succ hk,ggSet,if_pos h]
theorem g_s2 (hk:(k:Int)<l.length) (h:¬ (l.getD (k:Int).toNat kF).tag=1):ggTo l (k+1)=((ggTo l k).1,some (decP (l.getD (k:Int).toNat kF).value)):=by rw[ggTo_succ hk,ggSet,if_neg h]
theorem gn1 {g:Gp} (h:GJ b l k∧ggTo l k=g) (hk:(k:Int)<l.length) (he:ggErr (l.getD (k:Int).toNat kF)=0) (ht:(l.getD (k:Int).toNat kF).tag=1):(GJ b l (k+1)∧ggTo l (k+1)=(some ⟨(decP (l.getD (k:Int).toNat kF).value).key,(decP (l.getD (k:Int).toNat kF).value).value,(decP (l.getD (k:Int).toNat kF).value).turns⟩,g.2))∧l.length - (k+1)<l.length - k:=by
  have:=h.1.next hk he
  exact⟨⟨this.1,by rw[g_s1 hk ht,h.2]⟩,this.2⟩
theorem gn2 {g:Gp} (h:GJ b l k∧ggTo l k=g) (hk:(k:Int)<l.length) (he:ggErr (l.getD (k:Int).toNat kF)=0) (ht:¬ (l.getD (k:Int).toNat kF).tag=1):(GJ b l (k+1)∧ggTo l (k+1)=(g.1,some ⟨(decP (l.getD (k:Int).toNat kF).value).key,(decP (l.getD (k:Int).toNat kF).value).value,(decP (l.getD (k:Int).toNat kF).value).turns⟩))∧l.length - (k+1)<l.length - k:=by
  have:=h.1.next hk he
  exact⟨⟨this.1,by rw[g_s2 hk ht,h.2]⟩,this.2⟩
theorem dg5 {g:Gp} (hp:¬ (parse [] b).2≠0) (h:GJ b (parse [] b).1 k) (hk:¬ (k:Int)<(parse [] b).1.length) (hg:ggTo (parse [] b).1 k=g):g.1=(degG b).1∧g.2=(degG b).2:=by
  rw[← (dg4 hp h hk).1,hg];exact⟨rfl,rfl⟩
theorem dz1 (he:degE b=0) (h:(parse [] b).2≠0):False:=h ((dg1 h).2.trans he)
theorem dz2 {e:Int} (he:degE b=0) (hp:¬ (parse [] b).2≠0) (h:GJ b (parse [] b).1 k) (hk:(k:Int)<(parse [] b).1.length) (hf:ggErr ((parse [] b).1.getD (k:Int).toNat kF)=e) (h0:e≠0):False:=h0 ((dg2 hp h hk hf h0).2.trans he)
theorem dz4 (he:degE b≠0) (hp:¬ (parse [] b).2≠0) (h:GJ b (parse [] b).1 k) (hk:¬ (k:Int)<(parse [] b).1.length):False:=he (dg4 hp h hk).2.symm
theorem degG_e (he:degE b≠0):degG b=(none,none):=by
  unfold degG;unfold degE at he
  split
  · rfl
  · rename_i h;rw[if_neg h] at he;rw[if_pos he]
end
noncomputable def ccK13_40:Code:=(Tryd.f40.body).getD .skip
theorem DecodeGap1_aux (b:List UInt8) (hlb:b.length≤200000) (he:degE b≠0):FOk EN 40 ⟨[.rd 5 (b)],[.n 0],Unit,fun _=>([.rd 5 (b),.pt 26 none,.pt 26 none],.t [.a [.n 1,.n 2],.i (degE b)]),fun _=>True⟩:=by
 refine v_fun Tryd.f40 ccK13_40 MX (fun ν F σ w=>?_) Tryd.func40
 refine v_nl ?_
 refine v_call _ [0] (parse_ok (b) (by omega)) ((b=b)) rfl (fun g1 p2=>?_)
 have p2:True:=p2
 refine v_if (decide ((parse [] b).snd≠0)) True trivial (fun h3=>?_) (fun h3=>?_)
 ·have h3:=of_decide_eq_true h3
  refine v_al [] (al_pt0 (26)) True trivial ?_
  exact v_ret () [4,4] (((parse [] b).snd=degE b)∧(b=b)∧(@Eq PP (PPt GT (@OfNat.ofNat Nat (nat_lit 26) (instOfNatNat (nat_lit 26))) (@none Proof)) (PPt GT (@OfNat.ofNat Nat (nat_lit 26) (instOfNatNat (nat_lit 26))) (@none Proof)))∧(@Eq PP (PPt GT (@OfNat.ofNat Nat (nat_lit 26) (instOfNatNat (nat_lit 26))) (@none Proof)) (PPt GT (@OfNat.ofNat Nat (nat_lit 26) (instOfNatNat (nat_lit 26))) (@none Proof)))) ⟨(by exact(dg1 ‹_›).2),rfl,rfl,rfl⟩ trivial
 ·have h3:=of_decide_eq_false h3
  refine v_al [] (al_pt0 (26)) True trivial ?_
  refine v_loop (fun k:Nat × Gp=>([(22,.i (k.1:Int)),(6,.p 6 0)],[.bx 31 [.n 7,.n 8],.pt 26 k.2.1,.pt 26 k.2.2])) (fun k=>GJ b (parse [] b).1 k.1∧ggTo (parse [] b).1 k.1=k.2) (fun k=>(parse [] b).1.length - k.1) ((0,(none,none)):Nat × Gp) [4,5,5] (((0:Int)=(↑(0:Nat):Int))∧(@Eq PP (PPt GT (@OfNat.ofNat Nat (nat_lit 26) (instOfNatNat (nat_lit 26))) (@none Proof)) (PPt GT (@OfNat.ofNat Nat (nat_lit 26) (instOfNatNat (nat_lit 26))) (@none Proof)))∧(@Eq PP (PPt GT (@OfNat.ofNat Nat (nat_lit 26) (instOfNatNat (nat_lit 26))) (@none Proof)) (PPt GT (@OfNat.ofNat Nat (nat_lit 26) (instOfNatNat (nat_lit 26))) (@none Proof)))) ⟨rfl,rfl,rfl⟩ (by exact⟨GJ.start,rfl⟩) (fun k hk4=>?_)
  have i1:=(‹GJ b (parse [] b).1 k.1∧ggTo (parse [] b).1 k.1=k.2›).1
  have i2:=(‹GJ b (parse [] b).1 k.1∧ggTo (parse [] b).1 k.1=k.2›).2
  refine v_if (decide ((↑k.fst:Int)<(↑(parse [] b).fst.length:Int))) True trivial (fun h5=>?_) (fun h5=>?_)
  ·have h5:=of_decide_eq_true h5
   refine v_call _ [9] (Decode_ok ((pF b k.fst).value) (by exact GJ.v ‹_› ‹_› ‹_›)) ((0≤(↑k.fst:Int)∧(↑k.fst:Int)<(↑(parse [] b).fst.length:Int))∧((pF b k.fst).value=(pF b k.fst).value)) ⟨(by omega),rfl⟩ (fun g6 p7=>?_)
   have p7:True:=p7
   refine v_guard 37 (decide ((pF b k.fst).tag≠1)) True trivial (fun h8=>?_) (fun h8=>?_)
   ·have h8:=of_decide_eq_true h8
    refine v_if (decide ((pF b k.fst).tag≠2)) True trivial (fun h9=>?_) (fun h9=>?_)
    ·have h9:=of_decide_eq_true h9
     refine v_leave .rt True trivial ?_
     exact v_ret () [5,5] ((8=degE b)∧(b=b)∧(@Eq PP (PPt GT (@OfNat.ofNat Nat (nat_lit 26) (instOfNatNat (nat_lit 26))) (@none Proof)) (PPt GT (@OfNat.ofNat Nat (nat_lit 26) (instOfNatNat (nat_lit 26))) (@none Proof)))∧(@Eq PP (PPt GT (@OfNat.ofNat Nat (nat_lit 26) (instOfNatNat (nat_lit 26))) (@none Proof)) (PPt GT (@OfNat.ofNat Nat (nat_lit 26) (instOfNatNat (nat_lit 26))) (@none Proof)))) ⟨(by exact(dg2 ‹_› ‹_› ‹_› (ge3 ‹_› ‹_›) (by decide)).2),rfl,rfl,rfl⟩ trivial
    ·have h9:=of_decide_eq_false h9
     refine v_if (decide (decE (pF b k.fst).value≠0)) True trivial (fun h10=>?_) (fun h10=>?_)
     ·have h10:=of_decide_eq_true h10
      refine v_leave .rt True trivial ?_
      exact v_ret () [5,5] ((decE (pF b k.fst).value=degE b)∧(b=b)∧(@Eq PP (PPt GT (@OfNat.ofNat Nat (nat_lit 26) (instOfNatNat (nat_lit 26))) (@none Proof)) (PPt GT (@OfNat.ofNat Nat (nat_lit 26) (instOfNatNat (nat_lit 26))) (@none Proof)))∧(@Eq PP (PPt GT (@OfNat.ofNat Nat (nat_lit 26) (instOfNatNat (nat_lit 26))) (@none Proof)) (PPt GT (@OfNat.ofNat Nat (nat_lit 26) (instOfNatNat (nat_lit 26))) (@none Proof)))) ⟨(by exact(dg2 ‹_› ‹_› ‹_› (ge2 ‹_› ‹_›) ‹_›).2),rfl,rfl,rfl⟩ trivial
     ·have h10:=of_decide_eq_false h10
      refine v_if (decide ((pF b k.fst).tag=1)) True trivial (fun h11=>?_) (fun h11=>?_)
      ·have h11:=of_decide_eq_true h11
       contradiction
      ·have h11:=of_decide_eq_false h11
       refine v_close 15 [12,13,14] (close_pf ((decP (pF b k.fst).value).key) ((decP (pF b k.fst).value).value) ((decP (pF b k.fst).value).turns)) ((I64 (↑k.fst+1))∧((decP (pF b k.fst).value).key=(decP (pF b k.fst).value).key)∧((decP (pF b k.fst).value).value=(decP (pF b k.fst).value).value)∧((decP (pF b k.fst).value).turns=(decP (pF b k.fst).value).turns)) ⟨(by(have hy:=parse_len b;unfold I64;omega)),rfl,rfl,rfl⟩ ?_
       refine v_al [15] (al_ptr (PPt GT (26:Nat) (some (Proof.mk (decP (pF b k.fst).value).key (decP (pF b k.fst).value).value (decP (pF b k.fst).value).turns)))) ((PLe (PPt GT (26:Nat) (some (Proof.mk (decP (pF b k.fst).value).key (decP (pF b k.fst).value).value (decP (pF b k.fst).value).turns))) (PPt GT (26:Nat) (some (Proof.mk (decP (pF b k.fst).value).key (decP (pF b k.fst).value).value (decP (pF b k.fst).value).turns))))∧(false=false)) ⟨fun _ _ _ h=>h,rfl⟩ ?_
       exact v_back ((k.fst+1,k.snd.fst,some (Proof.mk (decP (pF b k.fst).value).key (decP (pF b k.fst).value).value (decP (pF b k.fst).value).turns))) [6,7,16] (((↑k.fst:Int)+1=(↑(k.fst+1):Int))∧(k.snd.fst=k.snd.fst)∧(PPt GT (26:Nat) (some (Proof.mk (decP (pF b k.fst).value).key (decP (pF b k.fst).value).value (decP (pF b k.fst).value).turns))=PPt GT (26:Nat) (some (Proof.mk (decP (pF b k.fst).value).key (decP (pF b k.fst).value).value (decP (pF b k.fst).value).turns)))) ⟨rfl,rfl,rfl⟩ (show(GJ b (parse [] b).fst (k.fst+1)∧ggTo (parse [] b).fst (k.fst+1)=(k.snd.fst,some (Proof.mk (decP (pF b k.fst).value).key (decP (pF b k.fst).value).value (decP (pF b k.fst).value).turns)))∧(parse [] b).fst.length - (k.fst+1)<(parse [] b).fst.length - k.fst from(by exact gn2 ‹_› ‹_› ((ge2 ‹_› ‹_›).trans (nn ‹_›)) ‹_›))
   ·have h8:=of_decide_eq_false h8
    refine v_if (decide (decE (pF b k.fst).value≠0)) True trivial (fun h12=>?_) (fun h12=>?_)
    ·have h12:=of_decide_eq_true h12
     refine v_leave .rt True trivial ?_
     exact v_ret () [5,5] ((decE (pF b k.fst).value=degE b)∧(b=b)∧(@Eq PP (PPt GT (@OfNat.ofNat Nat (nat_lit 26) (instOfNatNat (nat_lit 26))) (@none Proof)) (PPt GT (@OfNat.ofNat Nat (nat_lit 26) (instOfNatNat (nat_lit 26))) (@none Proof)))∧(@Eq PP (PPt GT (@OfNat.ofNat Nat (nat_lit 26) (instOfNatNat (nat_lit 26))) (@none Proof)) (PPt GT (@OfNat.ofNat Nat (nat_lit 26) (instOfNatNat (nat_lit 26))) (@none Proof)))) ⟨(by exact(dg2 ‹_› ‹_› ‹_› (ge1 ‹_›) ‹_›).2),rfl,rfl,rfl⟩ trivial
    ·have h12:=of_decide_eq_false h12
     refine v_if (decide ((pF b k.fst).tag=1)) True trivial (fun h13=>?_) (fun h13=>?_)
     ·have h13:=of_decide_eq_true h13
      refine v_close 15 [12,13,14] (close_pf ((decP (pF b k.fst).value).key) ((decP (pF b k.fst).value).value) ((decP (pF b k.fst).value).turns)) ((I64 (↑k.fst+1))∧((decP (pF b k.fst).value).key=(decP (pF b k.fst).value).key)∧((decP (pF b k.fst).value).value=(decP (pF b k.fst).value).value)∧((decP (pF b k.fst).value).turns=(decP (pF b k.fst).value).turns)) ⟨(by(have hy:=parse_len b;unfold I64;omega)),rfl,rfl,rfl⟩ ?_
      refine v_al [15] (al_ptr (PPt GT (26:Nat) (some (Proof.mk (decP (pF b k.fst).value).key (decP (pF b k.fst).value).value (decP (pF b k.fst).value).turns)))) ((PLe (PPt GT (26:Nat) (some (Proof.mk (decP (pF b k.fst).value).key (decP (pF b k.fst).value).value (decP (pF b k.fst).value).turns))) (PPt GT (26:Nat) (some (Proof.mk (decP (pF b k.fst).value).key (decP (pF b k.fst).value).value (decP (pF b k.fst).value).turns))))∧(false=false)) ⟨fun _ _ _ h=>h,rfl⟩ ?_
      exact v_back ((k.fst+1,some (Proof.mk (decP (pF b k.fst).value).key (decP (pF b k.fst).value).value (decP (pF b k.fst).value).turns),k.snd.snd)) [6,16,8] (((↑k.fst:Int)+1=(↑(k.fst+1):Int))∧(PPt GT (26:Nat) (some (Proof.mk (decP (pF b k.fst).value).key (decP (pF b k.fst).value).value (decP (pF b k.fst).value).turns))=PPt GT (26:Nat) (some (Proof.mk (decP (pF b k.fst).value).key (decP (pF b k.fst).value).value (decP (pF b k.fst).value).turns)))∧(k.snd.snd=k.snd.snd)) ⟨rfl,rfl,rfl⟩ (show(GJ b (parse [] b).fst (k.fst+1)∧ggTo (parse [] b).fst (k.fst+1)=(some (Proof.mk (decP (pF b k.fst).value).key (decP (pF b k.fst).value).value (decP (pF b k.fst).value).turns),k.snd.snd))∧(parse [] b).fst.length - (k.fst+1)<(parse [] b).fst.length - k.fst from(by exact gn1 ‹_› ‹_› ((ge1 ‹_›).trans (nn ‹_›)) ‹_›))
     ·have h13:=of_decide_eq_false h13
      contradiction
  ·have h5:=of_decide_eq_false h5
   exfalso;exact dz4 (b:=b) (k:=k.1) ‹_› ‹_› ‹_› ‹_›
theorem DecodeGap2_aux (b:List UInt8) (hlb:b.length≤200000) (he:degE b=0):FOk EN 40 ⟨[.rd 5 (b)],[.n 0],Unit,fun _=>([.rd 5 (b),.pt 26 (degG b).1,.pt 26 (degG b).2],.t [.a [.n 1,.n 2],.i (degE b)]),fun _=>True⟩:=by
 refine v_fun Tryd.f40 ccK13_40 MX (fun ν F σ w=>?_) Tryd.func40
 refine v_nl ?_
 refine v_call _ [0] (parse_ok (b) (by omega)) ((b=b)) rfl (fun g1 p2=>?_)
 have p2:True:=p2
 refine v_if (decide ((parse [] b).snd≠0)) True trivial (fun h3=>?_) (fun h3=>?_)
 ·have h3:=of_decide_eq_true h3
  exfalso;exact dz1 (b:=b) ‹_› ‹_›
 ·have h3:=of_decide_eq_false h3
  refine v_al [] (al_pt0 (26)) True trivial ?_
  refine v_loop (fun k:Nat × Gp=>([(22,.i (k.1:Int)),(6,.p 6 0)],[.bx 31 [.n 7,.n 8],.pt 26 k.2.1,.pt 26 k.2.2])) (fun k=>GJ b (parse [] b).1 k.1∧ggTo (parse [] b).1 k.1=k.2) (fun k=>(parse [] b).1.length - k.1) ((0,(none,none)):Nat × Gp) [4,5,5] (((0:Int)=(↑(0:Nat):Int))∧(@Eq PP (PPt GT (@OfNat.ofNat Nat (nat_lit 26) (instOfNatNat (nat_lit 26))) (@none Proof)) (PPt GT (@OfNat.ofNat Nat (nat_lit 26) (instOfNatNat (nat_lit 26))) (@none Proof)))∧(@Eq PP (PPt GT (@OfNat.ofNat Nat (nat_lit 26) (instOfNatNat (nat_lit 26))) (@none Proof)) (PPt GT (@OfNat.ofNat Nat (nat_lit 26) (instOfNatNat (nat_lit 26))) (@none Proof)))) ⟨rfl,rfl,rfl⟩ (by exact⟨GJ.start,rfl⟩) (fun k hk4=>?_)
  have i1:=(‹GJ b (parse [] b).1 k.1∧ggTo (parse [] b).1 k.1=k.2›).1
  have i2:=(‹GJ b (parse [] b).1 k.1∧ggTo (parse [] b).1 k.1=k.2›).2
  refine v_if (decide ((↑k.fst:Int)<(↑(parse [] b).fst.length:Int))) True trivial (fun h5=>?_) (fun h5=>?_)
  ·have h5:=of_decide_eq_true h5
   refine v_call _ [9] (Decode_ok ((pF b k.fst).value) (by exact GJ.v ‹_› ‹_› ‹_›)) ((0≤(↑k.fst:Int)∧(↑k.fst:Int)<(↑(parse [] b).fst.length:Int))∧((pF b k.fst).value=(pF b k.fst).value)) ⟨(by omega),rfl⟩ (fun g6 p7=>?_)
   have p7:True:=p7
   refine v_guard 37 (decide ((pF b k.fst).tag≠1)) True trivial (fun h8=>?_) (fun h8=>?_)
   ·have h8:=of_decide_eq_true h8
    refine v_if (decide ((pF b k.fst).tag≠2)) True trivial (fun h9=>?_) (fun h9=>?_)
    ·have h9:=of_decide_eq_true h9
     exfalso;exact dz2 (b:=b) (k:=k.1) ‹_› ‹_› ‹_› ‹_› (ge3 ‹_› ‹_›) (by decide)
    ·have h9:=of_decide_eq_false h9
     refine v_if (decide (decE (pF b k.fst).value≠0)) True trivial (fun h10=>?_) (fun h10=>?_)
     ·have h10:=of_decide_eq_true h10
      exfalso;exact dz2 (b:=b) (k:=k.1) ‹_› ‹_› ‹_› ‹_› (ge2 ‹_› ‹_›) ‹_›
     ·have h10:=of_decide_eq_false h10
      refine v_if (decide ((pF b k.fst).tag=1)) True trivial (fun h11=>?_) (fun h11=>?_)
      ·have h11:=of_decide_eq_true h11
       contradiction
      ·have h11:=of_decide_eq_false h11
       refine v_close 15 [12,13,14] (close_pf ((decP (pF b k.fst).value).key) ((decP (pF b k.fst).value).value) ((decP (pF b k.fst).value).turns)) ((I64 (↑k.fst+1))∧((decP (pF b k.fst).value).key=(decP (pF b k.fst).value).key)∧((decP (pF b k.fst).value).value=(decP (pF b k.fst).value).value)∧((decP (pF b k.fst).value).turns=(decP (pF b k.fst).value).turns)) ⟨(by(have hy:=parse_len b;unfold I64;omega)),rfl,rfl,rfl⟩ ?_
       refine v_al [15] (al_ptr (PPt GT (26:Nat) (some (Proof.mk (decP (pF b k.fst).value).key (decP (pF b k.fst).value).value (decP (pF b k.fst).value).turns)))) ((PLe (PPt GT (26:Nat) (some (Proof.mk (decP (pF b k.fst).value).key (decP (pF b k.fst).value).value (decP (pF b k.fst).value).turns))) (PPt GT (26:Nat) (some (Proof.mk (decP (pF b k.fst).value).key (decP (pF b k.fst).value).value (decP (pF b k.fst).value).turns))))∧(false=false)) ⟨fun _ _ _ h=>h,rfl⟩ ?_
       exact v_back ((k.fst+1,k.snd.fst,some (Proof.mk (decP (pF b k.fst).value).key (decP (pF b k.fst).value).value (decP (pF b k.fst).value).turns))) [6,7,16] (((↑k.fst:Int)+1=(↑(k.fst+1):Int))∧(k.snd.fst=k.snd.fst)∧(PPt GT (26:Nat) (some (Proof.mk (decP (pF b k.fst).value).key (decP (pF b k.fst).value).value (decP (pF b k.fst).value).turns))=PPt GT (26:Nat) (some (Proof.mk (decP (pF b k.fst).value).key (decP (pF b k.fst).value).value (decP (pF b k.fst).value).turns)))) ⟨rfl,rfl,rfl⟩ (show(GJ b (parse [] b).fst (k.fst+1)∧ggTo (parse [] b).fst (k.fst+1)=(k.snd.fst,some (Proof.mk (decP (pF b k.fst).value).key (decP (pF b k.fst).value).value (decP (pF b k.fst).value).turns)))∧(parse [] b).fst.length - (k.fst+1)<(parse [] b).fst.length - k.fst from(by exact gn2 ‹_› ‹_› ((ge2 ‹_› ‹_›).trans (nn ‹_›)) ‹_›))
   ·have h8:=of_decide_eq_false h8
    refine v_if (decide (decE (pF b k.fst).value≠0)) True trivial (fun h12=>?_) (fun h12=>?_)
    ·have h12:=of_decide_eq_true h12
     exfalso;exact dz2 (b:=b) (k:=k.1) ‹_› ‹_› ‹_› ‹_› (ge1 ‹_›) ‹_›
    ·have h12:=of_decide_eq_false h12
     refine v_if (decide ((pF b k.fst).tag=1)) True trivial (fun h13=>?_) (fun h13=>?_)
     ·have h13:=of_decide_eq_true h13
      refine v_close 15 [12,13,14] (close_pf ((decP (pF b k.fst).value).key) ((decP (pF b k.fst).value).value) ((decP (pF b k.fst).value).turns)) ((I64 (↑k.fst+1))∧((decP (pF b k.fst).value).key=(decP (pF b k.fst).value).key)∧((decP (pF b k.fst).value).value=(decP (pF b k.fst).value).value)∧((decP (pF b k.fst).value).turns=(decP (pF b k.fst).value).turns)) ⟨(by(have hy:=parse_len b;unfold I64;omega)),rfl,rfl,rfl⟩ ?_
      refine v_al [15] (al_ptr (PPt GT (26:Nat) (some (Proof.mk (decP (pF b k.fst).value).key (decP (pF b k.fst).value).value (decP (pF b k.fst).value).turns)))) ((PLe (PPt GT (26:Nat) (some (Proof.mk (decP (pF b k.fst).value).key (decP (pF b k.fst).value).value (decP (pF b k.fst).value).turns))) (PPt GT (26:Nat) (some (Proof.mk (decP (pF b k.fst).value).key (decP (pF b k.fst).value).value (decP (pF b k.fst).value).turns))))∧(false=false)) ⟨fun _ _ _ h=>h,rfl⟩ ?_
      exact v_back ((k.fst+1,some (Proof.mk (decP (pF b k.fst).value).key (decP (pF b k.fst).value).value (decP (pF b k.fst).value).turns),k.snd.snd)) [6,16,8] (((↑k.fst:Int)+1=(↑(k.fst+1):Int))∧(PPt GT (26:Nat) (some (Proof.mk (decP (pF b k.fst).value).key (decP (pF b k.fst).value).value (decP (pF b k.fst).value).turns))=PPt GT (26:Nat) (some (Proof.mk (decP (pF b k.fst).value).key (decP (pF b k.fst).value).value (decP (pF b k.fst).value).turns)))∧(k.snd.snd=k.snd.snd)) ⟨rfl,rfl,rfl⟩ (show(GJ b (parse [] b).fst (k.fst+1)∧ggTo (parse [] b).fst (k.fst+1)=(some (Proof.mk (decP (pF b k.fst).value).key (decP (pF b k.fst).value).value (decP (pF b k.fst).value).turns),k.snd.snd))∧(parse [] b).fst.length - (k.fst+1)<(parse [] b).fst.length - k.fst from(by exact gn1 ‹_› ‹_› ((ge1 ‹_›).trans (nn ‹_›)) ‹_›))
     ·have h13:=of_decide_eq_false h13
      contradiction
  ·have h5:=of_decide_eq_false h5
   refine v_leave (.ex 0) True trivial ?_
   exact v_ret () [7,8] ((0=degE b)∧(b=b)∧(k.snd.fst=(degG b).fst)∧(k.snd.snd=(degG b).snd)) ⟨(by omega),rfl,(by exact(dg5 ‹_› ‹_› ‹_› ‹_›).1),(by exact(dg5 ‹_› ‹_› ‹_› ‹_›).2)⟩ trivial
theorem DecodeGap_ok (b:List UInt8) (hlb:b.length≤200000):FOk EN 40 ⟨[.rd 5 b],[.n 0],Unit,fun _=>([.rd 5 b,.pt 26 (degG b).1,.pt 26 (degG b).2],.t [.a [.n 1,.n 2],.i (degE b)]),fun _=>True⟩:=by
  by_cases he:degE b=0
  · exact DecodeGap2_aux b hlb he
  · rw[degG_e he];exact DecodeGap1_aux b hlb he
noncomputable def ccK13_41:Code:=(Tryd.f41.body).getD .skip
theorem rDecodeGap1_aux (b:List UInt8) (hlb:b.length≤200000) (he:degE b≠0):FOk EN 41 ⟨[.rd 5 (b)],[.n 0],Unit,fun _=>([.rd 5 (b),.pt 26 none,.pt 26 none],.t [.a [.n 1,.n 2],.i (degE b)]),fun _=>True⟩:=by
 refine v_fun Tryd.f41 ccK13_41 MX (fun ν F σ w=>?_) Tryd.func41
 refine v_nl ?_
 refine v_call _ [0] (rparse_ok (b) (by omega)) ((b=b)) rfl (fun g1 p2=>?_)
 have p2:True:=p2
 refine v_if (decide ((parse [] b).snd≠0)) True trivial (fun h3=>?_) (fun h3=>?_)
 ·have h3:=of_decide_eq_true h3
  refine v_al [] (al_pt0 (26)) True trivial ?_
  exact v_ret () [5,5] (((parse [] b).snd=degE b)∧(b=b)∧(@Eq PP (PPt GT (@OfNat.ofNat Nat (nat_lit 26) (instOfNatNat (nat_lit 26))) (@none Proof)) (PPt GT (@OfNat.ofNat Nat (nat_lit 26) (instOfNatNat (nat_lit 26))) (@none Proof)))∧(@Eq PP (PPt GT (@OfNat.ofNat Nat (nat_lit 26) (instOfNatNat (nat_lit 26))) (@none Proof)) (PPt GT (@OfNat.ofNat Nat (nat_lit 26) (instOfNatNat (nat_lit 26))) (@none Proof)))) ⟨(by exact(dg1 ‹_›).2),rfl,rfl,rfl⟩ trivial
 ·have h3:=of_decide_eq_false h3
  refine v_al [] (al_pt0 (26)) True trivial ?_
  refine v_loop (fun k:Nat × Gp=>([(7,.i (k.1:Int)),(4,.p 6 0)],[.bx 31 [.n 7,.n 8],.pt 26 k.2.1,.pt 26 k.2.2])) (fun k=>GJ b (parse [] b).1 k.1∧ggTo (parse [] b).1 k.1=k.2) (fun k=>(parse [] b).1.length - k.1) ((0,(none,none)):Nat × Gp) [3,5,5] (((0:Int)=(↑(0:Nat):Int))∧(@Eq PP (PPt GT (@OfNat.ofNat Nat (nat_lit 26) (instOfNatNat (nat_lit 26))) (@none Proof)) (PPt GT (@OfNat.ofNat Nat (nat_lit 26) (instOfNatNat (nat_lit 26))) (@none Proof)))∧(@Eq PP (PPt GT (@OfNat.ofNat Nat (nat_lit 26) (instOfNatNat (nat_lit 26))) (@none Proof)) (PPt GT (@OfNat.ofNat Nat (nat_lit 26) (instOfNatNat (nat_lit 26))) (@none Proof)))) ⟨rfl,rfl,rfl⟩ (by exact⟨GJ.start,rfl⟩) (fun k hk4=>?_)
  have i1:=(‹GJ b (parse [] b).1 k.1∧ggTo (parse [] b).1 k.1=k.2›).1
  have i2:=(‹GJ b (parse [] b).1 k.1∧ggTo (parse [] b).1 k.1=k.2›).2
  refine v_if (decide ((↑k.fst:Int)<(↑(parse [] b).fst.length:Int))) True trivial (fun h5=>?_) (fun h5=>?_)
  ·have h5:=of_decide_eq_true h5
   refine v_guard 31 (decide ((pF b k.fst).tag≠1)) ((0≤(↑k.fst:Int)∧(↑k.fst:Int)<(↑(parse [] b).fst.length:Int))) (by omega) (fun h6=>?_) (fun h6=>?_)
   ·have h6:=of_decide_eq_true h6
    refine v_if (decide ((pF b k.fst).tag≠2)) ((0≤(↑k.fst:Int)∧(↑k.fst:Int)<(↑(parse [] b).fst.length:Int))) (by omega) (fun h7=>?_) (fun h7=>?_)
    ·have h7:=of_decide_eq_true h7
     refine v_leave .rt True trivial ?_
     exact v_ret () [5,5] ((8=degE b)∧(b=b)∧(@Eq PP (PPt GT (@OfNat.ofNat Nat (nat_lit 26) (instOfNatNat (nat_lit 26))) (@none Proof)) (PPt GT (@OfNat.ofNat Nat (nat_lit 26) (instOfNatNat (nat_lit 26))) (@none Proof)))∧(@Eq PP (PPt GT (@OfNat.ofNat Nat (nat_lit 26) (instOfNatNat (nat_lit 26))) (@none Proof)) (PPt GT (@OfNat.ofNat Nat (nat_lit 26) (instOfNatNat (nat_lit 26))) (@none Proof)))) ⟨(by exact(dg2 ‹_› ‹_› ‹_› (ge3 ‹_› ‹_›) (by decide)).2),rfl,rfl,rfl⟩ trivial
    ·have h7:=of_decide_eq_false h7
     refine v_call _ [13] (DecodeProof_ok ((pF b k.fst).value) (by exact GJ.v ‹_› ‹_› ‹_›)) ((0≤(↑k.fst:Int)∧(↑k.fst:Int)<(↑(parse [] b).fst.length:Int))∧((pF b k.fst).value=(pF b k.fst).value)) ⟨(by omega),rfl⟩ (fun g8 p9=>?_)
     have p9:True:=p9
     refine v_if (decide (decE (pF b k.fst).value≠0)) True trivial (fun h10=>?_) (fun h10=>?_)
     ·have h10:=of_decide_eq_true h10
      refine v_leave .rt True trivial ?_
      exact v_ret () [5,5] ((decE (pF b k.fst).value=degE b)∧(b=b)∧(@Eq PP (PPt GT (@OfNat.ofNat Nat (nat_lit 26) (instOfNatNat (nat_lit 26))) (@none Proof)) (PPt GT (@OfNat.ofNat Nat (nat_lit 26) (instOfNatNat (nat_lit 26))) (@none Proof)))∧(@Eq PP (PPt GT (@OfNat.ofNat Nat (nat_lit 26) (instOfNatNat (nat_lit 26))) (@none Proof)) (PPt GT (@OfNat.ofNat Nat (nat_lit 26) (instOfNatNat (nat_lit 26))) (@none Proof)))) ⟨(by exact(dg2 ‹_› ‹_› ‹_› (ge2 ‹_› ‹_›) ‹_›).2),rfl,rfl,rfl⟩ trivial
     ·have h10:=of_decide_eq_false h10
      refine v_if (decide ((pF b k.fst).tag=1)) ((0≤(↑k.fst:Int)∧(↑k.fst:Int)<(↑(parse [] b).fst.length:Int))) (by omega) (fun h11=>?_) (fun h11=>?_)
      ·have h11:=of_decide_eq_true h11
       contradiction
      ·have h11:=of_decide_eq_false h11
       refine v_close 18 [15,16,17] (close_pf ((decP (pF b k.fst).value).key) ((decP (pF b k.fst).value).value) ((decP (pF b k.fst).value).turns)) ((I64 (↑k.fst+1))∧((decP (pF b k.fst).value).key=(decP (pF b k.fst).value).key)∧((decP (pF b k.fst).value).value=(decP (pF b k.fst).value).value)∧((decP (pF b k.fst).value).turns=(decP (pF b k.fst).value).turns)) ⟨(by(have hy:=parse_len b;unfold I64;omega)),rfl,rfl,rfl⟩ ?_
       refine v_al [18] (al_ptr (PPt GT (26:Nat) (some (Proof.mk (decP (pF b k.fst).value).key (decP (pF b k.fst).value).value (decP (pF b k.fst).value).turns)))) ((PLe (PPt GT (26:Nat) (some (Proof.mk (decP (pF b k.fst).value).key (decP (pF b k.fst).value).value (decP (pF b k.fst).value).turns))) (PPt GT (26:Nat) (some (Proof.mk (decP (pF b k.fst).value).key (decP (pF b k.fst).value).value (decP (pF b k.fst).value).turns))))∧(false=false)) ⟨fun _ _ _ h=>h,rfl⟩ ?_
       exact v_back ((k.fst+1,k.snd.fst,some (Proof.mk (decP (pF b k.fst).value).key (decP (pF b k.fst).value).value (decP (pF b k.fst).value).turns))) [6,7,21] (((↑k.fst:Int)+1=(↑(k.fst+1):Int))∧(k.snd.fst=k.snd.fst)∧(PPt GT (26:Nat) (some (Proof.mk (decP (pF b k.fst).value).key (decP (pF b k.fst).value).value (decP (pF b k.fst).value).turns))=PPt GT (26:Nat) (some (Proof.mk (decP (pF b k.fst).value).key (decP (pF b k.fst).value).value (decP (pF b k.fst).value).turns)))) ⟨rfl,rfl,rfl⟩ (show(GJ b (parse [] b).fst (k.fst+1)∧ggTo (parse [] b).fst (k.fst+1)=(k.snd.fst,some (Proof.mk (decP (pF b k.fst).value).key (decP (pF b k.fst).value).value (decP (pF b k.fst).value).turns)))∧(parse [] b).fst.length - (k.fst+1)<(parse [] b).fst.length - k.fst from(by exact gn2 ‹_› ‹_› ((ge2 ‹_› ‹_›).trans (nn ‹_›)) ‹_›))
   ·have h6:=of_decide_eq_false h6
    refine v_call _ [11] (DecodeProof_ok ((pF b k.fst).value) (by exact GJ.v ‹_› ‹_› ‹_›)) ((0≤(↑k.fst:Int)∧(↑k.fst:Int)<(↑(parse [] b).fst.length:Int))∧((pF b k.fst).value=(pF b k.fst).value)) ⟨(by omega),rfl⟩ (fun g12 p13=>?_)
    have p13:True:=p13
    refine v_if (decide (decE (pF b k.fst).value≠0)) True trivial (fun h14=>?_) (fun h14=>?_)
    ·have h14:=of_decide_eq_true h14
     refine v_leave .rt True trivial ?_
     exact v_ret () [5,5] ((decE (pF b k.fst).value=degE b)∧(b=b)∧(@Eq PP (PPt GT (@OfNat.ofNat Nat (nat_lit 26) (instOfNatNat (nat_lit 26))) (@none Proof)) (PPt GT (@OfNat.ofNat Nat (nat_lit 26) (instOfNatNat (nat_lit 26))) (@none Proof)))∧(@Eq PP (PPt GT (@OfNat.ofNat Nat (nat_lit 26) (instOfNatNat (nat_lit 26))) (@none Proof)) (PPt GT (@OfNat.ofNat Nat (nat_lit 26) (instOfNatNat (nat_lit 26))) (@none Proof)))) ⟨(by exact(dg2 ‹_› ‹_› ‹_› (ge1 ‹_›) ‹_›).2),rfl,rfl,rfl⟩ trivial
    ·have h14:=of_decide_eq_false h14
     refine v_if (decide ((pF b k.fst).tag=1)) ((0≤(↑k.fst:Int)∧(↑k.fst:Int)<(↑(parse [] b).fst.length:Int))) (by omega) (fun h15=>?_) (fun h15=>?_)
     ·have h15:=of_decide_eq_true h15
      refine v_close 16 [13,14,15] (close_pf ((decP (pF b k.fst).value).key) ((decP (pF b k.fst).value).value) ((decP (pF b k.fst).value).turns)) ((I64 (↑k.fst+1))∧((decP (pF b k.fst).value).key=(decP (pF b k.fst).value).key)∧((decP (pF b k.fst).value).value=(decP (pF b k.fst).value).value)∧((decP (pF b k.fst).value).turns=(decP (pF b k.fst).value).turns)) ⟨(by(have hy:=parse_len b;unfold I64;omega)),rfl,rfl,rfl⟩ ?_
      refine v_al [16] (al_ptr (PPt GT (26:Nat) (some (Proof.mk (decP (pF b k.fst).value).key (decP (pF b k.fst).value).value (decP (pF b k.fst).value).turns)))) ((PLe (PPt GT (26:Nat) (some (Proof.mk (decP (pF b k.fst).value).key (decP (pF b k.fst).value).value (decP (pF b k.fst).value).turns))) (PPt GT (26:Nat) (some (Proof.mk (decP (pF b k.fst).value).key (decP (pF b k.fst).value).value (decP (pF b k.fst).value).turns))))∧(false=false)) ⟨fun _ _ _ h=>h,rfl⟩ ?_
      exact v_back ((k.fst+1,some (Proof.mk (decP (pF b k.fst).value).key (decP (pF b k.fst).value).value (decP (pF b k.fst).value).turns),k.snd.snd)) [6,19,8] (((↑k.fst:Int)+1=(↑(k.fst+1):Int))∧(PPt GT (26:Nat) (some (Proof.mk (decP (pF b k.fst).value).key (decP (pF b k.fst).value).value (decP (pF b k.fst).value).turns))=PPt GT (26:Nat) (some (Proof.mk (decP (pF b k.fst).value).key (decP (pF b k.fst).value).value (decP (pF b k.fst).value).turns)))∧(k.snd.snd=k.snd.snd)) ⟨rfl,rfl,rfl⟩ (show(GJ b (parse [] b).fst (k.fst+1)∧ggTo (parse [] b).fst (k.fst+1)=(some (Proof.mk (decP (pF b k.fst).value).key (decP (pF b k.fst).value).value (decP (pF b k.fst).value).turns),k.snd.snd))∧(parse [] b).fst.length - (k.fst+1)<(parse [] b).fst.length - k.fst from(by exact gn1 ‹_› ‹_› ((ge1 ‹_›).trans (nn ‹_›)) ‹_›))
     ·have h15:=of_decide_eq_false h15
      contradiction
  ·have h5:=of_decide_eq_false h5
   exfalso;exact dz4 (b:=b) (k:=k.1) ‹_› ‹_› ‹_› ‹_›
theorem rDecodeGap2_aux (b:List UInt8) (hlb:b.length≤200000) (he:degE b=0):FOk EN 41 ⟨[.rd 5 (b)],[.n 0],Unit,fun _=>([.rd 5 (b),.pt 26 (degG b).1,.pt 26 (degG b).2],.t [.a [.n 1,.n 2],.i (degE b)]),fun _=>True⟩:=by
 refine v_fun Tryd.f41 ccK13_41 MX (fun ν F σ w=>?_) Tryd.func41
 refine v_nl ?_
 refine v_call _ [0] (rparse_ok (b) (by omega)) ((b=b)) rfl (fun g1 p2=>?_)
 have p2:True:=p2
 refine v_if (decide ((parse [] b).snd≠0)) True trivial (fun h3=>?_) (fun h3=>?_)
 ·have h3:=of_decide_eq_true h3
  exfalso;exact dz1 (b:=b) ‹_› ‹_›
 ·have h3:=of_decide_eq_false h3
  refine v_al [] (al_pt0 (26)) True trivial ?_
  refine v_loop (fun k:Nat × Gp=>([(7,.i (k.1:Int)),(4,.p 6 0)],[.bx 31 [.n 7,.n 8],.pt 26 k.2.1,.pt 26 k.2.2])) (fun k=>GJ b (parse [] b).1 k.1∧ggTo (parse [] b).1 k.1=k.2) (fun k=>(parse [] b).1.length - k.1) ((0,(none,none)):Nat × Gp) [3,5,5] (((0:Int)=(↑(0:Nat):Int))∧(@Eq PP (PPt GT (@OfNat.ofNat Nat (nat_lit 26) (instOfNatNat (nat_lit 26))) (@none Proof)) (PPt GT (@OfNat.ofNat Nat (nat_lit 26) (instOfNatNat (nat_lit 26))) (@none Proof)))∧(@Eq PP (PPt GT (@OfNat.ofNat Nat (nat_lit 26) (instOfNatNat (nat_lit 26))) (@none Proof)) (PPt GT (@OfNat.ofNat Nat (nat_lit 26) (instOfNatNat (nat_lit 26))) (@none Proof)))) ⟨rfl,rfl,rfl⟩ (by exact⟨GJ.start,rfl⟩) (fun k hk4=>?_)
  have i1:=(‹GJ b (parse [] b).1 k.1∧ggTo (parse [] b).1 k.1=k.2›).1
  have i2:=(‹GJ b (parse [] b).1 k.1∧ggTo (parse [] b).1 k.1=k.2›).2
  refine v_if (decide ((↑k.fst:Int)<(↑(parse [] b).fst.length:Int))) True trivial (fun h5=>?_) (fun h5=>?_)
  ·have h5:=of_decide_eq_true h5
   refine v_guard 31 (decide ((pF b k.fst).tag≠1)) ((0≤(↑k.fst:Int)∧(↑k.fst:Int)<(↑(parse [] b).fst.length:Int))) (by omega) (fun h6=>?_) (fun h6=>?_)
   ·have h6:=of_decide_eq_true h6
    refine v_if (decide ((pF b k.fst).tag≠2)) ((0≤(↑k.fst:Int)∧(↑k.fst:Int)<(↑(parse [] b).fst.length:Int))) (by omega) (fun h7=>?_) (fun h7=>?_)
    ·have h7:=of_decide_eq_true h7
     exfalso;exact dz2 (b:=b) (k:=k.1) ‹_› ‹_› ‹_› ‹_› (ge3 ‹_› ‹_›) (by decide)
    ·have h7:=of_decide_eq_false h7
     refine v_call _ [13] (DecodeProof_ok ((pF b k.fst).value) (by exact GJ.v ‹_› ‹_› ‹_›)) ((0≤(↑k.fst:Int)∧(↑k.fst:Int)<(↑(parse [] b).fst.length:Int))∧((pF b k.fst).value=(pF b k.fst).value)) ⟨(by omega),rfl⟩ (fun g8 p9=>?_)
     have p9:True:=p9
     refine v_if (decide (decE (pF b k.fst).value≠0)) True trivial (fun h10=>?_) (fun h10=>?_)
     ·have h10:=of_decide_eq_true h10
      exfalso;exact dz2 (b:=b) (k:=k.1) ‹_› ‹_› ‹_› ‹_› (ge2 ‹_› ‹_›) ‹_›
     ·have h10:=of_decide_eq_false h10
      refine v_if (decide ((pF b k.fst).tag=1)) ((0≤(↑k.fst:Int)∧(↑k.fst:Int)<(↑(parse [] b).fst.length:Int))) (by omega) (fun h11=>?_) (fun h11=>?_)
      ·have h11:=of_decide_eq_true h11
       contradiction
      ·have h11:=of_decide_eq_false h11
       refine v_close 18 [15,16,17] (close_pf ((decP (pF b k.fst).value).key) ((decP (pF b k.fst).value).value) ((decP (pF b k.fst).value).turns)) ((I64 (↑k.fst+1))∧((decP (pF b k.fst).value).key=(decP (pF b k.fst).value).key)∧((decP (pF b k.fst).value).value=(decP (pF b k.fst).value).value)∧((decP (pF b k.fst).value).turns=(decP (pF b k.fst).value).turns)) ⟨(by(have hy:=parse_len b;unfold I64;omega)),rfl,rfl,rfl⟩ ?_
       refine v_al [18] (al_ptr (PPt GT (26:Nat) (some (Proof.mk (decP (pF b k.fst).value).key (decP (pF b k.fst).value).value (decP (pF b k.fst).value).turns)))) ((PLe (PPt GT (26:Nat) (some (Proof.mk (decP (pF b k.fst).value).key (decP (pF b k.fst).value).value (decP (pF b k.fst).value).turns))) (PPt GT (26:Nat) (some (Proof.mk (decP (pF b k.fst).value).key (decP (pF b k.fst).value).value (decP (pF b k.fst).value).turns))))∧(false=false)) ⟨fun _ _ _ h=>h,rfl⟩ ?_
       exact v_back ((k.fst+1,k.snd.fst,some (Proof.mk (decP (pF b k.fst).value).key (decP (pF b k.fst).value).value (decP (pF b k.fst).value).turns))) [6,7,21] (((↑k.fst:Int)+1=(↑(k.fst+1):Int))∧(k.snd.fst=k.snd.fst)∧(PPt GT (26:Nat) (some (Proof.mk (decP (pF b k.fst).value).key (decP (pF b k.fst).value).value (decP (pF b k.fst).value).turns))=PPt GT (26:Nat) (some (Proof.mk (decP (pF b k.fst).value).key (decP (pF b k.fst).value).value (decP (pF b k.fst).value).turns)))) ⟨rfl,rfl,rfl⟩ (show(GJ b (parse [] b).fst (k.fst+1)∧ggTo (parse [] b).fst (k.fst+1)=(k.snd.fst,some (Proof.mk (decP (pF b k.fst).value).key (decP (pF b k.fst).value).value (decP (pF b k.fst).value).turns)))∧(parse [] b).fst.length - (k.fst+1)<(parse [] b).fst.length - k.fst from(by exact gn2 ‹_› ‹_› ((ge2 ‹_› ‹_›).trans (nn ‹_›)) ‹_›))
   ·have h6:=of_decide_eq_false h6
    refine v_call _ [11] (DecodeProof_ok ((pF b k.fst).value) (by exact GJ.v ‹_› ‹_› ‹_›)) ((0≤(↑k.fst:Int)∧(↑k.fst:Int)<(↑(parse [] b).fst.length:Int))∧((pF b k.fst).value=(pF b k.fst).value)) ⟨(by omega),rfl⟩ (fun g12 p13=>?_)
    have p13:True:=p13
    refine v_if (decide (decE (pF b k.fst).value≠0)) True trivial (fun h14=>?_) (fun h14=>?_)
    ·have h14:=of_decide_eq_true h14
     exfalso;exact dz2 (b:=b) (k:=k.1) ‹_› ‹_› ‹_› ‹_› (ge1 ‹_›) ‹_›
    ·have h14:=of_decide_eq_false h14
     refine v_if (decide ((pF b k.fst).tag=1)) ((0≤(↑k.fst:Int)∧(↑k.fst:Int)<(↑(parse [] b).fst.length:Int))) (by omega) (fun h15=>?_) (fun h15=>?_)
     ·have h15:=of_decide_eq_true h15
      refine v_close 16 [13,14,15] (close_pf ((decP (pF b k.fst).value).key) ((decP (pF b k.fst).value).value) ((decP (pF b k.fst).value).turns)) ((I64 (↑k.fst+1))∧((decP (pF b k.fst).value).key=(decP (pF b k.fst).value).key)∧((decP (pF b k.fst).value).value=(decP (pF b k.fst).value).value)∧((decP (pF b k.fst).value).turns=(decP (pF b k.fst).value).turns)) ⟨(by(have hy:=parse_len b;unfold I64;omega)),rfl,rfl,rfl⟩ ?_
      refine v_al [16] (al_ptr (PPt GT (26:Nat) (some (Proof.mk (decP (pF b k.fst).value).key (decP (pF b k.fst).value).value (decP (pF b k.fst).value).turns)))) ((PLe (PPt GT (26:Nat) (some (Proof.mk (decP (pF b k.fst).value).key (decP (pF b k.fst).value).value (decP (pF b k.fst).value).turns))) (PPt GT (26:Nat) (some (Proof.mk (decP (pF b k.fst).value).key (decP (pF b k.fst).value).value (decP (pF b k.fst).value).turns))))∧(false=false)) ⟨fun _ _ _ h=>h,rfl⟩ ?_
      exact v_back ((k.fst+1,some (Proof.mk (decP (pF b k.fst).value).key (decP (pF b k.fst).value).value (decP (pF b k.fst).value).turns),k.snd.snd)) [6,19,8] (((↑k.fst:Int)+1=(↑(k.fst+1):Int))∧(PPt GT (26:Nat) (some (Proof.mk (decP (pF b k.fst).value).key (decP (pF b k.fst).value).value (decP (pF b k.fst).value).turns))=PPt GT (26:Nat) (some (Proof.mk (decP (pF b k.fst).value).key (decP (pF b k.fst).value).value (decP (pF b k.fst).value).turns)))∧(k.snd.snd=k.snd.snd)) ⟨rfl,rfl,rfl⟩ (show(GJ b (parse [] b).fst (k.fst+1)∧ggTo (parse [] b).fst (k.fst+1)=(some (Proof.mk (decP (pF b k.fst).value).key (decP (pF b k.fst).value).value (decP (pF b k.fst).value).turns),k.snd.snd))∧(parse [] b).fst.length - (k.fst+1)<(parse [] b).fst.length - k.fst from(by exact gn1 ‹_› ‹_› ((ge1 ‹_›).trans (nn ‹_›)) ‹_›))
     ·have h15:=of_decide_eq_false h15
      contradiction
  ·have h5:=of_decide_eq_false h5
   refine v_leave (.ex 0) True trivial ?_
   exact v_ret () [7,8] ((0=degE b)∧(b=b)∧(k.snd.fst=(degG b).fst)∧(k.snd.snd=(degG b).snd)) ⟨(by omega),rfl,(by exact(dg5 ‹_› ‹_› ‹_› ‹_›).1),(by exact(dg5 ‹_› ‹_› ‹_› ‹_›).2)⟩ trivial
theorem rDecodeGap_ok (b:List UInt8) (hlb:b.length≤200000):FOk EN 41 ⟨[.rd 5 b],[.n 0],Unit,fun _=>([.rd 5 b,.pt 26 (degG b).1,.pt 26 (degG b).2],.t [.a [.n 1,.n 2],.i (degE b)]),fun _=>True⟩:=by
  by_cases he:degE b=0
  · exact rDecodeGap2_aux b hlb he
  · rw[degG_e he];exact rDecodeGap1_aux b hlb he
end Go.Proofs.YtnicmjipbnhciaaDoor.X
set_option linter.unusedVariables false
set_option linter.unusedSimpArgs false
set_option maxRecDepth 100000
namespace Go.Proofs.YtnicmjipbnhciaaDoor.X
open Go Go.RowKit Go.Proofs Go.Proofs.YtnicmjipbnhciaaDoor.E
set_option maxHeartbeats 4000000
theorem Tr.fin_lv {k:List UInt8}:∀ {t:Tr},t.Ks→(t.fin k).value.length≤1000
  | .leaf _ _,h=>h.2
  | .node l r,h=>by unfold Tr.fin;split <;> first | exact Tr.fin_lv (t:=l) h.1 | exact Tr.fin_lv (t:=r) h.2
def smP (p:Proof):Prop:=p.key.length≤3000∧p.value.length≤3000∧p.turns.length≤100
theorem smP_nil:smP ⟨[],[],[]⟩:=⟨by decide,by decide,by decide⟩
theorem dTo_t (l:List Field):∀ k,k≤l.length→(dTo l k).turns.length≤vSum (l.take k)
  | 0,_=>Nat.zero_le _
  | k + 1, h => by
    have ih:=dTo_t l k (by omega)
    have hk:(k:Int)<l.length:=by omega
    rw[dTo_succ hk,vSum_succ hk]
    unfold dcSet
    split
    · show(dTo l k).turns.length≤_;omega
    · split
      · show(dTo l k).turns.length≤_;omega
      · split
        · show ((dTo l k).turns ++ _).length ≤ _
          have:=unpk_len (l.getD (k:Int).toNat kF).value
          rw[List.length_append,List.length_map];omega
        · omega
theorem decP_t {b:List UInt8} (h:b.length≤200000):(decP b).turns.length≤1000000:=by
  unfold decP
  split
  · exact Nat.zero_le _
  · split
    · exact Nat.zero_le _
    · split
      · exact Nat.zero_le _
      · have := dTo_t (parse [] b).1 _ (Nat.le_refl _)
        have:=vSum_take (parse [] b).1 (parse [] b).1.length
        have:=parse_sum b
        omega
def zs (k:Nat × List (List UInt8)):Prop:=k.1≤2∧k.2.length≤1+2*k.1∧∀ z∈k.2,z.length≤20000
theorem zs.start {b:List UInt8} (h:b.length≤3000):zs (0,[b]):=⟨by omega,by simp,fun z hz=>by rw[List.mem_singleton.1 hz];omega⟩
theorem zs.next {k:Nat × List (List UInt8)} (h:zs k) (hi:(k.1:Int)<(2:Nat)) {p:Proof} {v:List UInt8} (hp:smP p) (hv:v.length≤(encB p).length):zs (k.1+1,k.2++[encB p,v])∧2 - (k.1+1)<2 - k.1:=by
  have hc:=encB_len p
  have h1:=hp.1;have h2:=hp.2.1
  refine⟨⟨?_,?_,fun z hz=>?_⟩,by omega⟩
  · show k.1+1≤2;omega
  · show (k.2 ++ [encB p, v]).length ≤ 1 + 2 * (k.1 + 1)
    have:=h.2.1;simp only[List.length_append,List.length_cons,List.length_nil];omega
  · rcases List.mem_append.1 hz with hz | hz
    · exact h.2.2 z hz
    · simp only [List.mem_cons, List.not_mem_nil, or_false] at hz
      rcases hz with rfl | rfl <;> omega
theorem zs.at {l:List (List UInt8)} {n i:Nat} (h:zs (n,l)) (hi:(i:Int)<l.length):(l.getD (i:Int).toNat []).length≤200000:=by
  rw[Int.toNat_natCast,List.getD_eq_getElem?_getD,List.getElem?_eq_getElem (by omega)]
  have:=h.2.2 _ (List.getElem_mem (l:=l) (n:=i) (by omega))
  show(l[i]).length≤_;omega
end Go.Proofs.YtnicmjipbnhciaaDoor.X
set_option linter.unusedVariables false
set_option linter.unusedSimpArgs false
set_option maxRecDepth 100000
namespace Go.Proofs.YtnicmjipbnhciaaDoor.X
open Go Go.RowKit Go.Proofs Go.Proofs.YtnicmjipbnhciaaDoor.E
set_option maxHeartbeats 4000000
theorem noneG_all {P:Proof→Prop} {k:List UInt8} {o:Option Tr} (hm:∀ x,P (mkP x o)):∀(l:List Pair) (g q:Option Proof × Option Proof),P (gp g.1)→P (gp g.2)→noneG k o l g=some q→P (gp q.1)∧P (gp q.2)
  | [], g, q, h1, h2, h => by
    unfold noneG at h;injection h with h;subst h;exact⟨h1,h2⟩
  | x :: xs, g, q, h1, h2, h => by
    unfold noneG at h
    split at h
    · cases h
    · split at h
      · exact noneG_all hm xs (some (mkP x.key o),g.2) q (hm x.key) h2 h
      · split at h
        · exact noneG_all hm xs (g.1,some (mkP x.key o)) q h1 (hm x.key) h
        · exact noneG_all hm xs g q h1 h2 h
theorem gapL_all {P:Proof→Prop} {k:List UInt8} {o:Option Tr} (h0:P ⟨[],[],[]⟩) (hm:∀ x,P (mkP x o)):P (gp (gapL k o).1)∧P (gp (gapL k o).2):=by
  unfold gapL
  cases e:noneR k o with
  | none=>exact⟨h0,h0⟩
  | some q=>exact noneG_all hm _ (none,none) q h0 h0 e
theorem smP_m {m:Nat} (hm:m≤64) (acts:List Act) (k:List UInt8):smP (mkP k (growT acts m).1):=by
  refine⟨?_,?_,turns_le k hm⟩ <;> cases e:(growT acts m).1 with
  | none=>exact Nat.zero_le _
  | some t =>
    have h:=(growT_okN acts m) t e
    simp only[mkP];split
    · first | exact Nat.le_trans (Tr.fin_le h.1) (by decide) | exact Nat.le_trans (Tr.fin_lv h.1) (by decide)
    · exact Nat.zero_le _
theorem gap_sm (acts:List Act) (k:List UInt8):smP (gp (gapL k (growT acts 30).1).1)∧smP (gp (gapL k (growT acts 30).1).2):=gapL_all smP_nil fun x=>smP_m (by decide) acts x
/-- A gap of small proofs. -/
def smG (g:GapR):Prop:=smP (gp g.left)∧smP (gp g.right)
abbrev dG:GapR:=⟨none,none⟩
theorem smG_at {p q:GapR} {i:Nat} (hi:(i:Int)<(2:Nat)) (h1:smG p) (h2:smG q):smG ([p,q].getD (i:Int).toNat dG):=by
  have:i=0∨i=1:=by omega
  rcases this with rfl | rfl
  · exact h1
  · exact h2
theorem smG_e {g:GapR} (h:smG g):((gp g.left).key.length≤100000∧(gp g.left).value.length≤100000)∧((gp g.right).key.length≤100000∧(gp g.right).value.length≤100000)∧(gp g.left).turns.length≤1000000∧(gp g.right).turns.length≤1000000∧(egB g.left g.right).length≤40000:=by
  obtain⟨⟨a1,a2,a3⟩,b1,b2,b3⟩:=h
  refine⟨⟨by omega,by omega⟩,⟨by omega,by omega⟩,by omega,by omega,?_⟩
  have h1:∀(x:List UInt8) (t:UInt8) (o:Option Proof),smP (gp o)→(gB x t o).length≤x.length+11003:=by
    intro x t o ⟨c1,c2,_⟩
    unfold gB;split
    · omega
    · have:=putF_len x t (encB (gp o));have:=encB_len (gp o);omega
  unfold egB
  split
  · simp
  · split
    · simp
    · have e1 := h1 [] 1 g.left ⟨a1, a2, a3⟩
      have e2:=h1 (gB [] 1 g.left) 2 g.right ⟨b1,b2,b3⟩
      rw[List.length_nil] at e1;omega
def ys (k:Nat × List (List UInt8)):Prop:=k.1≤2∧k.2.length≤1+2*k.1∧∀ z∈k.2,z.length≤40000
theorem ys.start {b:List UInt8} (h:b.length≤3000):ys (0,[b]):=⟨by omega,by simp,fun z hz=>by rw[List.mem_singleton.1 hz];omega⟩
theorem ys.next {k:Nat × List (List UInt8)} (h:ys k) (hi:(k.1:Int)<(2:Nat)) {g:GapR} {v:List UInt8} (hp:smG g) (hv:v.length≤(egB g.left g.right).length):ys (k.1+1,k.2++[egB g.left g.right,v])∧2 - (k.1+1)<2 - k.1:=by
  have hc:=(smG_e hp).2.2.2.2
  refine⟨⟨?_,?_,fun z hz=>?_⟩,by omega⟩
  · show k.1+1≤2;omega
  · show (k.2 ++ [egB g.left g.right, v]).length ≤ 1 + 2 * (k.1 + 1)
    have:=h.2.1;simp only[List.length_append,List.length_cons,List.length_nil];omega
  · rcases List.mem_append.1 hz with hz | hz
    · exact h.2.2 z hz
    · simp only [List.mem_cons, List.not_mem_nil, or_false] at hz
      rcases hz with rfl | rfl <;> omega
theorem ys.at {l:List (List UInt8)} {n i:Nat} (h:ys (n,l)) (hi:(i:Int)<l.length):(l.getD (i:Int).toNat []).length≤200000:=by
  rw[Int.toNat_natCast,List.getD_eq_getElem?_getD,List.getElem?_eq_getElem (by omega)]
  have:=h.2.2 _ (List.getElem_mem (l:=l) (n:=i) (by omega))
  show(l[i]).length≤_;omega
theorem val_sum:∀ {l:List Field} {f:Field},f∈l→f.value.length≤vSum l
  | x :: l, f, h => by
    have e:vSum (x::l)=x.value.length+vSum l:=by simp[vSum]
    rcases List.mem_cons.1 h with rfl | h
    · omega
    · have:=val_sum h;omega
theorem ggTo_t (l:List Field) (hl:vSum l≤200000):∀ k,(gp (ggTo l k).1).turns.length≤1000000∧(gp (ggTo l k).2).turns.length≤1000000
  | 0=>⟨Nat.zero_le _,Nat.zero_le _⟩
  | k + 1 => by
    have ih:=ggTo_t l hl k
    rcases Nat.lt_or_ge k l.length with c | c
    · rw [ggTo_succ (by omega)]
      have hv:(decP (l.getD (k:Int).toNat kF).value).turns.length≤1000000:=by
        refine decP_t ?_
        rw[Int.toNat_natCast,List.getD_eq_getElem?_getD,List.getElem?_eq_getElem c]
        have:=val_sum (List.getElem_mem c)
        show(l[k]).value.length≤_;omega
      unfold ggSet
      split
      · exact⟨hv,ih.2⟩
      · exact⟨ih.1,hv⟩
    · have e : ggTo l (k + 1) = ggTo l k := by unfold ggTo; rw [List.take_of_length_le (by omega), List.take_of_length_le c]
      rw[e];exact ih
theorem degG_t {b:List UInt8} (h:b.length≤200000):(gp (degG b).1).turns.length≤1000000∧(gp (degG b).2).turns.length≤1000000:=by
  unfold degG
  split
  · exact⟨Nat.zero_le _,Nat.zero_le _⟩
  · split
    · exact⟨Nat.zero_le _,Nat.zero_le _⟩
    · exact ggTo_t _ (by have:=parse_sum b;omega) _
def G2 (l r:Option Proof) (i:Nat):Prop:=i≤2∧(1≤i→smP (gp l))∧(2≤i→smP (gp r))
section
variable {l r:Option Proof} {i:Nat}
theorem G2.start:G2 l r 0:=⟨by omega,by omega,by omega⟩
theorem G2.next (h:G2 l r i) (hi:(i:Int)<(2:Nat)) (hs:smP (gp ([l,r].getD (i:Int).toNat none))):G2 l r (i+1)∧2 - (i+1)<2 - i:=by
  refine⟨?_,by omega⟩
  have:i=0∨i=1:=by omega
  rcases this with rfl | rfl
  · exact⟨by omega,fun _=>hs,by omega⟩
  · exact⟨by omega,fun _=>h.2.1 (by omega),fun _=>hs⟩
theorem G2.next1 (h:G2 l r i) (hi:(i:Int)<(2:Nat)) (h1:¬ (100:Int)<((gp ([l,r].getD (i:Int).toNat none)).turns.length:Int)) (h2:¬ (1000:Int)<((gp ([l,r].getD (i:Int).toNat none)).key.length:Int)+((gp ([l,r].getD (i:Int).toNat none)).value.length:Int)):G2 l r (i+1)∧2 - (i+1)<2 - i:=h.next hi ⟨by omega,by omega,by omega⟩
theorem G2.next2 (h:G2 l r i) (hi:(i:Int)<(2:Nat)) (hs:([l,r].getD (i:Int).toNat none).isNone=true):G2 l r (i+1)∧2 - (i+1)<2 - i:=h.next hi (by
  cases e:[l,r].getD (i:Int).toNat none with
  | none=>exact smP_nil
  | some x=>rw[e] at hs;simp at hs)
theorem G2.sm (h:G2 l r i) (hi:¬ (i:Int)<(2:Nat)):smG ⟨l,r⟩:=⟨h.2.1 (by omega),h.2.2 (by omega)⟩
end
theorem sg {p q:GapR} {i:Nat} (hi:(i:Int)<(2:Nat)) (h1:smG p) (h2:smG q):((gp ([p,q].getD (i:Int).toNat dG).left).key.length≤100000∧(gp ([p,q].getD (i:Int).toNat dG).left).value.length≤100000)∧((gp ([p,q].getD (i:Int).toNat dG).right).key.length≤100000∧(gp ([p,q].getD (i:Int).toNat dG).right).value.length≤100000)∧(gp ([p,q].getD (i:Int).toNat dG).left).turns.length≤1000000∧(gp ([p,q].getD (i:Int).toNat dG).right).turns.length≤1000000∧(egB ([p,q].getD (i:Int).toNat dG).left ([p,q].getD (i:Int).toNat dG).right).length≤200000:=by
  have h:=smG_e (smG_at hi h1 h2)
  exact⟨h.1,h.2.1,h.2.2.1,h.2.2.2.1,Nat.le_trans h.2.2.2.2 (by decide)⟩
noncomputable def ccV4_9:Code:=(Tryd.f9.body).getD .skip
theorem ProofGapCodes_ok (l r:Option Proof) (b:List UInt8) (acts:List Act) (key:List UInt8) (at_:List Int) (bits:List UInt8) (h1:b.length≤140737488355328) (h2:key.length≤140737488355328) (h3:(gp l).key.length≤140737488355328∧(gp l).value.length≤140737488355328) (h4:(gp r).key.length≤140737488355328∧(gp r).value.length≤140737488355328):FOk EN 9 ⟨[.pr wordsP,.pr etP,.pt 26 l,.pt 26 r,.rd 5 (b),.rd 133 acts,.rd 5 (key),.rd 3 at_,.rd 5 (bits)],[.a [.n 2,.n 3],.n 4,.n 5,.n 6,.n 7,.n 8],Unit,fun _=>([.pr wordsP,.pr etP,.pt 26 l,.pt 26 r,.rd 5 (b),.rd 133 acts,.rd 5 (key),.rd 3 at_,.rd 5 (bits)],.b true),fun _=>True⟩:=by
 refine v_fun Tryd.f9 ccV4_9 MX (fun ν F σ w=>?_) Tryd.func9
 refine v_nl ?_
 refine v_call _ [0,1] (Awake9_ok) ((wordsP=wordsP)∧(etP=etP)) ⟨rfl,rfl⟩ (fun g1 p2=>?_)
 have p2:True:=p2
 refine v_if (!true) True trivial (fun h3=>?_) (fun h3=>?_)
 ·have h3:=(nt h3)
  contradiction
 ·have h3:=(nf h3)
  refine v_if (decide (3000<(↑b.length:Int)+(↑key.length:Int))) ((I64 (↑b.length + ↑key.length))) (by(unfold I64;omega)) (fun h4=>?_) (fun h4=>?_)
  ·have h4:=of_decide_eq_true h4
   exact v_ret () [] ((true=true)∧(wordsP=wordsP)∧(etP=etP)∧(l=l)∧(r=r)∧(b=b)∧(acts=acts)∧(key=key)∧(at_=at_)∧(bits=bits)) ⟨rfl,rfl,rfl,rfl,rfl,rfl,rfl,rfl,rfl,rfl⟩ trivial
  ·have h4:=of_decide_eq_false h4
   refine v_loop (fun q:Nat=>([(46,.i q),(44,.n 12)],[.ow 29 [l,r]])) (fun q=>G2 l r q) (fun q=>2 - q) 0 [11] (((0:Int)=(↑(0:Nat):Int))∧([l,r]=[l,r])) ⟨rfl,rfl⟩ (by exact G2.start) (fun q hk5=>?_)
   have i1:=(‹G2 l r q›).1
   refine v_if (decide ((↑q:Int)<(↑(2:Nat):Int))) True trivial (fun h6=>?_) (fun h6=>?_)
   ·have h6:=of_decide_eq_true h6
    rcases Bool.eq_false_or_eq_true (([l,r].getD (↑q:Int).toNat none).isNone) with h7 | h7
    ·skip
     refine v_plan (.fs [0,1,2,3,4,5,6,7,8,9,10,11,12,13,14,15,16,17,18,19,20,21,22,23] .e) [10,12] (((0:Int)≤(↑q:Int)∧(↑q:Int)<(↑(2:Nat):Int))) (by omega) ?_
     refine v_guard 52 (!([l,r].getD (↑q:Int).toNat none).isNone) True trivial (fun h8=>?_) (fun h8=>?_)
     ·have h8:=(nt h8)
      exfalso;(simp_all;done)
     ·have h8:=(nf h8)
      exact v_back (q+1) [12] ((I64 (↑q+1))∧((↑q:Int)+1=(↑(q+1):Int))∧([l,r]=[l,r])) ⟨(by(unfold I64;omega)),rfl,rfl⟩ (show G2 l r (q+1)∧2 - (q+1)<2 - q from(by exact G2.next2 ‹_› ‹_› ‹_›))
    ·skip
     refine v_open 13 (open_pf ([l,r].getD (↑q:Int).toNat none) ‹_›) (((0:Int)≤(↑q:Int)∧(↑q:Int)<(↑(2:Nat):Int))∧(PPt GT 26 ([l,r].getD (↑q:Int).toNat none)=PPt GT 26 ([l,r].getD (↑q:Int).toNat none))) ⟨(by omega),rfl⟩ ?_
     refine v_plan (.fs [0,1,2,3,4,5,6,7,8,9,10,11,12,13,14,15,16,17,18,19,20,21,22,23] .e) [10,12] True trivial ?_
     refine v_guard 59 (decide (100<(↑(gp ([l,r].getD (↑q:Int).toNat none)).turns.length:Int))) True trivial (fun h9=>?_) (fun h9=>?_)
     ·have h9:=of_decide_eq_true h9
      refine v_leave .rt True trivial ?_
      exact v_ret () [] ((true=true)∧(wordsP=wordsP)∧(etP=etP)∧(l=l)∧(r=r)∧(b=b)∧(acts=acts)∧(key=key)∧(at_=at_)∧(bits=bits)) ⟨rfl,rfl,rfl,rfl,rfl,rfl,rfl,rfl,rfl,rfl⟩ trivial
     ·have h9:=of_decide_eq_false h9
      refine v_if (decide (1000<(↑(gp ([l,r].getD (↑q:Int).toNat none)).key.length:Int)+(↑(gp ([l,r].getD (↑q:Int).toNat none)).value.length:Int))) ((I64 ((↑(gp ([l,r].getD (↑q:Int).toNat none)).key.length:Int)+(↑(gp ([l,r].getD (↑q:Int).toNat none)).value.length:Int)))) (by(have hz:=GS.ln (l:=l) (r:=r) (q:=q) (c:=140737488355328) ‹_› ‹_› ‹_›;unfold I64;omega)) (fun h10=>?_) (fun h10=>?_)
      ·have h10:=of_decide_eq_true h10
       refine v_leave .rt True trivial ?_
       exact v_ret () [] ((true=true)∧(wordsP=wordsP)∧(etP=etP)∧(l=l)∧(r=r)∧(b=b)∧(acts=acts)∧(key=key)∧(at_=at_)∧(bits=bits)) ⟨rfl,rfl,rfl,rfl,rfl,rfl,rfl,rfl,rfl,rfl⟩ trivial
      ·have h10:=of_decide_eq_false h10
       exact v_back (q+1) [12] ((I64 (↑q+1))∧((↑q:Int)+1=(↑(q+1):Int))∧([l,r]=[l,r])) ⟨(by(unfold I64;omega)),rfl,rfl⟩ (show G2 l r (q+1)∧2 - (q+1)<2 - q from(by exact G2.next1 ‹_› ‹_› ‹_› ‹_›))
   ·have h6:=of_decide_eq_false h6
    refine v_leave (.ex 0) True trivial ?_
    refine v_call _ [0,5] (Grow_ok (acts) (nat_lit 30) (by decide)) (((30:Int)=(↑(nat_lit 30):Int))∧(wordsP=wordsP)∧(acts=acts)) ⟨rfl,rfl,rfl⟩ (fun g11 p12=>?_)
    have p12:True:=p12
    refine v_call _ [6,13] (None_ok ((growT acts 30).fst) (key) (by exact(growT_fine acts 30 (by decide)).O) (by(rw[← grow_lv];exact Nat.le_trans (growT_le acts) (by decide)))) ((key=key)∧(PTO (growT acts 30).fst=PTO (growT acts 30).fst)∧(false=false)) ⟨rfl,rfl,rfl⟩ (fun g13 p14=>?_)
    have p14:True:=p14
    refine v_loop (fun y:Nat × List (List UInt8)=>([(92,.i (y.1:Int)),(19,.n 20)],[.ow 22 y.2])) (fun y=>ys y) (fun y=>2 - y.1) (0,[b]) [18] (((0:Int)=(↑(0:Nat):Int))∧([b]=[b])) ⟨rfl,rfl⟩ (by exact ys.start (by omega)) (fun y hk15=>?_)
    refine v_if (decide ((↑y.fst:Int)<(↑(2:Nat):Int))) True trivial (fun h16=>?_) (fun h16=>?_)
    ·have h16:=of_decide_eq_true h16
     refine v_call _ [21,22] (EncodeGap_ok (([GapR.mk l r,GapR.mk (gapL key (growT acts 30).fst).fst (gapL key (growT acts 30).fst).snd].getD (↑y.fst:Int).toNat (GapR.mk none none)).left) (([GapR.mk l r,GapR.mk (gapL key (growT acts 30).fst).fst (gapL key (growT acts 30).fst).snd].getD (↑y.fst:Int).toNat (GapR.mk none none)).right) (by exact(sg ‹_› (G2.sm ‹_› ‹_›) ⟨(gap_sm _ _).1,(gap_sm _ _).2⟩).1) (by exact(sg ‹_› (G2.sm ‹_› ‹_›) ⟨(gap_sm _ _).1,(gap_sm _ _).2⟩).2.1) (by exact(sg ‹_› (G2.sm ‹_› ‹_›) ⟨(gap_sm _ _).1,(gap_sm _ _).2⟩).2.2.1) (by exact(sg ‹_› (G2.sm ‹_› ‹_›) ⟨(gap_sm _ _).1,(gap_sm _ _).2⟩).2.2.2.1)) (((0:Int)≤(↑y.fst:Int)∧(↑y.fst:Int)<(↑(2:Nat):Int))∧(([GapR.mk l r,GapR.mk (gapL key (growT acts 30).fst).fst (gapL key (growT acts 30).fst).snd].getD (↑y.fst:Int).toNat (GapR.mk none none)).left=([GapR.mk l r,GapR.mk (gapL key (growT acts 30).fst).fst (gapL key (growT acts 30).fst).snd].getD (↑y.fst:Int).toNat (GapR.mk none none)).left)∧(([GapR.mk l r,GapR.mk (gapL key (growT acts 30).fst).fst (gapL key (growT acts 30).fst).snd].getD (↑y.fst:Int).toNat (GapR.mk none none)).right=([GapR.mk l r,GapR.mk (gapL key (growT acts 30).fst).fst (gapL key (growT acts 30).fst).snd].getD (↑y.fst:Int).toNat (GapR.mk none none)).right)) ⟨(by omega),rfl,rfl⟩ (fun g17 p18=>?_)
     have p18:True:=p18
     refine v_call _ [21,22] (rEncodeGap_ok (([GapR.mk l r,GapR.mk (gapL key (growT acts 30).fst).fst (gapL key (growT acts 30).fst).snd].getD (↑y.fst:Int).toNat (GapR.mk none none)).left) (([GapR.mk l r,GapR.mk (gapL key (growT acts 30).fst).fst (gapL key (growT acts 30).fst).snd].getD (↑y.fst:Int).toNat (GapR.mk none none)).right) (by exact(sg ‹_› (G2.sm ‹_› ‹_›) ⟨(gap_sm _ _).1,(gap_sm _ _).2⟩).1) (by exact(sg ‹_› (G2.sm ‹_› ‹_›) ⟨(gap_sm _ _).1,(gap_sm _ _).2⟩).2.1) (by exact(sg ‹_› (G2.sm ‹_› ‹_›) ⟨(gap_sm _ _).1,(gap_sm _ _).2⟩).2.2.1) (by exact(sg ‹_› (G2.sm ‹_› ‹_›) ⟨(gap_sm _ _).1,(gap_sm _ _).2⟩).2.2.2.1)) ((([GapR.mk l r,GapR.mk (gapL key (growT acts 30).fst).fst (gapL key (growT acts 30).fst).snd].getD (↑y.fst:Int).toNat (GapR.mk none none)).left=([GapR.mk l r,GapR.mk (gapL key (growT acts 30).fst).fst (gapL key (growT acts 30).fst).snd].getD (↑y.fst:Int).toNat (GapR.mk none none)).left)∧(([GapR.mk l r,GapR.mk (gapL key (growT acts 30).fst).fst (gapL key (growT acts 30).fst).snd].getD (↑y.fst:Int).toNat (GapR.mk none none)).right=([GapR.mk l r,GapR.mk (gapL key (growT acts 30).fst).fst (gapL key (growT acts 30).fst).snd].getD (↑y.fst:Int).toNat (GapR.mk none none)).right)) ⟨rfl,rfl⟩ (fun g19 p20=>?_)
     have p20:True:=p20
     refine v_guard 109 (decide (egE ([GapR.mk l r,GapR.mk (gapL key (growT acts 30).fst).fst (gapL key (growT acts 30).fst).snd].getD (↑y.fst:Int).toNat (GapR.mk none none)).left ([GapR.mk l r,GapR.mk (gapL key (growT acts 30).fst).fst (gapL key (growT acts 30).fst).snd].getD (↑y.fst:Int).toNat (GapR.mk none none)).right≠egE ([GapR.mk l r,GapR.mk (gapL key (growT acts 30).fst).fst (gapL key (growT acts 30).fst).snd].getD (↑y.fst:Int).toNat (GapR.mk none none)).left ([GapR.mk l r,GapR.mk (gapL key (growT acts 30).fst).fst (gapL key (growT acts 30).fst).snd].getD (↑y.fst:Int).toNat (GapR.mk none none)).right)) True trivial (fun h21=>?_) (fun h21=>?_)
     ·have h21:=of_decide_eq_true h21
      omega
     ·have h21:=of_decide_eq_false h21
      refine v_if (decide (egB ([GapR.mk l r,GapR.mk (gapL key (growT acts 30).fst).fst (gapL key (growT acts 30).fst).snd].getD (↑y.fst:Int).toNat (GapR.mk none none)).left ([GapR.mk l r,GapR.mk (gapL key (growT acts 30).fst).fst (gapL key (growT acts 30).fst).snd].getD (↑y.fst:Int).toNat (GapR.mk none none)).right≠egB ([GapR.mk l r,GapR.mk (gapL key (growT acts 30).fst).fst (gapL key (growT acts 30).fst).snd].getD (↑y.fst:Int).toNat (GapR.mk none none)).left ([GapR.mk l r,GapR.mk (gapL key (growT acts 30).fst).fst (gapL key (growT acts 30).fst).snd].getD (↑y.fst:Int).toNat (GapR.mk none none)).right)) True trivial (fun h22=>?_) (fun h22=>?_)
      ·have h22:=of_decide_eq_true h22
       contradiction
      ·have h22:=of_decide_eq_false h22
       refine v_call _ [25,7,8] (Turned_ok (egB ([GapR.mk l r,GapR.mk (gapL key (growT acts 30).fst).fst (gapL key (growT acts 30).fst).snd].getD (↑y.fst:Int).toNat (GapR.mk none none)).left ([GapR.mk l r,GapR.mk (gapL key (growT acts 30).fst).fst (gapL key (growT acts 30).fst).snd].getD (↑y.fst:Int).toNat (GapR.mk none none)).right) (at_) (bits) (by exact(sg ‹_› (G2.sm ‹_› ‹_›) ⟨(gap_sm _ _).1,(gap_sm _ _).2⟩).2.2.2.2)) ((egB ([GapR.mk l r,GapR.mk (gapL key (growT acts 30).fst).fst (gapL key (growT acts 30).fst).snd].getD (↑y.fst:Int).toNat (GapR.mk none none)).left ([GapR.mk l r,GapR.mk (gapL key (growT acts 30).fst).fst (gapL key (growT acts 30).fst).snd].getD (↑y.fst:Int).toNat (GapR.mk none none)).right=egB ([GapR.mk l r,GapR.mk (gapL key (growT acts 30).fst).fst (gapL key (growT acts 30).fst).snd].getD (↑y.fst:Int).toNat (GapR.mk none none)).left ([GapR.mk l r,GapR.mk (gapL key (growT acts 30).fst).fst (gapL key (growT acts 30).fst).snd].getD (↑y.fst:Int).toNat (GapR.mk none none)).right)∧(at_=at_)∧(bits=bits)) ⟨rfl,rfl,rfl⟩ (fun g23 p24=>?_)
       have p24:g23.length≤(egB ([GapR.mk l r,GapR.mk (gapL key (growT acts 30).fst).fst (gapL key (growT acts 30).fst).snd].getD (↑y.fst:Int).toNat (GapR.mk none none)).left ([GapR.mk l r,GapR.mk (gapL key (growT acts 30).fst).fst (gapL key (growT acts 30).fst).snd].getD (↑y.fst:Int).toNat (GapR.mk none none)).right).length:=p24
       exact v_back ((y.fst+(1:Nat),y.snd++[egB ([GapR.mk l r,GapR.mk (gapL key (growT acts 30).fst).fst (gapL key (growT acts 30).fst).snd].getD (↑y.fst:Int).toNat (GapR.mk none none)).left ([GapR.mk l r,GapR.mk (gapL key (growT acts 30).fst).fst (gapL key (growT acts 30).fst).snd].getD (↑y.fst:Int).toNat (GapR.mk none none)).right,g23])) [29] ((y.snd.length+2≤1000000)∧(I64 (↑y.fst+1))∧((↑y.fst:Int)+1=(↑(y.fst+1):Int))∧(y.snd++[egB ([GapR.mk l r,GapR.mk (gapL key (growT acts 30).fst).fst (gapL key (growT acts 30).fst).snd].getD (↑y.fst:Int).toNat (GapR.mk none none)).left ([GapR.mk l r,GapR.mk (gapL key (growT acts 30).fst).fst (gapL key (growT acts 30).fst).snd].getD (↑y.fst:Int).toNat (GapR.mk none none)).right,g23]=y.snd++[egB ([GapR.mk l r,GapR.mk (gapL key (growT acts 30).fst).fst (gapL key (growT acts 30).fst).snd].getD (↑y.fst:Int).toNat (GapR.mk none none)).left ([GapR.mk l r,GapR.mk (gapL key (growT acts 30).fst).fst (gapL key (growT acts 30).fst).snd].getD (↑y.fst:Int).toNat (GapR.mk none none)).right,g23])) ⟨(by(have hz:=(‹ys y›).2.1;have hy:=(‹ys y›).1;omega)),(by(unfold I64;omega)),rfl,rfl⟩ (show ys (y.fst+(1:Nat),y.snd++[egB ([GapR.mk l r,GapR.mk (gapL key (growT acts 30).fst).fst (gapL key (growT acts 30).fst).snd].getD (↑y.fst:Int).toNat (GapR.mk none none)).left ([GapR.mk l r,GapR.mk (gapL key (growT acts 30).fst).fst (gapL key (growT acts 30).fst).snd].getD (↑y.fst:Int).toNat (GapR.mk none none)).right,g23])∧(2:Nat) - (y.fst+(1:Nat))<(2:Nat) - y.fst from(by exact ys.next ‹_› ‹_› (smG_at ‹_› (G2.sm ‹_› ‹_›) ⟨(gap_sm _ _).1,(gap_sm _ _).2⟩) ‹_›))
    ·have h16:=of_decide_eq_false h16
     refine v_leave (.ex 2) True trivial ?_
     refine v_loop (fun j:Nat=>([(127,.i j)],[])) (fun j=>j≤y.2.length) (fun j=>y.2.length - j) 0 [] (((0:Int)=(↑(0:Nat):Int))) rfl (by omega) (fun j hk25=>?_)
     refine v_if (decide ((↑j:Int)<(↑y.snd.length:Int))) True trivial (fun h26=>?_) (fun h26=>?_)
     ·have h26:=of_decide_eq_true h26
      refine v_call _ [21] (DecodeGap_ok (y.snd.getD (↑j:Int).toNat []) (by exact ys.at (n:=y.1) ‹_› ‹_›)) ((0≤(↑j:Int)∧(↑j:Int)<(↑y.snd.length:Int))∧(y.snd.getD (↑j:Int).toNat []=y.snd.getD (↑j:Int).toNat [])) ⟨(by omega),rfl⟩ (fun g27 p28=>?_)
      have p28:True:=p28
      refine v_call _ [21] (rDecodeGap_ok (y.snd.getD (↑j:Int).toNat []) (by exact ys.at (n:=y.1) ‹_› ‹_›)) ((y.snd.getD (↑j:Int).toNat []=y.snd.getD (↑j:Int).toNat [])) rfl (fun g29 p30=>?_)
      have p30:True:=p30
      refine v_guard 144 (decide (degE (y.snd.getD (↑j:Int).toNat [])≠degE (y.snd.getD (↑j:Int).toNat []))) True trivial (fun h31=>?_) (fun h31=>?_)
      ·have h31:=of_decide_eq_true h31
       omega
      ·have h31:=of_decide_eq_false h31
       refine v_call _ [23,24,26,27] (SameGap_ok ((degG (y.snd.getD (↑j:Int).toNat [])).fst) ((degG (y.snd.getD (↑j:Int).toNat [])).snd) ((degG (y.snd.getD (↑j:Int).toNat [])).fst) ((degG (y.snd.getD (↑j:Int).toNat [])).snd) (by exact(degG_t (ys.at (n:=y.1) ‹_› ‹_›)).1) (by exact(degG_t (ys.at (n:=y.1) ‹_› ‹_›)).2) (by exact(degG_t (ys.at (n:=y.1) ‹_› ‹_›)).1) (by exact(degG_t (ys.at (n:=y.1) ‹_› ‹_›)).2)) (((degG (y.snd.getD (↑j:Int).toNat [])).fst=(degG (y.snd.getD (↑j:Int).toNat [])).fst)∧((degG (y.snd.getD (↑j:Int).toNat [])).snd=(degG (y.snd.getD (↑j:Int).toNat [])).snd)∧((degG (y.snd.getD (↑j:Int).toNat [])).fst=(degG (y.snd.getD (↑j:Int).toNat [])).fst)∧((degG (y.snd.getD (↑j:Int).toNat [])).snd=(degG (y.snd.getD (↑j:Int).toNat [])).snd)) ⟨rfl,rfl,rfl,rfl⟩ (fun g32 p33=>?_)
       have p33:True:=p33
       refine v_if (!(decide ((degG (y.snd.getD (↑j:Int).toNat [])).fst=(degG (y.snd.getD (↑j:Int).toNat [])).fst) && decide ((degG (y.snd.getD (↑j:Int).toNat [])).snd=(degG (y.snd.getD (↑j:Int).toNat [])).snd))) True trivial (fun h34=>?_) (fun h34=>?_)
       ·have h34:=(nt h34)
        exfalso;(simp_all;done)
       ·have h34:=(nf h34)
        exact v_back (j+1) [] ((I64 (↑j+1))∧((↑j:Int)+1=(↑(j+1):Int))) ⟨(by(have hz:=(‹ys y›).2.1;have hy:=(‹ys y›).1;unfold I64;omega)),rfl⟩ (show j+1≤y.snd.length∧y.snd.length - (j+1)<y.snd.length - j from(by omega))
     ·have h26:=of_decide_eq_false h26
      refine v_leave (.ex 4) True trivial ?_
      exact v_ret () [] ((true=true)∧(wordsP=wordsP)∧(etP=etP)∧(l=l)∧(r=r)∧(b=b)∧(acts=acts)∧(key=key)∧(at_=at_)∧(bits=bits)) ⟨rfl,rfl,rfl,rfl,rfl,rfl,rfl,rfl,rfl,rfl⟩ trivial
end Go.Proofs.YtnicmjipbnhciaaDoor.X
set_option linter.unusedVariables false
set_option maxRecDepth 100000
namespace Go.Proofs.YtnicmjipbnhciaaDoor.X
open Go Go.RowKit Go.Proofs.YtnicmjipbnhciaaDoor.E
theorem opAct:E.Opens Tryd.prog 133 tAct:=opens_by 56 (opens_iso (fun p=>⟨p.1,p.2.1,p.2.2.1,p.2.2.2⟩) (fun _=>rfl) (opens_rec Tryd.underlying133 (opF_cons (n:=1) 0 rfl rfl (opens_u8 Tryd.underlying5) (by kernel_rfl) (opF_cons (n:=1) 1 rfl rfl (opens_u8 Tryd.underlying5) (by kernel_rfl) (opF_cons (n:=1) 2 rfl rfl (opens_slice (T:=tU8) Tryd.underlying22 (by kernel_rfl) (by kernel_rfl) (by decide) (opens_u8 Tryd.underlying5)) (by kernel_rfl) (opF_last (n:=1) 3 rfl rfl (opens_slice (T:=tU8) Tryd.underlying22 (by kernel_rfl) (by kernel_rfl) (by decide) (opens_u8 Tryd.underlying5)) (by kernel_rfl) (by kernel_rfl)))))))
theorem opTurn:E.Opens Tryd.prog 121 tTurn:=opens_by 56 (opens_iso (fun p=>⟨p.1,p.2.1,p.2.2.1,p.2.2.2⟩) (fun _=>rfl) (opens_rec Tryd.underlying121 (opF_cons (n:=1) 0 rfl rfl (opens_i64 Tryd.underlying3) (by kernel_rfl) (opF_cons (n:=1) 1 rfl rfl (opens_u64 Tryd.underlying98) (by kernel_rfl) (opF_cons (n:=1) 2 rfl rfl (opens_bool Tryd.underlying4) (by kernel_rfl) (opF_last (n:=32) 3 rfl rfl (opens_hash (e:=5) Tryd.underlying52 Tryd.underlying5 (by kernel_rfl) (by kernel_rfl)) (by kernel_rfl) (by kernel_rfl)))))))
theorem opProof:E.Opens Tryd.prog 26 tProof:=opens_by 72 (opens_iso (fun p=>⟨p.1,p.2.1,p.2.2⟩) (fun _=>rfl) (opens_rec Tryd.underlying26 (opF_cons (n:=1) 0 rfl rfl (opens_slice (T:=tU8) Tryd.underlying22 (by kernel_rfl) (by kernel_rfl) (by decide) (opens_u8 Tryd.underlying5)) (by kernel_rfl) (opF_cons (n:=1) 1 rfl rfl (opens_slice (T:=tU8) Tryd.underlying22 (by kernel_rfl) (by kernel_rfl) (by decide) (opens_u8 Tryd.underlying5)) (by kernel_rfl) (opF_last (n:=1) 2 rfl rfl (opens_slice (T:=tTurn) Tryd.underlying24 (by kernel_rfl) (by kernel_rfl) (by decide) opTurn) (by kernel_rfl) (by kernel_rfl))))))
abbrev tGap:Ty (Option Proof × Option Proof):=tProd (tPtr tProof) (tPtr tProof)
theorem opGap:E.Opens Tryd.prog 31 tGap:=opens_rec Tryd.underlying31 (opF_cons (n:=1) 0 rfl rfl (opens_ptr (T:=tProof) Tryd.underlying29 (by kernel_rfl) (by decide) opProof) (by kernel_rfl) (opF_last (n:=1) 1 rfl rfl (opens_ptr (T:=tProof) Tryd.underlying29 (by kernel_rfl) (by decide) opProof) (by kernel_rfl) (by kernel_rfl)))
theorem gap_rep {σ:Nat→Nat} {w:World} {x:Option Proof × Option Proof} {cs:Array Value} (h:tGap.rep σ w x (Value.agg cs).cells.toList):∃ a b,cs=#[a,b]∧Pt tProof σ w a x.1∧Pt tProof σ w b x.2:=by
  obtain⟨c1,c2,e,⟨a,rfl,ha⟩,b,rfl,hb⟩:=h
  refine⟨a,b,?_,ha,hb⟩
  apply Array.ext'
  exact e
end Go.Proofs.YtnicmjipbnhciaaDoor.X
