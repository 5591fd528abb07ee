/- What the law MultiCodes needs: the engine, the walks of what it reaches, plain laws; part 5. -/
import Derived.Test.YtgpaifnijnaebaaDoorMultiCodesM4
set_option linter.unnecessarySimpa false
set_option linter.deprecated false
set_option linter.unusedVariables false
set_option linter.unusedSimpArgs false
set_option maxRecDepth 100000
namespace Go.Proofs.YtgpaifnijnaebaaDoor.X
open Go Go.RowKit Go.Proofs Go.Proofs.YtgpaifnijnaebaaDoor.E
abbrev kT0:Token:=⟨0,zero32,[],[],0,0⟩
structure WR where
  h:List UInt8
  e:Option Er
  a:Nat
  fs:List Item
def tokE (n:Nat) (c:Int):Option Er:=some (.step ((#[116,111,107,101,110]:Array UInt8).toList) n (.num c))
def wkN (ts:List Token):Nat→Int→Nat→List Item→WR
  | 0,_,a,fs=>⟨z32,tokE a 4,a,fs⟩
  | f + 1, ab, a, fs =>
    if(ts.length:Int)≤a then⟨z32,tokE a 4,a,fs⟩
    else if(ts.getD a kT0).kind=1 then⟨(ts.getD a kT0).hash.l,none,a+1,fs++[⟨true,[],[]⟩]⟩
    else if(ts.getD a kT0).kind=2 then
      if((ts.getD a kT0).key.length:Int)=0∨96<((ts.getD a kT0).key.length:Int)∨256<((ts.getD a kT0).value.length:Int) then⟨z32,tokE a 10,a+1,fs⟩
      else⟨nsum 0 1 (ts.getD a kT0).key (ts.getD a kT0).value z32 z32,none,a+1,fs++[⟨false,(ts.getD a kT0).key,(ts.getD a kT0).value⟩]⟩
    else if(ts.getD a kT0).kind=3 then
      if(ts.getD a kT0).height<1∨ab≤(ts.getD a kT0).height then⟨z32,tokE a 12,a+1,fs⟩
      else if(wkN ts f (ts.getD a kT0).height (a+1) fs).e.isNone=false then wkN ts f (ts.getD a kT0).height (a+1) fs
      else if(wkN ts f (ts.getD a kT0).height (wkN ts f (ts.getD a kT0).height (a+1) fs).a (wkN ts f (ts.getD a kT0).height (a+1) fs).fs).e.isNone=false then wkN ts f (ts.getD a kT0).height (wkN ts f (ts.getD a kT0).height (a+1) fs).a (wkN ts f (ts.getD a kT0).height (a+1) fs).fs
      else⟨nsum (ts.getD a kT0).height (ts.getD a kT0).size [] [] (wkN ts f (ts.getD a kT0).height (a+1) fs).h (wkN ts f (ts.getD a kT0).height (wkN ts f (ts.getD a kT0).height (a+1) fs).a (wkN ts f (ts.getD a kT0).height (a+1) fs).fs).h,none,(wkN ts f (ts.getD a kT0).height (wkN ts f (ts.getD a kT0).height (a+1) fs).a (wkN ts f (ts.getD a kT0).height (a+1) fs).fs).a,(wkN ts f (ts.getD a kT0).height (wkN ts f (ts.getD a kT0).height (a+1) fs).a (wkN ts f (ts.getD a kT0).height (a+1) fs).fs).fs⟩
    else⟨z32,tokE a 61,a+1,fs⟩
section
variable {ts:List Token} {f:Nat} {ab:Int} {a:Nat} {fs:List Item}
theorem wk1 (h:(ts.length:Int)≤a):wkN ts (f+1) ab a fs=⟨z32,tokE a 4,a,fs⟩:=by unfold wkN;rw[if_pos h]
theorem wk2 (h:¬ (ts.length:Int)≤a) (h1:(ts.getD (a:Int).toNat kT0).kind=1):wkN ts (f+1) ab a fs=⟨(ts.getD (a:Int).toNat kT0).hash.l,none,a+1,fs++[⟨true,[],[]⟩]⟩:=by
  rw[Int.toNat_natCast] at h1;unfold wkN;rw[if_neg h,if_pos h1];rfl
theorem wk3 (h:¬ (ts.length:Int)≤a) (h1:¬ (ts.getD (a:Int).toNat kT0).kind=1) (h2:(ts.getD (a:Int).toNat kT0).kind=2) (h3:((ts.getD (a:Int).toNat kT0).key.length:Int)=0∨96<((ts.getD (a:Int).toNat kT0).key.length:Int)∨256<((ts.getD (a:Int).toNat kT0).value.length:Int)):wkN ts (f+1) ab a fs=⟨z32,tokE a 10,a+1,fs⟩:=by
  rw[Int.toNat_natCast] at h1 h2 h3;unfold wkN;rw[if_neg h,if_neg h1,if_pos h2,if_pos h3]
theorem wk4 (h:¬ (ts.length:Int)≤a) (h1:¬ (ts.getD (a:Int).toNat kT0).kind=1) (h2:(ts.getD (a:Int).toNat kT0).kind=2) (h3:¬ ((ts.getD (a:Int).toNat kT0).key.length:Int)=0) (h4:¬ 96<((ts.getD (a:Int).toNat kT0).key.length:Int)) (h5:¬ 256<((ts.getD (a:Int).toNat kT0).value.length:Int)):wkN ts (f+1) ab a fs=⟨nsum 0 1 (ts.getD (a:Int).toNat kT0).key (ts.getD (a:Int).toNat kT0).value z32 z32,none,a+1,fs++[⟨false,(ts.getD (a:Int).toNat kT0).key,(ts.getD (a:Int).toNat kT0).value⟩]⟩:=by
  rw[Int.toNat_natCast] at *;unfold wkN;rw[if_neg h,if_neg h1,if_pos h2,if_neg (fun e=>e.elim h3 fun e=>e.elim h4 h5)]
theorem wk5 (h:¬ (ts.length:Int)≤a) (h1:¬ (ts.getD (a:Int).toNat kT0).kind=1) (h2:¬ (ts.getD (a:Int).toNat kT0).kind=2) (h3:(ts.getD (a:Int).toNat kT0).kind=3) (h4:(ts.getD (a:Int).toNat kT0).height<1∨ab≤(ts.getD (a:Int).toNat kT0).height):wkN ts (f+1) ab a fs=⟨z32,tokE a 12,a+1,fs⟩:=by
  rw[Int.toNat_natCast] at *;unfold wkN;rw[if_neg h,if_neg h1,if_neg h2,if_pos h3,if_pos h4]
theorem wk6 (h:¬ (ts.length:Int)≤a) (h1:¬ (ts.getD (a:Int).toNat kT0).kind=1) (h2:¬ (ts.getD (a:Int).toNat kT0).kind=2) (h3:¬ (ts.getD (a:Int).toNat kT0).kind=3):wkN ts (f+1) ab a fs=⟨z32,tokE a 61,a+1,fs⟩:=by
  rw[Int.toNat_natCast] at *;unfold wkN;rw[if_neg h,if_neg h1,if_neg h2,if_neg h3]
/-- the left side, the right side -/
abbrev wkA (ts:List Token) (f a:Nat) (fs:List Item):WR:=wkN ts f (ts.getD (a:Int).toNat kT0).height (a+1) fs
abbrev wkB (ts:List Token) (f a:Nat) (fs:List Item):WR:=wkN ts f (ts.getD (a:Int).toNat kT0).height (wkA ts f a fs).a (wkA ts f a fs).fs
theorem wk7 (h:¬ (ts.length:Int)≤a) (h1:¬ (ts.getD (a:Int).toNat kT0).kind=1) (h2:¬ (ts.getD (a:Int).toNat kT0).kind=2) (h3:(ts.getD (a:Int).toNat kT0).kind=3) (h4:¬ (ts.getD (a:Int).toNat kT0).height<1) (h5:¬ ab≤(ts.getD (a:Int).toNat kT0).height) (h6:(wkA ts f a fs).e.isNone=false):wkN ts (f+1) ab a fs=wkA ts f a fs:=by
  unfold wkA at *;rw[Int.toNat_natCast] at *;rw[wkN,if_neg h,if_neg h1,if_neg h2,if_pos h3,if_neg (fun e=>e.elim h4 h5),if_pos h6]
theorem wk8 (h:¬ (ts.length:Int)≤a) (h1:¬ (ts.getD (a:Int).toNat kT0).kind=1) (h2:¬ (ts.getD (a:Int).toNat kT0).kind=2) (h3:(ts.getD (a:Int).toNat kT0).kind=3) (h4:¬ (ts.getD (a:Int).toNat kT0).height<1) (h5:¬ ab≤(ts.getD (a:Int).toNat kT0).height) (h6:(wkA ts f a fs).e.isNone=true) (h7:(wkB ts f a fs).e.isNone=false):wkN ts (f+1) ab a fs=wkB ts f a fs:=by
  unfold wkB wkA at *;rw[Int.toNat_natCast] at *;rw[wkN,if_neg h,if_neg h1,if_neg h2,if_pos h3,if_neg (fun e=>e.elim h4 h5),if_neg (by rw[h6];decide),if_pos h7]
theorem wk9 (h:¬ (ts.length:Int)≤a) (h1:¬ (ts.getD (a:Int).toNat kT0).kind=1) (h2:¬ (ts.getD (a:Int).toNat kT0).kind=2) (h3:(ts.getD (a:Int).toNat kT0).kind=3) (h4:¬ (ts.getD (a:Int).toNat kT0).height<1) (h5:¬ ab≤(ts.getD (a:Int).toNat kT0).height) (h6:(wkA ts f a fs).e.isNone=true) (h7:(wkB ts f a fs).e.isNone=true):wkN ts (f+1) ab a fs=⟨nsum (ts.getD (a:Int).toNat kT0).height (ts.getD (a:Int).toNat kT0).size [] [] (wkA ts f a fs).h (wkB ts f a fs).h,none,(wkB ts f a fs).a,(wkB ts f a fs).fs⟩:=by
  unfold wkB wkA at *;rw[Int.toNat_natCast] at *;rw[wkN,if_neg h,if_neg h1,if_neg h2,if_pos h3,if_neg (fun e=>e.elim h4 h5),if_neg (by rw[h6];decide),if_neg (by rw[h7];decide)]
end
theorem wk_inv (ts:List Token):∀(f:Nat) (ab:Int) (a:Nat) (fs:List Item),a≤ts.length→fs.length≤a→(wkN ts f ab a fs).a≤ts.length∧(wkN ts f ab a fs).fs.length≤(wkN ts f ab a fs).a∧(wkN ts f ab a fs).h.length=32
  | 0,ab,a,fs,ha,hf=>⟨ha,hf,rfl⟩
  | f + 1, ab, a, fs, ha, hf => by
    unfold wkN
    split
    · exact⟨ha,hf,rfl⟩
    · rename_i h
      have hf1:∀ x:Item,(fs++[x]).length≤a+1:=fun x=>by simp;omega
      have ha1:a+1≤ts.length:=by omega
      split
      · exact⟨ha1,hf1 _,Sum32.h _⟩
      · split
        · split
          · exact⟨ha1,Nat.le_succ_of_le hf,rfl⟩
          · exact⟨ha1,hf1 _,Tr.nsum_len 0 1 (ts.getD a kT0).key (ts.getD a kT0).value z32 z32⟩
        · split
          · split
            · exact⟨ha1,Nat.le_succ_of_le hf,rfl⟩
            · have hA := wk_inv ts f (ts.getD a kT0).height (a + 1) fs ha1 (Nat.le_succ_of_le hf)
              have hB:=wk_inv ts f (ts.getD a kT0).height _ _ hA.1 hA.2.1
              split
              · exact hA
              · split
                · exact hB
                · exact⟨hB.1,hB.2.1,(show(nsum _ _ _ _ _ _).length=32 from Tr.nsum_len _ _ _ _ _ _)⟩
          · exact⟨ha1,Nat.le_succ_of_le hf,rfl⟩
theorem wkA_inv {ts:List Token} {f a:Nat} {fs:List Item} (h:¬ (ts.length:Int)≤a) (hf:fs.length≤a):(wkA ts f a fs).a≤ts.length∧(wkA ts f a fs).fs.length≤(wkA ts f a fs).a∧(wkA ts f a fs).h.length=32:=wk_inv ts f _ _ _ (by omega) (Nat.le_succ_of_le hf)
theorem wkB_inv {ts:List Token} {f a:Nat} {fs:List Item} (h:¬ (ts.length:Int)≤a) (hf:fs.length≤a):(wkB ts f a fs).a≤ts.length∧(wkB ts f a fs).fs.length≤(wkB ts f a fs).a∧(wkB ts f a fs).h.length=32:=wk_inv ts f _ _ _ (wkA_inv h hf).1 (wkA_inv h hf).2.1
abbrev kA (ts:List Token) (a:Nat):Token:=ts.getD (a:Int).toNat kT0
noncomputable def ccM6_42:Code:=(Tryd.f42.body).getD .skip
theorem wk_aux (f:Nat) (ts:List Token) (ab:Int) (a:Nat) (fs:List Item) (ha:a≤ts.length) (hf:fs.length≤a) (hl:ts.length≤4000) (h1:1≤ab) (hab:ab≤1000)
  (ih:∀(ab':Int) (a':Nat) (fs':List Item),1≤ab'→ab'<ab→a'≤ts.length→fs'.length≤a' →
   FOk EN 42 ⟨[.pr wordsP,.rd 32 ts,.ow 113 fs',.bx 109 [.n 1,.i a',.n 2]],[.p 3 0,.i ab'],Unit,fun _=>([.pr wordsP,.rd 32 ts,.no,.bx 109 [.n 1,.i (wkN ts f ab' a' fs').a,.n 5],.pn (PE (wkN ts f ab' a' fs').e) true (wkN ts f ab' a' fs').e.isNone,.ow 113 (wkN ts f ab' a' fs').fs],.t [.a [.h 32 (wkN ts f ab' a' fs').h],.n 4]),fun _=>True⟩) :
   FOk EN 42 ⟨[.pr wordsP,.rd 32 ts,.ow 113 fs,.bx 109 [.n 1,.i a,.n 2]],[.p 3 0,.i ab],Unit,fun _=>([.pr wordsP,.rd 32 ts,.no,.bx 109 [.n 1,.i (wkN ts (f+1) ab a fs).a,.n 5],.pn (PE (wkN ts (f+1) ab a fs).e) true (wkN ts (f+1) ab a fs).e.isNone,.ow 113 (wkN ts (f+1) ab a fs).fs],.t [.a [.h 32 (wkN ts (f+1) ab a fs).h],.n 4]),fun _=>True⟩:=by
 refine v_fun Tryd.f42 ccM6_42 MX (fun ν F σ w=>?_) Tryd.func42
 refine v_nl ?_
 refine v_plan (.fs [0,1,2,3,4,5,6,7,8,9] .e) [2,3,5] True trivial ?_
 refine v_if (decide ((↑ts.length:Int)≤(↑a:Int))) True trivial (fun h1=>?_) (fun h1=>?_)
 ·have h1:=of_decide_eq_true h1
  refine v_al [] (al_e1 (4)) True trivial ?_
  refine v_call _ [6] (faultAt2_ok (((#[116,111,107,101,110]:Array UInt8).toList)) (↑a) (some (Er.num 4)) rfl) ((#[(116:UInt8),(111:UInt8),(107:UInt8),(101:UInt8),(110:UInt8)].toList=#[(116:UInt8),(111:UInt8),(107:UInt8),(101:UInt8),(110:UInt8)].toList)∧((↑a:Int)=(↑a:Int))∧((4:Int)=(4:Int))∧(PE (some (Er.num 4))=PE (some (Er.num 4)))∧(false=false)) ⟨rfl,rfl,rfl,rfl,rfl⟩ (fun g2 p3=>?_)
  have p3:True:=p3
  exact v_ret () [7,2] ((List.replicate 32 0=(wkN ts (f+1) ab a fs).h)∧(wordsP=wordsP)∧(ts=ts)∧((↑a:Int)=(↑(wkN ts (f+1) ab a fs).a:Int))∧(PE (some (Er.step ((#[116,111,107,101,110]:Array UInt8).toList) (↑a) ((some (Er.num 4)).getD (Er.num 0))))=PE (wkN ts (f+1) ab a fs).e)∧(false=(wkN ts (f+1) ab a fs).e.isNone)∧(fs=(wkN ts (f+1) ab a fs).fs)) ⟨(by(rw[wk1 ‹_›] <;> rfl)),rfl,rfl,(by(rw[wk1 ‹_›] <;> rfl)),(by(rw[wk1 ‹_›] <;> rfl)),(by(rw[wk1 ‹_›] <;> rfl)),(by(rw[wk1 ‹_›] <;> rfl))⟩ trivial
 ·have h1:=of_decide_eq_false h1
  refine v_plan (.fs [0,1,2,3,4,5,6,7,8,9,10,11,12,13] (.o 14 (.o 15 (.fs [16] .e)))) [2,3,5] True trivial ?_
  refine v_if (decide ((kA ts a).kind=1)) ((0≤(↑a:Int)∧(↑a:Int)<(↑ts.length:Int))∧(I64 (↑a+1))) ⟨(by omega),(by(unfold I64;omega))⟩ (fun h4=>?_) (fun h4=>?_)
  ·have h4:=of_decide_eq_true h4
   refine v_al [] (al_e0 ((wkN ts (f+1) ab a fs).e) (by(rw[wk2 ‹_› ‹_›] <;> rfl))) ((fs.length+1≤1000000)) (by omega) ?_
   exact v_ret () [12,11] (((kA ts a).hash.l=(wkN ts (f+1) ab a fs).h)∧(wordsP=wordsP)∧(ts=ts)∧((↑a:Int)+1=(↑(wkN ts (f+1) ab a fs).a:Int))∧(PE (wkN ts (f+1) ab a fs).e=PE (wkN ts (f+1) ab a fs).e)∧((wkN ts (f+1) ab a fs).e.isNone=(wkN ts (f+1) ab a fs).e.isNone)∧(fs++[Item.mk true [] []]=(wkN ts (f+1) ab a fs).fs)) ⟨(by(rw[wk2 ‹_› ‹_›] <;> rfl)),rfl,rfl,(by(rw[wk2 ‹_› ‹_›] <;> rfl)),rfl,rfl,(by(rw[wk2 ‹_› ‹_›] <;> rfl))⟩ trivial
  ·have h4:=of_decide_eq_false h4
   refine v_if (decide ((kA ts a).kind=2)) True trivial (fun h5=>?_) (fun h5=>?_)
   ·have h5:=of_decide_eq_true h5
    refine v_guard 71 (decide ((↑(kA ts a).key.length:Int)=0)) True trivial (fun h6=>?_) (fun h6=>?_)
    ·have h6:=of_decide_eq_true h6
     refine v_al [] (al_e1 (10)) True trivial ?_
     refine v_call _ [10] (faultAt2_ok (((#[116,111,107,101,110]:Array UInt8).toList)) (↑a) (some (Er.num 10)) rfl) ((#[(116:UInt8),(111:UInt8),(107:UInt8),(101:UInt8),(110:UInt8)].toList=#[(116:UInt8),(111:UInt8),(107:UInt8),(101:UInt8),(110:UInt8)].toList)∧((↑a:Int)=(↑a:Int))∧((10:Int)=(10:Int))∧(PE (some (Er.num 10))=PE (some (Er.num 10)))∧(false=false)) ⟨rfl,rfl,rfl,rfl,rfl⟩ (fun g7 p8=>?_)
     have p8:True:=p8
     exact v_ret () [11,2] ((List.replicate 32 0=(wkN ts (f+1) ab a fs).h)∧(wordsP=wordsP)∧(ts=ts)∧((↑a:Int)+1=(↑(wkN ts (f+1) ab a fs).a:Int))∧(PE (some (Er.step ((#[116,111,107,101,110]:Array UInt8).toList) (↑a) ((some (Er.num 10)).getD (Er.num 0))))=PE (wkN ts (f+1) ab a fs).e)∧(false=(wkN ts (f+1) ab a fs).e.isNone)∧(fs=(wkN ts (f+1) ab a fs).fs)) ⟨(by(rw[wk3 ‹_› ‹_› ‹_› (by first | exact .inl ‹_› | exact .inr (.inl ‹_›) | exact .inr (.inr ‹_›))] <;> rfl)),rfl,rfl,(by(rw[wk3 ‹_› ‹_› ‹_› (by first | exact .inl ‹_› | exact .inr (.inl ‹_›) | exact .inr (.inr ‹_›))] <;> rfl)),(by(rw[wk3 ‹_› ‹_› ‹_› (by first | exact .inl ‹_› | exact .inr (.inl ‹_›) | exact .inr (.inr ‹_›))] <;> rfl)),(by(rw[wk3 ‹_› ‹_› ‹_› (by first | exact .inl ‹_› | exact .inr (.inl ‹_›) | exact .inr (.inr ‹_›))] <;> rfl)),(by(rw[wk3 ‹_› ‹_› ‹_› (by first | exact .inl ‹_› | exact .inr (.inl ‹_›) | exact .inr (.inr ‹_›))] <;> rfl))⟩ trivial
    ·have h6:=of_decide_eq_false h6
     refine v_guard 77 (decide (96<(↑(kA ts a).key.length:Int))) True trivial (fun h9=>?_) (fun h9=>?_)
     ·have h9:=of_decide_eq_true h9
      refine v_al [] (al_e1 (10)) True trivial ?_
      refine v_call _ [10] (faultAt2_ok (((#[116,111,107,101,110]:Array UInt8).toList)) (↑a) (some (Er.num 10)) rfl) ((#[(116:UInt8),(111:UInt8),(107:UInt8),(101:UInt8),(110:UInt8)].toList=#[(116:UInt8),(111:UInt8),(107:UInt8),(101:UInt8),(110:UInt8)].toList)∧((↑a:Int)=(↑a:Int))∧((10:Int)=(10:Int))∧(PE (some (Er.num 10))=PE (some (Er.num 10)))∧(false=false)) ⟨rfl,rfl,rfl,rfl,rfl⟩ (fun g10 p11=>?_)
      have p11:True:=p11
      exact v_ret () [11,2] ((List.replicate 32 0=(wkN ts (f+1) ab a fs).h)∧(wordsP=wordsP)∧(ts=ts)∧((↑a:Int)+1=(↑(wkN ts (f+1) ab a fs).a:Int))∧(PE (some (Er.step ((#[116,111,107,101,110]:Array UInt8).toList) (↑a) ((some (Er.num 10)).getD (Er.num 0))))=PE (wkN ts (f+1) ab a fs).e)∧(false=(wkN ts (f+1) ab a fs).e.isNone)∧(fs=(wkN ts (f+1) ab a fs).fs)) ⟨(by(rw[wk3 ‹_› ‹_› ‹_› (by first | exact .inl ‹_› | exact .inr (.inl ‹_›) | exact .inr (.inr ‹_›))] <;> rfl)),rfl,rfl,(by(rw[wk3 ‹_› ‹_› ‹_› (by first | exact .inl ‹_› | exact .inr (.inl ‹_›) | exact .inr (.inr ‹_›))] <;> rfl)),(by(rw[wk3 ‹_› ‹_› ‹_› (by first | exact .inl ‹_› | exact .inr (.inl ‹_›) | exact .inr (.inr ‹_›))] <;> rfl)),(by(rw[wk3 ‹_› ‹_› ‹_› (by first | exact .inl ‹_› | exact .inr (.inl ‹_›) | exact .inr (.inr ‹_›))] <;> rfl)),(by(rw[wk3 ‹_› ‹_› ‹_› (by first | exact .inl ‹_› | exact .inr (.inl ‹_›) | exact .inr (.inr ‹_›))] <;> rfl))⟩ trivial
     ·have h9:=of_decide_eq_false h9
      refine v_if (decide (256<(↑(kA ts a).value.length:Int))) True trivial (fun h12=>?_) (fun h12=>?_)
      ·have h12:=of_decide_eq_true h12
       refine v_al [] (al_e1 (10)) True trivial ?_
       refine v_call _ [10] (faultAt2_ok (((#[116,111,107,101,110]:Array UInt8).toList)) (↑a) (some (Er.num 10)) rfl) ((#[(116:UInt8),(111:UInt8),(107:UInt8),(101:UInt8),(110:UInt8)].toList=#[(116:UInt8),(111:UInt8),(107:UInt8),(101:UInt8),(110:UInt8)].toList)∧((↑a:Int)=(↑a:Int))∧((10:Int)=(10:Int))∧(PE (some (Er.num 10))=PE (some (Er.num 10)))∧(false=false)) ⟨rfl,rfl,rfl,rfl,rfl⟩ (fun g13 p14=>?_)
       have p14:True:=p14
       exact v_ret () [11,2] ((List.replicate 32 0=(wkN ts (f+1) ab a fs).h)∧(wordsP=wordsP)∧(ts=ts)∧((↑a:Int)+1=(↑(wkN ts (f+1) ab a fs).a:Int))∧(PE (some (Er.step ((#[116,111,107,101,110]:Array UInt8).toList) (↑a) ((some (Er.num 10)).getD (Er.num 0))))=PE (wkN ts (f+1) ab a fs).e)∧(false=(wkN ts (f+1) ab a fs).e.isNone)∧(fs=(wkN ts (f+1) ab a fs).fs)) ⟨(by(rw[wk3 ‹_› ‹_› ‹_› (by first | exact .inl ‹_› | exact .inr (.inl ‹_›) | exact .inr (.inr ‹_›))] <;> rfl)),rfl,rfl,(by(rw[wk3 ‹_› ‹_› ‹_› (by first | exact .inl ‹_› | exact .inr (.inl ‹_›) | exact .inr (.inr ‹_›))] <;> rfl)),(by(rw[wk3 ‹_› ‹_› ‹_› (by first | exact .inl ‹_› | exact .inr (.inl ‹_›) | exact .inr (.inr ‹_›))] <;> rfl)),(by(rw[wk3 ‹_› ‹_› ‹_› (by first | exact .inl ‹_› | exact .inr (.inl ‹_›) | exact .inr (.inr ‹_›))] <;> rfl)),(by(rw[wk3 ‹_› ‹_› ‹_› (by first | exact .inl ‹_› | exact .inr (.inl ‹_›) | exact .inr (.inr ‹_›))] <;> rfl))⟩ trivial
      ·have h12:=of_decide_eq_false h12
       refine v_plan (.fs [0,1,2,3,5,8] (.c 4 (.c 6 (.c 7 (.o 9 (.o 10 (.fs [11] (.o 12 (.o 13 (.fs [14,15] (.o 16 .e))))))) (.o 9 (.o 7 (.o 10 (.fs [11] (.o 12 (.o 13 (.fs [14,15] (.o 16 .e))))))))) (.o 9 (.o 6 (.o 7 (.o 10 (.fs [11] (.o 12 (.o 13 (.fs [14,15] (.o 16 .e)))))))))) (.c 6 (.c 4 (.c 7 (.o 9 (.o 10 (.fs [11] (.o 12 (.o 13 (.fs [14,15] (.o 16 .e))))))) (.o 9 (.o 7 (.o 10 (.fs [11] (.o 12 (.o 13 (.fs [14,15] (.o 16 .e))))))))) (.c 7 (.c 4 (.o 9 (.o 10 (.fs [11] (.o 12 (.o 13 (.fs [14,15] (.o 16 .e))))))) (.o 9 (.c 4 (.o 10 (.fs [11] (.o 12 (.o 13 (.fs [14,15] (.o 16 .e)))))) (.o 10 (.fs [11] (.c 4 (.o 12 (.o 13 (.fs [14,15] (.o 16 .e)))) (.o 12 (.o 4 (.o 13 (.fs [14,15] (.o 16 .e))))))))))) (.o 9 (.c 4 (.o 7 (.o 10 (.fs [11] (.o 12 (.o 13 (.fs [14,15] (.o 16 .e))))))) (.o 7 (.c 4 (.o 10 (.fs [11] (.o 12 (.o 13 (.fs [14,15] (.o 16 .e)))))) (.o 10 (.fs [11] (.c 4 (.o 12 (.o 13 (.fs [14,15] (.o 16 .e)))) (.o 12 (.o 4 (.o 13 (.fs [14,15] (.o 16 .e)))))))))))))) (.o 9 (.c 4 (.o 6 (.o 7 (.o 10 (.fs [11] (.o 12 (.o 13 (.fs [14,15] (.o 16 .e)))))))) (.o 6 (.c 4 (.o 7 (.o 10 (.fs [11] (.o 12 (.o 13 (.fs [14,15] (.o 16 .e))))))) (.o 7 (.c 4 (.o 10 (.fs [11] (.o 12 (.o 13 (.fs [14,15] (.o 16 .e)))))) (.o 10 (.fs [11] (.c 4 (.o 12 (.o 13 (.fs [14,15] (.o 16 .e)))) (.o 12 (.o 4 (.o 13 (.fs [14,15] (.o 16 .e))))))))))))))))) [] True trivial ?_
       refine v_pick True trivial ?_ ?_
       ·skip
        refine v_pick True trivial ?_ ?_
        ·skip
         refine v_pick True trivial ?_ ?_
         ·skip
          refine v_call _ [6] (clone_ok ((kA ts a).key) (by omega)) (((kA ts a).key=(kA ts a).key)) rfl (fun g15 p16=>?_)
          have p16:True:=p16
          refine v_call _ [7] (clone_ok ((kA ts a).value) (by omega)) (((kA ts a).value=(kA ts a).value)) rfl (fun g17 p18=>?_)
          have p18:True:=p18
          refine v_call _ [0,6,7] (thash_ok (0) (1) ((kA ts a).key) ((kA ts a).value) z32 z32 (by decide) (by omega) (by omega) rfl rfl) ((fs.length+1≤1000000)∧((0:Int)=(0:Int))∧((1:UInt64)=(1:UInt64))∧(List.replicate (32:Nat) (0:UInt8)=List.replicate (32:Nat) (0:UInt8))∧(List.replicate (32:Nat) (0:UInt8)=List.replicate (32:Nat) (0:UInt8))∧(wordsP=wordsP)∧((kA ts a).key=(kA ts a).key)∧((kA ts a).value=(kA ts a).value)) ⟨(by omega),rfl,rfl,rfl,rfl,rfl,rfl,rfl⟩ (fun g19 p20=>?_)
          have p20:True:=p20
          refine v_al [] (al_e0 ((wkN ts (f+1) ab a fs).e) (by(rw[wk4 ‹_› ‹_› ‹_› ‹_› ‹_› ‹_›] <;> rfl))) True trivial ?_
          exact v_ret () [14,13] ((nsum 0 1 (kA ts a).key (kA ts a).value z32 z32=(wkN ts (f+1) ab a fs).h)∧(wordsP=wordsP)∧(ts=ts)∧((↑a:Int)+1=(↑(wkN ts (f+1) ab a fs).a:Int))∧(PE (wkN ts (f+1) ab a fs).e=PE (wkN ts (f+1) ab a fs).e)∧((wkN ts (f+1) ab a fs).e.isNone=(wkN ts (f+1) ab a fs).e.isNone)∧(fs++[Item.mk false (kA ts a).key (kA ts a).value]=(wkN ts (f+1) ab a fs).fs)) ⟨(by(rw[wk4 ‹_› ‹_› ‹_› ‹_› ‹_› ‹_›] <;> rfl)),rfl,rfl,(by(rw[wk4 ‹_› ‹_› ‹_› ‹_› ‹_› ‹_›] <;> rfl)),rfl,rfl,(by(rw[wk4 ‹_› ‹_› ‹_› ‹_› ‹_› ‹_›] <;> rfl))⟩ trivial
         ·skip
          refine v_call _ [6] (clone_ok ((kA ts a).key) (by omega)) (((kA ts a).key=(kA ts a).key)) rfl (fun g21 p22=>?_)
          have p22:True:=p22
          refine v_call _ [7] (clone_ok ((kA ts a).value) (by omega)) (((kA ts a).value=(kA ts a).value)) rfl (fun g23 p24=>?_)
          have p24:True:=p24
          refine v_call _ [0,6,7] (thash_ok (0) (1) ((kA ts a).key) ((kA ts a).value) z32 z32 (by decide) (by omega) (by omega) rfl rfl) ((fs.length+1≤1000000)∧((0:Int)=(0:Int))∧((1:UInt64)=(1:UInt64))∧(List.replicate (32:Nat) (0:UInt8)=List.replicate (32:Nat) (0:UInt8))∧(List.replicate (32:Nat) (0:UInt8)=List.replicate (32:Nat) (0:UInt8))∧(wordsP=wordsP)∧((kA ts a).key=(kA ts a).key)∧((kA ts a).value=(kA ts a).value)) ⟨(by omega),rfl,rfl,rfl,rfl,rfl,rfl,rfl⟩ (fun g25 p26=>?_)
          have p26:True:=p26
          refine v_al [] (al_e0 ((wkN ts (f+1) ab a fs).e) (by(rw[wk4 ‹_› ‹_› ‹_› ‹_› ‹_› ‹_›] <;> rfl))) True trivial ?_
          exact v_ret () [14,13] ((nsum 0 1 (kA ts a).key (kA ts a).value z32 z32=(wkN ts (f+1) ab a fs).h)∧(wordsP=wordsP)∧(ts=ts)∧((↑a:Int)+1=(↑(wkN ts (f+1) ab a fs).a:Int))∧(PE (wkN ts (f+1) ab a fs).e=PE (wkN ts (f+1) ab a fs).e)∧((wkN ts (f+1) ab a fs).e.isNone=(wkN ts (f+1) ab a fs).e.isNone)∧(fs++[Item.mk false (kA ts a).key (kA ts a).value]=(wkN ts (f+1) ab a fs).fs)) ⟨(by(rw[wk4 ‹_› ‹_› ‹_› ‹_› ‹_› ‹_›] <;> rfl)),rfl,rfl,(by(rw[wk4 ‹_› ‹_› ‹_› ‹_› ‹_› ‹_›] <;> rfl)),rfl,rfl,(by(rw[wk4 ‹_› ‹_› ‹_› ‹_› ‹_› ‹_›] <;> rfl))⟩ trivial
        ·skip
         refine v_call _ [6] (clone_ok ((kA ts a).key) (by omega)) (((kA ts a).key=(kA ts a).key)) rfl (fun g27 p28=>?_)
         have p28:True:=p28
         refine v_call _ [7] (clone_ok ((kA ts a).value) (by omega)) (((kA ts a).value=(kA ts a).value)) rfl (fun g29 p30=>?_)
         have p30:True:=p30
         refine v_call _ [0,6,7] (thash_ok (0) (1) ((kA ts a).key) ((kA ts a).value) z32 z32 (by decide) (by omega) (by omega) rfl rfl) ((fs.length+1≤1000000)∧((0:Int)=(0:Int))∧((1:UInt64)=(1:UInt64))∧(List.replicate (32:Nat) (0:UInt8)=List.replicate (32:Nat) (0:UInt8))∧(List.replicate (32:Nat) (0:UInt8)=List.replicate (32:Nat) (0:UInt8))∧(wordsP=wordsP)∧((kA ts a).key=(kA ts a).key)∧((kA ts a).value=(kA ts a).value)) ⟨(by omega),rfl,rfl,rfl,rfl,rfl,rfl,rfl⟩ (fun g31 p32=>?_)
         have p32:True:=p32
         refine v_al [] (al_e0 ((wkN ts (f+1) ab a fs).e) (by(rw[wk4 ‹_› ‹_› ‹_› ‹_› ‹_› ‹_›] <;> rfl))) True trivial ?_
         exact v_ret () [14,13] ((nsum 0 1 (kA ts a).key (kA ts a).value z32 z32=(wkN ts (f+1) ab a fs).h)∧(wordsP=wordsP)∧(ts=ts)∧((↑a:Int)+1=(↑(wkN ts (f+1) ab a fs).a:Int))∧(PE (wkN ts (f+1) ab a fs).e=PE (wkN ts (f+1) ab a fs).e)∧((wkN ts (f+1) ab a fs).e.isNone=(wkN ts (f+1) ab a fs).e.isNone)∧(fs++[Item.mk false (kA ts a).key (kA ts a).value]=(wkN ts (f+1) ab a fs).fs)) ⟨(by(rw[wk4 ‹_› ‹_› ‹_› ‹_› ‹_› ‹_›] <;> rfl)),rfl,rfl,(by(rw[wk4 ‹_› ‹_› ‹_› ‹_› ‹_› ‹_›] <;> rfl)),rfl,rfl,(by(rw[wk4 ‹_› ‹_› ‹_› ‹_› ‹_› ‹_›] <;> rfl))⟩ trivial
       ·skip
        refine v_pick True trivial ?_ ?_
        ·skip
         refine v_pick True trivial ?_ ?_
         ·skip
          refine v_pick True trivial ?_ ?_
          ·skip
           refine v_call _ [6] (clone_ok ((kA ts a).key) (by omega)) (((kA ts a).key=(kA ts a).key)) rfl (fun g33 p34=>?_)
           have p34:True:=p34
           refine v_call _ [7] (clone_ok ((kA ts a).value) (by omega)) (((kA ts a).value=(kA ts a).value)) rfl (fun g35 p36=>?_)
           have p36:True:=p36
           refine v_call _ [0,6,7] (thash_ok (0) (1) ((kA ts a).key) ((kA ts a).value) z32 z32 (by decide) (by omega) (by omega) rfl rfl) ((fs.length+1≤1000000)∧((0:Int)=(0:Int))∧((1:UInt64)=(1:UInt64))∧(List.replicate (32:Nat) (0:UInt8)=List.replicate (32:Nat) (0:UInt8))∧(List.replicate (32:Nat) (0:UInt8)=List.replicate (32:Nat) (0:UInt8))∧(wordsP=wordsP)∧((kA ts a).key=(kA ts a).key)∧((kA ts a).value=(kA ts a).value)) ⟨(by omega),rfl,rfl,rfl,rfl,rfl,rfl,rfl⟩ (fun g37 p38=>?_)
           have p38:True:=p38
           refine v_al [] (al_e0 ((wkN ts (f+1) ab a fs).e) (by(rw[wk4 ‹_› ‹_› ‹_› ‹_› ‹_› ‹_›] <;> rfl))) True trivial ?_
           exact v_ret () [14,13] ((nsum 0 1 (kA ts a).key (kA ts a).value z32 z32=(wkN ts (f+1) ab a fs).h)∧(wordsP=wordsP)∧(ts=ts)∧((↑a:Int)+1=(↑(wkN ts (f+1) ab a fs).a:Int))∧(PE (wkN ts (f+1) ab a fs).e=PE (wkN ts (f+1) ab a fs).e)∧((wkN ts (f+1) ab a fs).e.isNone=(wkN ts (f+1) ab a fs).e.isNone)∧(fs++[Item.mk false (kA ts a).key (kA ts a).value]=(wkN ts (f+1) ab a fs).fs)) ⟨(by(rw[wk4 ‹_› ‹_› ‹_› ‹_› ‹_› ‹_›] <;> rfl)),rfl,rfl,(by(rw[wk4 ‹_› ‹_› ‹_› ‹_› ‹_› ‹_›] <;> rfl)),rfl,rfl,(by(rw[wk4 ‹_› ‹_› ‹_› ‹_› ‹_› ‹_›] <;> rfl))⟩ trivial
          ·skip
           refine v_call _ [6] (clone_ok ((kA ts a).key) (by omega)) (((kA ts a).key=(kA ts a).key)) rfl (fun g39 p40=>?_)
           have p40:True:=p40
           refine v_call _ [7] (clone_ok ((kA ts a).value) (by omega)) (((kA ts a).value=(kA ts a).value)) rfl (fun g41 p42=>?_)
           have p42:True:=p42
           refine v_call _ [0,6,7] (thash_ok (0) (1) ((kA ts a).key) ((kA ts a).value) z32 z32 (by decide) (by omega) (by omega) rfl rfl) ((fs.length+1≤1000000)∧((0:Int)=(0:Int))∧((1:UInt64)=(1:UInt64))∧(List.replicate (32:Nat) (0:UInt8)=List.replicate (32:Nat) (0:UInt8))∧(List.replicate (32:Nat) (0:UInt8)=List.replicate (32:Nat) (0:UInt8))∧(wordsP=wordsP)∧((kA ts a).key=(kA ts a).key)∧((kA ts a).value=(kA ts a).value)) ⟨(by omega),rfl,rfl,rfl,rfl,rfl,rfl,rfl⟩ (fun g43 p44=>?_)
           have p44:True:=p44
           refine v_al [] (al_e0 ((wkN ts (f+1) ab a fs).e) (by(rw[wk4 ‹_› ‹_› ‹_› ‹_› ‹_› ‹_›] <;> rfl))) True trivial ?_
           exact v_ret () [14,13] ((nsum 0 1 (kA ts a).key (kA ts a).value z32 z32=(wkN ts (f+1) ab a fs).h)∧(wordsP=wordsP)∧(ts=ts)∧((↑a:Int)+1=(↑(wkN ts (f+1) ab a fs).a:Int))∧(PE (wkN ts (f+1) ab a fs).e=PE (wkN ts (f+1) ab a fs).e)∧((wkN ts (f+1) ab a fs).e.isNone=(wkN ts (f+1) ab a fs).e.isNone)∧(fs++[Item.mk false (kA ts a).key (kA ts a).value]=(wkN ts (f+1) ab a fs).fs)) ⟨(by(rw[wk4 ‹_› ‹_› ‹_› ‹_› ‹_› ‹_›] <;> rfl)),rfl,rfl,(by(rw[wk4 ‹_› ‹_› ‹_› ‹_› ‹_› ‹_›] <;> rfl)),rfl,rfl,(by(rw[wk4 ‹_› ‹_› ‹_› ‹_› ‹_› ‹_›] <;> rfl))⟩ trivial
         ·skip
          refine v_pick True trivial ?_ ?_
          ·skip
           refine v_call _ [6] (clone_ok ((kA ts a).key) (by omega)) (((kA ts a).key=(kA ts a).key)) rfl (fun g45 p46=>?_)
           have p46:True:=p46
           refine v_pick True trivial ?_ ?_
           ·skip
            refine v_call _ [7] (clone_ok ((kA ts a).value) (by omega)) (((kA ts a).value=(kA ts a).value)) rfl (fun g47 p48=>?_)
            have p48:True:=p48
            refine v_call _ [0,6,7] (thash_ok (0) (1) ((kA ts a).key) ((kA ts a).value) z32 z32 (by decide) (by omega) (by omega) rfl rfl) ((fs.length+1≤1000000)∧((0:Int)=(0:Int))∧((1:UInt64)=(1:UInt64))∧(List.replicate (32:Nat) (0:UInt8)=List.replicate (32:Nat) (0:UInt8))∧(List.replicate (32:Nat) (0:UInt8)=List.replicate (32:Nat) (0:UInt8))∧(wordsP=wordsP)∧((kA ts a).key=(kA ts a).key)∧((kA ts a).value=(kA ts a).value)) ⟨(by omega),rfl,rfl,rfl,rfl,rfl,rfl,rfl⟩ (fun g49 p50=>?_)
            have p50:True:=p50
            refine v_al [] (al_e0 ((wkN ts (f+1) ab a fs).e) (by(rw[wk4 ‹_› ‹_› ‹_› ‹_› ‹_› ‹_›] <;> rfl))) True trivial ?_
            exact v_ret () [14,13] ((nsum 0 1 (kA ts a).key (kA ts a).value z32 z32=(wkN ts (f+1) ab a fs).h)∧(wordsP=wordsP)∧(ts=ts)∧((↑a:Int)+1=(↑(wkN ts (f+1) ab a fs).a:Int))∧(PE (wkN ts (f+1) ab a fs).e=PE (wkN ts (f+1) ab a fs).e)∧((wkN ts (f+1) ab a fs).e.isNone=(wkN ts (f+1) ab a fs).e.isNone)∧(fs++[Item.mk false (kA ts a).key (kA ts a).value]=(wkN ts (f+1) ab a fs).fs)) ⟨(by(rw[wk4 ‹_› ‹_› ‹_› ‹_› ‹_› ‹_›] <;> rfl)),rfl,rfl,(by(rw[wk4 ‹_› ‹_› ‹_› ‹_› ‹_› ‹_›] <;> rfl)),rfl,rfl,(by(rw[wk4 ‹_› ‹_› ‹_› ‹_› ‹_› ‹_›] <;> rfl))⟩ trivial
           ·skip
            refine v_pick True trivial ?_ ?_
            ·skip
             refine v_call _ [7] (clone_ok ((kA ts a).value) (by omega)) (((kA ts a).value=(kA ts a).value)) rfl (fun g51 p52=>?_)
             have p52:True:=p52
             refine v_call _ [0,6,7] (thash_ok (0) (1) ((kA ts a).key) ((kA ts a).value) z32 z32 (by decide) (by omega) (by omega) rfl rfl) ((fs.length+1≤1000000)∧((0:Int)=(0:Int))∧((1:UInt64)=(1:UInt64))∧(List.replicate (32:Nat) (0:UInt8)=List.replicate (32:Nat) (0:UInt8))∧(List.replicate (32:Nat) (0:UInt8)=List.replicate (32:Nat) (0:UInt8))∧(wordsP=wordsP)∧((kA ts a).key=(kA ts a).key)∧((kA ts a).value=(kA ts a).value)) ⟨(by omega),rfl,rfl,rfl,rfl,rfl,rfl,rfl⟩ (fun g53 p54=>?_)
             have p54:True:=p54
             refine v_al [] (al_e0 ((wkN ts (f+1) ab a fs).e) (by(rw[wk4 ‹_› ‹_› ‹_› ‹_› ‹_› ‹_›] <;> rfl))) True trivial ?_
             exact v_ret () [14,13] ((nsum 0 1 (kA ts a).key (kA ts a).value z32 z32=(wkN ts (f+1) ab a fs).h)∧(wordsP=wordsP)∧(ts=ts)∧((↑a:Int)+1=(↑(wkN ts (f+1) ab a fs).a:Int))∧(PE (wkN ts (f+1) ab a fs).e=PE (wkN ts (f+1) ab a fs).e)∧((wkN ts (f+1) ab a fs).e.isNone=(wkN ts (f+1) ab a fs).e.isNone)∧(fs++[Item.mk false (kA ts a).key (kA ts a).value]=(wkN ts (f+1) ab a fs).fs)) ⟨(by(rw[wk4 ‹_› ‹_› ‹_› ‹_› ‹_› ‹_›] <;> rfl)),rfl,rfl,(by(rw[wk4 ‹_› ‹_› ‹_› ‹_› ‹_› ‹_›] <;> rfl)),rfl,rfl,(by(rw[wk4 ‹_› ‹_› ‹_› ‹_› ‹_› ‹_›] <;> rfl))⟩ trivial
            ·skip
             refine v_call _ [7] (clone_ok ((kA ts a).value) (by omega)) (((kA ts a).value=(kA ts a).value)) rfl (fun g55 p56=>?_)
             have p56:True:=p56
             refine v_pick True trivial ?_ ?_
             ·skip
              refine v_call _ [0,6,7] (thash_ok (0) (1) ((kA ts a).key) ((kA ts a).value) z32 z32 (by decide) (by omega) (by omega) rfl rfl) ((fs.length+1≤1000000)∧((0:Int)=(0:Int))∧((1:UInt64)=(1:UInt64))∧(List.replicate (32:Nat) (0:UInt8)=List.replicate (32:Nat) (0:UInt8))∧(List.replicate (32:Nat) (0:UInt8)=List.replicate (32:Nat) (0:UInt8))∧(wordsP=wordsP)∧((kA ts a).key=(kA ts a).key)∧((kA ts a).value=(kA ts a).value)) ⟨(by omega),rfl,rfl,rfl,rfl,rfl,rfl,rfl⟩ (fun g57 p58=>?_)
              have p58:True:=p58
              refine v_al [] (al_e0 ((wkN ts (f+1) ab a fs).e) (by(rw[wk4 ‹_› ‹_› ‹_› ‹_› ‹_› ‹_›] <;> rfl))) True trivial ?_
              exact v_ret () [14,13] ((nsum 0 1 (kA ts a).key (kA ts a).value z32 z32=(wkN ts (f+1) ab a fs).h)∧(wordsP=wordsP)∧(ts=ts)∧((↑a:Int)+1=(↑(wkN ts (f+1) ab a fs).a:Int))∧(PE (wkN ts (f+1) ab a fs).e=PE (wkN ts (f+1) ab a fs).e)∧((wkN ts (f+1) ab a fs).e.isNone=(wkN ts (f+1) ab a fs).e.isNone)∧(fs++[Item.mk false (kA ts a).key (kA ts a).value]=(wkN ts (f+1) ab a fs).fs)) ⟨(by(rw[wk4 ‹_› ‹_› ‹_› ‹_› ‹_› ‹_›] <;> rfl)),rfl,rfl,(by(rw[wk4 ‹_› ‹_› ‹_› ‹_› ‹_› ‹_›] <;> rfl)),rfl,rfl,(by(rw[wk4 ‹_› ‹_› ‹_› ‹_› ‹_› ‹_›] <;> rfl))⟩ trivial
             ·skip
              refine v_call _ [0,6,7] (thash_ok (0) (1) ((kA ts a).key) ((kA ts a).value) z32 z32 (by decide) (by omega) (by omega) rfl rfl) ((fs.length+1≤1000000)∧((0:Int)=(0:Int))∧((1:UInt64)=(1:UInt64))∧(List.replicate (32:Nat) (0:UInt8)=List.replicate (32:Nat) (0:UInt8))∧(List.replicate (32:Nat) (0:UInt8)=List.replicate (32:Nat) (0:UInt8))∧(wordsP=wordsP)∧((kA ts a).key=(kA ts a).key)∧((kA ts a).value=(kA ts a).value)) ⟨(by omega),rfl,rfl,rfl,rfl,rfl,rfl,rfl⟩ (fun g59 p60=>?_)
              have p60:True:=p60
              refine v_al [] (al_e0 ((wkN ts (f+1) ab a fs).e) (by(rw[wk4 ‹_› ‹_› ‹_› ‹_› ‹_› ‹_›] <;> rfl))) True trivial ?_
              exact v_ret () [14,13] ((nsum 0 1 (kA ts a).key (kA ts a).value z32 z32=(wkN ts (f+1) ab a fs).h)∧(wordsP=wordsP)∧(ts=ts)∧((↑a:Int)+1=(↑(wkN ts (f+1) ab a fs).a:Int))∧(PE (wkN ts (f+1) ab a fs).e=PE (wkN ts (f+1) ab a fs).e)∧((wkN ts (f+1) ab a fs).e.isNone=(wkN ts (f+1) ab a fs).e.isNone)∧(fs++[Item.mk false (kA ts a).key (kA ts a).value]=(wkN ts (f+1) ab a fs).fs)) ⟨(by(rw[wk4 ‹_› ‹_› ‹_› ‹_› ‹_› ‹_›] <;> rfl)),rfl,rfl,(by(rw[wk4 ‹_› ‹_› ‹_› ‹_› ‹_› ‹_›] <;> rfl)),rfl,rfl,(by(rw[wk4 ‹_› ‹_› ‹_› ‹_› ‹_› ‹_›] <;> rfl))⟩ trivial
          ·skip
           refine v_pick True trivial ?_ ?_
           ·skip
            refine v_call _ [6] (clone_ok ((kA ts a).key) (by omega)) (((kA ts a).key=(kA ts a).key)) rfl (fun g61 p62=>?_)
            have p62:True:=p62
            refine v_call _ [7] (clone_ok ((kA ts a).value) (by omega)) (((kA ts a).value=(kA ts a).value)) rfl (fun g63 p64=>?_)
            have p64:True:=p64
            refine v_call _ [0,6,7] (thash_ok (0) (1) ((kA ts a).key) ((kA ts a).value) z32 z32 (by decide) (by omega) (by omega) rfl rfl) ((fs.length+1≤1000000)∧((0:Int)=(0:Int))∧((1:UInt64)=(1:UInt64))∧(List.replicate (32:Nat) (0:UInt8)=List.replicate (32:Nat) (0:UInt8))∧(List.replicate (32:Nat) (0:UInt8)=List.replicate (32:Nat) (0:UInt8))∧(wordsP=wordsP)∧((kA ts a).key=(kA ts a).key)∧((kA ts a).value=(kA ts a).value)) ⟨(by omega),rfl,rfl,rfl,rfl,rfl,rfl,rfl⟩ (fun g65 p66=>?_)
            have p66:True:=p66
            refine v_al [] (al_e0 ((wkN ts (f+1) ab a fs).e) (by(rw[wk4 ‹_› ‹_› ‹_› ‹_› ‹_› ‹_›] <;> rfl))) True trivial ?_
            exact v_ret () [14,13] ((nsum 0 1 (kA ts a).key (kA ts a).value z32 z32=(wkN ts (f+1) ab a fs).h)∧(wordsP=wordsP)∧(ts=ts)∧((↑a:Int)+1=(↑(wkN ts (f+1) ab a fs).a:Int))∧(PE (wkN ts (f+1) ab a fs).e=PE (wkN ts (f+1) ab a fs).e)∧((wkN ts (f+1) ab a fs).e.isNone=(wkN ts (f+1) ab a fs).e.isNone)∧(fs++[Item.mk false (kA ts a).key (kA ts a).value]=(wkN ts (f+1) ab a fs).fs)) ⟨(by(rw[wk4 ‹_› ‹_› ‹_› ‹_› ‹_› ‹_›] <;> rfl)),rfl,rfl,(by(rw[wk4 ‹_› ‹_› ‹_› ‹_› ‹_› ‹_›] <;> rfl)),rfl,rfl,(by(rw[wk4 ‹_› ‹_› ‹_› ‹_› ‹_› ‹_›] <;> rfl))⟩ trivial
           ·skip
            refine v_call _ [6] (clone_ok ((kA ts a).key) (by omega)) (((kA ts a).key=(kA ts a).key)) rfl (fun g67 p68=>?_)
            have p68:True:=p68
            refine v_pick True trivial ?_ ?_
            ·skip
             refine v_call _ [7] (clone_ok ((kA ts a).value) (by omega)) (((kA ts a).value=(kA ts a).value)) rfl (fun g69 p70=>?_)
             have p70:True:=p70
             refine v_call _ [0,6,7] (thash_ok (0) (1) ((kA ts a).key) ((kA ts a).value) z32 z32 (by decide) (by omega) (by omega) rfl rfl) ((fs.length+1≤1000000)∧((0:Int)=(0:Int))∧((1:UInt64)=(1:UInt64))∧(List.replicate (32:Nat) (0:UInt8)=List.replicate (32:Nat) (0:UInt8))∧(List.replicate (32:Nat) (0:UInt8)=List.replicate (32:Nat) (0:UInt8))∧(wordsP=wordsP)∧((kA ts a).key=(kA ts a).key)∧((kA ts a).value=(kA ts a).value)) ⟨(by omega),rfl,rfl,rfl,rfl,rfl,rfl,rfl⟩ (fun g71 p72=>?_)
             have p72:True:=p72
             refine v_al [] (al_e0 ((wkN ts (f+1) ab a fs).e) (by(rw[wk4 ‹_› ‹_› ‹_› ‹_› ‹_› ‹_›] <;> rfl))) True trivial ?_
             exact v_ret () [14,13] ((nsum 0 1 (kA ts a).key (kA ts a).value z32 z32=(wkN ts (f+1) ab a fs).h)∧(wordsP=wordsP)∧(ts=ts)∧((↑a:Int)+1=(↑(wkN ts (f+1) ab a fs).a:Int))∧(PE (wkN ts (f+1) ab a fs).e=PE (wkN ts (f+1) ab a fs).e)∧((wkN ts (f+1) ab a fs).e.isNone=(wkN ts (f+1) ab a fs).e.isNone)∧(fs++[Item.mk false (kA ts a).key (kA ts a).value]=(wkN ts (f+1) ab a fs).fs)) ⟨(by(rw[wk4 ‹_› ‹_› ‹_› ‹_› ‹_› ‹_›] <;> rfl)),rfl,rfl,(by(rw[wk4 ‹_› ‹_› ‹_› ‹_› ‹_› ‹_›] <;> rfl)),rfl,rfl,(by(rw[wk4 ‹_› ‹_› ‹_› ‹_› ‹_› ‹_›] <;> rfl))⟩ trivial
            ·skip
             refine v_call _ [7] (clone_ok ((kA ts a).value) (by omega)) (((kA ts a).value=(kA ts a).value)) rfl (fun g73 p74=>?_)
             have p74:True:=p74
             refine v_pick True trivial ?_ ?_
             ·skip
              refine v_call _ [0,6,7] (thash_ok (0) (1) ((kA ts a).key) ((kA ts a).value) z32 z32 (by decide) (by omega) (by omega) rfl rfl) ((fs.length+1≤1000000)∧((0:Int)=(0:Int))∧((1:UInt64)=(1:UInt64))∧(List.replicate (32:Nat) (0:UInt8)=List.replicate (32:Nat) (0:UInt8))∧(List.replicate (32:Nat) (0:UInt8)=List.replicate (32:Nat) (0:UInt8))∧(wordsP=wordsP)∧((kA ts a).key=(kA ts a).key)∧((kA ts a).value=(kA ts a).value)) ⟨(by omega),rfl,rfl,rfl,rfl,rfl,rfl,rfl⟩ (fun g75 p76=>?_)
              have p76:True:=p76
              refine v_al [] (al_e0 ((wkN ts (f+1) ab a fs).e) (by(rw[wk4 ‹_› ‹_› ‹_› ‹_› ‹_› ‹_›] <;> rfl))) True trivial ?_
              exact v_ret () [14,13] ((nsum 0 1 (kA ts a).key (kA ts a).value z32 z32=(wkN ts (f+1) ab a fs).h)∧(wordsP=wordsP)∧(ts=ts)∧((↑a:Int)+1=(↑(wkN ts (f+1) ab a fs).a:Int))∧(PE (wkN ts (f+1) ab a fs).e=PE (wkN ts (f+1) ab a fs).e)∧((wkN ts (f+1) ab a fs).e.isNone=(wkN ts (f+1) ab a fs).e.isNone)∧(fs++[Item.mk false (kA ts a).key (kA ts a).value]=(wkN ts (f+1) ab a fs).fs)) ⟨(by(rw[wk4 ‹_› ‹_› ‹_› ‹_› ‹_› ‹_›] <;> rfl)),rfl,rfl,(by(rw[wk4 ‹_› ‹_› ‹_› ‹_› ‹_› ‹_›] <;> rfl)),rfl,rfl,(by(rw[wk4 ‹_› ‹_› ‹_› ‹_› ‹_› ‹_›] <;> rfl))⟩ trivial
             ·skip
              refine v_call _ [0,6,7] (thash_ok (0) (1) ((kA ts a).key) ((kA ts a).value) z32 z32 (by decide) (by omega) (by omega) rfl rfl) ((fs.length+1≤1000000)∧((0:Int)=(0:Int))∧((1:UInt64)=(1:UInt64))∧(List.replicate (32:Nat) (0:UInt8)=List.replicate (32:Nat) (0:UInt8))∧(List.replicate (32:Nat) (0:UInt8)=List.replicate (32:Nat) (0:UInt8))∧(wordsP=wordsP)∧((kA ts a).key=(kA ts a).key)∧((kA ts a).value=(kA ts a).value)) ⟨(by omega),rfl,rfl,rfl,rfl,rfl,rfl,rfl⟩ (fun g77 p78=>?_)
              have p78:True:=p78
              refine v_al [] (al_e0 ((wkN ts (f+1) ab a fs).e) (by(rw[wk4 ‹_› ‹_› ‹_› ‹_› ‹_› ‹_›] <;> rfl))) True trivial ?_
              exact v_ret () [14,13] ((nsum 0 1 (kA ts a).key (kA ts a).value z32 z32=(wkN ts (f+1) ab a fs).h)∧(wordsP=wordsP)∧(ts=ts)∧((↑a:Int)+1=(↑(wkN ts (f+1) ab a fs).a:Int))∧(PE (wkN ts (f+1) ab a fs).e=PE (wkN ts (f+1) ab a fs).e)∧((wkN ts (f+1) ab a fs).e.isNone=(wkN ts (f+1) ab a fs).e.isNone)∧(fs++[Item.mk false (kA ts a).key (kA ts a).value]=(wkN ts (f+1) ab a fs).fs)) ⟨(by(rw[wk4 ‹_› ‹_› ‹_› ‹_› ‹_› ‹_›] <;> rfl)),rfl,rfl,(by(rw[wk4 ‹_› ‹_› ‹_› ‹_› ‹_› ‹_›] <;> rfl)),rfl,rfl,(by(rw[wk4 ‹_› ‹_› ‹_› ‹_› ‹_› ‹_›] <;> rfl))⟩ trivial
        ·skip
         refine v_pick True trivial ?_ ?_
         ·skip
          refine v_call _ [6] (clone_ok ((kA ts a).key) (by omega)) (((kA ts a).key=(kA ts a).key)) rfl (fun g79 p80=>?_)
          have p80:True:=p80
          refine v_call _ [7] (clone_ok ((kA ts a).value) (by omega)) (((kA ts a).value=(kA ts a).value)) rfl (fun g81 p82=>?_)
          have p82:True:=p82
          refine v_call _ [0,6,7] (thash_ok (0) (1) ((kA ts a).key) ((kA ts a).value) z32 z32 (by decide) (by omega) (by omega) rfl rfl) ((fs.length+1≤1000000)∧((0:Int)=(0:Int))∧((1:UInt64)=(1:UInt64))∧(List.replicate (32:Nat) (0:UInt8)=List.replicate (32:Nat) (0:UInt8))∧(List.replicate (32:Nat) (0:UInt8)=List.replicate (32:Nat) (0:UInt8))∧(wordsP=wordsP)∧((kA ts a).key=(kA ts a).key)∧((kA ts a).value=(kA ts a).value)) ⟨(by omega),rfl,rfl,rfl,rfl,rfl,rfl,rfl⟩ (fun g83 p84=>?_)
          have p84:True:=p84
          refine v_al [] (al_e0 ((wkN ts (f+1) ab a fs).e) (by(rw[wk4 ‹_› ‹_› ‹_› ‹_› ‹_› ‹_›] <;> rfl))) True trivial ?_
          exact v_ret () [14,13] ((nsum 0 1 (kA ts a).key (kA ts a).value z32 z32=(wkN ts (f+1) ab a fs).h)∧(wordsP=wordsP)∧(ts=ts)∧((↑a:Int)+1=(↑(wkN ts (f+1) ab a fs).a:Int))∧(PE (wkN ts (f+1) ab a fs).e=PE (wkN ts (f+1) ab a fs).e)∧((wkN ts (f+1) ab a fs).e.isNone=(wkN ts (f+1) ab a fs).e.isNone)∧(fs++[Item.mk false (kA ts a).key (kA ts a).value]=(wkN ts (f+1) ab a fs).fs)) ⟨(by(rw[wk4 ‹_› ‹_› ‹_› ‹_› ‹_› ‹_›] <;> rfl)),rfl,rfl,(by(rw[wk4 ‹_› ‹_› ‹_› ‹_› ‹_› ‹_›] <;> rfl)),rfl,rfl,(by(rw[wk4 ‹_› ‹_› ‹_› ‹_› ‹_› ‹_›] <;> rfl))⟩ trivial
         ·skip
          refine v_pick True trivial ?_ ?_
          ·skip
           refine v_call _ [6] (clone_ok ((kA ts a).key) (by omega)) (((kA ts a).key=(kA ts a).key)) rfl (fun g85 p86=>?_)
           have p86:True:=p86
           refine v_call _ [7] (clone_ok ((kA ts a).value) (by omega)) (((kA ts a).value=(kA ts a).value)) rfl (fun g87 p88=>?_)
           have p88:True:=p88
           refine v_call _ [0,6,7] (thash_ok (0) (1) ((kA ts a).key) ((kA ts a).value) z32 z32 (by decide) (by omega) (by omega) rfl rfl) ((fs.length+1≤1000000)∧((0:Int)=(0:Int))∧((1:UInt64)=(1:UInt64))∧(List.replicate (32:Nat) (0:UInt8)=List.replicate (32:Nat) (0:UInt8))∧(List.replicate (32:Nat) (0:UInt8)=List.replicate (32:Nat) (0:UInt8))∧(wordsP=wordsP)∧((kA ts a).key=(kA ts a).key)∧((kA ts a).value=(kA ts a).value)) ⟨(by omega),rfl,rfl,rfl,rfl,rfl,rfl,rfl⟩ (fun g89 p90=>?_)
           have p90:True:=p90
           refine v_al [] (al_e0 ((wkN ts (f+1) ab a fs).e) (by(rw[wk4 ‹_› ‹_› ‹_› ‹_› ‹_› ‹_›] <;> rfl))) True trivial ?_
           exact v_ret () [14,13] ((nsum 0 1 (kA ts a).key (kA ts a).value z32 z32=(wkN ts (f+1) ab a fs).h)∧(wordsP=wordsP)∧(ts=ts)∧((↑a:Int)+1=(↑(wkN ts (f+1) ab a fs).a:Int))∧(PE (wkN ts (f+1) ab a fs).e=PE (wkN ts (f+1) ab a fs).e)∧((wkN ts (f+1) ab a fs).e.isNone=(wkN ts (f+1) ab a fs).e.isNone)∧(fs++[Item.mk false (kA ts a).key (kA ts a).value]=(wkN ts (f+1) ab a fs).fs)) ⟨(by(rw[wk4 ‹_› ‹_› ‹_› ‹_› ‹_› ‹_›] <;> rfl)),rfl,rfl,(by(rw[wk4 ‹_› ‹_› ‹_› ‹_› ‹_› ‹_›] <;> rfl)),rfl,rfl,(by(rw[wk4 ‹_› ‹_› ‹_› ‹_› ‹_› ‹_›] <;> rfl))⟩ trivial
          ·skip
           refine v_call _ [6] (clone_ok ((kA ts a).key) (by omega)) (((kA ts a).key=(kA ts a).key)) rfl (fun g91 p92=>?_)
           have p92:True:=p92
           refine v_pick True trivial ?_ ?_
           ·skip
            refine v_call _ [7] (clone_ok ((kA ts a).value) (by omega)) (((kA ts a).value=(kA ts a).value)) rfl (fun g93 p94=>?_)
            have p94:True:=p94
            refine v_call _ [0,6,7] (thash_ok (0) (1) ((kA ts a).key) ((kA ts a).value) z32 z32 (by decide) (by omega) (by omega) rfl rfl) ((fs.length+1≤1000000)∧((0:Int)=(0:Int))∧((1:UInt64)=(1:UInt64))∧(List.replicate (32:Nat) (0:UInt8)=List.replicate (32:Nat) (0:UInt8))∧(List.replicate (32:Nat) (0:UInt8)=List.replicate (32:Nat) (0:UInt8))∧(wordsP=wordsP)∧((kA ts a).key=(kA ts a).key)∧((kA ts a).value=(kA ts a).value)) ⟨(by omega),rfl,rfl,rfl,rfl,rfl,rfl,rfl⟩ (fun g95 p96=>?_)
            have p96:True:=p96
            refine v_al [] (al_e0 ((wkN ts (f+1) ab a fs).e) (by(rw[wk4 ‹_› ‹_› ‹_› ‹_› ‹_› ‹_›] <;> rfl))) True trivial ?_
            exact v_ret () [14,13] ((nsum 0 1 (kA ts a).key (kA ts a).value z32 z32=(wkN ts (f+1) ab a fs).h)∧(wordsP=wordsP)∧(ts=ts)∧((↑a:Int)+1=(↑(wkN ts (f+1) ab a fs).a:Int))∧(PE (wkN ts (f+1) ab a fs).e=PE (wkN ts (f+1) ab a fs).e)∧((wkN ts (f+1) ab a fs).e.isNone=(wkN ts (f+1) ab a fs).e.isNone)∧(fs++[Item.mk false (kA ts a).key (kA ts a).value]=(wkN ts (f+1) ab a fs).fs)) ⟨(by(rw[wk4 ‹_› ‹_› ‹_› ‹_› ‹_› ‹_›] <;> rfl)),rfl,rfl,(by(rw[wk4 ‹_› ‹_› ‹_› ‹_› ‹_› ‹_›] <;> rfl)),rfl,rfl,(by(rw[wk4 ‹_› ‹_› ‹_› ‹_› ‹_› ‹_›] <;> rfl))⟩ trivial
           ·skip
            refine v_call _ [7] (clone_ok ((kA ts a).value) (by omega)) (((kA ts a).value=(kA ts a).value)) rfl (fun g97 p98=>?_)
            have p98:True:=p98
            refine v_pick True trivial ?_ ?_
            ·skip
             refine v_call _ [0,6,7] (thash_ok (0) (1) ((kA ts a).key) ((kA ts a).value) z32 z32 (by decide) (by omega) (by omega) rfl rfl) ((fs.length+1≤1000000)∧((0:Int)=(0:Int))∧((1:UInt64)=(1:UInt64))∧(List.replicate (32:Nat) (0:UInt8)=List.replicate (32:Nat) (0:UInt8))∧(List.replicate (32:Nat) (0:UInt8)=List.replicate (32:Nat) (0:UInt8))∧(wordsP=wordsP)∧((kA ts a).key=(kA ts a).key)∧((kA ts a).value=(kA ts a).value)) ⟨(by omega),rfl,rfl,rfl,rfl,rfl,rfl,rfl⟩ (fun g99 p100=>?_)
             have p100:True:=p100
             refine v_al [] (al_e0 ((wkN ts (f+1) ab a fs).e) (by(rw[wk4 ‹_› ‹_› ‹_› ‹_› ‹_› ‹_›] <;> rfl))) True trivial ?_
             exact v_ret () [14,13] ((nsum 0 1 (kA ts a).key (kA ts a).value z32 z32=(wkN ts (f+1) ab a fs).h)∧(wordsP=wordsP)∧(ts=ts)∧((↑a:Int)+1=(↑(wkN ts (f+1) ab a fs).a:Int))∧(PE (wkN ts (f+1) ab a fs).e=PE (wkN ts (f+1) ab a fs).e)∧((wkN ts (f+1) ab a fs).e.isNone=(wkN ts (f+1) ab a fs).e.isNone)∧(fs++[Item.mk false (kA ts a).key (kA ts a).value]=(wkN ts (f+1) ab a fs).fs)) ⟨(by(rw[wk4 ‹_› ‹_› ‹_› ‹_› ‹_› ‹_›] <;> rfl)),rfl,rfl,(by(rw[wk4 ‹_› ‹_› ‹_› ‹_› ‹_› ‹_›] <;> rfl)),rfl,rfl,(by(rw[wk4 ‹_› ‹_› ‹_› ‹_› ‹_› ‹_›] <;> rfl))⟩ trivial
            ·skip
             refine v_call _ [0,6,7] (thash_ok (0) (1) ((kA ts a).key) ((kA ts a).value) z32 z32 (by decide) (by omega) (by omega) rfl rfl) ((fs.length+1≤1000000)∧((0:Int)=(0:Int))∧((1:UInt64)=(1:UInt64))∧(List.replicate (32:Nat) (0:UInt8)=List.replicate (32:Nat) (0:UInt8))∧(List.replicate (32:Nat) (0:UInt8)=List.replicate (32:Nat) (0:UInt8))∧(wordsP=wordsP)∧((kA ts a).key=(kA ts a).key)∧((kA ts a).value=(kA ts a).value)) ⟨(by omega),rfl,rfl,rfl,rfl,rfl,rfl,rfl⟩ (fun g101 p102=>?_)
             have p102:True:=p102
             refine v_al [] (al_e0 ((wkN ts (f+1) ab a fs).e) (by(rw[wk4 ‹_› ‹_› ‹_› ‹_› ‹_› ‹_›] <;> rfl))) True trivial ?_
             exact v_ret () [14,13] ((nsum 0 1 (kA ts a).key (kA ts a).value z32 z32=(wkN ts (f+1) ab a fs).h)∧(wordsP=wordsP)∧(ts=ts)∧((↑a:Int)+1=(↑(wkN ts (f+1) ab a fs).a:Int))∧(PE (wkN ts (f+1) ab a fs).e=PE (wkN ts (f+1) ab a fs).e)∧((wkN ts (f+1) ab a fs).e.isNone=(wkN ts (f+1) ab a fs).e.isNone)∧(fs++[Item.mk false (kA ts a).key (kA ts a).value]=(wkN ts (f+1) ab a fs).fs)) ⟨(by(rw[wk4 ‹_› ‹_› ‹_› ‹_› ‹_› ‹_›] <;> rfl)),rfl,rfl,(by(rw[wk4 ‹_› ‹_› ‹_› ‹_› ‹_› ‹_›] <;> rfl)),rfl,rfl,(by(rw[wk4 ‹_› ‹_› ‹_› ‹_› ‹_› ‹_›] <;> rfl))⟩ trivial
   ·have h5:=of_decide_eq_false h5
    refine v_if (decide ((kA ts a).kind=3)) True trivial (fun h103=>?_) (fun h103=>?_)
    ·have h103:=of_decide_eq_true h103
     refine v_guard 114 (decide ((kA ts a).height<1)) True trivial (fun h104=>?_) (fun h104=>?_)
     ·have h104:=of_decide_eq_true h104
      refine v_al [] (al_e1 (12)) True trivial ?_
      refine v_call _ [10] (faultAt2_ok (((#[116,111,107,101,110]:Array UInt8).toList)) (↑a) (some (Er.num 12)) rfl) ((#[(116:UInt8),(111:UInt8),(107:UInt8),(101:UInt8),(110:UInt8)].toList=#[(116:UInt8),(111:UInt8),(107:UInt8),(101:UInt8),(110:UInt8)].toList)∧((↑a:Int)=(↑a:Int))∧((12:Int)=(12:Int))∧(PE (some (Er.num 12))=PE (some (Er.num 12)))∧(false=false)) ⟨rfl,rfl,rfl,rfl,rfl⟩ (fun g105 p106=>?_)
      have p106:True:=p106
      exact v_ret () [11,2] ((List.replicate 32 0=(wkN ts (f+1) ab a fs).h)∧(wordsP=wordsP)∧(ts=ts)∧((↑a:Int)+1=(↑(wkN ts (f+1) ab a fs).a:Int))∧(PE (some (Er.step ((#[116,111,107,101,110]:Array UInt8).toList) (↑a) ((some (Er.num 12)).getD (Er.num 0))))=PE (wkN ts (f+1) ab a fs).e)∧(false=(wkN ts (f+1) ab a fs).e.isNone)∧(fs=(wkN ts (f+1) ab a fs).fs)) ⟨(by(rw[wk5 ‹_› ‹_› ‹_› ‹_› (by first | exact .inl ‹_› | exact .inr ‹_›)] <;> rfl)),rfl,rfl,(by(rw[wk5 ‹_› ‹_› ‹_› ‹_› (by first | exact .inl ‹_› | exact .inr ‹_›)] <;> rfl)),(by(rw[wk5 ‹_› ‹_› ‹_› ‹_› (by first | exact .inl ‹_› | exact .inr ‹_›)] <;> rfl)),(by(rw[wk5 ‹_› ‹_› ‹_› ‹_› (by first | exact .inl ‹_› | exact .inr ‹_›)] <;> rfl)),(by(rw[wk5 ‹_› ‹_› ‹_› ‹_› (by first | exact .inl ‹_› | exact .inr ‹_›)] <;> rfl))⟩ trivial
     ·have h104:=of_decide_eq_false h104
      refine v_if (decide (ab≤(kA ts a).height)) True trivial (fun h107=>?_) (fun h107=>?_)
      ·have h107:=of_decide_eq_true h107
       refine v_al [] (al_e1 (12)) True trivial ?_
       refine v_call _ [10] (faultAt2_ok (((#[116,111,107,101,110]:Array UInt8).toList)) (↑a) (some (Er.num 12)) rfl) ((#[(116:UInt8),(111:UInt8),(107:UInt8),(101:UInt8),(110:UInt8)].toList=#[(116:UInt8),(111:UInt8),(107:UInt8),(101:UInt8),(110:UInt8)].toList)∧((↑a:Int)=(↑a:Int))∧((12:Int)=(12:Int))∧(PE (some (Er.num 12))=PE (some (Er.num 12)))∧(false=false)) ⟨rfl,rfl,rfl,rfl,rfl⟩ (fun g108 p109=>?_)
       have p109:True:=p109
       exact v_ret () [11,2] ((List.replicate 32 0=(wkN ts (f+1) ab a fs).h)∧(wordsP=wordsP)∧(ts=ts)∧((↑a:Int)+1=(↑(wkN ts (f+1) ab a fs).a:Int))∧(PE (some (Er.step ((#[116,111,107,101,110]:Array UInt8).toList) (↑a) ((some (Er.num 12)).getD (Er.num 0))))=PE (wkN ts (f+1) ab a fs).e)∧(false=(wkN ts (f+1) ab a fs).e.isNone)∧(fs=(wkN ts (f+1) ab a fs).fs)) ⟨(by(rw[wk5 ‹_› ‹_› ‹_› ‹_› (by first | exact .inl ‹_› | exact .inr ‹_›)] <;> rfl)),rfl,rfl,(by(rw[wk5 ‹_› ‹_› ‹_› ‹_› (by first | exact .inl ‹_› | exact .inr ‹_›)] <;> rfl)),(by(rw[wk5 ‹_› ‹_› ‹_› ‹_› (by first | exact .inl ‹_› | exact .inr ‹_›)] <;> rfl)),(by(rw[wk5 ‹_› ‹_› ‹_› ‹_› (by first | exact .inl ‹_› | exact .inr ‹_›)] <;> rfl)),(by(rw[wk5 ‹_› ‹_› ‹_› ‹_› (by first | exact .inl ‹_› | exact .inr ‹_›)] <;> rfl))⟩ trivial
      ·have h107:=of_decide_eq_false h107
       refine v_call _ [0,1,2,3] (ih ((kA ts a).height) (a+nat_lit 1) (fs) (by omega) (by omega) (by(simp;omega)) (by omega)) (((kA ts a).height=(kA ts a).height)∧(wordsP=wordsP)∧(ts=ts)∧(fs=fs)∧((↑a:Int)+(1:Int)=(↑(a+nat_lit 1):Int))) ⟨rfl,rfl,rfl,rfl,rfl⟩ (fun g110 p111=>?_)
       have p111:True:=p111
       refine v_if (!(wkA ts f a fs).e.isNone) True trivial (fun h112=>?_) (fun h112=>?_)
       ·have h112:=(nt h112)
        exact v_ret () [10,11] (((wkA ts f a fs).h=(wkN ts (f+(1:Nat)) ab a fs).h)∧(wordsP=wordsP)∧(ts=ts)∧((↑(wkA ts f a fs).a:Int)=(↑(wkN ts (f+(1:Nat)) ab a fs).a:Int))∧(PE (wkA ts f a fs).e=PE (wkN ts (f+(1:Nat)) ab a fs).e)∧((wkA ts f a fs).e.isNone=(wkN ts (f+(1:Nat)) ab a fs).e.isNone)∧((wkA ts f a fs).fs=(wkN ts (f+(1:Nat)) ab a fs).fs)) ⟨(by(rw[wk7 ‹_› ‹_› ‹_› ‹_› ‹_› ‹_› ‹_›])),rfl,rfl,(by(rw[wk7 ‹_› ‹_› ‹_› ‹_› ‹_› ‹_› ‹_›])),(by(rw[wk7 ‹_› ‹_› ‹_› ‹_› ‹_› ‹_› ‹_›])),(by(rw[wk7 ‹_› ‹_› ‹_› ‹_› ‹_› ‹_› ‹_›])),(by(rw[wk7 ‹_› ‹_› ‹_› ‹_› ‹_› ‹_› ‹_›]))⟩ trivial
       ·have h112:=(nf h112)
        refine v_call _ [0,1,11,3] (ih ((kA ts a).height) ((wkA ts f a fs).a) ((wkA ts f a fs).fs) (by omega) (by omega) (by exact(wkA_inv ‹_› hf).1) (by exact(wkA_inv ‹_› hf).2.1)) (((kA ts a).height=(kA ts a).height)∧(wordsP=wordsP)∧(ts=ts)∧((wkA ts f a fs).fs=(wkA ts f a fs).fs)∧((↑(wkA ts f a fs).a:Int)=(↑(wkA ts f a fs).a:Int))) ⟨rfl,rfl,rfl,rfl,rfl⟩ (fun g113 p114=>?_)
        have p114:True:=p114
        refine v_if (!(wkB ts f a fs).e.isNone) True trivial (fun h115=>?_) (fun h115=>?_)
        ·have h115:=(nt h115)
         exact v_ret () [13,14] (((wkB ts f a fs).h=(wkN ts (f+(1:Nat)) ab a fs).h)∧(wordsP=wordsP)∧(ts=ts)∧((↑(wkB ts f a fs).a:Int)=(↑(wkN ts (f+(1:Nat)) ab a fs).a:Int))∧(PE (wkB ts f a fs).e=PE (wkN ts (f+(1:Nat)) ab a fs).e)∧((wkB ts f a fs).e.isNone=(wkN ts (f+(1:Nat)) ab a fs).e.isNone)∧((wkB ts f a fs).fs=(wkN ts (f+(1:Nat)) ab a fs).fs)) ⟨(by(rw[wk8 ‹_› ‹_› ‹_› ‹_› ‹_› ‹_› ‹_› ‹_›])),rfl,rfl,(by(rw[wk8 ‹_› ‹_› ‹_› ‹_› ‹_› ‹_› ‹_› ‹_›])),(by(rw[wk8 ‹_› ‹_› ‹_› ‹_› ‹_› ‹_› ‹_› ‹_›])),(by(rw[wk8 ‹_› ‹_› ‹_› ‹_› ‹_› ‹_› ‹_› ‹_›])),(by(rw[wk8 ‹_› ‹_› ‹_› ‹_› ‹_› ‹_› ‹_› ‹_›]))⟩ trivial
        ·have h115:=(nf h115)
         refine v_call _ [0,4,4] (thash_ok ((kA ts a).height) ((kA ts a).size) ([]) ([]) ((wkA ts f a fs).h) ((wkB ts f a fs).h) (by omega) (by decide) (by decide) (by exact(wkA_inv ‹_› hf).2.2) (by exact(wkB_inv ‹_› hf).2.2)) (((kA ts a).height=(kA ts a).height)∧((kA ts a).size=(kA ts a).size)∧((wkA ts f a fs).h=(wkA ts f a fs).h)∧((wkB ts f a fs).h=(wkB ts f a fs).h)∧(wordsP=wordsP)∧(Eq (α:=List UInt8) [] [])∧(Eq (α:=List UInt8) [] [])) ⟨rfl,rfl,rfl,rfl,rfl,rfl,rfl⟩ (fun g116 p117=>?_)
         have p117:True:=p117
         refine v_al [] (al_e0 ((wkN ts (f+1) ab a fs).e) (by(rw[wk9 ‹_› ‹_› ‹_› ‹_› ‹_› ‹_› ‹_› ‹_›] <;> rfl))) True trivial ?_
         exact v_ret () [16,14] ((nsum (kA ts a).height (kA ts a).size [] [] (wkA ts f a fs).h (wkB ts f a fs).h=(wkN ts (f+(1:Nat)) ab a fs).h)∧(wordsP=wordsP)∧(ts=ts)∧((↑(wkB ts f a fs).a:Int)=(↑(wkN ts (f+(1:Nat)) ab a fs).a:Int))∧(PE (wkN ts (f+1) ab a fs).e=PE (wkN ts (f+1) ab a fs).e)∧((wkN ts (f+1) ab a fs).e.isNone=(wkN ts (f+1) ab a fs).e.isNone)∧((wkB ts f a fs).fs=(wkN ts (f+(1:Nat)) ab a fs).fs)) ⟨(by(rw[wk9 ‹_› ‹_› ‹_› ‹_› ‹_› ‹_› ‹_› ‹_›] <;> rfl)),rfl,rfl,(by(rw[wk9 ‹_› ‹_› ‹_› ‹_› ‹_› ‹_› ‹_› ‹_›] <;> rfl)),rfl,rfl,(by(rw[wk9 ‹_› ‹_› ‹_› ‹_› ‹_› ‹_› ‹_› ‹_›] <;> rfl))⟩ trivial
    ·have h103:=of_decide_eq_false h103
     refine v_al [] (al_e1 (61)) True trivial ?_
     refine v_call _ [10] (faultAt2_ok (((#[116,111,107,101,110]:Array UInt8).toList)) (↑a) (some (Er.num 61)) rfl) ((#[(116:UInt8),(111:UInt8),(107:UInt8),(101:UInt8),(110:UInt8)].toList=#[(116:UInt8),(111:UInt8),(107:UInt8),(101:UInt8),(110:UInt8)].toList)∧((↑a:Int)=(↑a:Int))∧((61:Int)=(61:Int))∧(PE (some (Er.num 61))=PE (some (Er.num 61)))∧(false=false)) ⟨rfl,rfl,rfl,rfl,rfl⟩ (fun g118 p119=>?_)
     have p119:True:=p119
     exact v_ret () [11,2] ((List.replicate 32 0=(wkN ts (f+1) ab a fs).h)∧(wordsP=wordsP)∧(ts=ts)∧((↑a:Int)+1=(↑(wkN ts (f+1) ab a fs).a:Int))∧(PE (some (Er.step ((#[116,111,107,101,110]:Array UInt8).toList) (↑a) ((some (Er.num 61)).getD (Er.num 0))))=PE (wkN ts (f+1) ab a fs).e)∧(false=(wkN ts (f+1) ab a fs).e.isNone)∧(fs=(wkN ts (f+1) ab a fs).fs)) ⟨(by(rw[wk6 ‹_› ‹_› ‹_› ‹_›] <;> rfl)),rfl,rfl,(by(rw[wk6 ‹_› ‹_› ‹_› ‹_›] <;> rfl)),(by(rw[wk6 ‹_› ‹_› ‹_› ‹_›] <;> rfl)),(by(rw[wk6 ‹_› ‹_› ‹_› ‹_›] <;> rfl)),(by(rw[wk6 ‹_› ‹_› ‹_› ‹_›] <;> rfl))⟩ trivial
abbrev tcK (t:Token):List UInt8:=putF [] 1 (numTo t.kind.toUInt64 8)
def tcB (t:Token):List UInt8:=if t.kind=1 then putF (tcK t) 2 t.hash.l else if t.kind=2 then putF (putF (tcK t) 3 t.key) 4 t.value else putF (putF (tcK t) 5 (numTo (ofI t.height) 8)) 6 (numTo t.size 8)
def tcE (t:Token):Int:=if t.kind=1 then 0 else if t.kind=2 then(if putE t.key≠0 then 3 else if putE t.value≠0 then 3 else 0) else if t.kind=3 then(if t.height<1∨64<t.height then 12 else 0) else 61
def tcF:List Token→Int
  | []=>0
  | t::l=>if tcE t≠0 then tcE t else tcF l
def teE (l:List Token):Int:=if 2048<l.length then 3 else if tcF l≠0 then tcF l else if packL (l.map tcB)=true then 3 else if 65536<(packTo (l.map tcB) l.length).length then 3 else 0
def teB (l:List Token):List UInt8:=if teE l≠0 then[] else packTo (l.map tcB) l.length
def tcS (l:List Token):Nat:=(l.map fun t=>t.key.length+t.value.length).sum
theorem tcB_len (t:Token):(tcB t).length≤t.key.length+t.value.length+46:=by
  have h0:(tcK t).length≤11:=q1
  unfold tcB
  split
  · have:=putF_len (tcK t) 2 t.hash.l;have:=t.hash.h;omega
  · split
    · have:=putF_len (tcK t) 3 t.key;have:=putF_len (putF (tcK t) 3 t.key) 4 t.value;omega
    · have := putF_len (tcK t) 5 (numTo (ofI t.height) 8); have := putF_len (putF (tcK t) 5 (numTo (ofI t.height) 8)) 6 (numTo t.size 8)
      have:=numTo_len (ofI t.height) 8;have:=numTo_len t.size 8;omega
theorem tcS_take (l:List Token) {k:Nat} (h:k<l.length):tcS (l.take (k+1))=tcS (l.take k)+(l[k].key.length+l[k].value.length):=by
  unfold tcS;rw[List.take_add_one,List.getElem?_eq_getElem h]
  simp only[Option.toList,List.map_append,List.map_cons,List.map_nil,List.sum_append,List.sum_cons,List.sum_nil,Nat.add_zero]
theorem tcS_le (l:List Token):∀ k,tcS (l.take k)≤tcS l:=fun k=>by
  have:tcS l=tcS (l.take k)+tcS (l.drop k):=by unfold tcS;rw[← List.sum_append,← List.map_append,List.take_append_drop]
  omega
theorem packTo_tc (l:List Token):∀ k,k≤l.length→(packTo (l.map tcB) k).length≤tcS (l.take k)+48*k
  | 0,_=>Nat.zero_le _
  | k + 1, h => by
    have:=packTo_tc l k (by omega)
    rw[packTo_succ (by rw[List.length_map];omega),tcS_take l (by omega)]
    have e:(l.map tcB).getD k []=tcB (l[k]'(by omega)):=by rw[List.getD_eq_getElem?_getD,List.getElem?_map,List.getElem?_eq_getElem (by omega)];rfl
    have:=tcB_len (l[k]'(by omega))
    simp only[encV,List.length_append,List.length_cons,List.length_nil,e] at *;omega
def EJ (l:List Token) (k:Nat):Prop:=l.length≤2048∧k≤l.length∧tcF l=tcF (l.drop k)
section
variable {l:List Token} {k:Nat} {n m q:UInt64} {o:Sum32} {e:Int}
theorem EJ.start (h:¬ (2048:Int)<l.length):EJ l 0:=⟨by omega,Nat.zero_le _,rfl⟩
theorem EJ.at (h:EJ l k) (hk:(k:Int)<l.length):tcF l=if tcE (l.getD (k:Int).toNat kT0)≠0 then tcE (l.getD (k:Int).toNat kT0) else tcF (l.drop (k+1)):=by
  rw[h.2.2,List.drop_eq_getElem_cons (by omega),tcF,Int.toNat_natCast,List.getD_eq_getElem?_getD,List.getElem?_eq_getElem (by omega)];rfl
theorem EJ.next (h:EJ l k) (hk:(k:Int)<l.length) (he:tcE (l.getD (k:Int).toNat kT0)=0):EJ l (k+1)∧l.length - (k+1)<l.length - k :=
  ⟨⟨h.1,by omega,by rw[h.at hk,if_neg (fun z=>z he)]⟩,by omega⟩
theorem EJ.hit (h:EJ l k) (hk:(k:Int)<l.length) (he:tcE (l.getD (k:Int).toNat kT0)=e) (h0:e≠0):[]=teB l∧e=teE l:=by
  have h1:tcF l=e:=by rw[h.at hk,if_pos (by rw[he];exact h0),he]
  have h2:teE l=e:=by unfold teE;rw[if_neg (by have:=h.1;omega),if_pos (by rw[h1];exact h0),h1]
  exact⟨by unfold teB;rw[if_pos (by rw[h2];exact h0)],h2.symm⟩
theorem EJ.stop (h:EJ l k) (hk:¬ (k:Int)<l.length):tcF l=0:=by rw[h.2.2,List.drop_of_length_le (by omega)];rfl
theorem EJ.all (h:EJ l k) (hk:¬ (k:Int)<l.length):(l.take k).map tcB=l.map tcB:=by rw[List.take_of_length_le (by omega)]
theorem te0 (h:(2048:Int)<l.length):[]=teB l∧3=teE l:=by
  have h2:teE l=3:=by unfold teE;rw[if_pos (by omega)]
  exact⟨by unfold teB;rw[if_pos (by rw[h2];decide)],h2.symm⟩
theorem teZ (h:EJ l k) (hk:¬ (k:Int)<l.length):teE l=if packL (l.map tcB)=true then 3 else if 65536<(packTo (l.map tcB) l.length).length then 3 else 0:=by
  unfold teE;rw[if_neg (by have:=h.1;omega),if_neg (fun z=>z (h.stop hk))]
theorem te1 (h:EJ l k) (hk:¬ (k:Int)<l.length) (hp:¬ packE ((l.take k).map tcB)=0):packR ((l.take k).map tcB)=teB l∧packE ((l.take k).map tcB)=teE l:=by
  rw[h.all hk] at hp ⊢
  have hL:packL (l.map tcB)=true:=by unfold packE at hp;split at hp;assumption;exact absurd rfl hp
  have h2:teE l=3:=by rw[teZ h hk,if_pos hL]
  unfold packR packE teB;rw[if_pos hL,if_pos hL,h2];exact⟨rfl,rfl⟩
theorem packE0 {x:List (List UInt8)} (hp:packE x=0):packL x=false:=by unfold packE at hp;split at hp;cases hp;rename_i z;simpa using z
theorem te2 (h:EJ l k) (hk:¬ (k:Int)<l.length) (hp:packE ((l.take k).map tcB)=0) (hb:(65536:Int)<(packR ((l.take k).map tcB)).length):[]=teB l∧3=teE l:=by
  rw[h.all hk] at hp hb
  have hL:=packE0 hp
  unfold packR at hb;rw[if_neg (by rw[hL];decide),List.length_map] at hb
  have h2:teE l=3:=by rw[teZ h hk,if_neg (by rw[hL];decide),if_pos (by omega)]
  unfold teB;rw[h2];exact⟨rfl,rfl⟩
theorem te3 (h:EJ l k) (hk:¬ (k:Int)<l.length) (hp:packE ((l.take k).map tcB)=0) (hb:¬ (65536:Int)<(packR ((l.take k).map tcB)).length):packR ((l.take k).map tcB)=teB l∧packE ((l.take k).map tcB)=teE l:=by
  rw[h.all hk] at hp hb ⊢
  have hL:=packE0 hp
  unfold packR at hb ⊢;rw[if_neg (by rw[hL];decide),List.length_map] at hb ⊢
  have h2:teE l=0:=by rw[teZ h hk,if_neg (by rw[hL];decide),if_neg (by omega)]
  unfold teB;rw[h2,hp];exact⟨rfl,rfl⟩
theorem tk_len (hk:(k:Int)<l.length) (hs:tcS l≤200000):(l.getD (k:Int).toNat kT0).key.length+(l.getD (k:Int).toNat kT0).value.length≤200000:=by
  have hk':k<l.length:=by omega
  rw[Int.toNat_natCast,List.getD_eq_getElem?_getD,List.getElem?_eq_getElem hk']
  have h1:=tcS_take l hk';have h2:=tcS_le l (k+1)
  show l[k].key.length+l[k].value.length≤_
  omega
theorem c2:(putF [] 1 (numTo n 8)).length+o.l.length≤900000:=by have:=q1 (n:=n);have:=o.h;omega
theorem c3 (hk:(k:Int)<l.length) (hs:tcS l≤200000):(putF [] 1 (numTo n 8)).length+(l.getD (k:Int).toNat kT0).key.length≤900000:=by have:=q1 (n:=n);have:=tk_len hk hs;omega
theorem c4 (hk:(k:Int)<l.length) (hs:tcS l≤200000):(putF (putF [] 1 (numTo n 8)) 3 (l.getD (k:Int).toNat kT0).key).length+(l.getD (k:Int).toNat kT0).value.length≤900000:=by
  have:=q1 (n:=n);have:=tk_len hk hs;have:=putF_len (putF [] 1 (numTo n 8)) 3 (l.getD (k:Int).toNat kT0).key;omega
theorem c6:(putF (putF [] 1 (numTo n 8)) 5 (numTo m 8)).length+(numTo q 8).length≤900000:=by
  have:=q1 (n:=n);have:=numTo_len m 8;have:=numTo_len q 8;have:=putF_len (putF [] 1 (numTo n 8)) 5 (numTo m 8);omega
theorem pE_h:putE o.l=0:=by unfold putE;rw[if_neg (by have:=o.h;omega)]
theorem pE_n:putE (numTo n 8)=0:=by unfold putE;rw[if_neg (by have:=numTo_len n 8;omega)]
theorem tc_step (hk:(k:Int)<l.length) {x:List UInt8} (hx:x=tcB (l.getD (k:Int).toNat kT0)):(l.take k).map tcB++[x]=(l.take (k+1)).map tcB:=by
  rw[hx,Int.toNat_natCast,List.take_add_one,List.getD_eq_getElem?_getD,List.getElem?_eq_getElem (by omega)];simp only[Option.toList,List.map_append,List.map_cons,List.map_nil,Option.getD_some]
theorem tb1 {t:Token} (h:t.kind=1):putF (tcK t) 2 t.hash.l=tcB t:=by unfold tcB;rw[if_pos h]
theorem k12 {x:UInt8} (h:x=2):¬ x=1:=by rw[h];decide
theorem k13 {x:UInt8} (h:x=3):¬ x=1:=by rw[h];decide
theorem k23 {x:UInt8} (h:x=3):¬ x=2:=by rw[h];decide
theorem tb2 {t:Token} (h:t.kind=2):putF (putF (tcK t) 3 t.key) 4 t.value=tcB t:=by unfold tcB;rw[if_neg (k12 h),if_pos h]
theorem tb3 {t:Token} (h:t.kind=3):putF (putF (tcK t) 5 (numTo (ofI t.height) 8)) 6 (numTo t.size 8)=tcB t:=by unfold tcB;rw[if_neg (k13 h),if_neg (k23 h)]
theorem tz1 {t:Token} (h:t.kind=1):tcE t=0:=by unfold tcE;rw[if_pos h]
theorem tz2 {t:Token} (h:t.kind=2) (h1:putE t.key=0) (h2:putE t.value=0):tcE t=0:=by unfold tcE;rw[if_neg (k12 h),if_pos h,if_neg (fun z=>z h1),if_neg (fun z=>z h2)]
theorem tz3 {t:Token} (h:t.kind=3) (h1:¬ t.height<1) (h2:¬ 64<t.height):tcE t=0:=by unfold tcE;rw[if_neg (k13 h),if_neg (k23 h),if_pos h,if_neg (by omega)]
theorem ty2 {t:Token} (h:t.kind=2) (h1:¬ putE t.key=0):tcE t=putE t.key:=by unfold tcE;rw[if_neg (k12 h),if_pos h,if_pos h1,putE_3 h1]
theorem ty3 {t:Token} (h:t.kind=2) (h1:putE t.key=0) (h2:¬ putE t.value=0):tcE t=putE t.value:=by unfold tcE;rw[if_neg (k12 h),if_pos h,if_neg (fun z=>z h1),if_pos h2,putE_3 h2]
theorem ty4 {t:Token} (h:t.kind=3) (h1:t.height<1):tcE t=12:=by unfold tcE;rw[if_neg (k13 h),if_neg (k23 h),if_pos h,if_pos (.inl h1)]
theorem ty5 {t:Token} (h:t.kind=3) (h1:64<t.height):tcE t=12:=by unfold tcE;rw[if_neg (k13 h),if_neg (k23 h),if_pos h,if_pos (.inr h1)]
theorem ty6 {t:Token} (h1:¬ t.kind=1) (h2:¬ t.kind=2) (h3:¬ t.kind=3):tcE t=61:=by unfold tcE;rw[if_neg h1,if_neg h2,if_neg h3]
theorem EJ.pk (h:EJ l k) (hk:¬ (k:Int)<l.length) (hs:tcS l≤200000):(packTo ((l.take k).map tcB) ((l.take k).map tcB).length).length≤900000:=by
  rw[h.all hk,List.length_map];have:=packTo_tc l l.length (Nat.le_refl _);have:=tcS_le l l.length;have:=h.1;omega
theorem EJ.i (h:EJ l k) (hk:(k:Int)<l.length):I64 ((k:Int)+1):=by have:=h.1;unfold I64;omega
theorem EJ.a (h:EJ l k):((l.take k).map tcB).length+1≤1000000:=by have:=h.1;rw[List.length_map,List.length_take];omega
end
noncomputable def ccTK1_8:Code:=(Tryd.f8.body).getD .skip
theorem TEncode_ok (l:List Token) (hs:tcS l≤200000) (hl:l.length≤1000000):FOk EN 8 ⟨[.rd 32 l],[.n 0],Unit,fun _=>([.rd 32 l,.ow 5 (teB l)],.t [.n 1,.i (teE l)]),fun _=>True⟩:=by
 refine v_fun Tryd.f8 ccTK1_8 MX (fun ν F σ w=>?_) Tryd.func8
 refine v_nl ?_
 refine v_if (decide (2048<(↑l.length:Int))) True trivial (fun h1=>?_) (fun h1=>?_)
 ·have h1:=of_decide_eq_true h1
  exact v_ret () [1] ((3=teE l)∧(l=l)∧([]=teB l)) ⟨(by exact(te0 ‹_›).2),rfl,(by exact(te0 ‹_›).1)⟩ trivial
 ·have h1:=of_decide_eq_false h1
  refine v_loop (fun k:Nat=>([(16,.i k),(4,.n 2)],[.ow 23 ((l.take k).map tcB)])) (fun k=>EJ l k) (fun k=>l.length - k) 0 [1] (((0:Int)=(↑(0:Nat):Int))∧([]=List.map tcB (List.take 0 l))) ⟨rfl,rfl⟩ (by exact EJ.start ‹_›) (fun k hk2=>?_)
  refine v_if (decide ((↑k:Int)<(↑l.length:Int))) True trivial (fun h3=>?_) (fun h3=>?_)
  ·have h3:=of_decide_eq_true h3
   refine v_call _ [] (num_ok ((l.getD (↑k:Int).toNat (Token.mk 0 zero32 [] [] 0 0)).kind.toUInt64)) ((0≤(↑k:Int)∧(↑k:Int)<(↑l.length:Int))∧((l.getD (↑k:Int).toNat (Token.mk 0 zero32 [] [] 0 0)).kind.toUInt64=(l.getD (↑k:Int).toNat (Token.mk 0 zero32 [] [] 0 0)).kind.toUInt64)) ⟨(by omega),rfl⟩ (fun g4 p5=>?_)
   have p5:True:=p5
   refine v_call _ [1,7] (put_ok ([]) (1) (numTo (l.getD (↑k:Int).toNat (Token.mk 0 zero32 [] [] 0 0)).kind.toUInt64 8) (by exact f1)) (((1:UInt8)=(1:UInt8))∧(Eq (α:=List UInt8) [] [])∧(numTo (l.getD (↑k:Int).toNat (Token.mk 0 zero32 [] [] 0 0)).kind.toUInt64 8=numTo (l.getD (↑k:Int).toNat (Token.mk 0 zero32 [] [] 0 0)).kind.toUInt64 8)) ⟨rfl,rfl,rfl⟩ (fun g6 p7=>?_)
   have p7:True:=p7
   refine v_if (decide ((l.getD (↑k:Int).toNat (Token.mk 0 zero32 [] [] 0 0)).kind=1)) True trivial (fun h8=>?_) (fun h8=>?_)
   ·have h8:=of_decide_eq_true h8
    refine v_call _ [8,9] (put_ok (putF [] 1 (numTo (l.getD (↑k:Int).toNat (Token.mk 0 zero32 [] [] 0 0)).kind.toUInt64 8)) (2) ((l.getD (↑k:Int).toNat (Token.mk 0 zero32 [] [] 0 0)).hash.l) (by exact c2)) (((l.getD (↑k:Int).toNat (Token.mk 0 zero32 [] [] 0 0)).hash.l.length=32∧32≤1000000)∧((2:UInt8)=(2:UInt8))∧(putF [] 1 (numTo (l.getD (↑k:Int).toNat (Token.mk 0 zero32 [] [] 0 0)).kind.toUInt64 8)=putF [] 1 (numTo (l.getD (↑k:Int).toNat (Token.mk 0 zero32 [] [] 0 0)).kind.toUInt64 8))∧((l.getD (↑k:Int).toNat (Token.mk 0 zero32 [] [] 0 0)).hash.l=(l.getD (↑k:Int).toNat (Token.mk 0 zero32 [] [] 0 0)).hash.l)) ⟨(by exact⟨Sum32.h _,by decide⟩),rfl,rfl,rfl⟩ (fun g9 p10=>?_)
    have p10:True:=p10
    refine v_if (decide (putE (l.getD (↑k:Int).toNat (Token.mk 0 zero32 [] [] 0 0)).hash.l≠0)) True trivial (fun h11=>?_) (fun h11=>?_)
    ·have h11:=of_decide_eq_true h11
     exfalso;exact absurd pE_h ‹_›
    ·have h11:=of_decide_eq_false h11
     exact v_back (k+1) [12] (((List.map tcB (List.take k l)).length+1≤1000000)∧(I64 (↑k+1))∧((↑k:Int)+1=(↑(k+1):Int))∧(List.map tcB (List.take k l)++[putF (putF [] 1 (numTo (l.getD (↑k:Int).toNat (Token.mk 0 zero32 [] [] 0 0)).kind.toUInt64 8)) 2 (l.getD (↑k:Int).toNat (Token.mk 0 zero32 [] [] 0 0)).hash.l]=List.map tcB (List.take (k+1) l))) ⟨(by(simp;omega)),(by(unfold I64;omega)),rfl,(by exact tc_step ‹_› (tb1 ‹_›))⟩ (show EJ l (k+1)∧l.length - (k+1)<l.length - k from(by exact EJ.next ‹_› ‹_› (tz1 ‹_›)))
   ·have h8:=of_decide_eq_false h8
    refine v_if (decide ((l.getD (↑k:Int).toNat (Token.mk 0 zero32 [] [] 0 0)).kind=2)) True trivial (fun h12=>?_) (fun h12=>?_)
    ·have h12:=of_decide_eq_true h12
     refine v_call _ [8,3] (put_ok (putF [] 1 (numTo (l.getD (↑k:Int).toNat (Token.mk 0 zero32 [] [] 0 0)).kind.toUInt64 8)) (3) ((l.getD (↑k:Int).toNat (Token.mk 0 zero32 [] [] 0 0)).key) (by exact c3 ‹_› hs)) (((3:UInt8)=(3:UInt8))∧(putF [] 1 (numTo (l.getD (↑k:Int).toNat (Token.mk 0 zero32 [] [] 0 0)).kind.toUInt64 8)=putF [] 1 (numTo (l.getD (↑k:Int).toNat (Token.mk 0 zero32 [] [] 0 0)).kind.toUInt64 8))∧((l.getD (↑k:Int).toNat (Token.mk 0 zero32 [] [] 0 0)).key=(l.getD (↑k:Int).toNat (Token.mk 0 zero32 [] [] 0 0)).key)) ⟨rfl,rfl,rfl⟩ (fun g13 p14=>?_)
     have p14:True:=p14
     refine v_if (decide (putE (l.getD (↑k:Int).toNat (Token.mk 0 zero32 [] [] 0 0)).key=0)) True trivial (fun h15=>?_) (fun h15=>?_)
     ·have h15:=of_decide_eq_true h15
      refine v_call _ [9,4] (put_ok (putF (putF [] 1 (numTo (l.getD (↑k:Int).toNat (Token.mk 0 zero32 [] [] 0 0)).kind.toUInt64 8)) 3 (l.getD (↑k:Int).toNat (Token.mk 0 zero32 [] [] 0 0)).key) (4) ((l.getD (↑k:Int).toNat (Token.mk 0 zero32 [] [] 0 0)).value) (by exact c4 ‹_› hs)) (((4:UInt8)=(4:UInt8))∧(putF (putF [] 1 (numTo (l.getD (↑k:Int).toNat (Token.mk 0 zero32 [] [] 0 0)).kind.toUInt64 8)) 3 (l.getD (↑k:Int).toNat (Token.mk 0 zero32 [] [] 0 0)).key=putF (putF [] 1 (numTo (l.getD (↑k:Int).toNat (Token.mk 0 zero32 [] [] 0 0)).kind.toUInt64 8)) 3 (l.getD (↑k:Int).toNat (Token.mk 0 zero32 [] [] 0 0)).key)∧((l.getD (↑k:Int).toNat (Token.mk 0 zero32 [] [] 0 0)).value=(l.getD (↑k:Int).toNat (Token.mk 0 zero32 [] [] 0 0)).value)) ⟨rfl,rfl,rfl⟩ (fun g16 p17=>?_)
      have p17:True:=p17
      refine v_if (decide (putE (l.getD (↑k:Int).toNat (Token.mk 0 zero32 [] [] 0 0)).value≠0)) True trivial (fun h18=>?_) (fun h18=>?_)
      ·have h18:=of_decide_eq_true h18
       refine v_leave .rt True trivial ?_
       exact v_ret () [1] ((putE (l.getD (↑k:Int).toNat (Token.mk 0 zero32 [] [] 0 0)).value=teE l)∧(l=l)∧([]=teB l)) ⟨(by exact(EJ.hit ‹_› ‹_› (ty3 ‹_› ‹_› ‹_›) ‹_›).2),rfl,(by exact(EJ.hit ‹_› ‹_› (ty3 ‹_› ‹_› ‹_›) ‹_›).1)⟩ trivial
      ·have h18:=of_decide_eq_false h18
       exact v_back (k+1) [12] (((List.map tcB (List.take k l)).length+1≤1000000)∧(I64 (↑k+1))∧((↑k:Int)+1=(↑(k+1):Int))∧(List.map tcB (List.take k l)++[putF (putF (putF [] 1 (numTo (l.getD (↑k:Int).toNat (Token.mk 0 zero32 [] [] 0 0)).kind.toUInt64 8)) 3 (l.getD (↑k:Int).toNat (Token.mk 0 zero32 [] [] 0 0)).key) 4 (l.getD (↑k:Int).toNat (Token.mk 0 zero32 [] [] 0 0)).value]=List.map tcB (List.take (k+1) l))) ⟨(by(simp;omega)),(by(unfold I64;omega)),rfl,(by exact tc_step ‹_› (tb2 ‹_›))⟩ (show EJ l (k+1)∧l.length - (k+1)<l.length - k from(by exact EJ.next ‹_› ‹_› (tz2 ‹_› ‹_› (Decidable.not_not.1 ‹_›))))
     ·have h15:=of_decide_eq_false h15
      refine v_if (decide (putE (l.getD (↑k:Int).toNat (Token.mk 0 zero32 [] [] 0 0)).key≠0)) True trivial (fun h19=>?_) (fun h19=>?_)
      ·have h19:=of_decide_eq_true h19
       refine v_leave .rt True trivial ?_
       exact v_ret () [1] ((putE (l.getD (↑k:Int).toNat (Token.mk 0 zero32 [] [] 0 0)).key=teE l)∧(l=l)∧([]=teB l)) ⟨(by exact(EJ.hit ‹_› ‹_› (ty2 ‹_› ‹_›) ‹_›).2),rfl,(by exact(EJ.hit ‹_› ‹_› (ty2 ‹_› ‹_›) ‹_›).1)⟩ trivial
      ·have h19:=of_decide_eq_false h19
       omega
    ·have h12:=of_decide_eq_false h12
     refine v_if (decide ((l.getD (↑k:Int).toNat (Token.mk 0 zero32 [] [] 0 0)).kind=3)) True trivial (fun h20=>?_) (fun h20=>?_)
     ·have h20:=of_decide_eq_true h20
      refine v_guard 62 (decide ((l.getD (↑k:Int).toNat (Token.mk 0 zero32 [] [] 0 0)).height<1)) True trivial (fun h21=>?_) (fun h21=>?_)
      ·have h21:=of_decide_eq_true h21
       refine v_leave .rt True trivial ?_
       exact v_ret () [1] ((12=teE l)∧(l=l)∧([]=teB l)) ⟨(by exact(EJ.hit ‹_› ‹_› (ty4 ‹_› ‹_›) (by decide)).2),rfl,(by exact(EJ.hit ‹_› ‹_› (ty4 ‹_› ‹_›) (by decide)).1)⟩ trivial
      ·have h21:=of_decide_eq_false h21
       refine v_if (decide (64<(l.getD (↑k:Int).toNat (Token.mk 0 zero32 [] [] 0 0)).height)) True trivial (fun h22=>?_) (fun h22=>?_)
       ·have h22:=of_decide_eq_true h22
        refine v_leave .rt True trivial ?_
        exact v_ret () [1] ((12=teE l)∧(l=l)∧([]=teB l)) ⟨(by exact(EJ.hit ‹_› ‹_› (ty5 ‹_› ‹_›) (by decide)).2),rfl,(by exact(EJ.hit ‹_› ‹_› (ty5 ‹_› ‹_›) (by decide)).1)⟩ trivial
       ·have h22:=of_decide_eq_false h22
        refine v_call _ [] (num_ok (ofI (l.getD (↑k:Int).toNat (Token.mk 0 zero32 [] [] 0 0)).height)) ((ofI (l.getD (↑k:Int).toNat (Token.mk 0 zero32 [] [] 0 0)).height=ofI (l.getD (↑k:Int).toNat (Token.mk 0 zero32 [] [] 0 0)).height)) rfl (fun g23 p24=>?_)
        have p24:True:=p24
        refine v_call _ [8,9] (put_ok (putF [] 1 (numTo (l.getD (↑k:Int).toNat (Token.mk 0 zero32 [] [] 0 0)).kind.toUInt64 8)) (5) (numTo (ofI (l.getD (↑k:Int).toNat (Token.mk 0 zero32 [] [] 0 0)).height) 8) (by exact f2)) (((5:UInt8)=(5:UInt8))∧(putF [] 1 (numTo (l.getD (↑k:Int).toNat (Token.mk 0 zero32 [] [] 0 0)).kind.toUInt64 8)=putF [] 1 (numTo (l.getD (↑k:Int).toNat (Token.mk 0 zero32 [] [] 0 0)).kind.toUInt64 8))∧(numTo (ofI (l.getD (↑k:Int).toNat (Token.mk 0 zero32 [] [] 0 0)).height) 8=numTo (ofI (l.getD (↑k:Int).toNat (Token.mk 0 zero32 [] [] 0 0)).height) 8)) ⟨rfl,rfl,rfl⟩ (fun g25 p26=>?_)
        have p26:True:=p26
        refine v_call _ [] (num_ok ((l.getD (↑k:Int).toNat (Token.mk 0 zero32 [] [] 0 0)).size)) (((l.getD (↑k:Int).toNat (Token.mk 0 zero32 [] [] 0 0)).size=(l.getD (↑k:Int).toNat (Token.mk 0 zero32 [] [] 0 0)).size)) rfl (fun g27 p28=>?_)
        have p28:True:=p28
        refine v_call _ [10,11] (put_ok (putF (putF [] 1 (numTo (l.getD (↑k:Int).toNat (Token.mk 0 zero32 [] [] 0 0)).kind.toUInt64 8)) 5 (numTo (ofI (l.getD (↑k:Int).toNat (Token.mk 0 zero32 [] [] 0 0)).height) 8)) (6) (numTo (l.getD (↑k:Int).toNat (Token.mk 0 zero32 [] [] 0 0)).size 8) (by exact c6)) (((6:UInt8)=(6:UInt8))∧(putF (putF [] 1 (numTo (l.getD (↑k:Int).toNat (Token.mk 0 zero32 [] [] 0 0)).kind.toUInt64 8)) 5 (numTo (ofI (l.getD (↑k:Int).toNat (Token.mk 0 zero32 [] [] 0 0)).height) 8)=putF (putF [] 1 (numTo (l.getD (↑k:Int).toNat (Token.mk 0 zero32 [] [] 0 0)).kind.toUInt64 8)) 5 (numTo (ofI (l.getD (↑k:Int).toNat (Token.mk 0 zero32 [] [] 0 0)).height) 8))∧(numTo (l.getD (↑k:Int).toNat (Token.mk 0 zero32 [] [] 0 0)).size 8=numTo (l.getD (↑k:Int).toNat (Token.mk 0 zero32 [] [] 0 0)).size 8)) ⟨rfl,rfl,rfl⟩ (fun g29 p30=>?_)
        have p30:True:=p30
        refine v_if (decide (putE (numTo (l.getD (↑k:Int).toNat (Token.mk 0 zero32 [] [] 0 0)).size 8)≠0)) True trivial (fun h31=>?_) (fun h31=>?_)
        ·have h31:=of_decide_eq_true h31
         exfalso;exact absurd pE_n ‹_›
        ·have h31:=of_decide_eq_false h31
         exact v_back (k+1) [14] (((List.map tcB (List.take k l)).length+1≤1000000)∧(I64 (↑k+1))∧((↑k:Int)+1=(↑(k+1):Int))∧(List.map tcB (List.take k l)++[putF (putF (putF [] 1 (numTo (l.getD (↑k:Int).toNat (Token.mk 0 zero32 [] [] 0 0)).kind.toUInt64 8)) 5 (numTo (ofI (l.getD (↑k:Int).toNat (Token.mk 0 zero32 [] [] 0 0)).height) 8)) 6 (numTo (l.getD (↑k:Int).toNat (Token.mk 0 zero32 [] [] 0 0)).size 8)]=List.map tcB (List.take (k+1) l))) ⟨(by(simp;omega)),(by(unfold I64;omega)),rfl,(by exact tc_step ‹_› (tb3 ‹_›))⟩ (show EJ l (k+1)∧l.length - (k+1)<l.length - k from(by exact EJ.next ‹_› ‹_› (tz3 ‹_› ‹_› ‹_›)))
     ·have h20:=of_decide_eq_false h20
      refine v_leave .rt True trivial ?_
      exact v_ret () [1] ((61=teE l)∧(l=l)∧([]=teB l)) ⟨(by exact(EJ.hit ‹_› ‹_› (ty6 ‹_› ‹_› ‹_›) (by decide)).2),rfl,(by exact(EJ.hit ‹_› ‹_› (ty6 ‹_› ‹_› ‹_›) (by decide)).1)⟩ trivial
  ·have h3:=of_decide_eq_false h3
   refine v_leave (.ex 0) True trivial ?_
   refine v_call _ [2] (pack_ok (List.map tcB (List.take k l)) (by exact EJ.pk ‹_› ‹_› hs)) ((List.map tcB (List.take k l)=List.map tcB (List.take k l))) rfl (fun g32 p33=>?_)
   have p33:True:=p33
   refine v_guard 99 (decide (packE (List.map tcB (List.take k l))=0)) True trivial (fun h34=>?_) (fun h34=>?_)
   ·have h34:=of_decide_eq_true h34
    refine v_if (decide (65536<(↑(packR (List.map tcB (List.take k l))).length:Int))) True trivial (fun h35=>?_) (fun h35=>?_)
    ·have h35:=of_decide_eq_true h35
     exact v_ret () [1] ((3=teE l)∧(l=l)∧([]=teB l)) ⟨(by exact(te2 ‹_› ‹_› ‹_› ‹_›).2),rfl,(by exact(te2 ‹_› ‹_› ‹_› ‹_›).1)⟩ trivial
    ·have h35:=of_decide_eq_false h35
     exact v_ret () [3] ((packE (List.map tcB (List.take k l))=teE l)∧(l=l)∧(packR (List.map tcB (List.take k l))=teB l)) ⟨(by exact(te3 ‹_› ‹_› ‹_› ‹_›).2),rfl,(by exact(te3 ‹_› ‹_› ‹_› ‹_›).1)⟩ trivial
   ·have h34:=of_decide_eq_false h34
    exact v_ret () [3] ((packE (List.map tcB (List.take k l))=teE l)∧(l=l)∧(packR (List.map tcB (List.take k l))=teB l)) ⟨(by exact(te1 ‹_› ‹_› ‹_›).2),rfl,(by exact(te1 ‹_› ‹_› ‹_›).1)⟩ trivial
section
variable {l:List Token} {k j:Nat} {n m q:UInt64} {o:Sum32} {x:UInt8} {t:Token}
abbrev tcQ (x:UInt8):List UInt8:=putR [] 1 [x]
theorem nk1:numTo (1:UInt8).toUInt64 8=[1]:=by decide
theorem nk2:numTo (2:UInt8).toUInt64 8=[2]:=by decide
theorem nk3:numTo (3:UInt8).toUInt64 8=[3]:=by decide
theorem tcQ_1 (h:t.kind=1):tcQ t.kind=tcK t:=by unfold tcQ tcK;rw[h,nk1,putR_eq (by decide)]
theorem tcQ_2 (h:t.kind=2):tcQ t.kind=tcK t:=by unfold tcQ tcK;rw[h,nk2,putR_eq (by decide)]
theorem tcQ_3 (h:t.kind=3):tcQ t.kind=tcK t:=by unfold tcQ tcK;rw[h,nk3,putR_eq (by decide)]
theorem ub1 (h:t.kind=1):putR (tcQ t.kind) 2 t.hash.l=tcB t:=by rw[tcQ_1 h,putR_eq (by have:=t.hash.h;omega)];exact tb1 h
theorem ub2 (h:t.kind=2) (h1:¬ (65535:Int)<t.key.length) (h2:¬ (65535:Int)<t.value.length):putR (putR (tcQ t.kind) 3 t.key) 4 t.value=tcB t:=by rw[tcQ_2 h,putR_eq (v:=t.key) (by omega),putR_eq (v:=t.value) (by omega)];exact tb2 h
theorem nkF:∀ n:Fin 65,1≤n.val→numTo (ofI (n.val:Int)) 8=[ofI8 (n.val:Int)]:=by decide +kernel
theorem nkH {h:Int} (h1:¬ h<1) (h2:¬ 64<h):numTo (ofI h) 8=[ofI8 h]:=by
  have:=nkF ⟨h.toNat,by omega⟩ (by show 1≤h.toNat;omega)
  have e:((⟨h.toNat,by omega⟩:Fin 65).val:Int)=h:=by show((h.toNat:Nat):Int)=h;omega
  rw[e] at this;exact this
theorem ub3 (h:t.kind=3) (h1:¬ t.height<1) (h2:¬ 64<t.height):putR (putR (tcQ t.kind) 5 [ofI8 t.height]) 6 (dropZ (eightTo t.size 8))=tcB t:=by
  rw[tcQ_3 h,← numTo_eq,putR_eq (v:=[ofI8 t.height]) (by show 1≤65535;decide),putR_eq (v:=numTo t.size 8) (by have:=numTo_len t.size 8;omega),← nkH h1 h2];exact tb3 h
theorem uz2 (h:t.kind=2) (h1:¬ (65535:Int)<t.key.length) (h2:¬ (65535:Int)<t.value.length):tcE t=0:=tz2 h (by unfold putE;rw[if_neg (by omega)]) (by unfold putE;rw[if_neg (by omega)])
theorem uy2 (h:t.kind=2) (h1:(65535:Int)<t.key.length):tcE t=3:=by
  have z:putE t.key≠0:=putE_ne.2 (by omega)
  rw[ty2 h z];exact putE_3 z
theorem uy3 (h:t.kind=2) (h1:¬ (65535:Int)<t.key.length) (h2:(65535:Int)<t.value.length):tcE t=3:=by
  have z:putE t.value≠0:=putE_ne.2 (by omega)
  rw[ty3 h (by unfold putE;rw[if_neg (by omega)]) z];exact putE_3 z
theorem tcQ_len:(tcQ x).length≤4:=by have:=putR_len [] 1 [x];simp only[List.length_cons,List.length_nil] at this;exact this
theorem d1:([]:List UInt8).length+[x].length≤900000:=by simp only[List.length_cons,List.length_nil];omega
theorem d2:(tcQ x).length+o.l.length≤900000:=by have:=tcQ_len (x:=x);have:=o.h;omega
theorem d3 (hk:(k:Int)<l.length) (hs:tcS l≤200000):(tcQ x).length+(l.getD (k:Int).toNat kT0).key.length≤900000:=by have:=tcQ_len (x:=x);have:=tk_len hk hs;omega
theorem d4 (hk:(k:Int)<l.length) (hs:tcS l≤200000):(putR (tcQ x) 3 (l.getD (k:Int).toNat kT0).key).length+(l.getD (k:Int).toNat kT0).value.length≤900000:=by
  have:=tcQ_len (x:=x);have:=tk_len hk hs;have:=putR_len (tcQ x) 3 (l.getD (k:Int).toNat kT0).key;omega
theorem d5 {y:UInt8}:(tcQ x).length+[y].length≤900000:=by have:=tcQ_len (x:=x);simp only[List.length_cons,List.length_nil];omega
theorem d6 {y:UInt8}:(putR (tcQ x) 5 [y]).length+(dropZ (eightTo m 8)).length≤900000:=by
  have:=tcQ_len (x:=x);have:=dz m;have:=putR_len (tcQ x) 5 [y];simp only[List.length_cons,List.length_nil] at this;omega
abbrev tcM (l:List Token) (k:Nat):List (List UInt8):=(l.take k).map tcB
theorem ue1 (h:EJ l k) (hk:¬ (k:Int)<l.length) (hL:packL (tcM l k)=true):[]=teB l∧3=teE l:=by
  have hp:¬ packE (tcM l k)=0:=by unfold packE;rw[if_pos hL];decide
  have:=te1 h hk hp
  unfold packR packE at this;rw[if_pos hL,if_pos hL] at this;exact this
theorem uP (hL:packL (tcM l k)=false):packE (tcM l k)=0∧packR (tcM l k)=packTo (tcM l k) (tcM l k).length:=by unfold packE packR;rw[if_neg (by rw[hL];decide),if_neg (by rw[hL];decide)];exact⟨rfl,rfl⟩
theorem ue2 (h:EJ l k) (hk:¬ (k:Int)<l.length) (hL:packL (tcM l k)=false) (hb:(65536:Int)<(packTo (tcM l k) (tcM l k).length).length):[]=teB l∧3=teE l :=
  te2 h hk (uP hL).1 (by rw[(uP hL).2];exact hb)
theorem ue3 (h:EJ l k) (hk:¬ (k:Int)<l.length) (hL:packL (tcM l k)=false) (hb:¬ (65536:Int)<(packTo (tcM l k) (tcM l k).length).length):packTo (tcM l k) (tcM l k).length=teB l∧0=teE l:=by
  have:=te3 h hk (uP hL).1 (by rw[(uP hL).2];exact hb)
  rw[(uP hL).1,(uP hL).2] at this;exact this
theorem tcM_i (h:EJ l k) (hj:(j:Int)<(tcM l k).length):I64 ((j:Int)+1):=by have:=h.1;rw[List.length_map,List.length_take] at hj;unfold I64;omega
end
noncomputable def ccTK2_9:Code:=(Tryd.f9.body).getD .skip
theorem EncodeTokens_ok (l:List Token) (hs:tcS l≤200000) (hl:l.length≤1000000):FOk EN 9 ⟨[.rd 32 l],[.n 0],Unit,fun _=>([.rd 32 l,.rd 5 (teB l)],.t [.n 1,.i (teE l)]),fun _=>True⟩:=by
 refine v_fun Tryd.f9 ccTK2_9 MX (fun ν F σ w=>?_) Tryd.func9
 refine v_nl ?_
 refine v_if (decide (2048<(↑l.length:Int))) True trivial (fun h1=>?_) (fun h1=>?_)
 ·have h1:=of_decide_eq_true h1
  exact v_ret () [1] ((3=teE l)∧(l=l)∧([]=teB l)) ⟨(by exact(te0 ‹_›).2),rfl,(by exact(te0 ‹_›).1)⟩ trivial
 ·have h1:=of_decide_eq_false h1
  refine v_loop (fun k:Nat=>([(5,.i k),(4,.n 2)],[.ow 23 ((l.take k).map tcB)])) (fun k=>EJ l k) (fun k=>l.length - k) 0 [1] (((0:Int)=(↑(0:Nat):Int))∧([]=List.map tcB (List.take 0 l))) ⟨rfl,rfl⟩ (by exact EJ.start ‹_›) (fun k hk2=>?_)
  refine v_if (decide ((↑k:Int)<(↑l.length:Int))) True trivial (fun h3=>?_) (fun h3=>?_)
  ·have h3:=of_decide_eq_true h3
   refine v_call _ [1,7] (putr_ok ([]) (1) ([(l.getD (↑k:Int).toNat (Token.mk 0 zero32 [] [] 0 0)).kind]) (by exact d1)) ((0≤(↑k:Int)∧(↑k:Int)<(↑l.length:Int))∧((1:UInt8)=(1:UInt8))∧(Eq (α:=List UInt8) [] [])∧([(l.getD (↑k:Int).toNat (Token.mk 0 zero32 [] [] 0 0)).kind]=[(l.getD (↑k:Int).toNat (Token.mk 0 zero32 [] [] 0 0)).kind])) ⟨(by omega),rfl,rfl,rfl⟩ (fun g4 p5=>?_)
   have p5:True:=p5
   refine v_if (decide ((l.getD (↑k:Int).toNat (Token.mk 0 zero32 [] [] 0 0)).kind=1)) True trivial (fun h6=>?_) (fun h6=>?_)
   ·have h6:=of_decide_eq_true h6
    refine v_call _ [8,9] (putr_ok (putR [] 1 [(l.getD (↑k:Int).toNat (Token.mk 0 zero32 [] [] 0 0)).kind]) (2) ((l.getD (↑k:Int).toNat (Token.mk 0 zero32 [] [] 0 0)).hash.l) (by exact d2)) (((l.getD (↑k:Int).toNat (Token.mk 0 zero32 [] [] 0 0)).hash.l.length=32∧32≤1000000)∧((2:UInt8)=(2:UInt8))∧(putR [] 1 [(l.getD (↑k:Int).toNat (Token.mk 0 zero32 [] [] 0 0)).kind]=putR [] 1 [(l.getD (↑k:Int).toNat (Token.mk 0 zero32 [] [] 0 0)).kind])∧((l.getD (↑k:Int).toNat (Token.mk 0 zero32 [] [] 0 0)).hash.l=(l.getD (↑k:Int).toNat (Token.mk 0 zero32 [] [] 0 0)).hash.l)) ⟨(by exact⟨Sum32.h _,by decide⟩),rfl,rfl,rfl⟩ (fun g7 p8=>?_)
    have p8:True:=p8
    exact v_back (k+1) [12] (((List.map tcB (List.take k l)).length+1≤1000000)∧(I64 (↑k+1))∧((↑k:Int)+1=(↑(k+1):Int))∧(List.map tcB (List.take k l)++[putR (putR [] 1 [(l.getD (↑k:Int).toNat (Token.mk 0 zero32 [] [] 0 0)).kind]) 2 (l.getD (↑k:Int).toNat (Token.mk 0 zero32 [] [] 0 0)).hash.l]=List.map tcB (List.take (k+1) l))) ⟨(by(simp;omega)),(by(unfold I64;omega)),rfl,(by exact tc_step ‹_› (ub1 ‹_›))⟩ (show EJ l (k+1)∧l.length - (k+1)<l.length - k from(by exact EJ.next ‹_› ‹_› (tz1 ‹_›)))
   ·have h6:=of_decide_eq_false h6
    refine v_if (decide ((l.getD (↑k:Int).toNat (Token.mk 0 zero32 [] [] 0 0)).kind=2)) True trivial (fun h9=>?_) (fun h9=>?_)
    ·have h9:=of_decide_eq_true h9
     refine v_guard 41 (decide (65535<(↑(l.getD (↑k:Int).toNat (Token.mk 0 zero32 [] [] 0 0)).key.length:Int))) True trivial (fun h10=>?_) (fun h10=>?_)
     ·have h10:=of_decide_eq_true h10
      refine v_leave .rt True trivial ?_
      exact v_ret () [1] ((3=teE l)∧(l=l)∧([]=teB l)) ⟨(by exact(EJ.hit ‹_› ‹_› (uy2 ‹_› ‹_›) (by decide)).2),rfl,(by exact(EJ.hit ‹_› ‹_› (uy2 ‹_› ‹_›) (by decide)).1)⟩ trivial
     ·have h10:=of_decide_eq_false h10
      refine v_if (decide (65535<(↑(l.getD (↑k:Int).toNat (Token.mk 0 zero32 [] [] 0 0)).value.length:Int))) True trivial (fun h11=>?_) (fun h11=>?_)
      ·have h11:=of_decide_eq_true h11
       refine v_leave .rt True trivial ?_
       exact v_ret () [1] ((3=teE l)∧(l=l)∧([]=teB l)) ⟨(by exact(EJ.hit ‹_› ‹_› (uy3 ‹_› ‹_› ‹_›) (by decide)).2),rfl,(by exact(EJ.hit ‹_› ‹_› (uy3 ‹_› ‹_› ‹_›) (by decide)).1)⟩ trivial
      ·have h11:=of_decide_eq_false h11
       refine v_plan (.fs [0,1,2,4,5] (.o 3 (.o 6 (.fs [7] .e)))) [2,6,7] True trivial ?_
       refine v_call _ [8,3] (putr_ok (putR [] 1 [(l.getD (↑k:Int).toNat (Token.mk 0 zero32 [] [] 0 0)).kind]) (3) ((l.getD (↑k:Int).toNat (Token.mk 0 zero32 [] [] 0 0)).key) (by exact d3 ‹_› hs)) (((3:UInt8)=(3:UInt8))∧(putR [] 1 [(l.getD (↑k:Int).toNat (Token.mk 0 zero32 [] [] 0 0)).kind]=putR [] 1 [(l.getD (↑k:Int).toNat (Token.mk 0 zero32 [] [] 0 0)).kind])∧((l.getD (↑k:Int).toNat (Token.mk 0 zero32 [] [] 0 0)).key=(l.getD (↑k:Int).toNat (Token.mk 0 zero32 [] [] 0 0)).key)) ⟨rfl,rfl,rfl⟩ (fun g12 p13=>?_)
       have p13:True:=p13
       refine v_call _ [9,4] (putr_ok (putR (putR [] 1 [(l.getD (↑k:Int).toNat (Token.mk 0 zero32 [] [] 0 0)).kind]) 3 (l.getD (↑k:Int).toNat (Token.mk 0 zero32 [] [] 0 0)).key) (4) ((l.getD (↑k:Int).toNat (Token.mk 0 zero32 [] [] 0 0)).value) (by exact d4 ‹_› hs)) (((4:UInt8)=(4:UInt8))∧(putR (putR [] 1 [(l.getD (↑k:Int).toNat (Token.mk 0 zero32 [] [] 0 0)).kind]) 3 (l.getD (↑k:Int).toNat (Token.mk 0 zero32 [] [] 0 0)).key=putR (putR [] 1 [(l.getD (↑k:Int).toNat (Token.mk 0 zero32 [] [] 0 0)).kind]) 3 (l.getD (↑k:Int).toNat (Token.mk 0 zero32 [] [] 0 0)).key)∧((l.getD (↑k:Int).toNat (Token.mk 0 zero32 [] [] 0 0)).value=(l.getD (↑k:Int).toNat (Token.mk 0 zero32 [] [] 0 0)).value)) ⟨rfl,rfl,rfl⟩ (fun g14 p15=>?_)
       have p15:True:=p15
       exact v_back (k+1) [12] (((List.map tcB (List.take k l)).length+1≤1000000)∧(I64 (↑k+1))∧((↑k:Int)+1=(↑(k+1):Int))∧(List.map tcB (List.take k l)++[putR (putR (putR [] 1 [(l.getD (↑k:Int).toNat (Token.mk 0 zero32 [] [] 0 0)).kind]) 3 (l.getD (↑k:Int).toNat (Token.mk 0 zero32 [] [] 0 0)).key) 4 (l.getD (↑k:Int).toNat (Token.mk 0 zero32 [] [] 0 0)).value]=List.map tcB (List.take (k+1) l))) ⟨(by(simp;omega)),(by(unfold I64;omega)),rfl,(by exact tc_step ‹_› (ub2 ‹_› ‹_› ‹_›))⟩ (show EJ l (k+1)∧l.length - (k+1)<l.length - k from(by exact EJ.next ‹_› ‹_› (uz2 ‹_› ‹_› ‹_›)))
    ·have h9:=of_decide_eq_false h9
     refine v_if (decide ((l.getD (↑k:Int).toNat (Token.mk 0 zero32 [] [] 0 0)).kind=3)) True trivial (fun h16=>?_) (fun h16=>?_)
     ·have h16:=of_decide_eq_true h16
      refine v_guard 59 (decide ((l.getD (↑k:Int).toNat (Token.mk 0 zero32 [] [] 0 0)).height<1)) True trivial (fun h17=>?_) (fun h17=>?_)
      ·have h17:=of_decide_eq_true h17
       refine v_leave .rt True trivial ?_
       exact v_ret () [1] ((12=teE l)∧(l=l)∧([]=teB l)) ⟨(by exact(EJ.hit ‹_› ‹_› (ty4 ‹_› ‹_›) (by decide)).2),rfl,(by exact(EJ.hit ‹_› ‹_› (ty4 ‹_› ‹_›) (by decide)).1)⟩ trivial
      ·have h17:=of_decide_eq_false h17
       refine v_if (decide (64<(l.getD (↑k:Int).toNat (Token.mk 0 zero32 [] [] 0 0)).height)) True trivial (fun h18=>?_) (fun h18=>?_)
       ·have h18:=of_decide_eq_true h18
        refine v_leave .rt True trivial ?_
        exact v_ret () [1] ((12=teE l)∧(l=l)∧([]=teB l)) ⟨(by exact(EJ.hit ‹_› ‹_› (ty5 ‹_› ‹_›) (by decide)).2),rfl,(by exact(EJ.hit ‹_› ‹_› (ty5 ‹_› ‹_›) (by decide)).1)⟩ trivial
       ·have h18:=of_decide_eq_false h18
        refine v_plan (.fs [0,1,2,3,6,7] (.o 4 (.o 5 (.o 8 (.o 9 (.fs [10] .e)))))) [2,6,7] True trivial ?_
        refine v_call _ [8,9] (putr_ok (putR [] 1 [(l.getD (↑k:Int).toNat (Token.mk 0 zero32 [] [] 0 0)).kind]) (5) ([ofI8 (l.getD (↑k:Int).toNat (Token.mk 0 zero32 [] [] 0 0)).height]) (by exact d5)) (((5:UInt8)=(5:UInt8))∧(putR [] 1 [(l.getD (↑k:Int).toNat (Token.mk 0 zero32 [] [] 0 0)).kind]=putR [] 1 [(l.getD (↑k:Int).toNat (Token.mk 0 zero32 [] [] 0 0)).kind])∧([ofI8 (l.getD (↑k:Int).toNat (Token.mk 0 zero32 [] [] 0 0)).height]=[ofI8 (l.getD (↑k:Int).toNat (Token.mk 0 zero32 [] [] 0 0)).height])) ⟨rfl,rfl,rfl⟩ (fun g19 p20=>?_)
        have p20:True:=p20
        refine v_call _ [] (numr_ok ((l.getD (↑k:Int).toNat (Token.mk 0 zero32 [] [] 0 0)).size)) (((l.getD (↑k:Int).toNat (Token.mk 0 zero32 [] [] 0 0)).size=(l.getD (↑k:Int).toNat (Token.mk 0 zero32 [] [] 0 0)).size)) rfl (fun g21 p22=>?_)
        have p22:True:=p22
        refine v_call _ [10,11] (putr_ok (putR (putR [] 1 [(l.getD (↑k:Int).toNat (Token.mk 0 zero32 [] [] 0 0)).kind]) 5 [ofI8 (l.getD (↑k:Int).toNat (Token.mk 0 zero32 [] [] 0 0)).height]) (6) (dropZ (eightTo (l.getD (↑k:Int).toNat (Token.mk 0 zero32 [] [] 0 0)).size 8)) (by exact d6)) (((6:UInt8)=(6:UInt8))∧(putR (putR [] 1 [(l.getD (↑k:Int).toNat (Token.mk 0 zero32 [] [] 0 0)).kind]) 5 [ofI8 (l.getD (↑k:Int).toNat (Token.mk 0 zero32 [] [] 0 0)).height]=putR (putR [] 1 [(l.getD (↑k:Int).toNat (Token.mk 0 zero32 [] [] 0 0)).kind]) 5 [ofI8 (l.getD (↑k:Int).toNat (Token.mk 0 zero32 [] [] 0 0)).height])∧(dropZ (eightTo (l.getD (↑k:Int).toNat (Token.mk 0 zero32 [] [] 0 0)).size 8)=dropZ (eightTo (l.getD (↑k:Int).toNat (Token.mk 0 zero32 [] [] 0 0)).size 8))) ⟨rfl,rfl,rfl⟩ (fun g23 p24=>?_)
        have p24:True:=p24
        exact v_back (k+1) [14] (((List.map tcB (List.take k l)).length+1≤1000000)∧(I64 (↑k+1))∧((↑k:Int)+1=(↑(k+1):Int))∧(List.map tcB (List.take k l)++[putR (putR (putR [] 1 [(l.getD (↑k:Int).toNat (Token.mk 0 zero32 [] [] 0 0)).kind]) 5 [ofI8 (l.getD (↑k:Int).toNat (Token.mk 0 zero32 [] [] 0 0)).height]) 6 (dropZ (eightTo (l.getD (↑k:Int).toNat (Token.mk 0 zero32 [] [] 0 0)).size 8))]=List.map tcB (List.take (k+1) l))) ⟨(by(simp;omega)),(by(unfold I64;omega)),rfl,(by exact tc_step ‹_› (ub3 ‹_› ‹_› ‹_›))⟩ (show EJ l (k+1)∧l.length - (k+1)<l.length - k from(by exact EJ.next ‹_› ‹_› (tz3 ‹_› ‹_› ‹_›)))
     ·have h16:=of_decide_eq_false h16
      refine v_leave .rt True trivial ?_
      exact v_ret () [1] ((61=teE l)∧(l=l)∧([]=teB l)) ⟨(by exact(EJ.hit ‹_› ‹_› (ty6 ‹_› ‹_› ‹_›) (by decide)).2),rfl,(by exact(EJ.hit ‹_› ‹_› (ty6 ‹_› ‹_› ‹_›) (by decide)).1)⟩ trivial
  ·have h3:=of_decide_eq_false h3
   refine v_leave (.ex 0) True trivial ?_
   refine v_loop (fun j:Nat=>([(8,.i j)],[])) (fun j=>QI (tcM l k) j) (fun j=>(tcM l k).length - j) 0 [] (((0:Int)=(↑(0:Nat):Int))) rfl (by exact QI.start) (fun j hk25=>?_)
   refine v_if (decide ((↑j:Int)<(↑(List.map tcB (List.take k l)).length:Int))) True trivial (fun h26=>?_) (fun h26=>?_)
   ·have h26:=of_decide_eq_true h26
    refine v_if (decide (65535<(↑((List.map tcB (List.take k l)).getD (↑j:Int).toNat []).length:Int))) ((0≤(↑j:Int)∧(↑j:Int)<(↑(List.map tcB (List.take k l)).length:Int))) (by omega) (fun h27=>?_) (fun h27=>?_)
    ·have h27:=of_decide_eq_true h27
     refine v_leave .rt True trivial ?_
     exact v_ret () [1] ((3=teE l)∧(l=l)∧([]=teB l)) ⟨(by exact(ue1 ‹_› ‹_› (QI.hit ‹_› ‹_›)).2),rfl,(by exact(ue1 ‹_› ‹_› (QI.hit ‹_› ‹_›)).1)⟩ trivial
    ·have h27:=of_decide_eq_false h27
     exact v_back (j+1) [] ((I64 (↑j+1))∧((↑j:Int)+1=(↑(j+1):Int))) ⟨(by exact tcM_i ‹_› ‹_›),rfl⟩ (show QI (tcM l k) (j+1)∧(tcM l k).length - (j+1)<(tcM l k).length - j from(by exact QI.next ‹_› ‹_› ‹_›))
   ·have h26:=of_decide_eq_false h26
    refine v_leave (.ex 3) True trivial ?_
    refine v_call _ [2] (packr_ok (List.map tcB (List.take k l)) (by exact EJ.pk ‹_› ‹_› hs)) ((List.map tcB (List.take k l)=List.map tcB (List.take k l))) rfl (fun g28 p29=>?_)
    have p29:True:=p29
    refine v_if (decide (65536<(↑(packTo (List.map tcB (List.take k l)) (List.map tcB (List.take k l)).length).length:Int))) True trivial (fun h30=>?_) (fun h30=>?_)
    ·have h30:=of_decide_eq_true h30
     exact v_ret () [1] ((3=teE l)∧(l=l)∧([]=teB l)) ⟨(by exact(ue2 ‹_› ‹_› (QI.stop ‹_› ‹_›) ‹_›).2),rfl,(by exact(ue2 ‹_› ‹_› (QI.stop ‹_› ‹_›) ‹_›).1)⟩ trivial
    ·have h30:=of_decide_eq_false h30
     exact v_ret () [3] ((0=teE l)∧(l=l)∧(packTo (List.map tcB (List.take k l)) (List.map tcB (List.take k l)).length=teB l)) ⟨(by exact(ue3 ‹_› ‹_› (QI.stop ‹_› ‹_›) ‹_›).2),rfl,(by exact(ue3 ‹_› ‹_› (QI.stop ‹_› ‹_›) ‹_›).1)⟩ trivial
def tsFirst:List (List UInt8)→Int
  | []=>0
  | x::l=>if tnE x≠0 then tnE x else tsFirst l
def dcErr (f:Field):Int :=
  if f.tag=1 then 0 else if f.tag=2 then 0
  else if f.tag=3 then(if(unpk [] f.value).2≠0 then(unpk [] f.value).2 else tsFirst (unpk [] f.value).1) else 8
def dcSet (p:Proof) (f:Field):Proof :=
  if f.tag=1 then⟨f.value,p.value,p.turns⟩ else if f.tag=2 then⟨p.key,f.value,p.turns⟩
  else if f.tag=3 then⟨p.key,p.value,p.turns++(unpk [] f.value).1.map tnV⟩ else p
abbrev kP:Proof:=⟨[],[],[]⟩
def dTo (l:List Field) (k:Nat):Proof:=(l.take k).foldl dcSet kP
def dFirst:List Field→Int
  | []=>0
  | f::l=>if dcErr f≠0 then dcErr f else dFirst l
def vSum (l:List Field):Nat:=(l.map fun f=>f.value.length).sum
theorem vSum_app (a c:List Field):vSum (a++c)=vSum a+vSum c:=by simp[vSum]
theorem parse_sumG:∀(n:Nat) (out:List Field) (x:List UInt8),x.length≤n→vSum (parse out x).1≤vSum out+x.length:=by
  intro n
  induction n with
  | zero=>intro out x hx;rw[parse,dif_pos (by omega)];simp
  | succ n ih =>
    intro out x hx
    rw[parse]
    split
    · simp
    · rename_i h1
      have e1:=pcVR_len (x.drop 1);have e2:=drop1_lt h1
      split
      · simp[vSum]
      · split
        · simp[vSum]
        · split
          · simp[vSum]
          · refine Nat.le_trans (ih _ _ (by omega)) ?_
            rw[vSum_app]
            simp only[vSum,List.map_cons,List.map_nil,List.sum_cons,List.sum_nil];omega
theorem parse_sum (b:List UInt8):vSum (parse [] b).1≤b.length:=by have:=parse_sumG b.length [] b (Nat.le_refl _);simpa [vSum] using this
theorem unpk_lenG:∀(n:Nat) (out:List (List UInt8)) (x:List UInt8),x.length≤n→(unpk out x).1.length≤out.length+x.length:=by
  intro n
  induction n with
  | zero=>intro out x hx;rw[unpk,dif_pos (by omega)];simp
  | succ n ih =>
    intro out x hx
    rw[unpk]
    split
    · simp
    · rename_i h1
      have:=pcR_lt h1
      split
      · simp
      · refine Nat.le_trans (ih _ _ (by omega)) ?_
        simp only[List.length_append,List.length_cons,List.length_nil];omega
theorem unpk_len (x:List UInt8):(unpk [] x).1.length≤x.length:=by have:=unpk_lenG x.length [] x (Nat.le_refl _);simpa using this
theorem unpk_valG:∀(n:Nat) (out:List (List UInt8)) (x:List UInt8) (m:Nat),x.length≤n→x.length≤m→(∀ y∈out,y.length≤m)→∀ y∈(unpk out x).1,y.length≤m:=by
  intro n
  induction n with
  | zero=>intro out x m hx _ ho;rw[unpk,dif_pos (by omega)];exact ho
  | succ n ih =>
    intro out x m hx hm ho
    rw[unpk]
    split
    · exact ho
    · rename_i h1
      have e1:=pcR_lt h1
      have e2:=pcVR_len x
      split
      · simp
      · refine ih _ _ m (by omega) (by omega) fun y hy => ?_
        rcases List.mem_append.1 hy with hy | hy
        · exact ho y hy
        · rw[List.mem_singleton.1 hy];omega
theorem unpk_val {x y:List UInt8} (hy:y∈(unpk [] x).1):y.length≤x.length:=unpk_valG x.length [] x x.length (Nat.le_refl _) (Nat.le_refl _) (fun _ h=>by simp at h) y hy
structure DJ (b:List UInt8) (l:List Field) (k:Nat):Prop where
  le:k≤l.length
  fi:dFirst l=dFirst (l.drop k)
  ky:(dTo l k).key.length≤vSum (l.take k)
  vl:(dTo l k).value.length≤vSum (l.take k)
  tn:(dTo l k).turns.length≤vSum (l.take k)
  sm:vSum l≤b.length
section
variable {b:List UInt8} {l:List Field} {k m:Nat} {f:Field} {xs:List (List UInt8)} {T:List Turn}
theorem dTo_succ (hk:(k:Int)<l.length):dTo l (k+1)=dcSet (dTo l k) (l.getD (k:Int).toNat kF):=by
  unfold dTo
  rw[Int.toNat_natCast,List.take_add_one,List.getD_eq_getElem?_getD,List.getElem?_eq_getElem (by omega)]
  simp only[Option.toList,List.foldl_append,List.foldl_cons,List.foldl_nil,Option.getD_some]
theorem vSum_succ (hk:(k:Int)<l.length):vSum (l.take (k+1))=vSum (l.take k)+(l.getD (k:Int).toNat kF).value.length:=by
  rw[Int.toNat_natCast,List.take_add_one,vSum_app,List.getD_eq_getElem?_getD,List.getElem?_eq_getElem (by omega)];simp[vSum,Option.toList]
theorem vSum_take (l:List Field) (k:Nat):vSum (l.take k)≤vSum l:=by
  have:=vSum_app (l.take k) (l.drop k);rw[List.take_append_drop] at this;omega
theorem DJ.start:DJ b (parse [] b).1 0:=⟨Nat.zero_le _,rfl,Nat.zero_le _,Nat.zero_le _,Nat.zero_le _,parse_sum b⟩
theorem DJ.v (h:DJ b l k) (hk:(k:Int)<l.length):vSum (l.take k)+(l.getD (k:Int).toNat kF).value.length≤b.length:=by
  have:=vSum_succ hk;have:=vSum_take l (k+1);have:=h.sm;omega
theorem DJ.at (h:DJ b l k) (hk:(k:Int)<l.length):dFirst l=if dcErr (l.getD (k:Int).toNat kF)≠0 then dcErr (l.getD (k:Int).toNat kF) else dFirst (l.drop (k+1)):=by
  rw[h.fi,List.drop_eq_getElem_cons (by omega),dFirst,Int.toNat_natCast,List.getD_eq_getElem?_getD,List.getElem?_eq_getElem (by omega)];rfl
theorem DJ.next (h:DJ b l k) (hk:(k:Int)<l.length) (he:dcErr (l.getD (k:Int).toNat kF)=0):DJ b l (k+1)∧l.length - (k+1)<l.length - k:=by
  have hs:=vSum_succ hk
  have h1:=h.ky;have h2:=h.vl;have h3:=h.tn
  refine⟨⟨by omega,by rw[h.at hk,if_neg (by rw[he];decide)],?_,?_,?_,h.sm⟩,by omega⟩ <;> rw[dTo_succ hk,hs] <;> unfold dcSet
  · split
    · show(l.getD (k:Int).toNat kF).value.length≤_;omega
    · split
      · show(dTo l k).key.length≤_;omega
      · split
        · show(dTo l k).key.length≤_;omega
        · omega
  · split
    · show(dTo l k).value.length≤_;omega
    · split
      · show(l.getD (k:Int).toNat kF).value.length≤_;omega
      · split
        · show(dTo l k).value.length≤_;omega
        · omega
  · split
    · show(dTo l k).turns.length≤_;omega
    · split
      · show(dTo l k).turns.length≤_;omega
      · split
        · show ((dTo l k).turns ++ _).length ≤ _
          have:=unpk_len (l.getD (k:Int).toNat kF).value
          rw[List.length_append,List.length_map];omega
        · omega
theorem DJ.stop (h:DJ b l k) (hk:¬ (k:Int)<l.length):dFirst l=0∧k=l.length:=by
  have e:k=l.length:=by have:=h.le;omega
  refine⟨?_,e⟩
  rw[h.fi,List.drop_of_length_le (by omega)];rfl
def TJ (xs:List (List UInt8)) (m:Nat):Prop:=m≤xs.length∧tsFirst xs=tsFirst (xs.drop m)
theorem TJ.start:TJ xs 0:=⟨Nat.zero_le _,rfl⟩
theorem TJ.at (h:TJ xs m) (hk:(m:Int)<xs.length):tsFirst xs=if tnE (xs.getD (m:Int).toNat [])≠0 then tnE (xs.getD (m:Int).toNat []) else tsFirst (xs.drop (m+1)):=by
  rw[h.2,List.drop_eq_getElem_cons (by omega),tsFirst,Int.toNat_natCast,List.getD_eq_getElem?_getD,List.getElem?_eq_getElem (by omega)];rfl
theorem TJ.next (h:TJ xs m) (hk:(m:Int)<xs.length) (he:¬ tnE (xs.getD (m:Int).toNat [])≠0):TJ xs (m+1)∧xs.length - (m+1)<xs.length - m :=
  ⟨⟨by omega,by rw[h.at hk,if_neg he]⟩,by omega⟩
theorem TJ.hit (h:TJ xs m) (hk:(m:Int)<xs.length) (he:tnE (xs.getD (m:Int).toNat [])≠0):tsFirst xs=tnE (xs.getD (m:Int).toNat []):=by rw[h.at hk,if_pos he]
theorem TJ.stop (h:TJ xs m) (hk:¬ (m:Int)<xs.length):tsFirst xs=0:=by rw[h.2,List.drop_of_length_le (by omega)];rfl
theorem TJ.add (hk:(m:Int)<xs.length) {t:Turn} (ht:t=tnV (xs.getD (m:Int).toNat [])):T++(xs.take m).map tnV++[t]=T++(xs.take (m+1)).map tnV:=by
  rw[ht,Int.toNat_natCast,List.take_add_one,List.getD_eq_getElem?_getD,List.getElem?_eq_getElem (by omega)]
  simp only[Option.toList,List.map_append,List.map_cons,List.map_nil,Option.getD_some,List.append_assoc]
theorem TJ.zero:T=T++(xs.take 0).map tnV:=by simp
theorem DJ.k2 (hD:DJ b l k) (hb:b.length≤200000):(dTo l k).key.length≤200000:=by have:=hD.ky;have:=vSum_take l k;have:=hD.sm;omega
theorem DJ.v2 (hD:DJ b l k) (hb:b.length≤200000):(dTo l k).value.length≤200000:=by have:=hD.vl;have:=vSum_take l k;have:=hD.sm;omega
theorem DJ.t2 (hD:DJ b l k) (hb:b.length≤200000):(dTo l k).turns.length≤1000000:=by have:=hD.tn;have:=vSum_take l k;have:=hD.sm;omega
end
def kMin (n:UInt64):UInt8:=(if 255<n then 255 else n:UInt64).toUInt8
def gErr (f:Field):Int:=if f.tag=1 then valE f.value else if f.tag=2 then(if(f.value.length:Int)≠32 then 7 else 0) else if f.tag=3 then 0 else if f.tag=4 then 0 else if f.tag=5 then valE f.value else if f.tag=6 then valE f.value else 8
def gSet (t:Token) (f:Field):Token:=if f.tag=1 then⟨kMin (valV f.value),t.hash,t.key,t.value,t.height,t.size⟩ else if f.tag=2 then⟨t.kind,mk32 f.value,t.key,t.value,t.height,t.size⟩ else if f.tag=3 then⟨t.kind,t.hash,f.value,t.value,t.height,t.size⟩ else if f.tag=4 then⟨t.kind,t.hash,t.key,f.value,t.height,t.size⟩ else if f.tag=5 then⟨t.kind,t.hash,t.key,t.value,hMin (valV f.value),t.size⟩ else if f.tag=6 then⟨t.kind,t.hash,t.key,t.value,t.height,valV f.value⟩ else t
def gTo (l:List Field) (k:Nat):Token:=(l.take k).foldl gSet kT0
theorem gTo_succ {l:List Field} {k:Nat} (hk:(k:Int)<l.length):gTo l (k+1)=gSet (gTo l k) (l.getD (k:Int).toNat kF):=by
  unfold gTo
  rw[Int.toNat_natCast,List.take_add_one,List.getD_eq_getElem?_getD,List.getElem?_eq_getElem (by omega)]
  simp only[Option.toList,List.foldl_append,List.foldl_cons,List.foldl_nil,Option.getD_some]
def gFirst:List Field→Int
  | []=>0
  | f::l=>if gErr f≠0 then gErr f else gFirst l
def tdE (b:List UInt8):Int:=if(parse [] b).2≠0 then(parse [] b).2 else gFirst (parse [] b).1
def tdV (b:List UInt8):Token:=if(parse [] b).2≠0 then kT0 else if gFirst (parse [] b).1≠0 then kT0 else gTo (parse [] b).1 (parse [] b).1.length
def GJ (l:List Field) (k:Nat):Prop:=k≤l.length∧gFirst l=gFirst (l.drop k)
section
variable {b:List UInt8} {l:List Field} {k:Nat} {f:Field} {e:Int}
theorem GJ.start:GJ l 0:=⟨Nat.zero_le _,rfl⟩
theorem GJ.at (h:GJ l k) (hk:(k:Int)<l.length):gFirst l=if gErr (l.getD (k:Int).toNat kF)≠0 then gErr (l.getD (k:Int).toNat kF) else gFirst (l.drop (k+1)):=by
  rw[h.2,List.drop_eq_getElem_cons (by omega),gFirst,Int.toNat_natCast,List.getD_eq_getElem?_getD,List.getElem?_eq_getElem (by omega)];rfl
theorem GJ.next (h:GJ l k) (hk:(k:Int)<l.length) (he:gErr (l.getD (k:Int).toNat kF)=0):GJ l (k+1)∧l.length - (k+1)<l.length - k:=by
  refine⟨⟨by omega,?_⟩,by omega⟩
  rw[h.at hk,if_neg (by rw[he];decide)]
theorem GJ.hit (h:GJ l k) (hk:(k:Int)<l.length) (he:gErr (l.getD (k:Int).toNat kF)=e) (h0:e≠0):gFirst l=e:=by
  rw[h.at hk,if_pos (by rw[he];exact h0),he]
theorem GJ.stop (h:GJ l k) (hk:¬ (k:Int)<l.length):gFirst l=0:=by
  rw[h.2,List.drop_of_length_le (by omega)];rfl
theorem gt1 (h:(parse [] b).2≠0):kT0=tdV b∧(parse [] b).2=tdE b:=by unfold tdV tdE;rw[if_pos h,if_pos h];exact⟨rfl,rfl⟩
theorem gt2 (h:¬ (parse [] b).2≠0) (hF:GJ (parse [] b).1 k) (hk:(k:Int)<(parse [] b).1.length) (he:gErr ((parse [] b).1.getD (k:Int).toNat kF)=e) (h0:e≠0):kT0=tdV b∧e=tdE b:=by
  have h1:=hF.hit hk he h0
  unfold tdV tdE;rw[if_neg h,if_neg h,if_pos (by rw[h1];exact h0)];exact⟨rfl,h1.symm⟩
theorem gt3 (h:¬ (parse [] b).2≠0) (hF:GJ (parse [] b).1 k) (hk:¬ (k:Int)<(parse [] b).1.length):gTo (parse [] b).1 k=tdV b∧0=tdE b:=by
  have h1:=hF.stop hk
  have e:k=(parse [] b).1.length:=by have:=hF.1;omega
  unfold tdV tdE;rw[if_neg h,if_neg h,if_neg (fun z=>z h1),h1,e];exact⟨rfl,rfl⟩
theorem ge1  (h1:f.tag=1):gErr f=valE f.value:=by unfold gErr;rw[if_pos h1]
theorem ge3 (h1:¬ f.tag=1) (h2:¬ f.tag=2) (h3:f.tag=3):gErr f=0:=by unfold gErr;rw[if_neg h1,if_neg h2,if_pos h3]
theorem ge4 (h1:¬ f.tag=1) (h2:¬ f.tag=2) (h3:¬ f.tag=3) (h4:f.tag=4):gErr f=0:=by unfold gErr;rw[if_neg h1,if_neg h2,if_neg h3,if_pos h4]
theorem ge5 (h1:¬ f.tag=1) (h2:¬ f.tag=2) (h3:¬ f.tag=3) (h4:¬ f.tag=4) (h5:f.tag=5):gErr f=valE f.value:=by unfold gErr;rw[if_neg h1,if_neg h2,if_neg h3,if_neg h4,if_pos h5]
theorem ge6 (h1:¬ f.tag=1) (h2:¬ f.tag=2) (h3:¬ f.tag=3) (h4:¬ f.tag=4) (h5:¬ f.tag=5) (h6:f.tag=6):gErr f=valE f.value:=by unfold gErr;rw[if_neg h1,if_neg h2,if_neg h3,if_neg h4,if_neg h5,if_pos h6]
theorem ge7 (h1:¬ f.tag=1) (h2:¬ f.tag=2) (h3:¬ f.tag=3) (h4:¬ f.tag=4) (h5:¬ f.tag=5) (h6:¬ f.tag=6):gErr f=8:=by unfold gErr;rw[if_neg h1,if_neg h2,if_neg h3,if_neg h4,if_neg h5,if_neg h6]
theorem ge2 (h1:¬ f.tag=1) (h2:f.tag=2) (hv:(f.value.length:Int)≠32):gErr f=7:=by unfold gErr;rw[if_neg h1,if_pos h2,if_pos hv]
theorem ge2a (h1:¬ f.tag=1) (h2:f.tag=2) (hv:¬ (f.value.length:Int)≠32):gErr f=0:=by unfold gErr;rw[if_neg h1,if_pos h2,if_neg hv]
theorem gs1 (hk:(k:Int)<l.length)  (h1:(l.getD (k:Int).toNat kF).tag=1):gTo l (k+1)=⟨kMin (valV (l.getD (k:Int).toNat kF).value),(gTo l k).hash,(gTo l k).key,(gTo l k).value,(gTo l k).height,(gTo l k).size⟩:=by rw[gTo_succ hk,gSet,if_pos h1]
theorem gs2 (hk:(k:Int)<l.length) (h1:¬ (l.getD (k:Int).toNat kF).tag=1) (h2:(l.getD (k:Int).toNat kF).tag=2):gTo l (k+1)=⟨(gTo l k).kind,mk32 (l.getD (k:Int).toNat kF).value,(gTo l k).key,(gTo l k).value,(gTo l k).height,(gTo l k).size⟩:=by rw[gTo_succ hk,gSet,if_neg h1,if_pos h2]
theorem gs3 (hk:(k:Int)<l.length) (h1:¬ (l.getD (k:Int).toNat kF).tag=1) (h2:¬ (l.getD (k:Int).toNat kF).tag=2) (h3:(l.getD (k:Int).toNat kF).tag=3):gTo l (k+1)=⟨(gTo l k).kind,(gTo l k).hash,(l.getD (k:Int).toNat kF).value,(gTo l k).value,(gTo l k).height,(gTo l k).size⟩:=by rw[gTo_succ hk,gSet,if_neg h1,if_neg h2,if_pos h3]
theorem gs4 (hk:(k:Int)<l.length) (h1:¬ (l.getD (k:Int).toNat kF).tag=1) (h2:¬ (l.getD (k:Int).toNat kF).tag=2) (h3:¬ (l.getD (k:Int).toNat kF).tag=3) (h4:(l.getD (k:Int).toNat kF).tag=4):gTo l (k+1)=⟨(gTo l k).kind,(gTo l k).hash,(gTo l k).key,(l.getD (k:Int).toNat kF).value,(gTo l k).height,(gTo l k).size⟩:=by rw[gTo_succ hk,gSet,if_neg h1,if_neg h2,if_neg h3,if_pos h4]
theorem gs5 (hk:(k:Int)<l.length) (h1:¬ (l.getD (k:Int).toNat kF).tag=1) (h2:¬ (l.getD (k:Int).toNat kF).tag=2) (h3:¬ (l.getD (k:Int).toNat kF).tag=3) (h4:¬ (l.getD (k:Int).toNat kF).tag=4) (h5:(l.getD (k:Int).toNat kF).tag=5):gTo l (k+1)=⟨(gTo l k).kind,(gTo l k).hash,(gTo l k).key,(gTo l k).value,hMin (valV (l.getD (k:Int).toNat kF).value),(gTo l k).size⟩:=by rw[gTo_succ hk,gSet,if_neg h1,if_neg h2,if_neg h3,if_neg h4,if_pos h5]
theorem gs6 (hk:(k:Int)<l.length) (h1:¬ (l.getD (k:Int).toNat kF).tag=1) (h2:¬ (l.getD (k:Int).toNat kF).tag=2) (h3:¬ (l.getD (k:Int).toNat kF).tag=3) (h4:¬ (l.getD (k:Int).toNat kF).tag=4) (h5:¬ (l.getD (k:Int).toNat kF).tag=5) (h6:(l.getD (k:Int).toNat kF).tag=6):gTo l (k+1)=⟨(gTo l k).kind,(gTo l k).hash,(gTo l k).key,(gTo l k).value,(gTo l k).height,valV (l.getD (k:Int).toNat kF).value⟩:=by rw[gTo_succ hk,gSet,if_neg h1,if_neg h2,if_neg h3,if_neg h4,if_neg h5,if_pos h6]
theorem kMin_eq (n:UInt64):(if 255<n then 255 else n:UInt64).toUInt8=kMin n:=rfl
theorem GJ.i64 (h:(k:Int)<(parse [] b).1.length) (hl:b.length≤900000):I64 ((k:Int)+1):=by have:=parse_len b;unfold I64;omega
end
noncomputable def ccTK3_33:Code:=(Tryd.f33.body).getD .skip
theorem token_ok (b:List UInt8) (hlb:b.length≤900000):FOk EN 33 ⟨[.rd 5 (b)],[.n 0],Unit,fun _=>([.rd 5 (b),.rd 5 ((tdV b).key),.rd 5 ((tdV b).value)],.t [.a [.c (tdV b).kind,.h 32 (tdV b).hash.l,.n 1,.n 2,.i (tdV b).height,.u (tdV b).size],.i (tdE b)]),fun _=>True⟩:=by
 refine v_fun Tryd.f33 ccTK3_33 MX (fun ν F σ w=>?_) Tryd.func33
 refine v_nl ?_
 refine v_call _ [0] (parse_ok (b) ‹_›) ((b=b)) rfl (fun g1 p2=>?_)
 have p2:True:=p2
 refine v_if (decide ((parse [] b).snd≠0)) True trivial (fun h3=>?_) (fun h3=>?_)
 ·have h3:=of_decide_eq_true h3
  exact v_ret () [1,1] ((0=(tdV b).kind)∧(List.replicate 32 0=(tdV b).hash.l)∧(0=(tdV b).height)∧(0=(tdV b).size)∧((parse [] b).snd=tdE b)∧(b=b)∧([]=(tdV b).key)∧([]=(tdV b).value)) ⟨(by(rw[← (gt1 ‹_›).1] <;> rfl)),(by(rw[← (gt1 ‹_›).1] <;> rfl)),(by(rw[← (gt1 ‹_›).1] <;> rfl)),(by(rw[← (gt1 ‹_›).1] <;> rfl)),(by exact(gt1 ‹_›).2),rfl,(by(rw[← (gt1 ‹_›).1] <;> rfl)),(by(rw[← (gt1 ‹_›).1] <;> rfl))⟩ trivial
 ·have h3:=of_decide_eq_false h3
  refine v_loop (fun k:Nat=>([(22,.i k),(6,.p 5 0)],[.bx 32 [.c (gTo (parse [] b).1 k).kind,.h 32 (gTo (parse [] b).1 k).hash.l,.n 6,.n 7,.i (gTo (parse [] b).1 k).height,.u (gTo (parse [] b).1 k).size],.rd 5 ((gTo (parse [] b).1 k).key),.rd 5 ((gTo (parse [] b).1 k).value)])) (fun k=>GJ (parse [] b).1 k) (fun k=>(parse [] b).1.length - k) 0 [4,1,1] (((0:Int)=(↑(0:Nat):Int))∧(0=(gTo (parse [] b).fst 0).kind)∧(List.replicate 32 0=(gTo (parse [] b).fst 0).hash.l)∧(0=(gTo (parse [] b).fst 0).height)∧(0=(gTo (parse [] b).fst 0).size)∧([]=(gTo (parse [] b).fst 0).key)∧([]=(gTo (parse [] b).fst 0).value)) ⟨rfl,rfl,rfl,rfl,rfl,rfl,rfl⟩ (by exact GJ.start) (fun k hk4=>?_)
  refine v_if (decide ((↑k:Int)<(↑(parse [] b).fst.length:Int))) True trivial (fun h5=>?_) (fun h5=>?_)
  ·have h5:=of_decide_eq_true h5
   refine v_call _ [8] (value_ok ((pF b k).value)) ((0≤(↑k:Int)∧(↑k:Int)<(↑(parse [] b).fst.length:Int))∧((pF b k).value=(pF b k).value)) ⟨(by omega),rfl⟩ (fun g6 p7=>?_)
   have p7:True:=p7
   refine v_if (decide ((pF b k).tag=1)) True trivial (fun h8=>?_) (fun h8=>?_)
   ·have h8:=of_decide_eq_true h8
    refine v_if (decide (valE (pF b k).value≠0)) True trivial (fun h9=>?_) (fun h9=>?_)
    ·have h9:=of_decide_eq_true h9
     refine v_leave .rt True trivial ?_
     exact v_ret () [1,1] ((0=(tdV b).kind)∧(List.replicate 32 0=(tdV b).hash.l)∧(0=(tdV b).height)∧(0=(tdV b).size)∧(valE (pF b k).value=tdE b)∧(b=b)∧([]=(tdV b).key)∧([]=(tdV b).value)) ⟨(by(rw[← (gt2 (b:=b) (k:=k) ‹_› ‹_› ‹_› (ge1 ‹_›) ‹_›).1] <;> rfl)),(by(rw[← (gt2 (b:=b) (k:=k) ‹_› ‹_› ‹_› (ge1 ‹_›) ‹_›).1] <;> rfl)),(by(rw[← (gt2 (b:=b) (k:=k) ‹_› ‹_› ‹_› (ge1 ‹_›) ‹_›).1] <;> rfl)),(by(rw[← (gt2 (b:=b) (k:=k) ‹_› ‹_› ‹_› (ge1 ‹_›) ‹_›).1] <;> rfl)),(by exact(gt2 ‹_› ‹_› ‹_› (ge1 ‹_›) ‹_›).2),rfl,(by(rw[← (gt2 (b:=b) (k:=k) ‹_› ‹_› ‹_› (ge1 ‹_›) ‹_›).1] <;> rfl)),(by(rw[← (gt2 (b:=b) (k:=k) ‹_› ‹_› ‹_› (ge1 ‹_›) ‹_›).1] <;> rfl))⟩ trivial
    ·have h9:=of_decide_eq_false h9
     exact v_back (k+1) [5,6,7] ((I64 (↑k+1))∧((↑k:Int)+1=(↑(k+1):Int))∧((if 255<valV (pF b k).value then 255 else valV (pF b k).value).toUInt8=(gTo (parse [] b).fst (k+1)).kind)∧((gTo (parse [] b).fst k).hash.l=(gTo (parse [] b).fst (k+1)).hash.l)∧((gTo (parse [] b).fst k).height=(gTo (parse [] b).fst (k+1)).height)∧((gTo (parse [] b).fst k).size=(gTo (parse [] b).fst (k+1)).size)∧((gTo (parse [] b).fst k).key=(gTo (parse [] b).fst (k+1)).key)∧((gTo (parse [] b).fst k).value=(gTo (parse [] b).fst (k+1)).value)) ⟨(by exact GJ.i64 ‹_› ‹_›),rfl,(by(rw[gs1 ‹_› ‹_›];exact kMin_eq _)),(by(rw[gs1 ‹_› ‹_›])),(by(rw[gs1 ‹_› ‹_›])),(by(rw[gs1 ‹_› ‹_›])),(by(rw[gs1 ‹_› ‹_›])),(by(rw[gs1 ‹_› ‹_›]))⟩ (show GJ (parse [] b).fst (k+1)∧(parse [] b).fst.length - (k+1)<(parse [] b).fst.length - k from(by exact GJ.next ‹_› ‹_› ((ge1 ‹_›).trans (nn ‹_›))))
   ·have h8:=of_decide_eq_false h8
    refine v_if (decide ((pF b k).tag=2)) True trivial (fun h10=>?_) (fun h10=>?_)
    ·have h10:=of_decide_eq_true h10
     refine v_if (decide ((↑(pF b k).value.length:Int)≠32)) True trivial (fun h11=>?_) (fun h11=>?_)
     ·have h11:=of_decide_eq_true h11
      refine v_leave .rt True trivial ?_
      exact v_ret () [1,1] ((0=(tdV b).kind)∧(List.replicate 32 0=(tdV b).hash.l)∧(0=(tdV b).height)∧(0=(tdV b).size)∧(7=tdE b)∧(b=b)∧([]=(tdV b).key)∧([]=(tdV b).value)) ⟨(by(rw[← (gt2 (b:=b) (k:=k) ‹_› ‹_› ‹_› (ge2 ‹_› ‹_› ‹_›) (by decide)).1] <;> rfl)),(by(rw[← (gt2 (b:=b) (k:=k) ‹_› ‹_› ‹_› (ge2 ‹_› ‹_› ‹_›) (by decide)).1] <;> rfl)),(by(rw[← (gt2 (b:=b) (k:=k) ‹_› ‹_› ‹_› (ge2 ‹_› ‹_› ‹_›) (by decide)).1] <;> rfl)),(by(rw[← (gt2 (b:=b) (k:=k) ‹_› ‹_› ‹_› (ge2 ‹_› ‹_› ‹_›) (by decide)).1] <;> rfl)),(by exact(gt2 ‹_› ‹_› ‹_› (ge2 ‹_› ‹_› ‹_›) (by decide)).2),rfl,(by(rw[← (gt2 (b:=b) (k:=k) ‹_› ‹_› ‹_› (ge2 ‹_› ‹_› ‹_›) (by decide)).1] <;> rfl)),(by(rw[← (gt2 (b:=b) (k:=k) ‹_› ‹_› ‹_› (ge2 ‹_› ‹_› ‹_›) (by decide)).1] <;> rfl))⟩ trivial
     ·have h11:=of_decide_eq_false h11
      refine v_if (decide ((0:Int)≠(0:Int))) ((0<32∧32≤(pF b k).value.length)) (by omega) (fun h12=>?_) (fun h12=>?_)
      ·have h12:=of_decide_eq_true h12
       omega
      ·have h12:=of_decide_eq_false h12
       exact v_back (k+1) [5,6,7] ((I64 (↑k+1))∧((↑k:Int)+1=(↑(k+1):Int))∧((gTo (parse [] b).fst k).kind=(gTo (parse [] b).fst (k+1)).kind)∧(List.take 32 (pF b k).value=(gTo (parse [] b).fst (k+1)).hash.l)∧((gTo (parse [] b).fst k).height=(gTo (parse [] b).fst (k+1)).height)∧((gTo (parse [] b).fst k).size=(gTo (parse [] b).fst (k+1)).size)∧((gTo (parse [] b).fst k).key=(gTo (parse [] b).fst (k+1)).key)∧((gTo (parse [] b).fst k).value=(gTo (parse [] b).fst (k+1)).value)) ⟨(by exact GJ.i64 ‹_› ‹_›),rfl,(by(rw[gs2 ‹_› ‹_› ‹_›])),(by(rw[gs2 ‹_› ‹_› ‹_›];exact tk32 ‹_›)),(by(rw[gs2 ‹_› ‹_› ‹_›])),(by(rw[gs2 ‹_› ‹_› ‹_›])),(by(rw[gs2 ‹_› ‹_› ‹_›])),(by(rw[gs2 ‹_› ‹_› ‹_›]))⟩ (show GJ (parse [] b).fst (k+1)∧(parse [] b).fst.length - (k+1)<(parse [] b).fst.length - k from(by exact GJ.next ‹_› ‹_› (ge2a ‹_› ‹_› ‹_›)))
    ·have h10:=of_decide_eq_false h10
     refine v_if (decide ((pF b k).tag=3)) True trivial (fun h13=>?_) (fun h13=>?_)
     ·have h13:=of_decide_eq_true h13
      refine v_if (decide ((0:Int)≠(0:Int))) True trivial (fun h14=>?_) (fun h14=>?_)
      ·have h14:=of_decide_eq_true h14
       omega
      ·have h14:=of_decide_eq_false h14
       exact v_back (k+1) [5,8,7] ((I64 (↑k+1))∧((↑k:Int)+1=(↑(k+1):Int))∧((gTo (parse [] b).fst k).kind=(gTo (parse [] b).fst (k+1)).kind)∧((gTo (parse [] b).fst k).hash.l=(gTo (parse [] b).fst (k+1)).hash.l)∧((gTo (parse [] b).fst k).height=(gTo (parse [] b).fst (k+1)).height)∧((gTo (parse [] b).fst k).size=(gTo (parse [] b).fst (k+1)).size)∧((pF b k).value=(gTo (parse [] b).fst (k+1)).key)∧((gTo (parse [] b).fst k).value=(gTo (parse [] b).fst (k+1)).value)) ⟨(by exact GJ.i64 ‹_› ‹_›),rfl,(by(rw[gs3 ‹_› ‹_› ‹_› ‹_›])),(by(rw[gs3 ‹_› ‹_› ‹_› ‹_›])),(by(rw[gs3 ‹_› ‹_› ‹_› ‹_›])),(by(rw[gs3 ‹_› ‹_› ‹_› ‹_›])),(by(rw[gs3 ‹_› ‹_› ‹_› ‹_›])),(by(rw[gs3 ‹_› ‹_› ‹_› ‹_›]))⟩ (show GJ (parse [] b).fst (k+1)∧(parse [] b).fst.length - (k+1)<(parse [] b).fst.length - k from(by exact GJ.next ‹_› ‹_› (ge3 ‹_› ‹_› ‹_›)))
     ·have h13:=of_decide_eq_false h13
      refine v_if (decide ((pF b k).tag=4)) True trivial (fun h15=>?_) (fun h15=>?_)
      ·have h15:=of_decide_eq_true h15
       refine v_if (decide ((0:Int)≠(0:Int))) True trivial (fun h16=>?_) (fun h16=>?_)
       ·have h16:=of_decide_eq_true h16
        omega
       ·have h16:=of_decide_eq_false h16
        exact v_back (k+1) [5,6,8] ((I64 (↑k+1))∧((↑k:Int)+1=(↑(k+1):Int))∧((gTo (parse [] b).fst k).kind=(gTo (parse [] b).fst (k+1)).kind)∧((gTo (parse [] b).fst k).hash.l=(gTo (parse [] b).fst (k+1)).hash.l)∧((gTo (parse [] b).fst k).height=(gTo (parse [] b).fst (k+1)).height)∧((gTo (parse [] b).fst k).size=(gTo (parse [] b).fst (k+1)).size)∧((gTo (parse [] b).fst k).key=(gTo (parse [] b).fst (k+1)).key)∧((pF b k).value=(gTo (parse [] b).fst (k+1)).value)) ⟨(by exact GJ.i64 ‹_› ‹_›),rfl,(by(rw[gs4 ‹_› ‹_› ‹_› ‹_› ‹_›])),(by(rw[gs4 ‹_› ‹_› ‹_› ‹_› ‹_›])),(by(rw[gs4 ‹_› ‹_› ‹_› ‹_› ‹_›])),(by(rw[gs4 ‹_› ‹_› ‹_› ‹_› ‹_›])),(by(rw[gs4 ‹_› ‹_› ‹_› ‹_› ‹_›])),(by(rw[gs4 ‹_› ‹_› ‹_› ‹_› ‹_›]))⟩ (show GJ (parse [] b).fst (k+1)∧(parse [] b).fst.length - (k+1)<(parse [] b).fst.length - k from(by exact GJ.next ‹_› ‹_› (ge4 ‹_› ‹_› ‹_› ‹_›)))
      ·have h15:=of_decide_eq_false h15
       refine v_if (decide ((pF b k).tag=5)) True trivial (fun h17=>?_) (fun h17=>?_)
       ·have h17:=of_decide_eq_true h17
        refine v_if (decide (valE (pF b k).value≠0)) (((if 1048576<valV (pF b k).value then 1048576 else valV (pF b k).value)<9223372036854775808)) (by exact hMin_lt _) (fun h18=>?_) (fun h18=>?_)
        ·have h18:=of_decide_eq_true h18
         refine v_leave .rt True trivial ?_
         exact v_ret () [1,1] ((0=(tdV b).kind)∧(List.replicate 32 0=(tdV b).hash.l)∧(0=(tdV b).height)∧(0=(tdV b).size)∧(valE (pF b k).value=tdE b)∧(b=b)∧([]=(tdV b).key)∧([]=(tdV b).value)) ⟨(by(rw[← (gt2 (b:=b) (k:=k) ‹_› ‹_› ‹_› (ge5 ‹_› ‹_› ‹_› ‹_› ‹_›) ‹_›).1] <;> rfl)),(by(rw[← (gt2 (b:=b) (k:=k) ‹_› ‹_› ‹_› (ge5 ‹_› ‹_› ‹_› ‹_› ‹_›) ‹_›).1] <;> rfl)),(by(rw[← (gt2 (b:=b) (k:=k) ‹_› ‹_› ‹_› (ge5 ‹_› ‹_› ‹_› ‹_› ‹_›) ‹_›).1] <;> rfl)),(by(rw[← (gt2 (b:=b) (k:=k) ‹_› ‹_› ‹_› (ge5 ‹_› ‹_› ‹_› ‹_› ‹_›) ‹_›).1] <;> rfl)),(by exact(gt2 ‹_› ‹_› ‹_› (ge5 ‹_› ‹_› ‹_› ‹_› ‹_›) ‹_›).2),rfl,(by(rw[← (gt2 (b:=b) (k:=k) ‹_› ‹_› ‹_› (ge5 ‹_› ‹_› ‹_› ‹_› ‹_›) ‹_›).1] <;> rfl)),(by(rw[← (gt2 (b:=b) (k:=k) ‹_› ‹_› ‹_› (ge5 ‹_› ‹_› ‹_› ‹_› ‹_›) ‹_›).1] <;> rfl))⟩ trivial
        ·have h18:=of_decide_eq_false h18
         exact v_back (k+1) [5,6,7] ((I64 (↑k+1))∧((↑k:Int)+1=(↑(k+1):Int))∧((gTo (parse [] b).fst k).kind=(gTo (parse [] b).fst (k+1)).kind)∧((gTo (parse [] b).fst k).hash.l=(gTo (parse [] b).fst (k+1)).hash.l)∧((↑(if 1048576<valV (pF b k).value then 1048576 else valV (pF b k).value).toNat:Int)=(gTo (parse [] b).fst (k+1)).height)∧((gTo (parse [] b).fst k).size=(gTo (parse [] b).fst (k+1)).size)∧((gTo (parse [] b).fst k).key=(gTo (parse [] b).fst (k+1)).key)∧((gTo (parse [] b).fst k).value=(gTo (parse [] b).fst (k+1)).value)) ⟨(by exact GJ.i64 ‹_› ‹_›),rfl,(by(rw[gs5 ‹_› ‹_› ‹_› ‹_› ‹_› ‹_›])),(by(rw[gs5 ‹_› ‹_› ‹_› ‹_› ‹_› ‹_›])),(by(rw[gs5 ‹_› ‹_› ‹_› ‹_› ‹_› ‹_›];exact hMin_eq _)),(by(rw[gs5 ‹_› ‹_› ‹_› ‹_› ‹_› ‹_›])),(by(rw[gs5 ‹_› ‹_› ‹_› ‹_› ‹_› ‹_›])),(by(rw[gs5 ‹_› ‹_› ‹_› ‹_› ‹_› ‹_›]))⟩ (show GJ (parse [] b).fst (k+1)∧(parse [] b).fst.length - (k+1)<(parse [] b).fst.length - k from(by exact GJ.next ‹_› ‹_› ((ge5 ‹_› ‹_› ‹_› ‹_› ‹_›).trans (nn ‹_›))))
       ·have h17:=of_decide_eq_false h17
        refine v_if (decide ((pF b k).tag=6)) True trivial (fun h19=>?_) (fun h19=>?_)
        ·have h19:=of_decide_eq_true h19
         refine v_if (decide (valE (pF b k).value≠0)) True trivial (fun h20=>?_) (fun h20=>?_)
         ·have h20:=of_decide_eq_true h20
          refine v_leave .rt True trivial ?_
          exact v_ret () [1,1] ((0=(tdV b).kind)∧(List.replicate 32 0=(tdV b).hash.l)∧(0=(tdV b).height)∧(0=(tdV b).size)∧(valE (pF b k).value=tdE b)∧(b=b)∧([]=(tdV b).key)∧([]=(tdV b).value)) ⟨(by(rw[← (gt2 (b:=b) (k:=k) ‹_› ‹_› ‹_› (ge6 ‹_› ‹_› ‹_› ‹_› ‹_› ‹_›) ‹_›).1] <;> rfl)),(by(rw[← (gt2 (b:=b) (k:=k) ‹_› ‹_› ‹_› (ge6 ‹_› ‹_› ‹_› ‹_› ‹_› ‹_›) ‹_›).1] <;> rfl)),(by(rw[← (gt2 (b:=b) (k:=k) ‹_› ‹_› ‹_› (ge6 ‹_› ‹_› ‹_› ‹_› ‹_› ‹_›) ‹_›).1] <;> rfl)),(by(rw[← (gt2 (b:=b) (k:=k) ‹_› ‹_› ‹_› (ge6 ‹_› ‹_› ‹_› ‹_› ‹_› ‹_›) ‹_›).1] <;> rfl)),(by exact(gt2 ‹_› ‹_› ‹_› (ge6 ‹_› ‹_› ‹_› ‹_› ‹_› ‹_›) ‹_›).2),rfl,(by(rw[← (gt2 (b:=b) (k:=k) ‹_› ‹_› ‹_› (ge6 ‹_› ‹_› ‹_› ‹_› ‹_› ‹_›) ‹_›).1] <;> rfl)),(by(rw[← (gt2 (b:=b) (k:=k) ‹_› ‹_› ‹_› (ge6 ‹_› ‹_› ‹_› ‹_› ‹_› ‹_›) ‹_›).1] <;> rfl))⟩ trivial
         ·have h20:=of_decide_eq_false h20
          exact v_back (k+1) [5,6,7] ((I64 (↑k+1))∧((↑k:Int)+1=(↑(k+1):Int))∧((gTo (parse [] b).fst k).kind=(gTo (parse [] b).fst (k+1)).kind)∧((gTo (parse [] b).fst k).hash.l=(gTo (parse [] b).fst (k+1)).hash.l)∧((gTo (parse [] b).fst k).height=(gTo (parse [] b).fst (k+1)).height)∧(valV (pF b k).value=(gTo (parse [] b).fst (k+1)).size)∧((gTo (parse [] b).fst k).key=(gTo (parse [] b).fst (k+1)).key)∧((gTo (parse [] b).fst k).value=(gTo (parse [] b).fst (k+1)).value)) ⟨(by exact GJ.i64 ‹_› ‹_›),rfl,(by(rw[gs6 ‹_› ‹_› ‹_› ‹_› ‹_› ‹_› ‹_›])),(by(rw[gs6 ‹_› ‹_› ‹_› ‹_› ‹_› ‹_› ‹_›])),(by(rw[gs6 ‹_› ‹_› ‹_› ‹_› ‹_› ‹_› ‹_›])),(by(rw[gs6 ‹_› ‹_› ‹_› ‹_› ‹_› ‹_› ‹_›])),(by(rw[gs6 ‹_› ‹_› ‹_› ‹_› ‹_› ‹_› ‹_›])),(by(rw[gs6 ‹_› ‹_› ‹_› ‹_› ‹_› ‹_› ‹_›]))⟩ (show GJ (parse [] b).fst (k+1)∧(parse [] b).fst.length - (k+1)<(parse [] b).fst.length - k from(by exact GJ.next ‹_› ‹_› ((ge6 ‹_› ‹_› ‹_› ‹_› ‹_› ‹_›).trans (nn ‹_›))))
        ·have h19:=of_decide_eq_false h19
         refine v_if (decide ((8:Int)≠(0:Int))) True trivial (fun h21=>?_) (fun h21=>?_)
         ·have h21:=of_decide_eq_true h21
          refine v_leave .rt True trivial ?_
          exact v_ret () [1,1] ((0=(tdV b).kind)∧(List.replicate 32 0=(tdV b).hash.l)∧(0=(tdV b).height)∧(0=(tdV b).size)∧(8=tdE b)∧(b=b)∧([]=(tdV b).key)∧([]=(tdV b).value)) ⟨(by(rw[← (gt2 (b:=b) (k:=k) ‹_› ‹_› ‹_› (ge7 ‹_› ‹_› ‹_› ‹_› ‹_› ‹_›) (by decide)).1] <;> rfl)),(by(rw[← (gt2 (b:=b) (k:=k) ‹_› ‹_› ‹_› (ge7 ‹_› ‹_› ‹_› ‹_› ‹_› ‹_›) (by decide)).1] <;> rfl)),(by(rw[← (gt2 (b:=b) (k:=k) ‹_› ‹_› ‹_› (ge7 ‹_› ‹_› ‹_› ‹_› ‹_› ‹_›) (by decide)).1] <;> rfl)),(by(rw[← (gt2 (b:=b) (k:=k) ‹_› ‹_› ‹_› (ge7 ‹_› ‹_› ‹_› ‹_› ‹_› ‹_›) (by decide)).1] <;> rfl)),(by exact(gt2 ‹_› ‹_› ‹_› (ge7 ‹_› ‹_› ‹_› ‹_› ‹_› ‹_›) (by decide)).2),rfl,(by(rw[← (gt2 (b:=b) (k:=k) ‹_› ‹_› ‹_› (ge7 ‹_› ‹_› ‹_› ‹_› ‹_› ‹_›) (by decide)).1] <;> rfl)),(by(rw[← (gt2 (b:=b) (k:=k) ‹_› ‹_› ‹_› (ge7 ‹_› ‹_› ‹_› ‹_› ‹_› ‹_›) (by decide)).1] <;> rfl))⟩ trivial
         ·have h21:=of_decide_eq_false h21
          omega
  ·have h5:=of_decide_eq_false h5
   refine v_leave (.ex 0) True trivial ?_
   exact v_ret () [6,7] (((gTo (parse [] b).fst k).kind=(tdV b).kind)∧((gTo (parse [] b).fst k).hash.l=(tdV b).hash.l)∧((gTo (parse [] b).fst k).height=(tdV b).height)∧((gTo (parse [] b).fst k).size=(tdV b).size)∧(0=tdE b)∧(b=b)∧((gTo (parse [] b).fst k).key=(tdV b).key)∧((gTo (parse [] b).fst k).value=(tdV b).value)) ⟨(by(rw[← (gt3 (b:=b) (k:=k) ‹_› ‹_› ‹_›).1] <;> rfl)),(by(rw[← (gt3 (b:=b) (k:=k) ‹_› ‹_› ‹_›).1] <;> rfl)),(by(rw[← (gt3 (b:=b) (k:=k) ‹_› ‹_› ‹_›).1] <;> rfl)),(by(rw[← (gt3 (b:=b) (k:=k) ‹_› ‹_› ‹_›).1] <;> rfl)),(by exact(gt3 (b:=b) (k:=k) ‹_› ‹_› ‹_›).2),rfl,(by(rw[← (gt3 (b:=b) (k:=k) ‹_› ‹_› ‹_›).1] <;> rfl)),(by(rw[← (gt3 (b:=b) (k:=k) ‹_› ‹_› ‹_›).1] <;> rfl))⟩ trivial
def hFirst:List (List UInt8)→Int
  | []=>0
  | x::l=>if tdE x≠0 then tdE x else hFirst l
def deE (b:List UInt8):Int:=if 65536<b.length then 3 else if(unpk [] b).2≠0 then(unpk [] b).2 else if hFirst (unpk [] b).1≠0 then hFirst (unpk [] b).1 else if teE ((unpk [] b).1.map tdV)≠0 then teE ((unpk [] b).1.map tdV) else if teB ((unpk [] b).1.map tdV)≠b then 8 else 0
def deL (b:List UInt8):List Token:=if deE b≠0 then[] else(unpk [] b).1.map tdV
def HJ (xs:List (List UInt8)) (k:Nat):Prop:=k≤xs.length∧hFirst xs=hFirst (xs.drop k)
theorem gSet_s (t:Token) (f:Field):(gSet t f).key.length+(gSet t f).value.length≤t.key.length+t.value.length+f.value.length:=by
  unfold gSet
  repeat' split
  all_goals (try dsimp only)
  all_goals omega
theorem gTo_s (l:List Field):∀ k,(gTo l k).key.length+(gTo l k).value.length≤vSum l:=fun k=>by
  have key:∀(m:List Field) (t:Token),(m.foldl gSet t).key.length+(m.foldl gSet t).value.length≤t.key.length+t.value.length+vSum m:=by
    intro m
    induction m with
    | nil=>intro t;simp[vSum]
    | cons f m ih =>
      intro t
      have h1:=ih (gSet t f);have h2:=gSet_s t f
      have h3:vSum (f::m)=f.value.length+vSum m:=by simp[vSum]
      rw[List.foldl_cons];omega
  have h1:=key (l.take k) kT0
  have h2:vSum l=vSum (l.take k)+vSum (l.drop k):=by rw[← vSum_app,List.take_append_drop]
  simp only[List.length_nil] at h1
  unfold gTo;omega
theorem tdV_s (b:List UInt8):(tdV b).key.length+(tdV b).value.length≤b.length:=by
  unfold tdV
  split
  · exact Nat.zero_le _
  · split
    · exact Nat.zero_le _
    · exact Nat.le_trans (gTo_s _ _) (parse_sum b)
theorem unpk_sumG:∀(n:Nat) (out:List (List UInt8)) (x:List UInt8),x.length≤n→((unpk out x).1.map List.length).sum≤(out.map List.length).sum+x.length:=by
  intro n
  induction n with
  | zero=>intro out x hx;rw[unpk,dif_pos (by omega)];exact Nat.le_add_right _ _
  | succ n ih =>
    intro out x hx
    rw[unpk]
    split
    · exact Nat.le_add_right _ _
    · rename_i h1
      split
      · exact Nat.zero_le _
      · have := pcR_lt h1; have := pcVR_len x
        refine Nat.le_trans (ih _ _ (by omega)) ?_
        simp only[List.map_append,List.map_cons,List.map_nil,List.sum_append,List.sum_cons,List.sum_nil];omega
theorem unpk_sum (x:List UInt8):((unpk [] x).1.map List.length).sum≤x.length:=by have:=unpk_sumG x.length [] x (Nat.le_refl _);simpa using this
theorem tcS_td:∀ xs:List (List UInt8),tcS (xs.map tdV)≤(xs.map List.length).sum
  | []=>Nat.le_refl _
  | x :: xs => by
    have h1:=tcS_td xs;have h2:=tdV_s x
    show((tdV x).key.length+(tdV x).value.length)+tcS (xs.map tdV)≤x.length+(xs.map List.length).sum
    omega
section
variable {b:List UInt8} {xs:List (List UInt8)} {k:Nat} {e:Int}
theorem HJ.start:HJ xs 0:=⟨Nat.zero_le _,rfl⟩
theorem HJ.at (h:HJ xs k) (hk:(k:Int)<xs.length):hFirst xs=if tdE (xs.getD (k:Int).toNat [])≠0 then tdE (xs.getD (k:Int).toNat []) else hFirst (xs.drop (k+1)):=by
  rw[h.2,List.drop_eq_getElem_cons (by omega),hFirst,Int.toNat_natCast,List.getD_eq_getElem?_getD,List.getElem?_eq_getElem (by omega)];rfl
theorem HJ.next (h:HJ xs k) (hk:(k:Int)<xs.length) (he:tdE (xs.getD (k:Int).toNat [])=0):HJ xs (k+1)∧xs.length - (k+1)<xs.length - k :=
  ⟨⟨by omega,by rw[h.at hk,if_neg (fun z=>z he)]⟩,by omega⟩
theorem HJ.hit (h:HJ xs k) (hk:(k:Int)<xs.length) (he:tdE (xs.getD (k:Int).toNat [])=e) (h0:e≠0):hFirst xs=e:=by rw[h.at hk,if_pos (by rw[he];exact h0),he]
theorem HJ.stop (h:HJ xs k) (hk:¬ (k:Int)<xs.length):hFirst xs=0:=by rw[h.2,List.drop_of_length_le (by omega)];rfl
theorem td_step (hk:(k:Int)<xs.length) {t:Token} (ht:t=tdV (xs.getD (k:Int).toNat [])):(xs.take k).map tdV++[t]=(xs.take (k+1)).map tdV:=by
  rw[ht,Int.toNat_natCast,List.take_add_one,List.getD_eq_getElem?_getD,List.getElem?_eq_getElem (by omega)];simp only[Option.toList,List.map_append,List.map_cons,List.map_nil,Option.getD_some]
theorem td_add (hk:(k:Int)<xs.length):(xs.take k).map tdV++[⟨(tdV (xs.getD (k:Int).toNat [])).kind,mk32 (tdV (xs.getD (k:Int).toNat [])).hash.l,(tdV (xs.getD (k:Int).toNat [])).key,(tdV (xs.getD (k:Int).toNat [])).value,(tdV (xs.getD (k:Int).toNat [])).height,(tdV (xs.getD (k:Int).toNat [])).size⟩]=(xs.take (k+1)).map tdV:=td_step hk (by rw[mk32_l])
theorem de_err (h:deE b=e) (h0:e≠0):[]=deL b∧e=deE b:=⟨by unfold deL;rw[if_pos (by rw[h];exact h0)],h.symm⟩
theorem de0 (h:(65536:Int)<b.length):[]=deL b∧3=deE b:=de_err (by unfold deE;rw[if_pos (by omega)]) (by decide)
theorem de1' (h:¬ (65536:Int)<b.length) (h1:(unpk [] b).2≠0):[]=deL b∧(unpk [] b).2=deE b:=de_err (by unfold deE;rw[if_neg (by omega),if_pos h1]) h1
theorem de2' (h:¬ (65536:Int)<b.length) (h1:¬ (unpk [] b).2≠0) (hJ:HJ (unpk [] b).1 k) (hk:(k:Int)<(unpk [] b).1.length) (he:tdE ((unpk [] b).1.getD (k:Int).toNat [])=e) (h0:e≠0):[]=deL b∧e=deE b:=by
  have h2:=hJ.hit hk he h0
  exact de_err (by unfold deE;rw[if_neg (by omega),if_neg h1,if_pos (by rw[h2];exact h0),h2]) h0
theorem de_all (hJ:HJ xs k) (hk:¬ (k:Int)<xs.length):(xs.take k).map tdV=xs.map tdV:=by rw[List.take_of_length_le (by omega)]
theorem deZ (h:¬ (65536:Int)<b.length) (h1:¬ (unpk [] b).2≠0) (hJ:HJ (unpk [] b).1 k) (hk:¬ (k:Int)<(unpk [] b).1.length):deE b=if teE ((unpk [] b).1.map tdV)≠0 then teE ((unpk [] b).1.map tdV) else if teB ((unpk [] b).1.map tdV)≠b then 8 else 0:=by
  unfold deE;rw[if_neg (by omega),if_neg h1,if_neg (fun z=>z (hJ.stop hk))]
theorem de3' (h:¬ (65536:Int)<b.length) (h1:¬ (unpk [] b).2≠0) (hJ:HJ (unpk [] b).1 k) (hk:¬ (k:Int)<(unpk [] b).1.length) (he:teE (((unpk [] b).1.take k).map tdV)≠0):[]=deL b∧teE (((unpk [] b).1.take k).map tdV)=deE b:=by
  rw[de_all hJ hk] at he ⊢
  exact de_err (by rw[deZ h h1 hJ hk,if_pos he]) he
theorem de4' (h:¬ (65536:Int)<b.length) (h1:¬ (unpk [] b).2≠0) (hJ:HJ (unpk [] b).1 k) (hk:¬ (k:Int)<(unpk [] b).1.length) (he:¬ teE (((unpk [] b).1.take k).map tdV)≠0) (hb:¬ teB (((unpk [] b).1.take k).map tdV)=b):[]=deL b∧8=deE b:=by
  rw[de_all hJ hk] at he hb
  exact de_err (by rw[deZ h h1 hJ hk,if_neg he,if_pos hb]) (by decide)
theorem de5' (h:¬ (65536:Int)<b.length) (h1:¬ (unpk [] b).2≠0) (hJ:HJ (unpk [] b).1 k) (hk:¬ (k:Int)<(unpk [] b).1.length) (he:¬ teE (((unpk [] b).1.take k).map tdV)≠0) (hb:teB (((unpk [] b).1.take k).map tdV)=b):((unpk [] b).1.take k).map tdV=deL b∧0=deE b:=by
  rw[de_all hJ hk] at he hb ⊢
  have z:deE b=0:=by rw[deZ h h1 hJ hk,if_neg he,if_neg (fun q=>q hb)]
  unfold deL;rw[z];exact⟨rfl,rfl⟩
theorem xs_v (hb:¬ (65536:Int)<b.length) (hk:(k:Int)<(unpk [] b).1.length):((unpk [] b).1.getD (k:Int).toNat []).length≤65536:=by
  rw[Int.toNat_natCast,List.getD_eq_getElem?_getD,List.getElem?_eq_getElem (by omega)]
  have:=unpk_val (List.getElem_mem (l:=(unpk [] b).1) (n:=k) (by omega))
  show((unpk [] b).1[k]).length≤_
  omega
theorem xs_w (hb:¬ (65536:Int)<b.length) (hk:(k:Int)<(unpk [] b).1.length):((unpk [] b).1.getD (k:Int).toNat []).length≤900000:=Nat.le_trans (xs_v hb hk) (by decide)
theorem xs_a (hb:¬ (65536:Int)<b.length):(((unpk [] b).1.take k).map tdV).length+1≤1000000:=by have:=unpk_len b;simp only[List.length_map,List.length_take];omega
theorem xs_i (hb:¬ (65536:Int)<b.length) (hk:(k:Int)<(unpk [] b).1.length):I64 ((k:Int)+1):=by have:=unpk_len b;unfold I64;omega
theorem xs_s (hb:¬ (65536:Int)<b.length) (hJ:HJ (unpk [] b).1 k) (hk:¬ (k:Int)<(unpk [] b).1.length):tcS (((unpk [] b).1.take k).map tdV)≤200000:=by
  rw[de_all hJ hk];have:=tcS_td (unpk [] b).1;have:=unpk_sum b;omega
theorem xs_l (hb:¬ (65536:Int)<b.length):(((unpk [] b).1.take k).map tdV).length≤1000000:=by have:=xs_a (k:=k) hb;omega
end
noncomputable def ccTK4_11:Code:=(Tryd.f11.body).getD .skip
theorem TDecode_ok (b:List UInt8) (hlb:b.length≤200000):FOk EN 11 ⟨[.rd 5 (b)],[.n 0],Unit,fun _=>([.rd 5 (b),.rd 32 (deL b)],.t [.n 1,.i (deE b)]),fun _=>True⟩:=by
 refine v_fun Tryd.f11 ccTK4_11 MX (fun ν F σ w=>?_) Tryd.func11
 refine v_nl ?_
 refine v_if (decide (65536<(↑b.length:Int))) True trivial (fun h1=>?_) (fun h1=>?_)
 ·have h1:=of_decide_eq_true h1
  exact v_ret () [1] ((3=deE b)∧(b=b)∧([]=deL b)) ⟨(by exact(de0 ‹_›).2),rfl,(by exact(de0 ‹_›).1)⟩ trivial
 ·have h1:=of_decide_eq_false h1
  refine v_call _ [0] (unpack_ok (b) (by omega)) ((b=b)) rfl (fun g2 p3=>?_)
  have p3:True:=p3
  refine v_if (decide ((unpk [] b).snd≠0)) True trivial (fun h4=>?_) (fun h4=>?_)
  ·have h4:=of_decide_eq_true h4
   exact v_ret () [1] (((unpk [] b).snd=deE b)∧(b=b)∧([]=deL b)) ⟨(by exact(de1' ‹_› ‹_›).2),rfl,(by exact(de1' ‹_› ‹_›).1)⟩ trivial
  ·have h4:=of_decide_eq_false h4
   refine v_loop (fun k:Nat=>([(25,.i k),(6,.n 3)],[.ow 32 (((unpk [] b).1.take k).map tdV)])) (fun k=>HJ (unpk [] b).1 k) (fun k=>(unpk [] b).1.length - k) 0 [1] (((0:Int)=(↑(0:Nat):Int))∧([]=List.map tdV (List.take 0 (unpk [] b).fst))) ⟨rfl,rfl⟩ (by exact HJ.start) (fun k hk5=>?_)
   refine v_if (decide ((↑k:Int)<(↑(unpk [] b).fst.length:Int))) True trivial (fun h6=>?_) (fun h6=>?_)
   ·have h6:=of_decide_eq_true h6
    refine v_call _ [4] (token_ok ((unpk [] b).fst.getD (↑k:Int).toNat []) (by exact xs_w ‹_› ‹_›)) ((0≤(↑k:Int)∧(↑k:Int)<(↑(unpk [] b).fst.length:Int))∧((unpk [] b).fst.getD (↑k:Int).toNat []=(unpk [] b).fst.getD (↑k:Int).toNat [])) ⟨(by omega),rfl⟩ (fun g7 p8=>?_)
    have p8:True:=p8
    refine v_if (decide (tdE ((unpk [] b).fst.getD (↑k:Int).toNat [])≠0)) True trivial (fun h9=>?_) (fun h9=>?_)
    ·have h9:=of_decide_eq_true h9
     refine v_leave .rt True trivial ?_
     exact v_ret () [1] ((tdE ((unpk [] b).fst.getD (↑k:Int).toNat [])=deE b)∧(b=b)∧([]=deL b)) ⟨(by exact(de2' ‹_› ‹_› ‹_› ‹_› rfl ‹_›).2),rfl,(by exact(de2' ‹_› ‹_› ‹_› ‹_› rfl ‹_›).1)⟩ trivial
    ·have h9:=of_decide_eq_false h9
     exact v_back (k+1) [10] (((List.map tdV (List.take k (unpk [] b).fst)).length+1≤1000000)∧(I64 (↑k+1))∧((↑k:Int)+1=(↑(k+1):Int))∧(List.map tdV (List.take k (unpk [] b).fst)++[Token.mk (tdV ((unpk [] b).fst.getD (↑k:Int).toNat [])).kind (mk32 (tdV ((unpk [] b).fst.getD (↑k:Int).toNat [])).hash.l) (tdV ((unpk [] b).fst.getD (↑k:Int).toNat [])).key (tdV ((unpk [] b).fst.getD (↑k:Int).toNat [])).value (tdV ((unpk [] b).fst.getD (↑k:Int).toNat [])).height (tdV ((unpk [] b).fst.getD (↑k:Int).toNat [])).size]=List.map tdV (List.take (k+1) (unpk [] b).fst))) ⟨(by exact xs_a ‹_›),(by exact xs_i ‹_› ‹_›),rfl,(by exact td_add ‹_›)⟩ (show HJ (unpk [] b).fst (k+1)∧(unpk [] b).fst.length - (k+1)<(unpk [] b).fst.length - k from(by exact HJ.next ‹_› ‹_› (nn ‹_›)))
   ·have h6:=of_decide_eq_false h6
    refine v_leave (.ex 0) True trivial ?_
    refine v_call _ [3] (TEncode_ok (List.map tdV (List.take k (unpk [] b).fst)) (by exact xs_s ‹_› ‹_› ‹_›) (by exact xs_l ‹_›)) ((List.map tdV (List.take k (unpk [] b).fst)=List.map tdV (List.take k (unpk [] b).fst))) rfl (fun g10 p11=>?_)
    have p11:True:=p11
    refine v_if (decide (teE (List.map tdV (List.take k (unpk [] b).fst))≠0)) True trivial (fun h12=>?_) (fun h12=>?_)
    ·have h12:=of_decide_eq_true h12
     exact v_ret () [1] ((teE (List.map tdV (List.take k (unpk [] b).fst))=deE b)∧(b=b)∧([]=deL b)) ⟨(by exact(de3' ‹_› ‹_› ‹_› ‹_› ‹_›).2),rfl,(by exact(de3' ‹_› ‹_› ‹_› ‹_› ‹_›).1)⟩ trivial
    ·have h12:=of_decide_eq_false h12
     refine v_call _ [4,0] (beq_ok (teB (List.map tdV (List.take k (unpk [] b).fst))) (b)) ((teB (List.map tdV (List.take k (unpk [] b).fst))=teB (List.map tdV (List.take k (unpk [] b).fst)))∧(b=b)) ⟨rfl,rfl⟩ (fun g13 p14=>?_)
     have p14:True:=p14
     refine v_if (!decide (teB (List.map tdV (List.take k (unpk [] b).fst))=b)) True trivial (fun h15=>?_) (fun h15=>?_)
     ·have h15:=of_decide_eq_false (nt h15)
      exact v_ret () [1] ((8=deE b)∧(b=b)∧([]=deL b)) ⟨(by exact(de4' ‹_› ‹_› ‹_› ‹_› ‹_› ‹_›).2),rfl,(by exact(de4' ‹_› ‹_› ‹_› ‹_› ‹_› ‹_›).1)⟩ trivial
     ·have h15:=of_decide_eq_true (nf h15)
      exact v_ret () [3] ((0=deE b)∧(b=b)∧(List.map tdV (List.take k (unpk [] b).fst)=deL b)) ⟨(by exact(de5' ‹_› ‹_› ‹_› ‹_› ‹_› ‹_›).2),rfl,(by exact(de5' ‹_› ‹_› ‹_› ‹_› ‹_› ‹_›).1)⟩ trivial
section
variable {v:List UInt8} {f:Field} {l:List Field} {b:List UInt8} {xs:List (List UInt8)} {i k:Nat} {e:Int}
theorem kR1 (h:valRV v<255):(valRV v).toUInt8=kMin (valV v):=by
  rw[valRV_eq] at *;unfold kMin
  rw[if_neg (fun q=>by have:=UInt64.lt_iff_toNat_lt.1 h;have:=UInt64.lt_iff_toNat_lt.1 q;omega)]
theorem kR2 (h:¬ valRV v<255):(255:UInt8)=kMin (valV v):=by
  rw[valRV_eq] at h;unfold kMin
  by_cases q:(255:UInt64)<valV v
  · rw[if_pos q];rfl
  · have h1 : ¬ (valV v).toNat < (255 : UInt64).toNat := fun r => h (UInt64.lt_iff_toNat_lt.2 r)
    have h2:¬ (255:UInt64).toNat<(valV v).toNat:=fun r=>q (UInt64.lt_iff_toNat_lt.2 r)
    have e:valV v=255:=UInt64.toNat_inj.1 (by omega)
    rw[e];rfl
theorem gv1  (h1:f.tag=1) (hv:valB f.value=true):gErr f=0:=(ge1 h1).trans (vB1 hv)
theorem gw1  (h1:f.tag=1) (hv:valB f.value=false):gErr f=7:=(ge1 h1).trans (vB0 hv)
theorem gv5 (h1:¬ f.tag=1) (h2:¬ f.tag=2) (h3:¬ f.tag=3) (h4:¬ f.tag=4) (h5:f.tag=5) (hv:valB f.value=true):gErr f=0:=(ge5 h1 h2 h3 h4 h5).trans (vB1 hv)
theorem gw5 (h1:¬ f.tag=1) (h2:¬ f.tag=2) (h3:¬ f.tag=3) (h4:¬ f.tag=4) (h5:f.tag=5) (hv:valB f.value=false):gErr f=7:=(ge5 h1 h2 h3 h4 h5).trans (vB0 hv)
theorem gv6 (h1:¬ f.tag=1) (h2:¬ f.tag=2) (h3:¬ f.tag=3) (h4:¬ f.tag=4) (h5:¬ f.tag=5) (h6:f.tag=6) (hv:valB f.value=true):gErr f=0:=(ge6 h1 h2 h3 h4 h5 h6).trans (vB1 hv)
theorem gw6 (h1:¬ f.tag=1) (h2:¬ f.tag=2) (h3:¬ f.tag=3) (h4:¬ f.tag=4) (h5:¬ f.tag=5) (h6:f.tag=6) (hv:valB f.value=false):gErr f=7:=(ge6 h1 h2 h3 h4 h5 h6).trans (vB0 hv)
theorem gv2 (h1:¬ f.tag=1) (h2:f.tag=2) (hv:f.value.length=32):gErr f=0:=ge2a h1 h2 (by omega)
theorem gw2 (h1:¬ f.tag=1) (h2:f.tag=2) (hv:¬ f.value.length=32):gErr f=7:=ge2 h1 h2 (by omega)
theorem gz {x:List UInt8} (hp:¬ (parse [] x).2≠0) (hF:GJ (parse [] x).1 k) (hk:(k:Int)<(parse [] x).1.length) (he:gErr ((parse [] x).1.getD (k:Int).toNat kF)=e) (h0:e≠0):tdE x=e:=(gt2 hp hF hk he h0).2.symm
theorem gpz {x:List UInt8} (hp:(parse [] x).2≠0):tdE x=(parse [] x).2:=(gt1 hp).2.symm
theorem de2q (h:¬ (65536:Int)<b.length) (h1:¬ (unpk [] b).2≠0) (hJ:HJ (unpk [] b).1 i) (hi:(i:Int)<(unpk [] b).1.length) (hp:¬ (parse [] ((unpk [] b).1.getD (i:Int).toNat [])).2≠0) (hF:GJ (parse [] ((unpk [] b).1.getD (i:Int).toNat [])).1 k) (hk:(k:Int)<(parse [] ((unpk [] b).1.getD (i:Int).toNat [])).1.length) (he:gErr ((parse [] ((unpk [] b).1.getD (i:Int).toNat [])).1.getD (k:Int).toNat kF)=e) (h0:e≠0):[]=deL b∧e=deE b:=de2' h h1 hJ hi (gz hp hF hk he h0) h0
theorem td_end (hi:(i:Int)<xs.length) (hp:¬ (parse [] (xs.getD (i:Int).toNat [])).2≠0) (hF:GJ (parse [] (xs.getD (i:Int).toNat [])).1 k) (hk:¬ (k:Int)<(parse [] (xs.getD (i:Int).toNat [])).1.length):(xs.take i).map tdV++[⟨(gTo (parse [] (xs.getD (i:Int).toNat [])).1 k).kind,mk32 (gTo (parse [] (xs.getD (i:Int).toNat [])).1 k).hash.l,(gTo (parse [] (xs.getD (i:Int).toNat [])).1 k).key,(gTo (parse [] (xs.getD (i:Int).toNat [])).1 k).value,(gTo (parse [] (xs.getD (i:Int).toNat [])).1 k).height,(gTo (parse [] (xs.getD (i:Int).toNat [])).1 k).size⟩]=(xs.take (i+1)).map tdV:=td_step hi (by rw[mk32_l];exact(gt3 hp hF hk).1)
theorem td_nx (hJ:HJ xs i) (hi:(i:Int)<xs.length) (hp:¬ (parse [] (xs.getD (i:Int).toNat [])).2≠0) (hF:GJ (parse [] (xs.getD (i:Int).toNat [])).1 k) (hk:¬ (k:Int)<(parse [] (xs.getD (i:Int).toNat [])).1.length):HJ xs (i+1)∧xs.length - (i+1)<xs.length - i:=hJ.next hi (gt3 hp hF hk).2.symm
theorem xp_i {x:List UInt8} (h:(k:Int)<(parse [] x).1.length) (hl:x.length≤65536):I64 ((k:Int)+1):=GJ.i64 h (by omega)
theorem hS2 (h:f.value.length=32):sumR f.value=(mk32 f.value).l:=sm32 h
end
noncomputable def ccTK5_12:Code:=(Tryd.f12.body).getD .skip
theorem DecodeTokens_ok (b:List UInt8) (hlb:b.length≤200000):FOk EN 12 ⟨[.rd 5 (b)],[.n 0],Unit,fun _=>([.rd 5 (b),.rd 32 (deL b)],.t [.n 1,.i (deE b)]),fun _=>True⟩:=by
 refine v_fun Tryd.f12 ccTK5_12 MX (fun ν F σ w=>?_) Tryd.func12
 refine v_nl ?_
 refine v_if (decide (65536<(↑b.length:Int))) True trivial (fun h1=>?_) (fun h1=>?_)
 ·have h1:=of_decide_eq_true h1
  exact v_ret () [1] ((3=deE b)∧(b=b)∧([]=deL b)) ⟨(by exact(de0 ‹_›).2),rfl,(by exact(de0 ‹_›).1)⟩ trivial
 ·have h1:=of_decide_eq_false h1
  refine v_call _ [0] (unpackr_ok (b) (by omega)) ((b=b)) rfl (fun g2 p3=>?_)
  have p3:True:=p3
  refine v_if (decide ((unpk [] b).snd≠0)) True trivial (fun h4=>?_) (fun h4=>?_)
  ·have h4:=of_decide_eq_true h4
   exact v_ret () [1] (((unpk [] b).snd=deE b)∧(b=b)∧([]=deL b)) ⟨(by exact(de1' ‹_› ‹_›).2),rfl,(by exact(de1' ‹_› ‹_›).1)⟩ trivial
  ·have h4:=of_decide_eq_false h4
   refine v_loop (fun i:Nat=>([(7,.i i),(6,.n 3)],[.ow 32 (((unpk [] b).1.take i).map tdV)])) (fun i=>HJ (unpk [] b).1 i) (fun i=>(unpk [] b).1.length - i) 0 [1] (((0:Int)=(↑(0:Nat):Int))∧([]=List.map tdV (List.take 0 (unpk [] b).fst))) ⟨rfl,rfl⟩ (by exact HJ.start) (fun i hk5=>?_)
   refine v_if (decide ((↑i:Int)<(↑(unpk [] b).fst.length:Int))) True trivial (fun h6=>?_) (fun h6=>?_)
   ·have h6:=of_decide_eq_true h6
    refine v_call _ [4] (rparse_ok ((unpk [] b).fst.getD (↑i:Int).toNat []) (by exact xs_w ‹_› ‹_›)) ((0≤(↑i:Int)∧(↑i:Int)<(↑(unpk [] b).fst.length:Int))∧((unpk [] b).fst.getD (↑i:Int).toNat []=(unpk [] b).fst.getD (↑i:Int).toNat [])) ⟨(by omega),rfl⟩ (fun g7 p8=>?_)
    have p8:True:=p8
    refine v_if (decide ((parse [] ((unpk [] b).fst.getD (↑i:Int).toNat [])).snd≠0)) True trivial (fun h9=>?_) (fun h9=>?_)
    ·have h9:=of_decide_eq_true h9
     refine v_leave .rt True trivial ?_
     exact v_ret () [1] (((parse [] ((unpk [] b).fst.getD (↑i:Int).toNat [])).snd=deE b)∧(b=b)∧([]=deL b)) ⟨(by exact(de2' ‹_› ‹_› ‹_› ‹_› (gpz ‹_›) ‹_›).2),rfl,(by exact(de2' ‹_› ‹_› ‹_› ‹_› (gpz ‹_›) ‹_›).1)⟩ trivial
    ·have h9:=of_decide_eq_false h9
     refine v_loop (fun k:Nat=>([(11,.i k),(10,.p 8 0)],[.bx 32 [.c (gTo (parse [] ((unpk [] b).1.getD (i:Int).toNat [])).1 k).kind,.h 32 (gTo (parse [] ((unpk [] b).1.getD (i:Int).toNat [])).1 k).hash.l,.n 9,.n 10,.i (gTo (parse [] ((unpk [] b).1.getD (i:Int).toNat [])).1 k).height,.u (gTo (parse [] ((unpk [] b).1.getD (i:Int).toNat [])).1 k).size],.rd 5 ((gTo (parse [] ((unpk [] b).1.getD (i:Int).toNat [])).1 k).key),.rd 5 ((gTo (parse [] ((unpk [] b).1.getD (i:Int).toNat [])).1 k).value)])) (fun k=>GJ (parse [] ((unpk [] b).1.getD (i:Int).toNat [])).1 k) (fun k=>(parse [] ((unpk [] b).1.getD (i:Int).toNat [])).1.length - k) 0 [7,1,1] (((0:Int)=(↑(0:Nat):Int))∧(0=(gTo (parse [] ((unpk [] b).fst.getD (↑i:Int).toNat [])).fst 0).kind)∧(List.replicate 32 0=(gTo (parse [] ((unpk [] b).fst.getD (↑i:Int).toNat [])).fst 0).hash.l)∧(0=(gTo (parse [] ((unpk [] b).fst.getD (↑i:Int).toNat [])).fst 0).height)∧(0=(gTo (parse [] ((unpk [] b).fst.getD (↑i:Int).toNat [])).fst 0).size)∧([]=(gTo (parse [] ((unpk [] b).fst.getD (↑i:Int).toNat [])).fst 0).key)∧([]=(gTo (parse [] ((unpk [] b).fst.getD (↑i:Int).toNat [])).fst 0).value)) ⟨rfl,rfl,rfl,rfl,rfl,rfl,rfl⟩ (by exact GJ.start) (fun k hk10=>?_)
     refine v_if (decide ((↑k:Int)<(↑(parse [] ((unpk [] b).fst.getD (↑i:Int).toNat [])).fst.length:Int))) True trivial (fun h11=>?_) (fun h11=>?_)
     ·have h11:=of_decide_eq_true h11
      refine v_if (decide (((parse [] ((unpk [] b).fst.getD (↑i:Int).toNat [])).fst.getD (↑k:Int).toNat (Field.mk 0 [])).tag=1)) ((0≤(↑k:Int)∧(↑k:Int)<(↑(parse [] ((unpk [] b).fst.getD (↑i:Int).toNat [])).fst.length:Int))) (by omega) (fun h12=>?_) (fun h12=>?_)
      ·have h12:=of_decide_eq_true h12
       refine v_call _ [13] (valuer_ok (((parse [] ((unpk [] b).fst.getD (↑i:Int).toNat [])).fst.getD (↑k:Int).toNat (Field.mk 0 [])).value)) ((0≤(↑k:Int)∧(↑k:Int)<(↑(parse [] ((unpk [] b).fst.getD (↑i:Int).toNat [])).fst.length:Int))∧(((parse [] ((unpk [] b).fst.getD (↑i:Int).toNat [])).fst.getD (↑k:Int).toNat (Field.mk 0 [])).value=((parse [] ((unpk [] b).fst.getD (↑i:Int).toNat [])).fst.getD (↑k:Int).toNat (Field.mk 0 [])).value)) ⟨(by omega),rfl⟩ (fun g13 p14=>?_)
       have p14:True:=p14
       refine v_if (decide (valRV ((parse [] ((unpk [] b).fst.getD (↑i:Int).toNat [])).fst.getD (↑k:Int).toNat (Field.mk 0 [])).value<255)) True trivial (fun h15=>?_) (fun h15=>?_)
       ·have h15:=of_decide_eq_true h15
        refine v_if (!valB ((parse [] ((unpk [] b).fst.getD (↑i:Int).toNat [])).fst.getD (↑k:Int).toNat (Field.mk 0 [])).value) True trivial (fun h16=>?_) (fun h16=>?_)
        ·have h16:=(nt h16)
         refine v_leave .rt True trivial ?_
         refine v_leave .rt True trivial ?_
         exact v_ret () [1] ((7=deE b)∧(b=b)∧([]=deL b)) ⟨(by exact(de2q ‹_› ‹_› ‹_› ‹_› ‹_› ‹_› ‹_› (gw1 ‹_› ‹_›) (by decide)).2),rfl,(by exact(de2q ‹_› ‹_› ‹_› ‹_› ‹_› ‹_› ‹_› (gw1 ‹_› ‹_›) (by decide)).1)⟩ trivial
        ·have h16:=(nf h16)
         exact v_back (k+1) [8,9,10] ((I64 (↑k+1))∧((↑k:Int)+1=(↑(k+1):Int))∧((valRV ((parse [] ((unpk [] b).fst.getD (↑i:Int).toNat [])).fst.getD (↑k:Int).toNat (Field.mk 0 [])).value).toUInt8=(gTo (parse [] ((unpk [] b).fst.getD (↑i:Int).toNat [])).fst (k+1)).kind)∧((gTo (parse [] ((unpk [] b).fst.getD (↑i:Int).toNat [])).fst k).hash.l=(gTo (parse [] ((unpk [] b).fst.getD (↑i:Int).toNat [])).fst (k+1)).hash.l)∧((gTo (parse [] ((unpk [] b).fst.getD (↑i:Int).toNat [])).fst k).height=(gTo (parse [] ((unpk [] b).fst.getD (↑i:Int).toNat [])).fst (k+1)).height)∧((gTo (parse [] ((unpk [] b).fst.getD (↑i:Int).toNat [])).fst k).size=(gTo (parse [] ((unpk [] b).fst.getD (↑i:Int).toNat [])).fst (k+1)).size)∧((gTo (parse [] ((unpk [] b).fst.getD (↑i:Int).toNat [])).fst k).key=(gTo (parse [] ((unpk [] b).fst.getD (↑i:Int).toNat [])).fst (k+1)).key)∧((gTo (parse [] ((unpk [] b).fst.getD (↑i:Int).toNat [])).fst k).value=(gTo (parse [] ((unpk [] b).fst.getD (↑i:Int).toNat [])).fst (k+1)).value)) ⟨(by exact xp_i ‹_› (xs_v ‹_› ‹_›)),rfl,(by(rw[gs1 ‹_› ‹_›];exact kR1 ‹_›)),(by(rw[gs1 ‹_› ‹_›])),(by(rw[gs1 ‹_› ‹_›])),(by(rw[gs1 ‹_› ‹_›])),(by(rw[gs1 ‹_› ‹_›])),(by(rw[gs1 ‹_› ‹_›]))⟩ (show GJ (parse [] ((unpk [] b).fst.getD (↑i:Int).toNat [])).fst (k+1)∧(parse [] ((unpk [] b).fst.getD (↑i:Int).toNat [])).fst.length - (k+1)<(parse [] ((unpk [] b).fst.getD (↑i:Int).toNat [])).fst.length - k from(by exact GJ.next ‹_› ‹_› (gv1 ‹_› ‹_›)))
       ·have h15:=of_decide_eq_false h15
        refine v_if (!valB ((parse [] ((unpk [] b).fst.getD (↑i:Int).toNat [])).fst.getD (↑k:Int).toNat (Field.mk 0 [])).value) True trivial (fun h17=>?_) (fun h17=>?_)
        ·have h17:=(nt h17)
         refine v_leave .rt True trivial ?_
         refine v_leave .rt True trivial ?_
         exact v_ret () [1] ((7=deE b)∧(b=b)∧([]=deL b)) ⟨(by exact(de2q ‹_› ‹_› ‹_› ‹_› ‹_› ‹_› ‹_› (gw1 ‹_› ‹_›) (by decide)).2),rfl,(by exact(de2q ‹_› ‹_› ‹_› ‹_› ‹_› ‹_› ‹_› (gw1 ‹_› ‹_›) (by decide)).1)⟩ trivial
        ·have h17:=(nf h17)
         exact v_back (k+1) [8,9,10] ((I64 (↑k+1))∧((↑k:Int)+1=(↑(k+1):Int))∧(255=(gTo (parse [] ((unpk [] b).fst.getD (↑i:Int).toNat [])).fst (k+1)).kind)∧((gTo (parse [] ((unpk [] b).fst.getD (↑i:Int).toNat [])).fst k).hash.l=(gTo (parse [] ((unpk [] b).fst.getD (↑i:Int).toNat [])).fst (k+1)).hash.l)∧((gTo (parse [] ((unpk [] b).fst.getD (↑i:Int).toNat [])).fst k).height=(gTo (parse [] ((unpk [] b).fst.getD (↑i:Int).toNat [])).fst (k+1)).height)∧((gTo (parse [] ((unpk [] b).fst.getD (↑i:Int).toNat [])).fst k).size=(gTo (parse [] ((unpk [] b).fst.getD (↑i:Int).toNat [])).fst (k+1)).size)∧((gTo (parse [] ((unpk [] b).fst.getD (↑i:Int).toNat [])).fst k).key=(gTo (parse [] ((unpk [] b).fst.getD (↑i:Int).toNat [])).fst (k+1)).key)∧((gTo (parse [] ((unpk [] b).fst.getD (↑i:Int).toNat [])).fst k).value=(gTo (parse [] ((unpk [] b).fst.getD (↑i:Int).toNat [])).fst (k+1)).value)) ⟨(by exact xp_i ‹_› (xs_v ‹_› ‹_›)),rfl,(by(rw[gs1 ‹_› ‹_›];exact kR2 ‹_›)),(by(rw[gs1 ‹_› ‹_›])),(by(rw[gs1 ‹_› ‹_›])),(by(rw[gs1 ‹_› ‹_›])),(by(rw[gs1 ‹_› ‹_›])),(by(rw[gs1 ‹_› ‹_›]))⟩ (show GJ (parse [] ((unpk [] b).fst.getD (↑i:Int).toNat [])).fst (k+1)∧(parse [] ((unpk [] b).fst.getD (↑i:Int).toNat [])).fst.length - (k+1)<(parse [] ((unpk [] b).fst.getD (↑i:Int).toNat [])).fst.length - k from(by exact GJ.next ‹_› ‹_› (gv1 ‹_› ‹_›)))
      ·have h12:=of_decide_eq_false h12
       refine v_if (decide (((parse [] ((unpk [] b).fst.getD (↑i:Int).toNat [])).fst.getD (↑k:Int).toNat (Field.mk 0 [])).tag=2)) True trivial (fun h18=>?_) (fun h18=>?_)
       ·have h18:=of_decide_eq_true h18
        refine v_call _ [13] (sum5_ok (((parse [] ((unpk [] b).fst.getD (↑i:Int).toNat [])).fst.getD (↑k:Int).toNat (Field.mk 0 [])).value)) ((0≤(↑k:Int)∧(↑k:Int)<(↑(parse [] ((unpk [] b).fst.getD (↑i:Int).toNat [])).fst.length:Int))∧(((parse [] ((unpk [] b).fst.getD (↑i:Int).toNat [])).fst.getD (↑k:Int).toNat (Field.mk 0 [])).value=((parse [] ((unpk [] b).fst.getD (↑i:Int).toNat [])).fst.getD (↑k:Int).toNat (Field.mk 0 [])).value)) ⟨(by omega),rfl⟩ (fun g19 p20=>?_)
        have p20:True:=p20
        refine v_if (!decide (((parse [] ((unpk [] b).fst.getD (↑i:Int).toNat [])).fst.getD (↑k:Int).toNat (Field.mk 0 [])).value.length=32)) True trivial (fun h21=>?_) (fun h21=>?_)
        ·have h21:=of_decide_eq_false (nt h21)
         refine v_leave .rt True trivial ?_
         refine v_leave .rt True trivial ?_
         exact v_ret () [1] ((7=deE b)∧(b=b)∧([]=deL b)) ⟨(by exact(de2q ‹_› ‹_› ‹_› ‹_› ‹_› ‹_› ‹_› (gw2 ‹_› ‹_› ‹_›) (by decide)).2),rfl,(by exact(de2q ‹_› ‹_› ‹_› ‹_› ‹_› ‹_› ‹_› (gw2 ‹_› ‹_› ‹_›) (by decide)).1)⟩ trivial
        ·have h21:=of_decide_eq_true (nf h21)
         exact v_back (k+1) [8,9,10] ((I64 (↑k+1))∧((↑k:Int)+1=(↑(k+1):Int))∧((gTo (parse [] ((unpk [] b).fst.getD (↑i:Int).toNat [])).fst k).kind=(gTo (parse [] ((unpk [] b).fst.getD (↑i:Int).toNat [])).fst (k+1)).kind)∧(sumR ((parse [] ((unpk [] b).fst.getD (↑i:Int).toNat [])).fst.getD (↑k:Int).toNat (Field.mk 0 [])).value=(gTo (parse [] ((unpk [] b).fst.getD (↑i:Int).toNat [])).fst (k+1)).hash.l)∧((gTo (parse [] ((unpk [] b).fst.getD (↑i:Int).toNat [])).fst k).height=(gTo (parse [] ((unpk [] b).fst.getD (↑i:Int).toNat [])).fst (k+1)).height)∧((gTo (parse [] ((unpk [] b).fst.getD (↑i:Int).toNat [])).fst k).size=(gTo (parse [] ((unpk [] b).fst.getD (↑i:Int).toNat [])).fst (k+1)).size)∧((gTo (parse [] ((unpk [] b).fst.getD (↑i:Int).toNat [])).fst k).key=(gTo (parse [] ((unpk [] b).fst.getD (↑i:Int).toNat [])).fst (k+1)).key)∧((gTo (parse [] ((unpk [] b).fst.getD (↑i:Int).toNat [])).fst k).value=(gTo (parse [] ((unpk [] b).fst.getD (↑i:Int).toNat [])).fst (k+1)).value)) ⟨(by exact xp_i ‹_› (xs_v ‹_› ‹_›)),rfl,(by(rw[gs2 ‹_› ‹_› ‹_›])),(by(rw[gs2 ‹_› ‹_› ‹_›];exact hS2 ‹_›)),(by(rw[gs2 ‹_› ‹_› ‹_›])),(by(rw[gs2 ‹_› ‹_› ‹_›])),(by(rw[gs2 ‹_› ‹_› ‹_›])),(by(rw[gs2 ‹_› ‹_› ‹_›]))⟩ (show GJ (parse [] ((unpk [] b).fst.getD (↑i:Int).toNat [])).fst (k+1)∧(parse [] ((unpk [] b).fst.getD (↑i:Int).toNat [])).fst.length - (k+1)<(parse [] ((unpk [] b).fst.getD (↑i:Int).toNat [])).fst.length - k from(by exact GJ.next ‹_› ‹_› (gv2 ‹_› ‹_› ‹_›)))
       ·have h18:=of_decide_eq_false h18
        refine v_if (decide (((parse [] ((unpk [] b).fst.getD (↑i:Int).toNat [])).fst.getD (↑k:Int).toNat (Field.mk 0 [])).tag=3)) True trivial (fun h22=>?_) (fun h22=>?_)
        ·have h22:=of_decide_eq_true h22
         refine v_if (!true) ((0≤(↑k:Int)∧(↑k:Int)<(↑(parse [] ((unpk [] b).fst.getD (↑i:Int).toNat [])).fst.length:Int))) (by omega) (fun h23=>?_) (fun h23=>?_)
         ·have h23:=(nt h23)
          contradiction
         ·have h23:=(nf h23)
          exact v_back (k+1) [8,13,10] ((I64 (↑k+1))∧((↑k:Int)+1=(↑(k+1):Int))∧((gTo (parse [] ((unpk [] b).fst.getD (↑i:Int).toNat [])).fst k).kind=(gTo (parse [] ((unpk [] b).fst.getD (↑i:Int).toNat [])).fst (k+1)).kind)∧((gTo (parse [] ((unpk [] b).fst.getD (↑i:Int).toNat [])).fst k).hash.l=(gTo (parse [] ((unpk [] b).fst.getD (↑i:Int).toNat [])).fst (k+1)).hash.l)∧((gTo (parse [] ((unpk [] b).fst.getD (↑i:Int).toNat [])).fst k).height=(gTo (parse [] ((unpk [] b).fst.getD (↑i:Int).toNat [])).fst (k+1)).height)∧((gTo (parse [] ((unpk [] b).fst.getD (↑i:Int).toNat [])).fst k).size=(gTo (parse [] ((unpk [] b).fst.getD (↑i:Int).toNat [])).fst (k+1)).size)∧(((parse [] ((unpk [] b).fst.getD (↑i:Int).toNat [])).fst.getD (↑k:Int).toNat (Field.mk 0 [])).value=(gTo (parse [] ((unpk [] b).fst.getD (↑i:Int).toNat [])).fst (k+1)).key)∧((gTo (parse [] ((unpk [] b).fst.getD (↑i:Int).toNat [])).fst k).value=(gTo (parse [] ((unpk [] b).fst.getD (↑i:Int).toNat [])).fst (k+1)).value)) ⟨(by exact xp_i ‹_› (xs_v ‹_› ‹_›)),rfl,(by(rw[gs3 ‹_› ‹_› ‹_› ‹_›])),(by(rw[gs3 ‹_› ‹_› ‹_› ‹_›])),(by(rw[gs3 ‹_› ‹_› ‹_› ‹_›])),(by(rw[gs3 ‹_› ‹_› ‹_› ‹_›])),(by(rw[gs3 ‹_› ‹_› ‹_› ‹_›])),(by(rw[gs3 ‹_› ‹_› ‹_› ‹_›]))⟩ (show GJ (parse [] ((unpk [] b).fst.getD (↑i:Int).toNat [])).fst (k+1)∧(parse [] ((unpk [] b).fst.getD (↑i:Int).toNat [])).fst.length - (k+1)<(parse [] ((unpk [] b).fst.getD (↑i:Int).toNat [])).fst.length - k from(by exact GJ.next ‹_› ‹_› (ge3 ‹_› ‹_› ‹_›)))
        ·have h22:=of_decide_eq_false h22
         refine v_if (decide (((parse [] ((unpk [] b).fst.getD (↑i:Int).toNat [])).fst.getD (↑k:Int).toNat (Field.mk 0 [])).tag=4)) True trivial (fun h24=>?_) (fun h24=>?_)
         ·have h24:=of_decide_eq_true h24
          refine v_if (!true) ((0≤(↑k:Int)∧(↑k:Int)<(↑(parse [] ((unpk [] b).fst.getD (↑i:Int).toNat [])).fst.length:Int))) (by omega) (fun h25=>?_) (fun h25=>?_)
          ·have h25:=(nt h25)
           contradiction
          ·have h25:=(nf h25)
           exact v_back (k+1) [8,9,13] ((I64 (↑k+1))∧((↑k:Int)+1=(↑(k+1):Int))∧((gTo (parse [] ((unpk [] b).fst.getD (↑i:Int).toNat [])).fst k).kind=(gTo (parse [] ((unpk [] b).fst.getD (↑i:Int).toNat [])).fst (k+1)).kind)∧((gTo (parse [] ((unpk [] b).fst.getD (↑i:Int).toNat [])).fst k).hash.l=(gTo (parse [] ((unpk [] b).fst.getD (↑i:Int).toNat [])).fst (k+1)).hash.l)∧((gTo (parse [] ((unpk [] b).fst.getD (↑i:Int).toNat [])).fst k).height=(gTo (parse [] ((unpk [] b).fst.getD (↑i:Int).toNat [])).fst (k+1)).height)∧((gTo (parse [] ((unpk [] b).fst.getD (↑i:Int).toNat [])).fst k).size=(gTo (parse [] ((unpk [] b).fst.getD (↑i:Int).toNat [])).fst (k+1)).size)∧((gTo (parse [] ((unpk [] b).fst.getD (↑i:Int).toNat [])).fst k).key=(gTo (parse [] ((unpk [] b).fst.getD (↑i:Int).toNat [])).fst (k+1)).key)∧(((parse [] ((unpk [] b).fst.getD (↑i:Int).toNat [])).fst.getD (↑k:Int).toNat (Field.mk 0 [])).value=(gTo (parse [] ((unpk [] b).fst.getD (↑i:Int).toNat [])).fst (k+1)).value)) ⟨(by exact xp_i ‹_› (xs_v ‹_› ‹_›)),rfl,(by(rw[gs4 ‹_› ‹_› ‹_› ‹_› ‹_›])),(by(rw[gs4 ‹_› ‹_› ‹_› ‹_› ‹_›])),(by(rw[gs4 ‹_› ‹_› ‹_› ‹_› ‹_›])),(by(rw[gs4 ‹_› ‹_› ‹_› ‹_› ‹_›])),(by(rw[gs4 ‹_› ‹_› ‹_› ‹_› ‹_›])),(by(rw[gs4 ‹_› ‹_› ‹_› ‹_› ‹_›]))⟩ (show GJ (parse [] ((unpk [] b).fst.getD (↑i:Int).toNat [])).fst (k+1)∧(parse [] ((unpk [] b).fst.getD (↑i:Int).toNat [])).fst.length - (k+1)<(parse [] ((unpk [] b).fst.getD (↑i:Int).toNat [])).fst.length - k from(by exact GJ.next ‹_› ‹_› (ge4 ‹_› ‹_› ‹_› ‹_›)))
         ·have h24:=of_decide_eq_false h24
          refine v_if (decide (((parse [] ((unpk [] b).fst.getD (↑i:Int).toNat [])).fst.getD (↑k:Int).toNat (Field.mk 0 [])).tag=5)) True trivial (fun h26=>?_) (fun h26=>?_)
          ·have h26:=of_decide_eq_true h26
           refine v_call _ [13] (valuer_ok (((parse [] ((unpk [] b).fst.getD (↑i:Int).toNat [])).fst.getD (↑k:Int).toNat (Field.mk 0 [])).value)) ((0≤(↑k:Int)∧(↑k:Int)<(↑(parse [] ((unpk [] b).fst.getD (↑i:Int).toNat [])).fst.length:Int))∧(((parse [] ((unpk [] b).fst.getD (↑i:Int).toNat [])).fst.getD (↑k:Int).toNat (Field.mk 0 [])).value=((parse [] ((unpk [] b).fst.getD (↑i:Int).toNat [])).fst.getD (↑k:Int).toNat (Field.mk 0 [])).value)) ⟨(by omega),rfl⟩ (fun g27 p28=>?_)
           have p28:True:=p28
           refine v_if (decide (valRV ((parse [] ((unpk [] b).fst.getD (↑i:Int).toNat [])).fst.getD (↑k:Int).toNat (Field.mk 0 [])).value<1048576)) True trivial (fun h29=>?_) (fun h29=>?_)
           ·have h29:=of_decide_eq_true h29
            refine v_if (!valB ((parse [] ((unpk [] b).fst.getD (↑i:Int).toNat [])).fst.getD (↑k:Int).toNat (Field.mk 0 [])).value) ((valRV ((parse [] ((unpk [] b).fst.getD (↑i:Int).toNat [])).fst.getD (↑k:Int).toNat (Field.mk 0 [])).value<9223372036854775808)) (by exact hR3 ‹_›) (fun h30=>?_) (fun h30=>?_)
            ·have h30:=(nt h30)
             refine v_leave .rt True trivial ?_
             refine v_leave .rt True trivial ?_
             exact v_ret () [1] ((7=deE b)∧(b=b)∧([]=deL b)) ⟨(by exact(de2q ‹_› ‹_› ‹_› ‹_› ‹_› ‹_› ‹_› (gw5 ‹_› ‹_› ‹_› ‹_› ‹_› ‹_›) (by decide)).2),rfl,(by exact(de2q ‹_› ‹_› ‹_› ‹_› ‹_› ‹_› ‹_› (gw5 ‹_› ‹_› ‹_› ‹_› ‹_› ‹_›) (by decide)).1)⟩ trivial
            ·have h30:=(nf h30)
             exact v_back (k+1) [8,9,10] ((I64 (↑k+1))∧((↑k:Int)+1=(↑(k+1):Int))∧((gTo (parse [] ((unpk [] b).fst.getD (↑i:Int).toNat [])).fst k).kind=(gTo (parse [] ((unpk [] b).fst.getD (↑i:Int).toNat [])).fst (k+1)).kind)∧((gTo (parse [] ((unpk [] b).fst.getD (↑i:Int).toNat [])).fst k).hash.l=(gTo (parse [] ((unpk [] b).fst.getD (↑i:Int).toNat [])).fst (k+1)).hash.l)∧((↑(valRV ((parse [] ((unpk [] b).fst.getD (↑i:Int).toNat [])).fst.getD (↑k:Int).toNat (Field.mk 0 [])).value).toNat:Int)=(gTo (parse [] ((unpk [] b).fst.getD (↑i:Int).toNat [])).fst (k+1)).height)∧((gTo (parse [] ((unpk [] b).fst.getD (↑i:Int).toNat [])).fst k).size=(gTo (parse [] ((unpk [] b).fst.getD (↑i:Int).toNat [])).fst (k+1)).size)∧((gTo (parse [] ((unpk [] b).fst.getD (↑i:Int).toNat [])).fst k).key=(gTo (parse [] ((unpk [] b).fst.getD (↑i:Int).toNat [])).fst (k+1)).key)∧((gTo (parse [] ((unpk [] b).fst.getD (↑i:Int).toNat [])).fst k).value=(gTo (parse [] ((unpk [] b).fst.getD (↑i:Int).toNat [])).fst (k+1)).value)) ⟨(by exact xp_i ‹_› (xs_v ‹_› ‹_›)),rfl,(by(rw[gs5 ‹_› ‹_› ‹_› ‹_› ‹_› ‹_›])),(by(rw[gs5 ‹_› ‹_› ‹_› ‹_› ‹_› ‹_›])),(by(rw[gs5 ‹_› ‹_› ‹_› ‹_› ‹_› ‹_›];exact hR1 ‹_›)),(by(rw[gs5 ‹_› ‹_› ‹_› ‹_› ‹_› ‹_›])),(by(rw[gs5 ‹_› ‹_› ‹_› ‹_› ‹_› ‹_›])),(by(rw[gs5 ‹_› ‹_› ‹_› ‹_› ‹_› ‹_›]))⟩ (show GJ (parse [] ((unpk [] b).fst.getD (↑i:Int).toNat [])).fst (k+1)∧(parse [] ((unpk [] b).fst.getD (↑i:Int).toNat [])).fst.length - (k+1)<(parse [] ((unpk [] b).fst.getD (↑i:Int).toNat [])).fst.length - k from(by exact GJ.next ‹_› ‹_› (gv5 ‹_› ‹_› ‹_› ‹_› ‹_› ‹_›)))
           ·have h29:=of_decide_eq_false h29
            refine v_if (!valB ((parse [] ((unpk [] b).fst.getD (↑i:Int).toNat [])).fst.getD (↑k:Int).toNat (Field.mk 0 [])).value) True trivial (fun h31=>?_) (fun h31=>?_)
            ·have h31:=(nt h31)
             refine v_leave .rt True trivial ?_
             refine v_leave .rt True trivial ?_
             exact v_ret () [1] ((7=deE b)∧(b=b)∧([]=deL b)) ⟨(by exact(de2q ‹_› ‹_› ‹_› ‹_› ‹_› ‹_› ‹_› (gw5 ‹_› ‹_› ‹_› ‹_› ‹_› ‹_›) (by decide)).2),rfl,(by exact(de2q ‹_› ‹_› ‹_› ‹_› ‹_› ‹_› ‹_› (gw5 ‹_› ‹_› ‹_› ‹_› ‹_› ‹_›) (by decide)).1)⟩ trivial
            ·have h31:=(nf h31)
             exact v_back (k+1) [8,9,10] ((I64 (↑k+1))∧((↑k:Int)+1=(↑(k+1):Int))∧((gTo (parse [] ((unpk [] b).fst.getD (↑i:Int).toNat [])).fst k).kind=(gTo (parse [] ((unpk [] b).fst.getD (↑i:Int).toNat [])).fst (k+1)).kind)∧((gTo (parse [] ((unpk [] b).fst.getD (↑i:Int).toNat [])).fst k).hash.l=(gTo (parse [] ((unpk [] b).fst.getD (↑i:Int).toNat [])).fst (k+1)).hash.l)∧(1048576=(gTo (parse [] ((unpk [] b).fst.getD (↑i:Int).toNat [])).fst (k+1)).height)∧((gTo (parse [] ((unpk [] b).fst.getD (↑i:Int).toNat [])).fst k).size=(gTo (parse [] ((unpk [] b).fst.getD (↑i:Int).toNat [])).fst (k+1)).size)∧((gTo (parse [] ((unpk [] b).fst.getD (↑i:Int).toNat [])).fst k).key=(gTo (parse [] ((unpk [] b).fst.getD (↑i:Int).toNat [])).fst (k+1)).key)∧((gTo (parse [] ((unpk [] b).fst.getD (↑i:Int).toNat [])).fst k).value=(gTo (parse [] ((unpk [] b).fst.getD (↑i:Int).toNat [])).fst (k+1)).value)) ⟨(by exact xp_i ‹_› (xs_v ‹_› ‹_›)),rfl,(by(rw[gs5 ‹_› ‹_› ‹_› ‹_› ‹_› ‹_›])),(by(rw[gs5 ‹_› ‹_› ‹_› ‹_› ‹_› ‹_›])),(by(rw[gs5 ‹_› ‹_› ‹_› ‹_› ‹_› ‹_›];exact hR2 ‹_›)),(by(rw[gs5 ‹_› ‹_› ‹_› ‹_› ‹_› ‹_›])),(by(rw[gs5 ‹_› ‹_› ‹_› ‹_› ‹_› ‹_›])),(by(rw[gs5 ‹_› ‹_› ‹_› ‹_› ‹_› ‹_›]))⟩ (show GJ (parse [] ((unpk [] b).fst.getD (↑i:Int).toNat [])).fst (k+1)∧(parse [] ((unpk [] b).fst.getD (↑i:Int).toNat [])).fst.length - (k+1)<(parse [] ((unpk [] b).fst.getD (↑i:Int).toNat [])).fst.length - k from(by exact GJ.next ‹_› ‹_› (gv5 ‹_› ‹_› ‹_› ‹_› ‹_› ‹_›)))
          ·have h26:=of_decide_eq_false h26
           refine v_if (decide (((parse [] ((unpk [] b).fst.getD (↑i:Int).toNat [])).fst.getD (↑k:Int).toNat (Field.mk 0 [])).tag=6)) True trivial (fun h32=>?_) (fun h32=>?_)
           ·have h32:=of_decide_eq_true h32
            refine v_call _ [13] (valuer_ok (((parse [] ((unpk [] b).fst.getD (↑i:Int).toNat [])).fst.getD (↑k:Int).toNat (Field.mk 0 [])).value)) ((0≤(↑k:Int)∧(↑k:Int)<(↑(parse [] ((unpk [] b).fst.getD (↑i:Int).toNat [])).fst.length:Int))∧(((parse [] ((unpk [] b).fst.getD (↑i:Int).toNat [])).fst.getD (↑k:Int).toNat (Field.mk 0 [])).value=((parse [] ((unpk [] b).fst.getD (↑i:Int).toNat [])).fst.getD (↑k:Int).toNat (Field.mk 0 [])).value)) ⟨(by omega),rfl⟩ (fun g33 p34=>?_)
            have p34:True:=p34
            refine v_if (!valB ((parse [] ((unpk [] b).fst.getD (↑i:Int).toNat [])).fst.getD (↑k:Int).toNat (Field.mk 0 [])).value) True trivial (fun h35=>?_) (fun h35=>?_)
            ·have h35:=(nt h35)
             refine v_leave .rt True trivial ?_
             refine v_leave .rt True trivial ?_
             exact v_ret () [1] ((7=deE b)∧(b=b)∧([]=deL b)) ⟨(by exact(de2q ‹_› ‹_› ‹_› ‹_› ‹_› ‹_› ‹_› (gw6 ‹_› ‹_› ‹_› ‹_› ‹_› ‹_› ‹_›) (by decide)).2),rfl,(by exact(de2q ‹_› ‹_› ‹_› ‹_› ‹_› ‹_› ‹_› (gw6 ‹_› ‹_› ‹_› ‹_› ‹_› ‹_› ‹_›) (by decide)).1)⟩ trivial
            ·have h35:=(nf h35)
             exact v_back (k+1) [8,9,10] ((I64 (↑k+1))∧((↑k:Int)+1=(↑(k+1):Int))∧((gTo (parse [] ((unpk [] b).fst.getD (↑i:Int).toNat [])).fst k).kind=(gTo (parse [] ((unpk [] b).fst.getD (↑i:Int).toNat [])).fst (k+1)).kind)∧((gTo (parse [] ((unpk [] b).fst.getD (↑i:Int).toNat [])).fst k).hash.l=(gTo (parse [] ((unpk [] b).fst.getD (↑i:Int).toNat [])).fst (k+1)).hash.l)∧((gTo (parse [] ((unpk [] b).fst.getD (↑i:Int).toNat [])).fst k).height=(gTo (parse [] ((unpk [] b).fst.getD (↑i:Int).toNat [])).fst (k+1)).height)∧(valRV ((parse [] ((unpk [] b).fst.getD (↑i:Int).toNat [])).fst.getD (↑k:Int).toNat (Field.mk 0 [])).value=(gTo (parse [] ((unpk [] b).fst.getD (↑i:Int).toNat [])).fst (k+1)).size)∧((gTo (parse [] ((unpk [] b).fst.getD (↑i:Int).toNat [])).fst k).key=(gTo (parse [] ((unpk [] b).fst.getD (↑i:Int).toNat [])).fst (k+1)).key)∧((gTo (parse [] ((unpk [] b).fst.getD (↑i:Int).toNat [])).fst k).value=(gTo (parse [] ((unpk [] b).fst.getD (↑i:Int).toNat [])).fst (k+1)).value)) ⟨(by exact xp_i ‹_› (xs_v ‹_› ‹_›)),rfl,(by(rw[gs6 ‹_› ‹_› ‹_› ‹_› ‹_› ‹_› ‹_›])),(by(rw[gs6 ‹_› ‹_› ‹_› ‹_› ‹_› ‹_› ‹_›])),(by(rw[gs6 ‹_› ‹_› ‹_› ‹_› ‹_› ‹_› ‹_›])),(by(rw[gs6 ‹_› ‹_› ‹_› ‹_› ‹_› ‹_› ‹_›];exact valRV_eq _)),(by(rw[gs6 ‹_› ‹_› ‹_› ‹_› ‹_› ‹_› ‹_›])),(by(rw[gs6 ‹_› ‹_› ‹_› ‹_› ‹_› ‹_› ‹_›]))⟩ (show GJ (parse [] ((unpk [] b).fst.getD (↑i:Int).toNat [])).fst (k+1)∧(parse [] ((unpk [] b).fst.getD (↑i:Int).toNat [])).fst.length - (k+1)<(parse [] ((unpk [] b).fst.getD (↑i:Int).toNat [])).fst.length - k from(by exact GJ.next ‹_› ‹_› (gv6 ‹_› ‹_› ‹_› ‹_› ‹_› ‹_› ‹_›)))
           ·have h32:=of_decide_eq_false h32
            refine v_leave .rt True trivial ?_
            refine v_leave .rt True trivial ?_
            exact v_ret () [1] ((8=deE b)∧(b=b)∧([]=deL b)) ⟨(by exact(de2q ‹_› ‹_› ‹_› ‹_› ‹_› ‹_› ‹_› (ge7 ‹_› ‹_› ‹_› ‹_› ‹_› ‹_›) (by decide)).2),rfl,(by exact(de2q ‹_› ‹_› ‹_› ‹_› ‹_› ‹_› ‹_› (ge7 ‹_› ‹_› ‹_› ‹_› ‹_› ‹_›) (by decide)).1)⟩ trivial
     ·have h11:=of_decide_eq_false h11
      refine v_leave (.ex 2) True trivial ?_
      exact v_back (i+1) [12] (((List.map tdV (List.take i (unpk [] b).fst)).length+1≤1000000)∧(I64 (↑i+1))∧((↑i:Int)+1=(↑(i+1):Int))∧(List.map tdV (List.take i (unpk [] b).fst)++[Token.mk (gTo (parse [] ((unpk [] b).fst.getD (↑i:Int).toNat [])).fst k).kind (mk32 (gTo (parse [] ((unpk [] b).fst.getD (↑i:Int).toNat [])).fst k).hash.l) (gTo (parse [] ((unpk [] b).fst.getD (↑i:Int).toNat [])).fst k).key (gTo (parse [] ((unpk [] b).fst.getD (↑i:Int).toNat [])).fst k).value (gTo (parse [] ((unpk [] b).fst.getD (↑i:Int).toNat [])).fst k).height (gTo (parse [] ((unpk [] b).fst.getD (↑i:Int).toNat [])).fst k).size]=List.map tdV (List.take (i+1) (unpk [] b).fst))) ⟨(by exact xs_a ‹_›),(by exact xs_i ‹_› ‹_›),rfl,(by exact td_end ‹_› ‹_› ‹_› ‹_›)⟩ (show HJ (unpk [] b).fst (i+1)∧(unpk [] b).fst.length - (i+1)<(unpk [] b).fst.length - i from(by exact td_nx ‹_› ‹_› ‹_› ‹_› ‹_›))
   ·have h6:=of_decide_eq_false h6
    refine v_leave (.ex 0) True trivial ?_
    refine v_call _ [3] (EncodeTokens_ok (List.map tdV (List.take i (unpk [] b).fst)) (by exact xs_s ‹_› ‹_› ‹_›) (by exact xs_l ‹_›)) ((List.map tdV (List.take i (unpk [] b).fst)=List.map tdV (List.take i (unpk [] b).fst))) rfl (fun g36 p37=>?_)
    have p37:True:=p37
    refine v_if (decide (teE (List.map tdV (List.take i (unpk [] b).fst))≠0)) True trivial (fun h38=>?_) (fun h38=>?_)
    ·have h38:=of_decide_eq_true h38
     exact v_ret () [1] ((teE (List.map tdV (List.take i (unpk [] b).fst))=deE b)∧(b=b)∧([]=deL b)) ⟨(by exact(de3' ‹_› ‹_› ‹_› ‹_› ‹_›).2),rfl,(by exact(de3' ‹_› ‹_› ‹_› ‹_› ‹_›).1)⟩ trivial
    ·have h38:=of_decide_eq_false h38
     refine v_if (decide (teB (List.map tdV (List.take i (unpk [] b).fst))≠b)) True trivial (fun h39=>?_) (fun h39=>?_)
     ·have h39:=of_decide_eq_true h39
      exact v_ret () [1] ((8=deE b)∧(b=b)∧([]=deL b)) ⟨(by exact(de4' ‹_› ‹_› ‹_› ‹_› ‹_› ‹_›).2),rfl,(by exact(de4' ‹_› ‹_› ‹_› ‹_› ‹_› ‹_›).1)⟩ trivial
     ·have h39:=of_decide_eq_false h39
      exact v_ret () [3] ((0=deE b)∧(b=b)∧(List.map tdV (List.take i (unpk [] b).fst)=deL b)) ⟨(by exact(de5' ‹_› ‹_› ‹_› ‹_› ‹_› (Decidable.not_not.1 ‹_›)).2),rfl,(by exact(de5' ‹_› ‹_› ‹_› ‹_› ‹_› (Decidable.not_not.1 ‹_›)).1)⟩ trivial
theorem tk_ext {x y:Token} (h1:x.kind=y.kind) (h2:x.hash.l=y.hash.l) (h3:x.key=y.key) (h4:x.value=y.value) (h5:x.height=y.height) (h6:x.size=y.size):x=y:=by
  cases x;cases y;simp only at h1 h2 h3 h4 h5 h6;subst h1;subst h3;subst h4;subst h5;subst h6;rw[Sum32.ext' h2]
theorem tk_nx {x y:Token} (h1:¬ x.kind≠y.kind) (h2:x.hash.l=y.hash.l) (h3:¬ x.key≠y.key) (h4:¬ x.value≠y.value) (h5:¬ x.height≠y.height) (h6:¬ x.size≠y.size):x=y :=
  tk_ext (Classical.not_not.1 h1) h2 (Classical.not_not.1 h3) (Classical.not_not.1 h4) (Classical.not_not.1 h5) (Classical.not_not.1 h6)
def StI (a b:List Token) (i:Nat):Prop:=a.take i=b.take i∧i≤a.length∧a.length=b.length
section
variable {a b:List Token} {i:Nat}
theorem StI.start (h:¬ (a.length:Int)≠(b.length:Int)):StI a b 0:=⟨by simp,Nat.zero_le _,by omega⟩
theorem StI.len (h:(a.length:Int)≠(b.length:Int)):false=decide (a=b):=(decide_eq_false fun e=>h (by rw[e])).symm
theorem take_tok {l:List Token} {n:Nat} (h:n<l.length):l.take (n+1)=l.take n++[l.getD n kT0]:=by
  rw[List.take_succ,List.getD_eq_getElem?_getD,List.getElem?_eq_getElem h];rfl
theorem StI.next (h:StI a b i) (hi:(i:Int)<a.length) (he:a.getD (i:Int).toNat kT0=b.getD (i:Int).toNat kT0):StI a b (i+1)∧a.length - (i+1)<a.length - i:=by
  obtain⟨h1,h2,h3⟩:=h
  rw[Int.toNat_natCast] at he
  exact⟨⟨by rw[take_tok (by omega),take_tok (by omega),h1,he],by omega,h3⟩,by omega⟩
theorem StI.bad (h:a.getD (i:Int).toNat kT0≠b.getD (i:Int).toNat kT0):false=decide (a=b):=(decide_eq_false fun e=>h (by rw[e])).symm
theorem StI.end (h:StI a b i) (hi:¬ (i:Int)<a.length):true=decide (a=b):=by
  obtain⟨h1,h2,h3⟩:=h
  rw[List.take_of_length_le (by omega),List.take_of_length_le (by omega)] at h1
  exact(decide_eq_true h1).symm
end
noncomputable def ccN2_13:Code:=(Tryd.f13.body).getD .skip
theorem SameTokens_ok (a b:List Token) (ha:a.length≤900000) (hb:b.length≤900000):FOk EN 13 ⟨[.rd 32 a,.rd 32 b],[.n 0,.n 1],Unit,fun _=>([.rd 32 a,.rd 32 b],.b (decide (a=b))),fun _=>True⟩:=by
 refine v_fun Tryd.f13 ccN2_13 MX (fun ν F σ w=>?_) Tryd.func13
 refine v_nl ?_
 refine v_if (decide ((↑a.length:Int)≠(↑b.length:Int))) True trivial (fun h1=>?_) (fun h1=>?_)
 ·have h1:=of_decide_eq_true h1
  exact v_ret () [] ((false=decide (a=b))∧(a=a)∧(b=b)) ⟨(by exact StI.len ‹_›),rfl,rfl⟩ trivial
 ·have h1:=of_decide_eq_false h1
  refine v_loop (fun i:Nat=>([(5,.i i)],[])) (fun i=>StI a b i) (fun i=>a.length - i) 0 [] (((0:Int)=(↑(0:Nat):Int))) rfl (by exact StI.start ‹_›) (fun i hk2=>?_)
  refine v_if (decide ((↑i:Int)<(↑a.length:Int))) True trivial (fun h3=>?_) (fun h3=>?_)
  ·have h3:=of_decide_eq_true h3
   refine v_join [19,20,21,22,23,24,25,26,6,7] [] (fun _:Unit=>([(7,SV.p 3 0),(6,SV.p 4 0)],[Ent.bx 32 [SV.c (b.getD (↑i:Int).toNat (Token.mk 0 zero32 [] [] 0 0)).kind,SV.h 32 (b.getD (↑i:Int).toNat (Token.mk 0 zero32 [] [] 0 0)).hash.l,SV.n 5,SV.n 6,SV.i (b.getD (↑i:Int).toNat (Token.mk 0 zero32 [] [] 0 0)).height,SV.u (b.getD (↑i:Int).toNat (Token.mk 0 zero32 [] [] 0 0)).size],Ent.bx 32 [SV.c (a.getD (↑i:Int).toNat (Token.mk 0 zero32 [] [] 0 0)).kind,SV.h 32 (a.getD (↑i:Int).toNat (Token.mk 0 zero32 [] [] 0 0)).hash.l,SV.n 7,SV.n 8,SV.i (a.getD (↑i:Int).toNat (Token.mk 0 zero32 [] [] 0 0)).height,SV.u (a.getD (↑i:Int).toNat (Token.mk 0 zero32 [] [] 0 0)).size],Ent.rd 5 (b.getD (↑i:Int).toNat (Token.mk 0 zero32 [] [] 0 0)).key,Ent.rd 5 (b.getD (↑i:Int).toNat (Token.mk 0 zero32 [] [] 0 0)).value,Ent.rd 5 (a.getD (↑i:Int).toNat (Token.mk 0 zero32 [] [] 0 0)).key,Ent.rd 5 (a.getD (↑i:Int).toNat (Token.mk 0 zero32 [] [] 0 0)).value])) (fun _=>True) ?_ (fun _ _=>?_) True trivial
   ·skip
    refine v_plan (.fs [0,1,2,3,4,5,6,7] (.c 8 (.o 9 (.o 10 (.o 11 .e))) (.o 9 (.o 8 (.o 10 (.o 11 .e)))))) [] True trivial ?_
    refine v_pick ((0≤(↑i:Int)∧(↑i:Int)<(↑a.length:Int))∧(0≤(↑i:Int)∧(↑i:Int)<(↑b.length:Int))) ⟨(by omega),(by omega)⟩ ?_ ?_
    ·skip
     exact v_back (()) [10,9,6,7,3,4] (((b.getD (↑i:Int).toNat (Token.mk 0 zero32 [] [] 0 0)).kind=(b.getD (↑i:Int).toNat (Token.mk 0 zero32 [] [] 0 0)).kind)∧((b.getD (↑i:Int).toNat (Token.mk 0 zero32 [] [] 0 0)).hash.l=(b.getD (↑i:Int).toNat (Token.mk 0 zero32 [] [] 0 0)).hash.l)∧((b.getD (↑i:Int).toNat (Token.mk 0 zero32 [] [] 0 0)).height=(b.getD (↑i:Int).toNat (Token.mk 0 zero32 [] [] 0 0)).height)∧((b.getD (↑i:Int).toNat (Token.mk 0 zero32 [] [] 0 0)).size=(b.getD (↑i:Int).toNat (Token.mk 0 zero32 [] [] 0 0)).size)∧((a.getD (↑i:Int).toNat (Token.mk 0 zero32 [] [] 0 0)).kind=(a.getD (↑i:Int).toNat (Token.mk 0 zero32 [] [] 0 0)).kind)∧((a.getD (↑i:Int).toNat (Token.mk 0 zero32 [] [] 0 0)).hash.l=(a.getD (↑i:Int).toNat (Token.mk 0 zero32 [] [] 0 0)).hash.l)∧((a.getD (↑i:Int).toNat (Token.mk 0 zero32 [] [] 0 0)).height=(a.getD (↑i:Int).toNat (Token.mk 0 zero32 [] [] 0 0)).height)∧((a.getD (↑i:Int).toNat (Token.mk 0 zero32 [] [] 0 0)).size=(a.getD (↑i:Int).toNat (Token.mk 0 zero32 [] [] 0 0)).size)∧((b.getD (↑i:Int).toNat (Token.mk 0 zero32 [] [] 0 0)).key=(b.getD (↑i:Int).toNat (Token.mk 0 zero32 [] [] 0 0)).key)∧((b.getD (↑i:Int).toNat (Token.mk 0 zero32 [] [] 0 0)).value=(b.getD (↑i:Int).toNat (Token.mk 0 zero32 [] [] 0 0)).value)∧((a.getD (↑i:Int).toNat (Token.mk 0 zero32 [] [] 0 0)).key=(a.getD (↑i:Int).toNat (Token.mk 0 zero32 [] [] 0 0)).key)∧((a.getD (↑i:Int).toNat (Token.mk 0 zero32 [] [] 0 0)).value=(a.getD (↑i:Int).toNat (Token.mk 0 zero32 [] [] 0 0)).value)) ⟨rfl,rfl,rfl,rfl,rfl,rfl,rfl,rfl,rfl,rfl,rfl,rfl⟩ (show True from trivial)
    ·skip
     exact v_back (()) [9,10,6,7,3,4] (((b.getD (↑i:Int).toNat (Token.mk 0 zero32 [] [] 0 0)).kind=(b.getD (↑i:Int).toNat (Token.mk 0 zero32 [] [] 0 0)).kind)∧((b.getD (↑i:Int).toNat (Token.mk 0 zero32 [] [] 0 0)).hash.l=(b.getD (↑i:Int).toNat (Token.mk 0 zero32 [] [] 0 0)).hash.l)∧((b.getD (↑i:Int).toNat (Token.mk 0 zero32 [] [] 0 0)).height=(b.getD (↑i:Int).toNat (Token.mk 0 zero32 [] [] 0 0)).height)∧((b.getD (↑i:Int).toNat (Token.mk 0 zero32 [] [] 0 0)).size=(b.getD (↑i:Int).toNat (Token.mk 0 zero32 [] [] 0 0)).size)∧((a.getD (↑i:Int).toNat (Token.mk 0 zero32 [] [] 0 0)).kind=(a.getD (↑i:Int).toNat (Token.mk 0 zero32 [] [] 0 0)).kind)∧((a.getD (↑i:Int).toNat (Token.mk 0 zero32 [] [] 0 0)).hash.l=(a.getD (↑i:Int).toNat (Token.mk 0 zero32 [] [] 0 0)).hash.l)∧((a.getD (↑i:Int).toNat (Token.mk 0 zero32 [] [] 0 0)).height=(a.getD (↑i:Int).toNat (Token.mk 0 zero32 [] [] 0 0)).height)∧((a.getD (↑i:Int).toNat (Token.mk 0 zero32 [] [] 0 0)).size=(a.getD (↑i:Int).toNat (Token.mk 0 zero32 [] [] 0 0)).size)∧((b.getD (↑i:Int).toNat (Token.mk 0 zero32 [] [] 0 0)).key=(b.getD (↑i:Int).toNat (Token.mk 0 zero32 [] [] 0 0)).key)∧((b.getD (↑i:Int).toNat (Token.mk 0 zero32 [] [] 0 0)).value=(b.getD (↑i:Int).toNat (Token.mk 0 zero32 [] [] 0 0)).value)∧((a.getD (↑i:Int).toNat (Token.mk 0 zero32 [] [] 0 0)).key=(a.getD (↑i:Int).toNat (Token.mk 0 zero32 [] [] 0 0)).key)∧((a.getD (↑i:Int).toNat (Token.mk 0 zero32 [] [] 0 0)).value=(a.getD (↑i:Int).toNat (Token.mk 0 zero32 [] [] 0 0)).value)) ⟨rfl,rfl,rfl,rfl,rfl,rfl,rfl,rfl,rfl,rfl,rfl,rfl⟩ (show True from trivial)
   ·skip
    refine v_guard 32 (decide ((a.getD (↑i:Int).toNat (Token.mk 0 zero32 [] [] 0 0)).kind≠(b.getD (↑i:Int).toNat (Token.mk 0 zero32 [] [] 0 0)).kind)) True trivial (fun h4=>?_) (fun h4=>?_)
    ·have h4:=of_decide_eq_true h4
     refine v_leave .rt True trivial ?_
     exact v_ret () [] ((false=decide (a=b))∧(a=a)∧(b=b)) ⟨(by exact StI.bad (fun e=>absurd (congrArg Token.kind e) ‹_›)),rfl,rfl⟩ trivial
    ·have h4:=of_decide_eq_false h4
     refine v_guard 39 (!decide ((a.getD (↑i:Int).toNat (Token.mk 0 zero32 [] [] 0 0)).hash.l=(b.getD (↑i:Int).toNat (Token.mk 0 zero32 [] [] 0 0)).hash.l)) ((EN.P.eqGuardType EN.P.depth (29:Nat)=false)∧((a.getD (↑i:Int).toNat (Token.mk 0 zero32 [] [] 0 0)).hash.l.length=32)∧((b.getD (↑i:Int).toNat (Token.mk 0 zero32 [] [] 0 0)).hash.l.length=32)) ⟨rfl,(by exact Sum32.h _),(by exact Sum32.h _)⟩ (fun h5=>?_) (fun h5=>?_)
     ·have h5:=of_decide_eq_false (nt h5)
      refine v_leave .rt True trivial ?_
      exact v_ret () [] ((false=decide (a=b))∧(a=a)∧(b=b)) ⟨(by exact StI.bad (fun e=>absurd (congrArg (fun t:Token=>t.hash.l) e) ‹_›)),rfl,rfl⟩ trivial
     ·have h5:=of_decide_eq_true (nf h5)
      refine v_guard 48 (decide ((a.getD (↑i:Int).toNat (Token.mk 0 zero32 [] [] 0 0)).key≠(b.getD (↑i:Int).toNat (Token.mk 0 zero32 [] [] 0 0)).key)) True trivial (fun h6=>?_) (fun h6=>?_)
      ·have h6:=of_decide_eq_true h6
       refine v_leave .rt True trivial ?_
       exact v_ret () [] ((false=decide (a=b))∧(a=a)∧(b=b)) ⟨(by exact StI.bad (fun e=>absurd (congrArg Token.key e) ‹_›)),rfl,rfl⟩ trivial
      ·have h6:=of_decide_eq_false h6
       refine v_guard 57 (decide ((a.getD (↑i:Int).toNat (Token.mk 0 zero32 [] [] 0 0)).value≠(b.getD (↑i:Int).toNat (Token.mk 0 zero32 [] [] 0 0)).value)) True trivial (fun h7=>?_) (fun h7=>?_)
       ·have h7:=of_decide_eq_true h7
        refine v_leave .rt True trivial ?_
        exact v_ret () [] ((false=decide (a=b))∧(a=a)∧(b=b)) ⟨(by exact StI.bad (fun e=>absurd (congrArg Token.value e) ‹_›)),rfl,rfl⟩ trivial
       ·have h7:=of_decide_eq_false h7
        refine v_guard 64 (decide ((a.getD (↑i:Int).toNat (Token.mk 0 zero32 [] [] 0 0)).height≠(b.getD (↑i:Int).toNat (Token.mk 0 zero32 [] [] 0 0)).height)) True trivial (fun h8=>?_) (fun h8=>?_)
        ·have h8:=of_decide_eq_true h8
         refine v_leave .rt True trivial ?_
         exact v_ret () [] ((false=decide (a=b))∧(a=a)∧(b=b)) ⟨(by exact StI.bad (fun e=>absurd (congrArg Token.height e) ‹_›)),rfl,rfl⟩ trivial
        ·have h8:=of_decide_eq_false h8
         refine v_if (decide ((a.getD (↑i:Int).toNat (Token.mk 0 zero32 [] [] 0 0)).size≠(b.getD (↑i:Int).toNat (Token.mk 0 zero32 [] [] 0 0)).size)) True trivial (fun h9=>?_) (fun h9=>?_)
         ·have h9:=of_decide_eq_true h9
          refine v_leave .rt True trivial ?_
          exact v_ret () [] ((false=decide (a=b))∧(a=a)∧(b=b)) ⟨(by exact StI.bad (fun e=>absurd (congrArg Token.size e) ‹_›)),rfl,rfl⟩ trivial
         ·have h9:=of_decide_eq_false h9
          exact v_back (i+1) [] ((I64 (↑i+1))∧((↑i:Int)+1=(↑(i+1):Int))) ⟨(by(unfold I64;omega)),rfl⟩ (show StI a b (i+1)∧a.length - (i+1)<a.length - i from(by exact StI.next ‹_› ‹_› (tk_nx ‹_› ‹_› ‹_› ‹_› ‹_› ‹_›)))
  ·have h3:=of_decide_eq_false h3
   refine v_leave (.ex 0) True trivial ?_
   exact v_ret () [] ((true=decide (a=b))∧(a=a)∧(b=b)) ⟨(by exact StI.end ‹_› ‹_›),rfl,rfl⟩ trivial
def smK (ks:List (List UInt8)):Nat→List (List UInt8)
  | 0=>[]
  | n+1=>smK ks n++(if n<10∧(ks.getD n []).length≤96 then[ks.getD n []] else[])
def smX (l:List Pair) (wh:List UInt8) (n:Nat):List UInt8:=(l.getD (((wh.getD n 0).toNat:Int) % (l.length:Int)).toNat dP).key
def smW (l:List Pair) (wh:List UInt8):Nat→List (List UInt8)
  | 0=>[]
  | n+1=>smW l wh n++(if n<10∧0<l.length then[if n % 3=2 then smX l wh n++[1] else smX l wh n] else[])
def smP (l:List Pair) (ks:List (List UInt8)) (wh:List UInt8):List (List UInt8):=smK ks ks.length++smW l wh wh.length
theorem smK_len (ks:List (List UInt8)):∀ n,(smK ks n).length≤min n 10
  | 0=>Nat.zero_le _
  | n+1=>by have:=smK_len ks n;unfold smK;split <;> simp <;> omega
theorem smW_len (l:List Pair) (wh:List UInt8):∀ n,(smW l wh n).length≤min n 10
  | 0=>Nat.zero_le _
  | n+1=>by have:=smW_len l wh n;unfold smW;split <;> simp <;> omega
theorem smP_len (l:List Pair) (ks:List (List UInt8)) (wh:List UInt8):(smP l ks wh).length≤20:=by
  have:=smK_len ks ks.length;have:=smW_len l wh wh.length;unfold smP;rw[List.length_append];omega
section
variable {l:List Pair} {ks:List (List UInt8)} {wh:List UInt8} {i:Nat}
theorem sm1 (h:(i:Int)<10) (h2:((ks.getD (i:Int).toNat []).length:Int)≤96):smK ks i++[ks.getD (i:Int).toNat []]=smK ks (i+1):=by rw[Int.toNat_natCast] at *;rw[smK,if_pos ⟨by omega,by omega⟩]
theorem sm2 (h2:¬ ((ks.getD (i:Int).toNat []).length:Int)≤96):smK ks i=smK ks (i+1):=by rw[Int.toNat_natCast] at *;rw[smK,if_neg (fun e=>h2 (by omega)),List.append_nil]
theorem sm3 (h:¬ (i:Int)<10):smK ks i=smK ks (i+1):=by rw[smK,if_neg (fun e=>h (by omega)),List.append_nil]
theorem sm4:(smK ks i).length+1≤1000000:=by have:=smK_len ks i;omega
end
section
variable {l:List Pair} {ks:List (List UInt8)} {wh:List UInt8} {i j:Nat}
abbrev smY (l:List Pair) (wh:List UInt8) (j:Nat):List UInt8:=(l.getD (((wh.getD (j:Int).toNat 0).toNat:Int) % (l.length:Int)).toNat dP).key
theorem sw0:smK ks i=smK ks i++smW l wh 0:=(List.append_nil _).symm
theorem sw1 (h:(0:Int)<(l.length:Int)) {x:UInt8}:(0:Int)≤(x.toNat:Int) % (l.length:Int)∧(x.toNat:Int) % (l.length:Int)<(l.length:Int):=⟨Int.emod_nonneg _ (by omega),Int.emod_lt_of_pos _ h⟩
theorem getD_key (hk:∀ p∈l,p.key.length≤1000) (n:Nat):(l.getD n dP).key.length≤1000:=by
  rw[List.getD_eq_getElem?_getD]
  cases h:l[n]? with
  | none=>exact Nat.zero_le _
  | some x=>exact hk x (List.mem_of_getElem? h)
theorem sw2 (hk:∀ p∈l,p.key.length≤1000) {n:Nat}:0+(l.getD n dP).key.length≤1000000:=by have:=getD_key hk n;omega
theorem sw3 (hk:∀ p∈l,p.key.length≤1000) {n:Nat}:([]++(l.getD n dP).key).length+1≤1000000:=by have:=getD_key hk n;rw[List.nil_append];omega
theorem sw4:(smK ks i++smW l wh j).length+1≤1000000:=by have:=smK_len ks i;have:=smW_len l wh j;rw[List.length_append];omega
theorem sw5 (h:(j:Int)<10) (h0:(0:Int)<(l.length:Int)) (h3:(j:Int) % 3=2):smK ks i++smW l wh j++[[]++smY l wh j++[1]]=smK ks i++smW l wh (j+1):=by
  rw[List.append_assoc];congr 1;rw[smW,if_pos ⟨by omega,by omega⟩,if_pos (by omega)];rfl
theorem sw6 (h:(j:Int)<10) (h0:(0:Int)<(l.length:Int)) (h3:¬ (j:Int) % 3=2):smK ks i++smW l wh j++[smY l wh j]=smK ks i++smW l wh (j+1):=by
  rw[List.append_assoc];congr 1;rw[smW,if_pos ⟨by omega,by omega⟩,if_neg (by omega)];rfl
theorem sw7 (h0:¬ (0:Int)<(l.length:Int)):smK ks i++smW l wh j=smK ks i++smW l wh (j+1):=by rw[smW,if_neg (fun e=>h0 (by omega)),List.append_nil]
theorem sw8 (h:¬ (j:Int)<10):smK ks i++smW l wh j=smK ks i++smW l wh (j+1):=by rw[smW,if_neg (fun e=>h (by omega)),List.append_nil]
theorem sw9 (hi:i≤ks.length) (h:¬ (i:Int)<ks.length) (hj:j≤wh.length) (h2:¬ (j:Int)<wh.length):smK ks i++smW l wh j=smP l ks wh:=by
  rw[show i=ks.length by omega,show j=wh.length by omega];rfl
end
noncomputable def ccN2_7:Code:=(Tryd.f7.body).getD .skip
theorem some10_ok (l:List Pair) (ks:List (List UInt8)) (wh:List UInt8) (hl:l.length≤100000) (hk:∀ p∈l,p.key.length≤1000) (hkl:ks.length≤140737488355328) (hwl:wh.length≤140737488355328):FOk EN 7 ⟨[.rd 76 (l),.rd 23 ks,.rd 5 (wh)],[.n 0,.n 1,.n 2],Unit,fun _=>([.rd 76 (l),.rd 23 ks,.rd 5 (wh),.ow 23 (smP l ks wh)],.n 3),fun _=>True⟩:=by
 refine v_fun Tryd.f7 ccN2_7 MX (fun ν F σ w=>?_) Tryd.func7
 refine v_nl ?_
 refine v_loop (fun i:Nat=>([(15,.i i),(7,.n 4)],[.ow 23 (smK ks i)])) (fun i=>i≤ks.length) (fun i=>ks.length - i) 0 [3] (((0:Int)=(↑(0:Nat):Int))∧([]=smK ks 0)) ⟨rfl,rfl⟩ (by omega) (fun i hk1=>?_)
 refine v_if (decide ((↑i:Int)<(↑ks.length:Int))) True trivial (fun h2=>?_) (fun h2=>?_)
 ·have h2:=of_decide_eq_true h2
  refine v_guard 22 (decide ((↑i:Int)<10)) ((0≤(↑i:Int)∧(↑i:Int)<(↑ks.length:Int))) (by omega) (fun h3=>?_) (fun h3=>?_)
  ·have h3:=of_decide_eq_true h3
   refine v_if (decide ((↑(ks.getD (↑i:Int).toNat []).length:Int)≤96)) True trivial (fun h4=>?_) (fun h4=>?_)
   ·have h4:=of_decide_eq_true h4
    exact v_back (i+1) [8] (((smK ks i).length+1≤1000000)∧(I64 (↑i+1))∧((↑i:Int)+1=(↑(i+1):Int))∧(smK ks i++[ks.getD (↑i:Int).toNat []]=smK ks (i+1))) ⟨(by exact sm4),(by(unfold I64;omega)),rfl,(by exact sm1 ‹_› ‹_›)⟩ (show i+1≤ks.length∧ks.length - (i+1)<ks.length - i from(by omega))
   ·have h4:=of_decide_eq_false h4
    exact v_back (i+1) [4] ((I64 (↑i+1))∧((↑i:Int)+1=(↑(i+1):Int))∧(smK ks i=smK ks (i+1))) ⟨(by(unfold I64;omega)),rfl,(by exact sm2 ‹_›)⟩ (show i+1≤ks.length∧ks.length - (i+1)<ks.length - i from(by omega))
  ·have h3:=of_decide_eq_false h3
   exact v_back (i+1) [4] ((I64 (↑i+1))∧((↑i:Int)+1=(↑(i+1):Int))∧(smK ks i=smK ks (i+1))) ⟨(by(unfold I64;omega)),rfl,(by exact sm3 ‹_›)⟩ (show i+1≤ks.length∧ks.length - (i+1)<ks.length - i from(by omega))
 ·have h2:=of_decide_eq_false h2
  refine v_leave (.ex 0) True trivial ?_
  refine v_loop (fun j:Nat=>([(34,.i j),(7,.n 5)],[.ow 23 (smK ks i++smW l wh j)])) (fun j=>j≤wh.length) (fun j=>wh.length - j) 0 [4] (((0:Int)=(↑(0:Nat):Int))∧(smK ks i=smK ks i++smW l wh 0)) ⟨rfl,(by exact sw0)⟩ (by omega) (fun j hk5=>?_)
  refine v_if (decide ((↑j:Int)<(↑wh.length:Int))) True trivial (fun h6=>?_) (fun h6=>?_)
  ·have h6:=of_decide_eq_true h6
   refine v_guard 41 (decide ((↑j:Int)<10)) ((0≤(↑j:Int)∧(↑j:Int)<(↑wh.length:Int))) (by omega) (fun h7=>?_) (fun h7=>?_)
   ·have h7:=of_decide_eq_true h7
    refine v_if (decide (0<(↑l.length:Int))) True trivial (fun h8=>?_) (fun h8=>?_)
    ·have h8:=of_decide_eq_true h8
     refine v_if (decide ((↑j:Int) % 3=2)) ((0≤(↑(wh.getD (↑j:Int).toNat 0).toNat:Int)∧0<(↑l.length:Int))∧(0≤(↑(wh.getD (↑j:Int).toNat 0).toNat:Int) % (↑l.length:Int)∧(↑(wh.getD (↑j:Int).toNat 0).toNat:Int) % (↑l.length:Int)<(↑l.length:Int))∧((0:Int)≤(↑j:Int)∧(0:Int)<(3:Int))) ⟨(by omega),(by exact sw1 ‹_›),(by omega)⟩ (fun h9=>?_) (fun h9=>?_)
     ·have h9:=of_decide_eq_true h9
      exact v_back (j+1) [15] ((0+(l.getD ((↑(wh.getD (↑j:Int).toNat 0).toNat:Int) % (↑l.length:Int)).toNat (Pair.mk [] [])).key.length≤1000000)∧(([]++(l.getD ((↑(wh.getD (↑j:Int).toNat 0).toNat:Int) % (↑l.length:Int)).toNat (Pair.mk [] [])).key).length+1≤1000000)∧((smK ks i++smW l wh j).length+1≤1000000)∧(I64 (↑j+1))∧((↑j:Int)+1=(↑(j+1):Int))∧(smK ks i++smW l wh j++[[]++(l.getD ((↑(wh.getD (↑j:Int).toNat 0).toNat:Int) % (↑l.length:Int)).toNat (Pair.mk [] [])).key++[1]]=smK ks i++smW l wh (j+1))) ⟨(by exact sw2 hk),(by exact sw3 hk),(by exact sw4),(by(unfold I64;omega)),rfl,(by exact sw5 ‹_› ‹_› ‹_›)⟩ (show j+1≤wh.length∧wh.length - (j+1)<wh.length - j from(by omega))
     ·have h9:=of_decide_eq_false h9
      exact v_back (j+1) [11] (((smK ks i++smW l wh j).length+1≤1000000)∧(I64 (↑j+1))∧((↑j:Int)+1=(↑(j+1):Int))∧(smK ks i++smW l wh j++[(l.getD ((↑(wh.getD (↑j:Int).toNat 0).toNat:Int) % (↑l.length:Int)).toNat (Pair.mk [] [])).key]=smK ks i++smW l wh (j+1))) ⟨(by exact sw4),(by(unfold I64;omega)),rfl,(by exact sw6 ‹_› ‹_› ‹_›)⟩ (show j+1≤wh.length∧wh.length - (j+1)<wh.length - j from(by omega))
    ·have h8:=of_decide_eq_false h8
     exact v_back (j+1) [5] ((I64 (↑j+1))∧((↑j:Int)+1=(↑(j+1):Int))∧(smK ks i++smW l wh j=smK ks i++smW l wh (j+1))) ⟨(by(unfold I64;omega)),rfl,(by exact sw7 ‹_›)⟩ (show j+1≤wh.length∧wh.length - (j+1)<wh.length - j from(by omega))
   ·have h7:=of_decide_eq_false h7
    exact v_back (j+1) [5] ((I64 (↑j+1))∧((↑j:Int)+1=(↑(j+1):Int))∧(smK ks i++smW l wh j=smK ks i++smW l wh (j+1))) ⟨(by(unfold I64;omega)),rfl,(by exact sw8 ‹_›)⟩ (show j+1≤wh.length∧wh.length - (j+1)<wh.length - j from(by omega))
  ·have h6:=of_decide_eq_false h6
   refine v_leave (.ex 2) True trivial ?_
   exact v_ret () [5] ((l=l)∧(ks=ks)∧(wh=wh)∧(smK ks i++smW l wh j=smP l ks wh)) ⟨rfl,rfl,rfl,(by exact sw9 ‹_› ‹_› ‹_› ‹_›)⟩ trivial
theorem findG_ge {k:List UInt8}:∀ {l:List Pair} {i:Nat},0≤findG k l i↔∃ p∈l,p.key=k
  | [],i=>by simp[findG]
  | x :: xs, i => by
    unfold findG
    split
    · rename_i h;exact⟨fun _=>⟨x,List.mem_cons_self ..,h⟩,fun _=>by omega⟩
    · rename_i h
      rw[findG_ge (l:=xs)]
      exact⟨fun⟨p,a,b⟩=>⟨p,List.mem_cons_of_mem _ a,b⟩,fun⟨p,a,b⟩=>by rcases List.mem_cons.1 a with rfl | a;exact absurd b h;exact⟨p,a,b⟩⟩
theorem find_ge {k:List UInt8} {l:List Pair}:0≤findP l k↔∃ p∈l,p.key=k:=findG_ge
theorem cut_there {k:List UInt8} {o:Option Tr} (h:Srt (leavesO o)) (hf:0≤findP (leavesO o) k):o.isNone=false∧((gt o).cut k).isSome=true∧cutR k (gt o)=cutO k o:=by
  obtain⟨p,hp,hk⟩:=find_ge.1 hf
  cases o with
  | none=>simp[leavesO] at hp
  | some t =>
    rcases Tr.cut_leaves k t h with⟨e,hn⟩ | ⟨r,e,e2,_⟩
    · exact absurd hk (hn p hp)
    · exact⟨rfl,by show(t.cut k).isSome=true;rw[e];rfl,by show(t.cut k).getD none=_;rw[e,show cutO k (some t)=r by simp[cutO,e]];rfl⟩
theorem cut_not {k:List UInt8} {o:Option Tr} (h:Srt (leavesO o)) (hf:¬ 0≤findP (leavesO o) k):cutO k o=o:=by
  cases o with
  | none=>rfl
  | some t =>
    rcases Tr.cut_leaves k t h with⟨e,hn⟩ | ⟨r,e,e2,p,hp,hk⟩
    · simp[cutO,e]
    · exact absurd (find_ge.2 ⟨p,hp,hk⟩) hf
def GrN (acts:List Act) (m:Nat) (q:Nat × Option Tr):Prop:=GrI acts m (q.1,q.2,leavesO q.2)∧Srt (leavesO q.2)
section
variable {acts:List Act} {m i:Nat} {o:Option Tr}
theorem GrN.start:GrN acts m (0,none):=⟨GrI.start,List.Pairwise.nil⟩
theorem GrN.put (h:GrN acts m (i,o)) (hi:(i:Int)<acts.length) (hm:¬ (m:Int)≤i) (hk:¬ 90<((keyA (acts.getD i dA)).length:Int)) (h6:(acts.getD i dA).kind % 6<4):GrN acts m (i+1,putO (keyA (acts.getD i dA)) (valA (acts.getD i dA)) o)∧acts.length - (i+1)<acts.length - i:=by
  have g:=h.1.put hi hm hk h6
  have e:leavesO (putO (keyA (acts.getD i dA)) (valA (acts.getD i dA)) o)=putPair (keyA (acts.getD i dA)) (valA (acts.getD i dA)) (leavesO o):=putO_leaves h.2
  refine⟨⟨by show GrI acts m (i+1,_,leavesO (putO _ _ o));rw[e];exact g.1,by show Srt (leavesO (putO _ _ o));rw[e];exact h.2.put⟩,by omega⟩
theorem GrN.cutO (h:GrN acts m (i,o)) (hi:(i:Int)<acts.length) (hm:¬ (m:Int)≤i) (hk:¬ 90<((keyA (acts.getD i dA)).length:Int)) (h6:¬ (acts.getD i dA).kind % 6<4):GrN acts m (i+1,X.cutO (keyA (acts.getD i dA)) o)∧acts.length - (i+1)<acts.length - i:=by
  have g:=h.1.cut hi hm hk h6
  have e:leavesO (X.cutO (keyA (acts.getD i dA)) o)=cutPair (keyA (acts.getD i dA)) (leavesO o):=cutO_leaves h.2
  refine⟨⟨by show GrI acts m (i+1,_,leavesO (X.cutO _ o));rw[e];exact g.1,by show Srt (leavesO (X.cutO _ o));rw[e];exact h.2.cut⟩,by omega⟩
theorem GrN.cut (h:GrN acts m (i,o)) (hi:(i:Int)<acts.length) (hm:¬ (m:Int)≤i) (hk:¬ 90<((keyA (acts.getD i dA)).length:Int)) (h6:¬ (acts.getD i dA).kind % 6<4) (hf:0≤findP (leavesO o) (keyA (acts.getD i dA))):GrN acts m (i+1,cutR (keyA (acts.getD i dA)) (gt o))∧acts.length - (i+1)<acts.length - i:=by
  rw[(cut_there h.2 hf).2.2];exact h.cutO hi hm hk h6
theorem GrN.skip (h:GrN acts m (i,o)) (hi:(i:Int)<acts.length) (hm:¬ (m:Int)≤i) (hk:¬ 90<((keyA (acts.getD i dA)).length:Int)) (h6:¬ (acts.getD i dA).kind % 6<4) (hf:¬ 0≤findP (leavesO o) (keyA (acts.getD i dA))):GrN acts m (i+1,o)∧acts.length - (i+1)<acts.length - i:=by
  have:=h.cutO hi hm hk h6;rwa [cut_not h.2 hf] at this
theorem GrN.hh (h:GrN acts m (i,o)) (hm:m≤100):(gt o).height<700∧(leavesO o).length≤100000:=by
  obtain⟨⟨_,a2,_,a4,_⟩,_⟩:=h
  have a2:i≤m:=a2
  have l:=a4.leaves
  have l:(leavesO o).length≤i:=l
  refine⟨?_,by omega⟩
  cases o with
  | none=>decide
  | some t=>have:=(a4 t rfl).2;have:=t.height_depth;show t.height<700;have q:t.depth+1≤i:=(a4 t rfl).2;omega
end
section
variable {acts:List Act} {m i:Nat} {o:Option Tr}
theorem GrN.s1 (h:GrN acts m (i,o)) (hi:¬ (i:Int)<acts.length):(growT acts m).1=o:=by rw[h.1.stop1 hi]
theorem GrN.s2 (h:GrN acts m (i,o)) (hi:(m:Int)≤i):(growT acts m).1=o:=by rw[h.1.stop2 hi]
end
theorem wk_t (ts:List Token) (hl:ts.length≤4000):∀(f:Nat) (ab:Int) (a:Nat) (fs:List Item),1≤ab→ab≤f→f≤900→a≤ts.length→fs.length≤a →
      FOk EN 42 ⟨[.pr wordsP,.rd 32 ts,.ow 113 fs,.bx 109 [.n 1,.i a,.n 2]],[.p 3 0,.i ab],Unit,fun _=>([.pr wordsP,.rd 32 ts,.no,.bx 109 [.n 1,.i (wkN ts f ab a fs).a,.n 5],.pn (PE (wkN ts f ab a fs).e) true (wkN ts f ab a fs).e.isNone,.ow 113 (wkN ts f ab a fs).fs],.t [.a [.h 32 (wkN ts f ab a fs).h],.n 4]),fun _=>True⟩
  | 0,ab,a,fs,h1,h2,_,_,_=>by omega
  | f+1,ab,a,fs,h1,h2,h3,ha,hf=>wk_aux f ts ab a fs ha hf hl h1 (by omega) fun ab' a' fs' h1' h2' ha' hf'=>wk_t ts hl f ab' a' fs' h1' (by omega) (by omega) ha' hf'
theorem wk65_ok (ts:List Token) (hl:ts.length≤4000):FOk EN 42 ⟨[.pr wordsP,.rd 32 ts,.ow 113 [],.bx 109 [.n 1,.i 0,.n 2]],[.p 3 0,.i 65],Unit,fun _=>([.pr wordsP,.rd 32 ts,.no,.bx 109 [.n 1,.i (wkN ts 65 65 0 []).a,.n 5],.pn (PE (wkN ts 65 65 0 []).e) true (wkN ts 65 65 0 []).e.isNone,.ow 113 (wkN ts 65 65 0 []).fs],.t [.a [.h 32 (wkN ts 65 65 0 []).h],.n 4]),fun _=>True⟩ :=
  wk_t ts hl 65 65 0 [] (by decide) (by decide) (by decide) (Nat.zero_le _) (Nat.le_refl _)
/-- do the leaves' keys rise? -/
def ordI:List UInt8→List Item→Bool
  | _,[]=>true
  | last,x::r=>if x.hidden=true then ordI last r else if 0≤Lib.compareBytes last x.key then false else ordI x.key r
def chkR (root:List UInt8) (ts:List Token):Option Er × List Item :=
  if 2048<(ts.length:Int) then(some (.step ((#[116,111,107,101,110,115]:Array UInt8).toList) ts.length (.num 3)),[])
  else if(ts.length:Int)=0∧root=sum256 [] then(none,[])
  else if(wkN ts 65 65 0 []).e.isNone=false then((wkN ts 65 65 0 []).e,[])
  else if((wkN ts 65 65 0 []).a:Int)<ts.length then(tokE (wkN ts 65 65 0 []).a 3,[])
  else if ¬ (wkN ts 65 65 0 []).h=root then(some (.step ((#[114,111,111,116]:Array UInt8).toList) 0 (.num 21)),[])
  else if ordI [] (wkN ts 65 65 0 []).fs=false then(some (.step ((#[111,114,100,101,114]:Array UInt8).toList) 0 (.num 5)),[])
  else(none,(wkN ts 65 65 0 []).fs)
def fo (r:Option Er × List Item):Option (List Item):=if r.1.isNone=true then some r.2 else none
def PFh (σ:Nat→Nat) (w:World):Option (List Item)→Value→Prop
  | none,v=>v=.pointer none
  | some fs,v=>∃ b o x,v=.pointer (some ⟨b,o,none⟩)∧Seg σ w b o [x]∧Rd (GT.Γ 113).T σ w x fs
def PF (o:Option (List Item)):PP:=⟨fun σ w v=>PFh σ w o v,fun {M σ w σ' w' v} st h=>by
  cases o with
  | none=>exact h
  | some t=>obtain⟨b,o,x,e,hs,ha⟩:=h;exact⟨b,o,x,e,hs.step st,ha.step st⟩⟩
theorem open_f (fs:List Item):Opens (G:=GT) (PF (some fs)) (fun _=>[.rd 113 fs]) (fun b=>[.n b]):=by
  rintro base σ w x ⟨b,o,y,e,h,ha⟩
  have hy:y.oneCell'=true:=by obtain⟨a,c,e,_⟩:=ha.form;rw[e];rfl
  refine⟨fun n=>if n=0 then y else .bool false,fun n=>by dsimp only;split;exact hy;rfl,fun ν hν=>⟨fun i en hi=>?_,b,o,e,?_⟩⟩
  · match i, hi with
    | 0,hi=>simp only[List.getElem?_cons_zero,Option.some.injEq] at hi;subst hi;exact ha
    | i+1,hi=>simp at hi
  · have e0 := hν 0 (by simp)
    simp only[Nat.add_zero,if_true] at e0
    simpa [denC,den,e0] using h
theorem close_f0:Closes (G:=GT) (PF (some [])) [] [.v (.slice none 0 0)]:=by
  intro ν σ w x b hE e hS
  exact⟨b,0,_,e,by simpa [denC,den] using hS,Rd.nil _ _ _ _ _⟩
theorem close_f (fs:List Item):Closes (G:=GT) (PF (some fs)) [.rd 113 fs] [.n 0]:=by
  intro ν σ w x b hE e hS
  exact⟨b,0,ν 0,e,by simpa [denC,den] using hS,hE 0 _ rfl⟩
theorem close_f0_any (o:Option (List Item)) (h:o=some []):Closes (G:=GT) (PF o) [] [.v (.slice none 0 0)]:=by subst h;exact close_f0
theorem close_f_any (o:Option (List Item)) (fs:List Item) (h:o=some fs):Closes (G:=GT) (PF o) [.rd 113 fs] [.n 0]:=by subst h;exact close_f fs
theorem al_f0 (o:Option (List Item)) (h:o=none):AlOk (G:=GT) (PF o) false o.isNone [] (.v (.pointer none)):=by subst h;exact al_nil (i:=false) (fun _ _=>rfl)
section
variable {root:List UInt8} {ts:List Token}
abbrev wkR (ts:List Token):WR:=wkN ts 65 65 0 []
theorem ck1 (h:2048<(ts.length:Int)):chkR root ts=(some (.step ((#[116,111,107,101,110,115]:Array UInt8).toList) ts.length (.num 3)),[]):=by unfold chkR;rw[if_pos h]
theorem ck2 (h:¬ 2048<(ts.length:Int)) (h1:(ts.length:Int)=0) (h2:root=sum256 []):chkR root ts=(none,[]):=by unfold chkR;rw[if_neg h,if_pos ⟨h1,h2⟩]
theorem ck3 (h:¬ 2048<(ts.length:Int)) (h1:¬ ((ts.length:Int)=0∧root=sum256 [])) (h2:(wkR ts).e.isNone=false):chkR root ts=((wkR ts).e,[]):=by unfold chkR;rw[if_neg h,if_neg h1,if_pos h2]
theorem ck4 (h:¬ 2048<(ts.length:Int)) (h1:¬ ((ts.length:Int)=0∧root=sum256 [])) (h2:(wkR ts).e.isNone=true) (h3:((wkR ts).a:Int)<ts.length):chkR root ts=(tokE (wkR ts).a 3,[]):=by
  unfold chkR;rw[if_neg h,if_neg h1,if_neg (by rw[h2];decide),if_pos h3]
theorem ck5 (h:¬ 2048<(ts.length:Int)) (h1:¬ ((ts.length:Int)=0∧root=sum256 [])) (h2:(wkR ts).e.isNone=true) (h3:¬ ((wkR ts).a:Int)<ts.length) (h4:¬ (wkR ts).h=root):chkR root ts=(some (.step ((#[114,111,111,116]:Array UInt8).toList) 0 (.num 21)),[]):=by
  unfold chkR;rw[if_neg h,if_neg h1,if_neg (by rw[h2];decide),if_neg h3,if_pos h4]
theorem ck6 (h:¬ 2048<(ts.length:Int)) (h1:¬ ((ts.length:Int)=0∧root=sum256 [])) (h2:(wkR ts).e.isNone=true) (h3:¬ ((wkR ts).a:Int)<ts.length) (h4:(wkR ts).h=root) (h5:ordI [] (wkR ts).fs=false):chkR root ts=(some (.step ((#[111,114,100,101,114]:Array UInt8).toList) 0 (.num 5)),[]):=by
  unfold chkR;rw[if_neg h,if_neg h1,if_neg (by rw[h2];decide),if_neg h3,if_neg (fun e=>e h4),if_pos h5]
theorem ck7 (h:¬ 2048<(ts.length:Int)) (h1:¬ ((ts.length:Int)=0∧root=sum256 [])) (h2:(wkR ts).e.isNone=true) (h3:¬ ((wkR ts).a:Int)<ts.length) (h4:(wkR ts).h=root) (h5:ordI [] (wkR ts).fs=true):chkR root ts=(none,(wkR ts).fs):=by
  unfold chkR;rw[if_neg h,if_neg h1,if_neg (by rw[h2];decide),if_neg h3,if_neg (fun e=>e h4),if_neg (by rw[h5];decide)]
theorem fo3 (h:¬ 2048<(ts.length:Int)) (h1:¬ ((ts.length:Int)=0∧root=sum256 [])) (h2:(wkR ts).e.isNone=false):fo (chkR root ts)=none:=by
  rw[ck3 h h1 h2];unfold fo;rw[if_neg (by show ¬ (wkR ts).e.isNone=true;rw[h2];decide)]
end
abbrev dI:Item:=⟨false,[],[]⟩
def OrI (fs:List Item) (q:Nat × List UInt8):Prop:=ordI q.2 (fs.drop q.1)=ordI [] fs∧q.1≤fs.length
def oiS (fs:List Item) (q:Nat × List UInt8):Nat × List UInt8:=(q.1+1,if(fs.getD q.1 dI).hidden=true then q.2 else(fs.getD q.1 dI).key)
section
variable {fs:List Item} {q:Nat × List UInt8}
theorem drop_item (hi:(q.1:Int)<fs.length):fs.drop q.1=fs.getD q.1 dI::fs.drop (q.1+1):=by
  have h:q.1<fs.length:=by omega
  rw[List.drop_eq_getElem_cons h,List.getD_eq_getElem?_getD,List.getElem?_eq_getElem h];rfl
theorem OrI.start:OrI fs (0,[]):=⟨rfl,Nat.zero_le _⟩
theorem OrI.nextH (h:OrI fs q) (hi:(q.1:Int)<fs.length) (hh:(fs.getD (q.1:Int).toNat dI).hidden=true):OrI fs (oiS fs q)∧fs.length - (oiS fs q).1<fs.length - q.1:=by
  rw[Int.toNat_natCast] at hh
  refine⟨⟨?_,by show q.1+1≤_;omega⟩,by show fs.length - (q.1+1)<_;omega⟩
  rw[← h.1,drop_item hi];unfold oiS;rw[ordI,if_pos hh,if_pos hh]
theorem OrI.nextN (h:OrI fs q) (hi:(q.1:Int)<fs.length) (hh:(fs.getD (q.1:Int).toNat dI).hidden=false) (hc:¬ 0≤Lib.compareBytes q.2 (fs.getD (q.1:Int).toNat dI).key):OrI fs (oiS fs q)∧fs.length - (oiS fs q).1<fs.length - q.1:=by
  rw[Int.toNat_natCast] at hh hc
  refine⟨⟨?_,by show q.1+1≤_;omega⟩,by show fs.length - (q.1+1)<_;omega⟩
  rw[← h.1,drop_item hi];unfold oiS;rw[ordI,if_neg (by rw[hh];decide),if_neg hc,if_neg (by rw[hh];decide)]
theorem OrI.bad (h:OrI fs q) (hi:(q.1:Int)<fs.length) (hh:(fs.getD (q.1:Int).toNat dI).hidden=false) (hc:0≤Lib.compareBytes q.2 (fs.getD (q.1:Int).toNat dI).key):ordI [] fs=false:=by
  rw[Int.toNat_natCast] at hh hc
  rw[← h.1,drop_item hi,ordI,if_neg (by rw[hh];decide),if_pos hc]
theorem OrI.end (h:OrI fs q) (hi:¬ (q.1:Int)<fs.length):ordI [] fs=true:=by
  rw[← h.1,List.drop_of_length_le (by omega)];rfl
theorem oiH (hh:(fs.getD (q.1:Int).toNat dI).hidden=true):q.2=(oiS fs q).2:=by rw[Int.toNat_natCast] at hh;unfold oiS;rw[if_pos hh]
theorem oiN (hh:(fs.getD (q.1:Int).toNat dI).hidden=false):(fs.getD (q.1:Int).toNat dI).key=(oiS fs q).2:=by rw[Int.toNat_natCast] at *;unfold oiS;rw[if_neg (by rw[hh];decide)]
end
noncomputable def ccM7_16:Code:=(Tryd.f16.body).getD .skip
theorem Check_ok (root:List UInt8) (ts:List Token) (hr:root.length=32) (hl:ts.length≤100000):FOk EN 16 ⟨[.pr wordsP,.rd 32 ts],[.a [.h 32 root],.n 1],Unit,fun _=>([.pr wordsP,.rd 32 ts,.pn (PF (fo (chkR root ts))) false (fo (chkR root ts)).isNone,.pn (PE (chkR root ts).1) true (chkR root ts).1.isNone],.t [.n 2,.n 3]),fun _=>True⟩:=by
 refine v_fun Tryd.f16 ccM7_16 MX (fun ν F σ w=>?_) Tryd.func16
 refine v_nl ?_
 refine v_if (decide (2048<(↑ts.length:Int))) True trivial (fun h1=>?_) (fun h1=>?_)
 ·have h1:=of_decide_eq_true h1
  refine v_al [] (al_e1 (3)) True trivial ?_
  refine v_call _ [4] (faultAt2_ok (#[116,111,107,101,110,115].toList) (↑ts.length) (some (Er.num 3)) rfl) ((#[(116:UInt8),(111:UInt8),(107:UInt8),(101:UInt8),(110:UInt8),(115:UInt8)].toList=#[(116:UInt8),(111:UInt8),(107:UInt8),(101:UInt8),(110:UInt8),(115:UInt8)].toList)∧((↑ts.length:Int)=(↑ts.length:Int))∧((3:Int)=(3:Int))∧(PE (some (Er.num 3))=PE (some (Er.num 3)))∧(false=false)) ⟨rfl,rfl,rfl,rfl,rfl⟩ (fun g2 p3=>?_)
  have p3:True:=p3
  refine v_al [] (al_f0 (fo (chkR root ts)) (by(rw[ck1 ‹_›] <;> rfl))) True trivial ?_
  exact v_ret () [6,5] ((wordsP=wordsP)∧(ts=ts)∧(PF (fo (chkR root ts))=PF (fo (chkR root ts)))∧((fo (chkR root ts)).isNone=(fo (chkR root ts)).isNone)∧(PE (some (Er.step #[116,111,107,101,110,115].toList (↑ts.length) ((some (Er.num 3)).getD (Er.num 0))))=PE (chkR root ts).fst)∧(false=(chkR root ts).fst.isNone)) ⟨rfl,rfl,rfl,rfl,(by(rw[ck1 ‹_›] <;> rfl)),(by(rw[ck1 ‹_›] <;> rfl))⟩ trivial
 ·have h1:=of_decide_eq_false h1
  refine v_plan (.fs [0,1,2,3,4] (.o 5 (.fs [6,7,8] .e))) [3] True trivial ?_
  refine v_guard 24 (decide ((↑ts.length:Int)=0)) True trivial (fun h4=>?_) (fun h4=>?_)
  ·have h4:=of_decide_eq_true h4
   refine v_call _ [0] (Empty_ok) ((wordsP=wordsP)) rfl (fun g5 p6=>?_)
   have p6:True:=p6
   refine v_if (decide (root=sum256 [])) ((EN.P.eqGuardType EN.P.depth (29:Nat)=false)∧(root.length=32)∧((sum256 []).length=32)) ⟨rfl,‹_›,rfl⟩ (fun h7=>?_) (fun h7=>?_)
   ·have h7:=of_decide_eq_true h7
    refine v_close 4 [] (close_f0_any (fo (chkR root ts)) (by(rw[ck2 ‹_› ‹_› ‹_›] <;> rfl))) ((Value.slice none 0 0=Value.slice none 0 0)) rfl ?_
    refine v_al [4] (al_ptr (PF (fo (chkR root ts)))) ((PLe (PF (fo (chkR root ts))) (PF (fo (chkR root ts))))∧(false=false)) ⟨fun _ _ _ h=>h,rfl⟩ ?_
    refine v_al [] (al_e0 ((chkR root ts).fst) (by(rw[ck2 ‹_› ‹_› ‹_›] <;> rfl))) True trivial ?_
    exact v_ret () [5,6] ((wordsP=wordsP)∧(ts=ts)∧(PF (fo (chkR root ts))=PF (fo (chkR root ts)))∧(false=(fo (chkR root ts)).isNone)∧(PE (chkR root ts).fst=PE (chkR root ts).fst)∧((chkR root ts).fst.isNone=(chkR root ts).fst.isNone)) ⟨rfl,rfl,rfl,(by(rw[ck2 ‹_› ‹_› ‹_›] <;> rfl)),rfl,rfl⟩ trivial
   ·have h7:=of_decide_eq_false h7
    refine v_call _ [0,1,2,4] (wk65_ok (ts) (by omega)) (((65:Int)=(65:Int))∧(wordsP=wordsP)∧(ts=ts)∧(Eq (α:=List Item) [] [])∧((0:Int)=(0:Int))) ⟨rfl,rfl,rfl,rfl,rfl⟩ (fun g8 p9=>?_)
    have p9:True:=p9
    refine v_run True trivial ?_
    refine v_nl ?_
    refine v_if (!(wkN ts 65 65 0 []).e.isNone) True trivial (fun h10=>?_) (fun h10=>?_)
    ·have h10:=(nt h10)
     refine v_al [] (al_f0 (fo (chkR root ts)) (by exact fo3 ‹_› (by first | exact fun e=>absurd e.1 ‹_› | exact fun e=>absurd e.2 ‹_›) ‹_›)) True trivial ?_
     exact v_ret () [9,5] ((wordsP=wordsP)∧(ts=ts)∧(PF (fo (chkR root ts))=PF (fo (chkR root ts)))∧((fo (chkR root ts)).isNone=(fo (chkR root ts)).isNone)∧(PE (wkN ts 65 65 0 []).e=PE (chkR root ts).fst)∧((wkN ts 65 65 0 []).e.isNone=(chkR root ts).fst.isNone)) ⟨rfl,rfl,rfl,rfl,(by(rw[ck3 ‹_› (by first | exact fun e=>absurd e.1 ‹_› | exact fun e=>absurd e.2 ‹_›) ‹_›] <;> first | rfl | assumption)),(by(rw[ck3 ‹_› (by first | exact fun e=>absurd e.1 ‹_› | exact fun e=>absurd e.2 ‹_›) ‹_›] <;> first | rfl | assumption))⟩ trivial
    ·have h10:=(nf h10)
     refine v_if (decide ((↑(wkN ts 65 65 0 []).a:Int)<(↑ts.length:Int))) True trivial (fun h11=>?_) (fun h11=>?_)
     ·have h11:=of_decide_eq_true h11
      omega
     ·have h11:=of_decide_eq_false h11
      refine v_if (!decide ((wkN ts 65 65 0 []).h=root)) ((EN.P.eqGuardType EN.P.depth (29:Nat)=false)∧((wkN ts 65 65 0 []).h.length=32)∧(root.length=32)) ⟨rfl,(by exact(wk_inv ts 65 65 0 [] (Nat.zero_le _) (Nat.le_refl _)).2.2),‹_›⟩ (fun h12=>?_) (fun h12=>?_)
      ·have h12:=of_decide_eq_false (nt h12)
       refine v_al [] (al_e1 (21)) True trivial ?_
       refine v_call _ [9] (faultAt2_ok (#[114,111,111,116].toList) (0) (some (Er.num 21)) rfl) ((#[(114:UInt8),(111:UInt8),(111:UInt8),(116:UInt8)].toList=#[(114:UInt8),(111:UInt8),(111:UInt8),(116:UInt8)].toList)∧((0:Int)=(0:Int))∧((21:Int)=(21:Int))∧(PE (some (Er.num 21))=PE (some (Er.num 21)))∧(false=false)) ⟨rfl,rfl,rfl,rfl,rfl⟩ (fun g13 p14=>?_)
       have p14:True:=p14
       refine v_al [] (al_f0 (fo (chkR root ts)) (by(rw[ck5 ‹_› (by first | exact fun e=>absurd e.1 ‹_› | exact fun e=>absurd e.2 ‹_›) ‹_› ‹_› ‹_›] <;> rfl))) True trivial ?_
       exact v_ret () [11,10] ((wordsP=wordsP)∧(ts=ts)∧(PF (fo (chkR root ts))=PF (fo (chkR root ts)))∧((fo (chkR root ts)).isNone=(fo (chkR root ts)).isNone)∧(PE (some (Er.step #[114,111,111,116].toList 0 ((some (Er.num 21)).getD (Er.num 0))))=PE (chkR root ts).fst)∧(false=(chkR root ts).fst.isNone)) ⟨rfl,rfl,rfl,rfl,(by(rw[ck5 ‹_› (by first | exact fun e=>absurd e.1 ‹_› | exact fun e=>absurd e.2 ‹_›) ‹_› ‹_› ‹_›] <;> rfl)),(by(rw[ck5 ‹_› (by first | exact fun e=>absurd e.1 ‹_› | exact fun e=>absurd e.2 ‹_›) ‹_› ‹_› ‹_›] <;> rfl))⟩ trivial
      ·have h12:=of_decide_eq_true (nf h12)
       refine v_loop (fun q:Nat × List UInt8=>([(68,.i q.1),(9,.n 9)],[.rd 5 (q.2)])) (fun q=>OrI (wkR ts).fs q) (fun q=>(wkR ts).fs.length - q.1) (0,[]) [8] (((0:Int)=(↑(0:Nat):Int))∧(Eq (α:=List UInt8) [] [])) ⟨rfl,rfl⟩ (by exact⟨rfl,Nat.zero_le _⟩) (fun q hk15=>?_)
       refine v_if (decide ((↑q.fst:Int)<(↑(wkN ts 65 65 0 []).fs.length:Int))) True trivial (fun h16=>?_) (fun h16=>?_)
       ·have h16:=of_decide_eq_true h16
        refine v_if (((wkN ts 65 65 0 []).fs.getD (↑q.fst:Int).toNat (Item.mk false [] [])).hidden) ((0≤(↑q.fst:Int)∧(↑q.fst:Int)<(↑(wkN ts 65 65 0 []).fs.length:Int))) (by omega) (fun h17=>?_) (fun h17=>?_)
        ·skip
         exact v_back (oiS (wkR ts).fs q) [9] ((I64 (↑q.fst+1))∧((↑q.fst:Int)+1=(↑(oiS (wkR ts).fs q).fst:Int))∧(q.snd=(oiS (wkR ts).fs q).snd)) ⟨(by(have hw:=wk_inv ts 65 65 0 [] (Nat.zero_le _) (Nat.le_refl _);first | omega | (unfold I64;omega))),rfl,(by exact oiH ‹_›)⟩ (show OrI (wkR ts).fs (oiS (wkR ts).fs q)∧(wkR ts).fs.length - (oiS (wkR ts).fs q).fst<(wkR ts).fs.length - q.fst from(by exact OrI.nextH ‹_› ‹_› ‹_›))
        ·skip
         refine v_call _ [9,10] (bcmp_ok (q.snd) (((wkN ts 65 65 0 []).fs.getD (↑q.fst:Int).toNat (Item.mk false [] [])).key)) ((q.snd=q.snd)∧(((wkN ts 65 65 0 []).fs.getD (↑q.fst:Int).toNat (Item.mk false [] [])).key=((wkN ts 65 65 0 []).fs.getD (↑q.fst:Int).toNat (Item.mk false [] [])).key)) ⟨rfl,rfl⟩ (fun g18 p19=>?_)
         have p19:True:=p19
         refine v_if (decide (0≤Lib.compareBytes q.snd ((wkN ts 65 65 0 []).fs.getD (↑q.fst:Int).toNat (Item.mk false [] [])).key)) True trivial (fun h20=>?_) (fun h20=>?_)
         ·have h20:=of_decide_eq_true h20
          refine v_al [] (al_e1 (5)) True trivial ?_
          refine v_call _ [14] (faultAt2_ok (#[111,114,100,101,114].toList) (0) (some (Er.num 5)) rfl) ((#[(111:UInt8),(114:UInt8),(100:UInt8),(101:UInt8),(114:UInt8)].toList=#[(111:UInt8),(114:UInt8),(100:UInt8),(101:UInt8),(114:UInt8)].toList)∧((0:Int)=(0:Int))∧((5:Int)=(5:Int))∧(PE (some (Er.num 5))=PE (some (Er.num 5)))∧(false=false)) ⟨rfl,rfl,rfl,rfl,rfl⟩ (fun g21 p22=>?_)
          have p22:True:=p22
          refine v_leave .rt True trivial ?_
          refine v_al [] (al_f0 (fo (chkR root ts)) (by(rw[ck6 ‹_› (by first | exact fun e=>absurd e.1 ‹_› | exact fun e=>absurd e.2 ‹_›) ‹_› ‹_› ‹_› ((‹OrI (wkR ts).fs q›).bad ‹_› ‹_› ‹_›)] <;> rfl))) True trivial ?_
          exact v_ret () [16,15] ((wordsP=wordsP)∧(ts=ts)∧(PF (fo (chkR root ts))=PF (fo (chkR root ts)))∧((fo (chkR root ts)).isNone=(fo (chkR root ts)).isNone)∧(PE (some (Er.step #[111,114,100,101,114].toList 0 ((some (Er.num 5)).getD (Er.num 0))))=PE (chkR root ts).fst)∧(false=(chkR root ts).fst.isNone)) ⟨rfl,rfl,rfl,rfl,(by(rw[ck6 ‹_› (by first | exact fun e=>absurd e.1 ‹_› | exact fun e=>absurd e.2 ‹_›) ‹_› ‹_› ‹_› ((‹OrI (wkR ts).fs q›).bad ‹_› ‹_› ‹_›)] <;> rfl)),(by(rw[ck6 ‹_› (by first | exact fun e=>absurd e.1 ‹_› | exact fun e=>absurd e.2 ‹_›) ‹_› ‹_› ‹_› ((‹OrI (wkR ts).fs q›).bad ‹_› ‹_› ‹_›)] <;> rfl))⟩ trivial
         ·have h20:=of_decide_eq_false h20
          exact v_back (oiS (wkR ts).fs q) [10] ((I64 (↑q.fst+1))∧((↑q.fst:Int)+1=(↑(oiS (wkR ts).fs q).fst:Int))∧(((wkN ts 65 65 0 []).fs.getD (↑q.fst:Int).toNat (Item.mk false [] [])).key=(oiS (wkR ts).fs q).snd)) ⟨(by(have hw:=wk_inv ts 65 65 0 [] (Nat.zero_le _) (Nat.le_refl _);first | omega | (unfold I64;omega))),rfl,(by exact oiN ‹_›)⟩ (show OrI (wkR ts).fs (oiS (wkR ts).fs q)∧(wkR ts).fs.length - (oiS (wkR ts).fs q).fst<(wkR ts).fs.length - q.fst from(by exact OrI.nextN ‹_› ‹_› ‹_› ‹_›))
       ·have h16:=of_decide_eq_false h16
        refine v_leave (.ex 2) True trivial ?_
        refine v_close 10 [6] (close_f_any (fo (chkR root ts)) ((wkN ts 65 65 0 []).fs) (by(rw[ck7 ‹_› (by first | exact fun e=>absurd e.1 ‹_› | exact fun e=>absurd e.2 ‹_›) ‹_› ‹_› ‹_› ((‹OrI (wkR ts).fs q›).end ‹_›)] <;> rfl))) (((wkN ts 65 65 0 []).fs=(wkN ts 65 65 0 []).fs)) rfl ?_
        refine v_al [10] (al_ptr (PF (fo (chkR root ts)))) ((PLe (PF (fo (chkR root ts))) (PF (fo (chkR root ts))))∧(false=false)) ⟨fun _ _ _ h=>h,rfl⟩ ?_
        refine v_al [] (al_e0 ((chkR root ts).fst) (by(rw[ck7 ‹_› (by first | exact fun e=>absurd e.1 ‹_› | exact fun e=>absurd e.2 ‹_›) ‹_› ‹_› ‹_› ((‹OrI (wkR ts).fs q›).end ‹_›)] <;> rfl))) True trivial ?_
        exact v_ret () [11,12] ((wordsP=wordsP)∧(ts=ts)∧(PF (fo (chkR root ts))=PF (fo (chkR root ts)))∧(false=(fo (chkR root ts)).isNone)∧(PE (chkR root ts).fst=PE (chkR root ts).fst)∧((chkR root ts).fst.isNone=(chkR root ts).fst.isNone)) ⟨rfl,rfl,rfl,(by(rw[ck7 ‹_› (by first | exact fun e=>absurd e.1 ‹_› | exact fun e=>absurd e.2 ‹_›) ‹_› ‹_› ‹_› ((‹OrI (wkR ts).fs q›).end ‹_›)] <;> rfl)),rfl,rfl⟩ trivial
  ·have h4:=of_decide_eq_false h4
   refine v_call _ [0,1,2,4] (wk65_ok (ts) (by omega)) (((65:Int)=(65:Int))∧(wordsP=wordsP)∧(ts=ts)∧(Eq (α:=List Item) [] [])∧((0:Int)=(0:Int))) ⟨rfl,rfl,rfl,rfl,rfl⟩ (fun g23 p24=>?_)
   have p24:True:=p24
   refine v_run True trivial ?_
   refine v_nl ?_
   refine v_if (!(wkN ts 65 65 0 []).e.isNone) True trivial (fun h25=>?_) (fun h25=>?_)
   ·have h25:=(nt h25)
    refine v_al [] (al_f0 (fo (chkR root ts)) (by exact fo3 ‹_› (by first | exact fun e=>absurd e.1 ‹_› | exact fun e=>absurd e.2 ‹_›) ‹_›)) True trivial ?_
    exact v_ret () [9,5] ((wordsP=wordsP)∧(ts=ts)∧(PF (fo (chkR root ts))=PF (fo (chkR root ts)))∧((fo (chkR root ts)).isNone=(fo (chkR root ts)).isNone)∧(PE (wkN ts 65 65 0 []).e=PE (chkR root ts).fst)∧((wkN ts 65 65 0 []).e.isNone=(chkR root ts).fst.isNone)) ⟨rfl,rfl,rfl,rfl,(by(rw[ck3 ‹_› (by first | exact fun e=>absurd e.1 ‹_› | exact fun e=>absurd e.2 ‹_›) ‹_›] <;> first | rfl | assumption)),(by(rw[ck3 ‹_› (by first | exact fun e=>absurd e.1 ‹_› | exact fun e=>absurd e.2 ‹_›) ‹_›] <;> first | rfl | assumption))⟩ trivial
   ·have h25:=(nf h25)
    refine v_if (decide ((↑(wkN ts 65 65 0 []).a:Int)<(↑ts.length:Int))) True trivial (fun h26=>?_) (fun h26=>?_)
    ·have h26:=of_decide_eq_true h26
     refine v_al [] (al_e1 (3)) True trivial ?_
     refine v_call _ [9] (faultAt2_ok (#[116,111,107,101,110].toList) (↑(wkN ts 65 65 0 []).a) (some (Er.num 3)) rfl) ((#[(116:UInt8),(111:UInt8),(107:UInt8),(101:UInt8),(110:UInt8)].toList=#[(116:UInt8),(111:UInt8),(107:UInt8),(101:UInt8),(110:UInt8)].toList)∧((↑(wkN ts 65 65 0 []).a:Int)=(↑(wkN ts 65 65 0 []).a:Int))∧((3:Int)=(3:Int))∧(PE (some (Er.num 3))=PE (some (Er.num 3)))∧(false=false)) ⟨rfl,rfl,rfl,rfl,rfl⟩ (fun g27 p28=>?_)
     have p28:True:=p28
     refine v_al [] (al_f0 (fo (chkR root ts)) (by(rw[ck4 ‹_› (by first | exact fun e=>absurd e.1 ‹_› | exact fun e=>absurd e.2 ‹_›) ‹_› ‹_›] <;> rfl))) True trivial ?_
     exact v_ret () [11,10] ((wordsP=wordsP)∧(ts=ts)∧(PF (fo (chkR root ts))=PF (fo (chkR root ts)))∧((fo (chkR root ts)).isNone=(fo (chkR root ts)).isNone)∧(PE (some (Er.step #[116,111,107,101,110].toList (↑(wkN ts 65 65 0 []).a) ((some (Er.num 3)).getD (Er.num 0))))=PE (chkR root ts).fst)∧(false=(chkR root ts).fst.isNone)) ⟨rfl,rfl,rfl,rfl,(by(rw[ck4 ‹_› (by first | exact fun e=>absurd e.1 ‹_› | exact fun e=>absurd e.2 ‹_›) ‹_› ‹_›] <;> rfl)),(by(rw[ck4 ‹_› (by first | exact fun e=>absurd e.1 ‹_› | exact fun e=>absurd e.2 ‹_›) ‹_› ‹_›] <;> rfl))⟩ trivial
    ·have h26:=of_decide_eq_false h26
     refine v_if (!decide ((wkN ts 65 65 0 []).h=root)) ((EN.P.eqGuardType EN.P.depth (29:Nat)=false)∧((wkN ts 65 65 0 []).h.length=32)∧(root.length=32)) ⟨rfl,(by exact(wk_inv ts 65 65 0 [] (Nat.zero_le _) (Nat.le_refl _)).2.2),‹_›⟩ (fun h29=>?_) (fun h29=>?_)
     ·have h29:=of_decide_eq_false (nt h29)
      refine v_al [] (al_e1 (21)) True trivial ?_
      refine v_call _ [9] (faultAt2_ok (#[114,111,111,116].toList) (0) (some (Er.num 21)) rfl) ((#[(114:UInt8),(111:UInt8),(111:UInt8),(116:UInt8)].toList=#[(114:UInt8),(111:UInt8),(111:UInt8),(116:UInt8)].toList)∧((0:Int)=(0:Int))∧((21:Int)=(21:Int))∧(PE (some (Er.num 21))=PE (some (Er.num 21)))∧(false=false)) ⟨rfl,rfl,rfl,rfl,rfl⟩ (fun g30 p31=>?_)
      have p31:True:=p31
      refine v_al [] (al_f0 (fo (chkR root ts)) (by(rw[ck5 ‹_› (by first | exact fun e=>absurd e.1 ‹_› | exact fun e=>absurd e.2 ‹_›) ‹_› ‹_› ‹_›] <;> rfl))) True trivial ?_
      exact v_ret () [11,10] ((wordsP=wordsP)∧(ts=ts)∧(PF (fo (chkR root ts))=PF (fo (chkR root ts)))∧((fo (chkR root ts)).isNone=(fo (chkR root ts)).isNone)∧(PE (some (Er.step #[114,111,111,116].toList 0 ((some (Er.num 21)).getD (Er.num 0))))=PE (chkR root ts).fst)∧(false=(chkR root ts).fst.isNone)) ⟨rfl,rfl,rfl,rfl,(by(rw[ck5 ‹_› (by first | exact fun e=>absurd e.1 ‹_› | exact fun e=>absurd e.2 ‹_›) ‹_› ‹_› ‹_›] <;> rfl)),(by(rw[ck5 ‹_› (by first | exact fun e=>absurd e.1 ‹_› | exact fun e=>absurd e.2 ‹_›) ‹_› ‹_› ‹_›] <;> rfl))⟩ trivial
     ·have h29:=of_decide_eq_true (nf h29)
      refine v_loop (fun q:Nat × List UInt8=>([(68,.i q.1),(9,.n 9)],[.rd 5 (q.2)])) (fun q=>OrI (wkR ts).fs q) (fun q=>(wkR ts).fs.length - q.1) (0,[]) [8] (((0:Int)=(↑(0:Nat):Int))∧(Eq (α:=List UInt8) [] [])) ⟨rfl,rfl⟩ (by exact⟨rfl,Nat.zero_le _⟩) (fun q hk32=>?_)
      refine v_if (decide ((↑q.fst:Int)<(↑(wkN ts 65 65 0 []).fs.length:Int))) True trivial (fun h33=>?_) (fun h33=>?_)
      ·have h33:=of_decide_eq_true h33
       refine v_if (((wkN ts 65 65 0 []).fs.getD (↑q.fst:Int).toNat (Item.mk false [] [])).hidden) ((0≤(↑q.fst:Int)∧(↑q.fst:Int)<(↑(wkN ts 65 65 0 []).fs.length:Int))) (by omega) (fun h34=>?_) (fun h34=>?_)
       ·skip
        exact v_back (oiS (wkR ts).fs q) [9] ((I64 (↑q.fst+1))∧((↑q.fst:Int)+1=(↑(oiS (wkR ts).fs q).fst:Int))∧(q.snd=(oiS (wkR ts).fs q).snd)) ⟨(by(have hw:=wk_inv ts 65 65 0 [] (Nat.zero_le _) (Nat.le_refl _);first | omega | (unfold I64;omega))),rfl,(by exact oiH ‹_›)⟩ (show OrI (wkR ts).fs (oiS (wkR ts).fs q)∧(wkR ts).fs.length - (oiS (wkR ts).fs q).fst<(wkR ts).fs.length - q.fst from(by exact OrI.nextH ‹_› ‹_› ‹_›))
       ·skip
        refine v_call _ [9,10] (bcmp_ok (q.snd) (((wkN ts 65 65 0 []).fs.getD (↑q.fst:Int).toNat (Item.mk false [] [])).key)) ((q.snd=q.snd)∧(((wkN ts 65 65 0 []).fs.getD (↑q.fst:Int).toNat (Item.mk false [] [])).key=((wkN ts 65 65 0 []).fs.getD (↑q.fst:Int).toNat (Item.mk false [] [])).key)) ⟨rfl,rfl⟩ (fun g35 p36=>?_)
        have p36:True:=p36
        refine v_if (decide (0≤Lib.compareBytes q.snd ((wkN ts 65 65 0 []).fs.getD (↑q.fst:Int).toNat (Item.mk false [] [])).key)) True trivial (fun h37=>?_) (fun h37=>?_)
        ·have h37:=of_decide_eq_true h37
         refine v_al [] (al_e1 (5)) True trivial ?_
         refine v_call _ [14] (faultAt2_ok (#[111,114,100,101,114].toList) (0) (some (Er.num 5)) rfl) ((#[(111:UInt8),(114:UInt8),(100:UInt8),(101:UInt8),(114:UInt8)].toList=#[(111:UInt8),(114:UInt8),(100:UInt8),(101:UInt8),(114:UInt8)].toList)∧((0:Int)=(0:Int))∧((5:Int)=(5:Int))∧(PE (some (Er.num 5))=PE (some (Er.num 5)))∧(false=false)) ⟨rfl,rfl,rfl,rfl,rfl⟩ (fun g38 p39=>?_)
         have p39:True:=p39
         refine v_leave .rt True trivial ?_
         refine v_al [] (al_f0 (fo (chkR root ts)) (by(rw[ck6 ‹_› (by first | exact fun e=>absurd e.1 ‹_› | exact fun e=>absurd e.2 ‹_›) ‹_› ‹_› ‹_› ((‹OrI (wkR ts).fs q›).bad ‹_› ‹_› ‹_›)] <;> rfl))) True trivial ?_
         exact v_ret () [16,15] ((wordsP=wordsP)∧(ts=ts)∧(PF (fo (chkR root ts))=PF (fo (chkR root ts)))∧((fo (chkR root ts)).isNone=(fo (chkR root ts)).isNone)∧(PE (some (Er.step #[111,114,100,101,114].toList 0 ((some (Er.num 5)).getD (Er.num 0))))=PE (chkR root ts).fst)∧(false=(chkR root ts).fst.isNone)) ⟨rfl,rfl,rfl,rfl,(by(rw[ck6 ‹_› (by first | exact fun e=>absurd e.1 ‹_› | exact fun e=>absurd e.2 ‹_›) ‹_› ‹_› ‹_› ((‹OrI (wkR ts).fs q›).bad ‹_› ‹_› ‹_›)] <;> rfl)),(by(rw[ck6 ‹_› (by first | exact fun e=>absurd e.1 ‹_› | exact fun e=>absurd e.2 ‹_›) ‹_› ‹_› ‹_› ((‹OrI (wkR ts).fs q›).bad ‹_› ‹_› ‹_›)] <;> rfl))⟩ trivial
        ·have h37:=of_decide_eq_false h37
         exact v_back (oiS (wkR ts).fs q) [10] ((I64 (↑q.fst+1))∧((↑q.fst:Int)+1=(↑(oiS (wkR ts).fs q).fst:Int))∧(((wkN ts 65 65 0 []).fs.getD (↑q.fst:Int).toNat (Item.mk false [] [])).key=(oiS (wkR ts).fs q).snd)) ⟨(by(have hw:=wk_inv ts 65 65 0 [] (Nat.zero_le _) (Nat.le_refl _);first | omega | (unfold I64;omega))),rfl,(by exact oiN ‹_›)⟩ (show OrI (wkR ts).fs (oiS (wkR ts).fs q)∧(wkR ts).fs.length - (oiS (wkR ts).fs q).fst<(wkR ts).fs.length - q.fst from(by exact OrI.nextN ‹_› ‹_› ‹_› ‹_›))
      ·have h33:=of_decide_eq_false h33
       refine v_leave (.ex 2) True trivial ?_
       refine v_close 10 [6] (close_f_any (fo (chkR root ts)) ((wkN ts 65 65 0 []).fs) (by(rw[ck7 ‹_› (by first | exact fun e=>absurd e.1 ‹_› | exact fun e=>absurd e.2 ‹_›) ‹_› ‹_› ‹_› ((‹OrI (wkR ts).fs q›).end ‹_›)] <;> rfl))) (((wkN ts 65 65 0 []).fs=(wkN ts 65 65 0 []).fs)) rfl ?_
       refine v_al [10] (al_ptr (PF (fo (chkR root ts)))) ((PLe (PF (fo (chkR root ts))) (PF (fo (chkR root ts))))∧(false=false)) ⟨fun _ _ _ h=>h,rfl⟩ ?_
       refine v_al [] (al_e0 ((chkR root ts).fst) (by(rw[ck7 ‹_› (by first | exact fun e=>absurd e.1 ‹_› | exact fun e=>absurd e.2 ‹_›) ‹_› ‹_› ‹_› ((‹OrI (wkR ts).fs q›).end ‹_›)] <;> rfl))) True trivial ?_
       exact v_ret () [11,12] ((wordsP=wordsP)∧(ts=ts)∧(PF (fo (chkR root ts))=PF (fo (chkR root ts)))∧(false=(fo (chkR root ts)).isNone)∧(PE (chkR root ts).fst=PE (chkR root ts).fst)∧((chkR root ts).fst.isNone=(chkR root ts).fst.isNone)) ⟨rfl,rfl,rfl,(by(rw[ck7 ‹_› (by first | exact fun e=>absurd e.1 ‹_› | exact fun e=>absurd e.2 ‹_›) ‹_› ‹_› ‹_› ((‹OrI (wkR ts).fs q›).end ‹_›)] <;> rfl)),rfl,rfl⟩ trivial
def getI (k:List UInt8):Bool→List Item→List UInt8 × Bool × Bool
  | ahead,[]=>([],false,ahead)
  | ahead,x::r=>if x.hidden=true then getI k false r else if Lib.compareBytes x.key k=0 then(x.value,true,true) else if 0<Lib.compareBytes x.key k then([],false,ahead) else getI k true r
def getF (o:Option (List Item)) (k:List UInt8):List UInt8 × Bool × Bool :=
  match o with
  | none=>([],false,false)
  | some fs=>if(k.length:Int)=0∨96<(k.length:Int) then([],false,false) else getI k true fs
noncomputable def ccM8_18:Code:=(Tryd.f18.body).getD .skip
theorem Get1_aux (k:List UInt8):FOk EN 18 ⟨[.pn (PF none) false true,.rd 5 (k)],[.n 0,.n 1],Unit,fun _=>([.pn (PF none) false true,.rd 5 (k),.rd 5 ([])],.t [.n 2,.b false,.b false]),fun _=>True⟩:=by
 refine v_fun Tryd.f18 ccM8_18 MX (fun ν F σ w=>?_) Tryd.func18
 refine v_nl ?_
 refine v_guard 13 (true) True trivial (fun h1=>?_) (fun h1=>?_)
 ·skip
  exact v_ret () [2] ((false=false)∧(false=false)∧(PF none=PF none)∧(true=true)∧(k=k)∧(Eq (α:=List UInt8) [] [])) ⟨rfl,rfl,rfl,rfl,rfl,rfl⟩ trivial
 ·skip
  contradiction
theorem gf1 {fs:List Item} {k:List UInt8} (h:(k.length:Int)=0∨96<(k.length:Int)):getF (some fs) k=([],false,false):=by unfold getF;dsimp only;rw[if_pos h]
theorem gf2 {fs:List Item} {k:List UInt8} (h:¬ (k.length:Int)=0) (h2:¬ 96<(k.length:Int)):getF (some fs) k=getI k true fs:=by unfold getF;dsimp only;rw[if_neg (fun e=>e.elim h h2)]
def GtI (fs:List Item) (k:List UInt8) (q:Nat × Bool):Prop:=getI k q.2 (fs.drop q.1)=getI k true fs∧q.1≤fs.length
section
variable {fs:List Item} {k:List UInt8} {q:Nat × Bool}
theorem drop_it {n:Nat} (hi:(n:Int)<fs.length):fs.drop n=fs.getD n dI::fs.drop (n+1):=drop_item (q:=(n,[])) hi
theorem GtI.start:GtI fs k (0,true):=⟨rfl,Nat.zero_le _⟩
theorem GtI.h (h:GtI fs k q) (hi:(q.1:Int)<fs.length) (hh:(fs.getD (q.1:Int).toNat dI).hidden=true):GtI fs k (q.1+1,false)∧fs.length - (q.1+1)<fs.length - q.1:=by
  rw[Int.toNat_natCast] at hh
  refine⟨⟨?_,by show q.1+1≤_;omega⟩,by omega⟩
  rw[← h.1,drop_it hi,getI,if_pos hh]
theorem GtI.n (h:GtI fs k q) (hi:(q.1:Int)<fs.length) (hh:(fs.getD (q.1:Int).toNat dI).hidden=false) (h0:¬ Lib.compareBytes (fs.getD (q.1:Int).toNat dI).key k=0) (h1:¬ 0<Lib.compareBytes (fs.getD (q.1:Int).toNat dI).key k):GtI fs k (q.1+1,true)∧fs.length - (q.1+1)<fs.length - q.1:=by
  rw[Int.toNat_natCast] at hh h0 h1
  refine⟨⟨?_,by show q.1+1≤_;omega⟩,by omega⟩
  rw[← h.1,drop_it hi,getI,if_neg (by rw[hh];decide),if_neg h0,if_neg h1]
theorem GtI.f (h:GtI fs k q) (hi:(q.1:Int)<fs.length) (hh:(fs.getD (q.1:Int).toNat dI).hidden=false) (h0:Lib.compareBytes (fs.getD (q.1:Int).toNat dI).key k=0):getI k true fs=((fs.getD (q.1:Int).toNat dI).value,true,true):=by
  rw[Int.toNat_natCast] at *
  rw[← h.1,drop_it hi,getI,if_neg (by rw[hh];decide),if_pos h0]
theorem GtI.b (h:GtI fs k q) (hi:(q.1:Int)<fs.length) (hh:(fs.getD (q.1:Int).toNat dI).hidden=false) (h0:¬ Lib.compareBytes (fs.getD (q.1:Int).toNat dI).key k=0) (h1:0<Lib.compareBytes (fs.getD (q.1:Int).toNat dI).key k):getI k true fs=([],false,q.2):=by
  rw[Int.toNat_natCast] at *
  rw[← h.1,drop_it hi,getI,if_neg (by rw[hh];decide),if_neg h0,if_pos h1]
theorem GtI.e (h:GtI fs k q) (hi:¬ (q.1:Int)<fs.length):getI k true fs=([],false,q.2):=by
  rw[← h.1,List.drop_of_length_le (by omega),getI]
theorem getD_val (hv:∀ x∈fs,x.value.length≤1000) {n:Nat}:(fs.getD n dI).value.length≤1000000:=by
  rw[List.getD_eq_getElem?_getD]
  cases h:fs[n]? with
  | none=>exact Nat.zero_le _
  | some x=>exact Nat.le_trans (hv x (List.mem_of_getElem? h)) (by decide)
end
theorem Get2_aux (fs:List Item) (k:List UInt8) (hl:fs.length≤100000) (hv:∀ x∈fs,x.value.length≤1000):FOk EN 18 ⟨[.pn (PF (some fs)) false false,.rd 5 (k)],[.n 0,.n 1],Unit,fun _=>([.pn (PF (some fs)) false false,.rd 5 (k),.rd 5 ((getF (some fs) k).1)],.t [.n 2,.b (getF (some fs) k).2.1,.b (getF (some fs) k).2.2]),fun _=>True⟩:=by
 refine v_fun Tryd.f18 ccM8_18 MX (fun ν F σ w=>?_) Tryd.func18
 refine v_nl ?_
 refine v_guard 13 (false) True trivial (fun h1=>?_) (fun h1=>?_)
 ·skip
  contradiction
 ·skip
  refine v_guard 18 (decide ((↑k.length:Int)=0)) True trivial (fun h2=>?_) (fun h2=>?_)
  ·have h2:=of_decide_eq_true h2
   exact v_ret () [2] ((false=(getF (some fs) k).snd.fst)∧(false=(getF (some fs) k).snd.snd)∧(PF (some fs)=PF (some fs))∧(false=false)∧(k=k)∧([]=(getF (some fs) k).fst)) ⟨(by(rw[gf1 (.inl ‹_›)] <;> rfl)),(by(rw[gf1 (.inl ‹_›)] <;> rfl)),rfl,rfl,rfl,(by(rw[gf1 (.inl ‹_›)] <;> rfl))⟩ trivial
  ·have h2:=of_decide_eq_false h2
   refine v_if (decide (96<(↑k.length:Int))) True trivial (fun h3=>?_) (fun h3=>?_)
   ·have h3:=of_decide_eq_true h3
    exact v_ret () [2] ((false=(getF (some fs) k).snd.fst)∧(false=(getF (some fs) k).snd.snd)∧(PF (some fs)=PF (some fs))∧(false=false)∧(k=k)∧([]=(getF (some fs) k).fst)) ⟨(by(rw[gf1 (.inr ‹_›)] <;> rfl)),(by(rw[gf1 (.inr ‹_›)] <;> rfl)),rfl,rfl,rfl,(by(rw[gf1 (.inr ‹_›)] <;> rfl))⟩ trivial
   ·have h3:=of_decide_eq_false h3
    refine v_open 0 (open_f (fs)) ((PF (some fs)=PF (some fs))) rfl ?_
    refine v_loop (fun q:Nat × Bool=>([(28,.i q.1),(7,.b q.2)],[])) (fun q=>GtI fs k q) (fun q=>fs.length - q.1) (0,true) [] (((0:Int)=(↑(0:Nat):Int))∧(true=true)) ⟨rfl,rfl⟩ (by exact⟨rfl,Nat.zero_le _⟩) (fun q hk4=>?_)
    refine v_if (decide ((↑q.fst:Int)<(↑fs.length:Int))) True trivial (fun h5=>?_) (fun h5=>?_)
    ·have h5:=of_decide_eq_true h5
     refine v_if ((fs.getD (↑q.fst:Int).toNat (Item.mk false [] [])).hidden) ((0≤(↑q.fst:Int)∧(↑q.fst:Int)<(↑fs.length:Int))) (by omega) (fun h6=>?_) (fun h6=>?_)
     ·skip
      exact v_back ((q.fst+1,false)) [] ((I64 (↑q.fst+1))∧((↑q.fst:Int)+1=(↑(q.fst+1):Int))∧(false=false)) ⟨(by(unfold I64;omega)),rfl,rfl⟩ (show GtI fs k (q.fst+1,false)∧fs.length - (q.fst+1)<fs.length - q.fst from(by exact GtI.h ‹_› ‹_› ‹_›))
     ·skip
      refine v_call _ [4,1] (bcmp_ok ((fs.getD (↑q.fst:Int).toNat (Item.mk false [] [])).key) (k)) (((fs.getD (↑q.fst:Int).toNat (Item.mk false [] [])).key=(fs.getD (↑q.fst:Int).toNat (Item.mk false [] [])).key)∧(k=k)) ⟨rfl,rfl⟩ (fun g7 p8=>?_)
      have p8:True:=p8
      refine v_if (decide (Lib.compareBytes (fs.getD (↑q.fst:Int).toNat (Item.mk false [] [])).key k=0)) True trivial (fun h9=>?_) (fun h9=>?_)
      ·have h9:=of_decide_eq_true h9
       refine v_call _ [5] (clone_ok ((fs.getD (↑q.fst:Int).toNat (Item.mk false [] [])).value) (by exact getD_val hv)) (((fs.getD (↑q.fst:Int).toNat (Item.mk false [] [])).value=(fs.getD (↑q.fst:Int).toNat (Item.mk false [] [])).value)) rfl (fun g10 p11=>?_)
       have p11:True:=p11
       refine v_leave .rt True trivial ?_
       exact v_ret () [8] ((true=(getF (some fs) k).snd.fst)∧(true=(getF (some fs) k).snd.snd)∧(PLe (PF (some fs)) (PF (some fs)))∧(false=false)∧(k=k)∧((fs.getD (↑q.fst:Int).toNat (Item.mk false [] [])).value=(getF (some fs) k).fst)) ⟨(by(rw[gf2 ‹_› ‹_›,GtI.f ‹_› ‹_› ‹_› ‹_›] <;> rfl)),(by(rw[gf2 ‹_› ‹_›,GtI.f ‹_› ‹_› ‹_› ‹_›] <;> rfl)),fun _ _ _ h=>h,rfl,rfl,(by(rw[gf2 ‹_› ‹_›,GtI.f ‹_› ‹_› ‹_› ‹_›] <;> rfl))⟩ trivial
      ·have h9:=of_decide_eq_false h9
       refine v_if (decide (0<Lib.compareBytes (fs.getD (↑q.fst:Int).toNat (Item.mk false [] [])).key k)) True trivial (fun h12=>?_) (fun h12=>?_)
       ·have h12:=of_decide_eq_true h12
        refine v_leave (.ex 0) True trivial ?_
        exact v_ret () [2] ((false=(getF (some fs) k).snd.fst)∧(q.snd=(getF (some fs) k).snd.snd)∧(PLe (PF (some fs)) (PF (some fs)))∧(false=false)∧(k=k)∧([]=(getF (some fs) k).fst)) ⟨(by(rw[gf2 ‹_› ‹_›,GtI.b ‹_› ‹_› ‹_› ‹_› ‹_›] <;> rfl)),(by(rw[gf2 ‹_› ‹_›,GtI.b ‹_› ‹_› ‹_› ‹_› ‹_›] <;> rfl)),fun _ _ _ h=>h,rfl,rfl,(by(rw[gf2 ‹_› ‹_›,GtI.b ‹_› ‹_› ‹_› ‹_› ‹_›] <;> rfl))⟩ trivial
       ·have h12:=of_decide_eq_false h12
        exact v_back ((q.fst+1,true)) [] ((I64 (↑q.fst+1))∧((↑q.fst:Int)+1=(↑(q.fst+1):Int))∧(true=true)) ⟨(by(unfold I64;omega)),rfl,rfl⟩ (show GtI fs k (q.fst+1,true)∧fs.length - (q.fst+1)<fs.length - q.fst from(by exact GtI.n ‹_› ‹_› ‹_› ‹_› ‹_›))
    ·have h5:=of_decide_eq_false h5
     refine v_leave (.ex 0) True trivial ?_
     exact v_ret () [2] ((false=(getF (some fs) k).snd.fst)∧(q.snd=(getF (some fs) k).snd.snd)∧(PLe (PF (some fs)) (PF (some fs)))∧(false=false)∧(k=k)∧([]=(getF (some fs) k).fst)) ⟨(by(rw[gf2 ‹_› ‹_›,GtI.e ‹_› ‹_›] <;> rfl)),(by(rw[gf2 ‹_› ‹_›,GtI.e ‹_› ‹_›] <;> rfl)),fun _ _ _ h=>h,rfl,rfl,(by(rw[gf2 ‹_› ‹_›,GtI.e ‹_› ‹_›] <;> rfl))⟩ trivial
theorem Get_ok (o:Option (List Item)) (k:List UInt8) (hl:(o.getD []).length≤100000) (hv:∀ x∈o.getD [],x.value.length≤1000):FOk EN 18 ⟨[.pn (PF o) false o.isNone,.rd 5 (k)],[.n 0,.n 1],Unit,fun _=>([.pn (PF o) false o.isNone,.rd 5 (k),.rd 5 ((getF o k).1)],.t [.n 2,.b (getF o k).2.1,.b (getF o k).2.2]),fun _=>True⟩:=by
  cases o with
  | none=>exact Get1_aux k
  | some fs=>exact Get2_aux fs k hl hv
namespace Tr
end Tr
namespace Tr
end Tr
/-- Leaves as they come from calls. -/
def lvOk (l:List Pair):Prop:=∀ p∈l,(1≤p.key.length∧p.key.length≤90)∧p.value.length≤100
theorem growG_lv:∀(n:Nat) (acts:List Act) (s:Option Tr × List Pair),lvOk s.2→lvOk (growG n acts s).2
  | 0,acts,s,h=>by unfold growG;exact h
  | n+1,[],s,h=>by unfold growG;exact h
  | n + 1, a :: l, s, h => by
    unfold growG
    split
    · exact h
    · rename_i hk
      refine growG_lv n l _ ?_
      unfold stepA;split
      · intro p hp
        rcases mem_putPair hp with rfl | hp
        · exact⟨⟨keyA_pos a,by show(keyA a).length≤90;omega⟩,valA_len a⟩
        · exact h p hp
      · intro p hp;exact h p (List.mem_filter.1 hp).1
theorem growT_lv (acts:List Act) (m:Nat):lvOk (leavesO (growT acts m).1):=by rw[← (growT_ok acts m).2];exact growG_lv m acts _ (fun p hp=>by simp at hp)
theorem growG_okN:∀(n i:Nat) (acts:List Act) (s:Option Tr × List Pair),okN i s.1→okN (n+i) (growG n acts s).1
  | 0,i,acts,s,h=>by unfold growG;rw[Nat.zero_add];exact h
  | n+1,i,[],s,h=>by unfold growG;exact fun t e=>⟨(h t e).1,by have:=(h t e).2;omega⟩
  | n + 1, i, a :: l, s, h => by
    unfold growG
    split
    · exact fun t e=>⟨(h t e).1,by have:=(h t e).2;omega⟩
    · rename_i hk
      rw[show n+1+i=n+(i+1) by omega]
      refine growG_okN n (i+1) l _ ?_
      unfold stepA;split
      · exact okN.put h (by omega) (by have:=valA_len a;omega)
      · exact okN.cut h
theorem growT_okN (acts:List Act) (m:Nat):okN m (growT acts m).1:=by have:=growG_okN m 0 acts (none,[]) (fun t e=>by simp at e);exact this
/-- A tree as calls make it: sorted, small. -/
def fine (o:Option Tr):Prop:=Srt (leavesO o)∧lvOk (leavesO o)∧okN 64 o
theorem growT_fine (acts:List Act) (m:Nat) (hm:m≤64):fine (growT acts m).1:=⟨(growT_ok acts m).1,growT_lv acts m,fun t e=>⟨(growT_okN acts m t e).1,by have:=(growT_okN acts m t e).2;omega⟩⟩
theorem fine.O {o:Option Tr} (h:fine o):okO o:=h.2.2.O (by decide)
namespace Tr
def its:Tr→List (List UInt8)→List Item
  | leaf k v,w=>if w.isEmpty then[⟨true,[],[]⟩] else[⟨false,k,v⟩]
  | node l r,w=>if w.isEmpty then[⟨true,[],[]⟩] else l.its (w.take (cntB r.least w))++r.its (w.drop (cntB r.least w))
end Tr
theorem nsum_nk {h:Int} (h0:¬ h=0) (s:UInt64) (k v l r:List UInt8):nsum h s [] [] l r=nsum h s k v l r:=by unfold nsum;rw[if_neg h0,if_neg h0]
theorem getD_mid {pre post:List Token} {x:Token}:(pre++x::post).getD pre.length kT0=x:=by simp
theorem len_mid {pre post:List Token} {x:Token}:¬ ((pre++x::post).length:Int)≤(pre.length:Int):=by simp;omega
theorem wk_hid {pre post:List Token} (h:List UInt8) (hl:h.length=32) (f:Nat) (ab:Int) (fs:List Item):wkN (pre++kHid h::post) (f+1) ab pre.length fs=⟨h,none,pre.length+1,fs++[⟨true,[],[]⟩]⟩:=by
  unfold wkN;rw[if_neg len_mid,getD_mid,if_pos (show(kHid h).kind=1 from rfl)]
  show WR.mk (mk32 h).l none _ _=_
  rw[mk32_of hl]
theorem wk_lf {pre post:List Token} (k v:List UInt8) (hk:1≤k.length∧k.length≤96) (hv:v.length≤256) (f:Nat) (ab:Int) (fs:List Item):wkN (pre++kLeaf k v::post) (f+1) ab pre.length fs=⟨nsum 0 1 k v z32 z32,none,pre.length+1,fs++[⟨false,k,v⟩]⟩:=by
  unfold wkN;rw[if_neg len_mid,getD_mid,if_neg (by show ¬ (2:UInt8)=1;decide),if_pos (show(kLeaf k v).kind=2 from rfl),if_neg (by show ¬ ((k.length:Int)=0∨96<(k.length:Int)∨256<(v.length:Int));omega)]
  rfl
theorem wk_in {pre post:List Token} (h:Int) (s:UInt64) (f:Nat) (ab:Int) (fs:List Item) (h1:1≤h) (h2:h<ab) {a b:WR} (ea:wkN (pre++kInn h s::post) f h (pre.length+1) fs=a) (na:a.e=none) (eb:wkN (pre++kInn h s::post) f h a.a a.fs=b) (nb:b.e=none) :
    wkN (pre++kInn h s::post) (f+1) ab pre.length fs=⟨nsum h s [] [] a.h b.h,none,b.a,b.fs⟩:=by
  subst ea;subst eb
  rw[wkN,if_neg len_mid,getD_mid,if_neg (by show ¬ (3:UInt8)=1;decide),if_neg (by show ¬ (3:UInt8)=2;decide),if_pos (show(kInn h s).kind=3 from rfl),if_neg (by show ¬ (h<1∨ab≤h);omega)]
  have e1:(kInn h s).height=h:=rfl
  have e2:(kInn h s).size=s:=rfl
  rw[e1,e2,if_neg (by rw[na];decide),if_neg (by rw[nb];decide)]
theorem wk_pcs:∀(t:Tr) (w:List (List UInt8)) (pre post:List Token) (f:Nat) (ab:Int) (fs:List Item),lvOk t.leaves→t.height<f→t.height<ab →
    wkN (pre++(t.pcs w++post)) f ab pre.length fs=⟨t.hash,none,pre.length+(t.pcs w).length,fs++t.its w⟩
  | t,w,pre,post,0,ab,fs,hk,hf,ha=>by have:=t.height_nn;omega
  | .leaf k v, w, pre, post, f + 1, ab, fs, hk, hf, ha => by
    unfold Tr.pcs Tr.its;split
    · rw[List.singleton_append,wk_hid _ (Tr.hash_len _)];rfl
    · have := hk ⟨k, v⟩ (List.mem_singleton_self _)
      have h1:=this.1;have h2:=this.2
      rw[List.singleton_append,wk_lf k v ⟨h1.1,Nat.le_trans h1.2 (by decide)⟩ (Nat.le_trans h2 (by decide))];rfl
  | .node l r, w, pre, post, f + 1, ab, fs, hk, hf, ha => by
    unfold Tr.pcs Tr.its;split
    · rw[List.singleton_append,wk_hid _ (Tr.hash_len _)];rfl
    · have n1 := l.height_nn; have n2 := r.height_nn
      have hh:(Tr.node l r).height=1+max l.height r.height:=rfl
      have hl:lvOk l.leaves:=fun p hp=>hk p (List.mem_append_left _ hp)
      have hr:lvOk r.leaves:=fun p hp=>hk p (List.mem_append_right _ hp)
      generalize hL:l.pcs (w.take (cntB r.least w))=L
      generalize hR:r.pcs (w.drop (cntB r.least w))=R
      have e0:pre++(kInn (Tr.node l r).height (Tr.node l r).size::(L++R)++post)=pre++kInn (Tr.node l r).height (Tr.node l r).size::(L++(R++post)):=by simp
      have e1:pre++kInn (Tr.node l r).height (Tr.node l r).size::(L++(R++post))=(pre++[kInn (Tr.node l r).height (Tr.node l r).size])++(L++(R++post)):=by simp
      have e2:pre++kInn (Tr.node l r).height (Tr.node l r).size::(L++(R++post))=(pre++[kInn (Tr.node l r).height (Tr.node l r).size]++L)++(R++post):=by simp
      have p1:(pre++[kInn (Tr.node l r).height (Tr.node l r).size]).length=pre.length+1:=by simp
      have p2:(pre++[kInn (Tr.node l r).height (Tr.node l r).size]++L).length=pre.length+1+L.length:=by simp;omega
      have hA:=wk_pcs l (w.take (cntB r.least w)) (pre++[kInn (Tr.node l r).height (Tr.node l r).size]) (R++post) f (Tr.node l r).height fs hl (by omega) (by omega)
      rw[hL,← e1,p1] at hA
      have hB:=wk_pcs r (w.drop (cntB r.least w)) (pre++[kInn (Tr.node l r).height (Tr.node l r).size]++L) post f (Tr.node l r).height (fs++l.its (w.take (cntB r.least w))) hr (by omega) (by omega)
      rw[hR,← e2,p2] at hB
      rw[e0,wk_in _ _ f ab fs (by omega) ha hA rfl hB rfl]
      rw[WR.mk.injEq]
      refine⟨?_,rfl,?_,?_⟩
      · exact nsum_nk (by omega) _ _ _ _ _
      · simp only[List.length_cons,List.length_append];omega
      · rw[List.append_assoc]
def keysI:List Item→List (List UInt8)
  | []=>[]
  | x::r=>if x.hidden=true then keysI r else x.key::keysI r
theorem keysI_app:∀ a b:List Item,keysI (a++b)=keysI a++keysI b
  | [],b=>rfl
  | x::a,b=>by simp only[List.cons_append,keysI];rw[keysI_app a b];split <;> simp
theorem ordI_of:∀ {l:List Item} {last:List UInt8},(last::keysI l).Pairwise klt→ordI last l=true
  | [],_,_=>rfl
  | x :: r, last, h => by
    unfold ordI;unfold keysI at h
    split
    · rename_i hx;rw[if_pos hx] at h;exact ordI_of h
    · rename_i hx; rw [if_neg hx] at h
      obtain⟨h1,h2⟩:=List.pairwise_cons.1 h
      have:klt last x.key:=h1 _ (List.mem_cons_self ..)
      rw[if_neg (by unfold klt at this;omega)]
      exact ordI_of h2
theorem keysI_its:∀(t:Tr) (w:List (List UInt8)),(keysI (t.its w)).Sublist (ksP t.leaves)
  | .leaf k v, w => by unfold Tr.its; split
                       · exact List.nil_sublist _
                       · exact List.Sublist.refl _
  | .node l r, w => by
    unfold Tr.its;split
    · exact List.nil_sublist _
    · rw [keysI_app]; unfold ksP; rw [show (Tr.node l r).leaves = l.leaves ++ r.leaves from rfl, List.map_append]
      exact(keysI_its l _).append (keysI_its r _)
theorem ord_its {t:Tr} (hs:Srt t.leaves) (hk:lvOk t.leaves) (w:List (List UInt8)):ordI [] (t.its w)=true:=by
  refine ordI_of (List.pairwise_cons.2 ⟨fun x hx=>?_,?_⟩)
  · have := (keysI_its t w).subset hx
    obtain⟨p,hp,rfl⟩:=List.mem_map.1 this
    have h1:=(hk p hp).1.1
    cases e:p.key with
    | nil=>rw[e] at h1;simp at h1
    | cons a b=>show Lib.compareBytes [] (a::b)<0;simp[Lib.compareBytes]
  · exact List.Pairwise.sublist (keysI_its t w) (by unfold ksP;rw[List.pairwise_map];exact hs)
theorem pcs_ne (t:Tr) (w:List (List UInt8)):t.pcs w≠[]:=by cases t <;> (unfold Tr.pcs;split <;> simp)
theorem chk_make {t:Tr} (hs:Srt t.leaves) (hk:lvOk t.leaves) (hh:t.height<65) (w:List (List UInt8)) (hl:(t.pcs w).length≤2048):chkR t.hash (t.pcs w)=(none,t.its w):=by
  have hw:=wk_pcs t w [] [] 65 65 [] hk hh hh
  rw[List.nil_append,List.append_nil] at hw
  simp only[List.length_nil,Nat.zero_add,List.nil_append] at hw
  have hn:=pcs_ne t w
  have hlen:(t.pcs w).length≠0:=fun e=>hn (List.eq_nil_of_length_eq_zero e)
  rw[ck7 (by omega) (fun e=>hlen (by have:=e.1;omega)) (by unfold wkR;rw[hw];rfl) (by unfold wkR;rw[hw];exact Int.lt_irrefl _) (by unfold wkR;rw[hw]) (by unfold wkR;rw[hw];exact ord_its hs hk w)]
  unfold wkR;rw[hw]
def awK:List (List UInt8):=[[97],[98],[99],[100]]
def awN:Nat→Option Tr
  | 0=>none
  | n+1=>putO (awK.getD n []) (awK.getD n []) (awN n)
theorem awL:∀ {i:Nat},(i:Int)<4→1≤(awK.getD (i:Int).toNat []).length∧(awK.getD (i:Int).toNat []).length≤96
  | 0,_=>by decide
  | 1,_=>by decide
  | 2,_=>by decide
  | 3,_=>by decide
  | _+4,h=>by omega
theorem awL0:∀ i:Nat,(awK.getD i []).length≤1
  | 0=>by decide
  | 1=>by decide
  | 2=>by decide
  | 3=>by decide
  | i+4=>by simp[awK]
theorem awOk:∀ i:Nat,okN i (awN i)
  | 0=>fun t e=>by simp[awN] at e
  | i+1=>okN.put (awOk i) (Nat.le_trans (awL0 i) (by decide)) (Nat.le_trans (awL0 i) (by decide))
theorem awO {i:Nat} (h:i≤4):okO (awN i):=(awOk i).O (by omega)
abbrev awC:Option Er × List Item:=chkR (hashO (awN 4)) (mkT (awN 4) [[98]])
abbrev awI:List Item:=[⟨true,[],[]⟩,⟨false,[98],[98]⟩,⟨true,[],[]⟩]
noncomputable def ccM9_4:Code:=(Tryd.f4.body).getD .skip
theorem Awake10_aux (hs:Srt (leavesO (awN 4))) (hl:(leavesO (awN 4)).length≤900000) (c1:awC.1.isNone=true) (g1:getF (fo awC) [98]=([98],true,true)) (g2:getF (fo awC) [98,98]=([],false,false)) (m1:(mkT (awN 4) [[98]]).length=5) (f1:fo awC=some awI):FOk EN 4 ⟨[.pr wordsP],[],Unit,fun _=>([.pr wordsP],.b true),fun _=>True⟩:=by
 refine v_fun Tryd.f4 ccM9_4 MX (fun ν F σ w=>?_) Tryd.func4
 refine v_nl ?_
 refine v_call _ [0] (new_ok) ((wordsP=wordsP)) rfl (fun g1 p2=>?_)
 have p2:True:=p2
 refine v_loop (fun i:Nat=>([(16,.i i),(1,.p 4 0)],[.pn (PTO (awN i)) false false])) (fun i=>i≤4) (fun i=>4 - i) 0 [2] (((0:Int)=(↑(0:Nat):Int))∧(PTO none=PTO (awN 0))∧(false=false)) ⟨rfl,rfl,rfl⟩ (by decide) (fun i hk3=>?_)
 refine v_if (decide ((↑i:Int)<(↑(4:Nat):Int))) True trivial (fun h4=>?_) (fun h4=>?_)
 ·have h4:=of_decide_eq_true h4
  refine v_call _ [0,6,7,4] (Put_ok (awN i) ([#[97].toList,#[98].toList,#[99].toList,#[100].toList].getD (↑i:Int).toNat []) ([#[97].toList,#[98].toList,#[99].toList,#[100].toList].getD (↑i:Int).toNat []) (by exact awO (by omega)) (by exact awL ‹_›) (by exact Nat.le_trans (awL0 _) (by decide))) (((0:Int)≤(↑i:Int)∧(↑i:Int)<(↑(4:Nat):Int))∧(([#[(97:UInt8)].toList,#[(98:UInt8)].toList,#[(99:UInt8)].toList,#[(100:UInt8)].toList].getD (↑i:Int).toNat []).length≤(1000000:Nat))∧(([#[(97:UInt8)].toList,#[(98:UInt8)].toList,#[(99:UInt8)].toList,#[(100:UInt8)].toList].getD (↑i:Int).toNat []).length≤(1000000:Nat))∧(wordsP=wordsP)∧([#[(97:UInt8)].toList,#[(98:UInt8)].toList,#[(99:UInt8)].toList,#[(100:UInt8)].toList].getD (↑i:Int).toNat []=[#[(97:UInt8)].toList,#[(98:UInt8)].toList,#[(99:UInt8)].toList,#[(100:UInt8)].toList].getD (↑i:Int).toNat [])∧([#[(97:UInt8)].toList,#[(98:UInt8)].toList,#[(99:UInt8)].toList,#[(100:UInt8)].toList].getD (↑i:Int).toNat []=[#[(97:UInt8)].toList,#[(98:UInt8)].toList,#[(99:UInt8)].toList,#[(100:UInt8)].toList].getD (↑i:Int).toNat [])∧(PTO (awN i)=PTO (awN i))∧(false=false)) ⟨(by omega),(by exact Nat.le_trans (awL0 _) (by decide)),(by exact Nat.le_trans (awL0 _) (by decide)),rfl,rfl,rfl,rfl,rfl⟩ (fun g5 p6=>?_)
  have p6:True:=p6
  exact v_back (i+1) [8] ((I64 (↑i+1))∧((↑i:Int)+1=(↑(i+1):Int))∧(PTO (putO ([#[97].toList,#[98].toList,#[99].toList,#[100].toList].getD (↑i:Int).toNat []) ([#[97].toList,#[98].toList,#[99].toList,#[100].toList].getD (↑i:Int).toNat []) (awN i))=PTO (awN (i+1)))∧(false=false)) ⟨(by(unfold I64;omega)),rfl,rfl,rfl⟩ (show i+1≤4∧4 - (i+1)<4 - i from(by omega))
 ·have h4:=of_decide_eq_false h4
  refine v_leave (.ex 0) True trivial ?_
  refine v_call _ [0,4,6] (MakeT_ok (awN i) ([[98]]) (by exact awO (by omega)) (by(cases(show i=4 by omega);exact hs)) (by(cases(show i=4 by omega);exact hl)) (by decide)) ((0<1)∧(wordsP=wordsP)∧(PTO (awN i)=PTO (awN i))∧(false=false)∧([[(98:UInt8)]]=[[(98:UInt8)]])) ⟨(by decide),rfl,rfl,rfl,rfl⟩ (fun g7 p8=>?_)
  have p8:True:=p8
  refine v_call _ [0,4] (Root_ok (awN i)) ((wordsP=wordsP)∧(PTO (awN i)=PTO (awN i))∧(false=false)) ⟨rfl,rfl,rfl⟩ (fun g9 p10=>?_)
  have p10:True:=p10
  refine v_call _ [0,7] (Check_ok (hashO (awN i)) (mkT (awN i) [[98]]) (by exact hashO_len _) (by(cases(show i=4 by omega);rw[m1];decide))) ((hashO (awN i)=hashO (awN i))∧(wordsP=wordsP)∧(mkT (awN i) [[98]]=mkT (awN i) [[98]])) ⟨rfl,rfl,rfl⟩ (fun g11 p12=>?_)
  have p12:True:=p12
  refine v_call _ [8,10] (Get_ok (fo (chkR (hashO (awN i)) (mkT (awN i) [[98]]))) ([98]) (by(cases(show i=4 by omega);rw[f1];decide)) (by(cases(show i=4 by omega);rw[f1];decide))) ((0<1)∧(PF (fo (chkR (hashO (awN i)) (mkT (awN i) [[98]])))=PF (fo (chkR (hashO (awN i)) (mkT (awN i) [[98]]))))∧((fo (chkR (hashO (awN i)) (mkT (awN i) [[98]]))).isNone=(fo (chkR (hashO (awN i)) (mkT (awN i) [[98]]))).isNone)∧([(98:UInt8)]=[(98:UInt8)])) ⟨(by decide),rfl,rfl,rfl⟩ (fun g13 p14=>?_)
  have p14:True:=p14
  refine v_call _ [8,12] (Get_ok (fo (chkR (hashO (awN i)) (mkT (awN i) [[98]]))) ([98,98]) (by(cases(show i=4 by omega);rw[f1];decide)) (by(cases(show i=4 by omega);rw[f1];decide))) ((0<2)∧(PF (fo (chkR (hashO (awN i)) (mkT (awN i) [[98]])))=PF (fo (chkR (hashO (awN i)) (mkT (awN i) [[98]]))))∧((fo (chkR (hashO (awN i)) (mkT (awN i) [[98]]))).isNone=(fo (chkR (hashO (awN i)) (mkT (awN i) [[98]]))).isNone)∧([(98:UInt8),(98:UInt8)]=[(98:UInt8),(98:UInt8)])) ⟨(by decide),rfl,rfl,rfl⟩ (fun g15 p16=>?_)
  have p16:True:=p16
  refine v_guard 60 ((chkR (hashO (awN i)) (mkT (awN i) [[98]])).fst.isNone) True trivial (fun h17=>?_) (fun h17=>?_)
  ·skip
   refine v_guard 65 (decide ((↑(mkT (awN i) [[98]]).length:Int)=5)) True trivial (fun h18=>?_) (fun h18=>?_)
   ·have h18:=of_decide_eq_true h18
    refine v_guard 68 ((getF (fo (chkR (hashO (awN i)) (mkT (awN i) [[98]]))) [98]).snd.fst) True trivial (fun h19=>?_) (fun h19=>?_)
    ·skip
     refine v_guard 71 ((getF (fo (chkR (hashO (awN i)) (mkT (awN i) [[98]]))) [98]).snd.snd) True trivial (fun h20=>?_) (fun h20=>?_)
     ·skip
      refine v_guard 76 (decide ((getF (fo (chkR (hashO (awN i)) (mkT (awN i) [[98]]))) [98]).fst=#[98].toList)) True trivial (fun h21=>?_) (fun h21=>?_)
      ·have h21:=of_decide_eq_true h21
       refine v_guard 80 (!(getF (fo (chkR (hashO (awN i)) (mkT (awN i) [[98]]))) [98,98]).snd.fst) True trivial (fun h22=>?_) (fun h22=>?_)
       ·have h22:=(nt h22)
        exact v_ret () [] (((!(getF (fo (chkR (hashO (awN i)) (mkT (awN i) [[98]]))) [98,98]).snd.snd)=true)∧(wordsP=wordsP)) ⟨(by(cases(show i=4 by omega);rw[f1];decide)),rfl⟩ trivial
       ·have h22:=(nf h22)
        exfalso;(cases(show i=4 by omega);rw[c1] at *;simp_all;done)
      ·have h21:=of_decide_eq_false h21
       exfalso;(cases(show i=4 by omega);rw[c1] at *;simp_all;done)
     ·skip
      exfalso;(cases(show i=4 by omega);rw[c1] at *;simp_all;done)
    ·skip
     exfalso;(cases(show i=4 by omega);rw[c1] at *;simp_all;done)
   ·have h18:=of_decide_eq_false h18
    exfalso;(cases(show i=4 by omega);rw[c1] at *;simp_all;done)
  ·skip
   exfalso;(cases(show i=4 by omega);rw[c1] at *;simp_all;done)
theorem aw4_leaves:leavesO (awN 4)=[⟨[97],[97]⟩,⟨[98],[98]⟩,⟨[99],[99]⟩,⟨[100],[100]⟩]:=by decide
theorem aw4_srt:Srt (leavesO (awN 4)):=by rw[aw4_leaves];unfold Srt;decide
theorem aw4_lv:lvOk (leavesO (awN 4)):=by rw[aw4_leaves];unfold lvOk;decide
theorem aw4_C:awC=(none,awI):=by
  have hn:(awN 4).isNone=false:=by decide
  have hh:(gt (awN 4)).height<65:=by decide
  have hp:(mkT (awN 4) [[98]]).length≤2048:=by decide
  have hi:(gt (awN 4)).its (wanL (leavesO (awN 4)) [[98]])=awI:=by decide
  unfold awC
  cases e:awN 4 with
  | none=>rw[e] at hn;cases hn
  | some t =>
    have h1:=aw4_srt;have h2:=aw4_lv
    rw[e] at h1 h2 hh hp hi
    rw[← hi];exact chk_make h1 h2 hh _ hp
theorem Awake10_ok:FOk EN 4 ⟨[.pr wordsP],[],Unit,fun _=>([.pr wordsP],.b true),fun _=>True⟩:=by
  have hf:fo awC=some awI:=by rw[aw4_C];rfl
  exact Awake10_aux aw4_srt (by rw[aw4_leaves];decide) (by rw[aw4_C];rfl) (by rw[hf];decide) (by rw[hf];decide) (by decide) hf
theorem ofI_len {n:Nat} (h:n≤200000):(ofI (n:Int)).toNat=n:=by
  unfold ofI
  rw[UInt64.toNat_ofNat']
  omega
theorem tu (x:UInt64) {n:Nat} (h0:(0:Int)<n) (h:n≤200000):(x % ofI (n:Int)).toNat<n:=by
  have e:=ofI_len h
  rw[UInt64.toNat_mod,e];exact Nat.mod_lt _ (by omega)
theorem tu0 {n:Nat} (h0:(0:Int)<n) (h:n≤200000):ofI (n:Int)≠0:=by
  intro q
  have e:=ofI_len h
  rw[q] at e
  have:(0:UInt64).toNat=0:=rfl
  omega
theorem tu9 {x:UInt64} {n:Nat} (h0:(0:Int)<n) (h:n≤200000):x % ofI (n:Int)<9223372036854775808:=by
  apply UInt64.lt_iff_toNat_lt.2
  have:=tu x h0 h
  have e3:(9223372036854775808:UInt64).toNat=9223372036854775808:=rfl
  omega
theorem m98 {x:UInt8} (h:¬ x % 9=8):x % 9<8:=by
  apply UInt8.lt_iff_toNat_lt.2
  have e9:(9:UInt8).toNat=9:=rfl
  have e8:(8:UInt8).toNat=8:=rfl
  have h1:(x % 9).toNat=x.toNat % 9:=by rw[UInt8.toNat_mod,e9]
  have h2:¬ (x % 9).toNat=8:=fun q=>h (UInt8.toNat_inj.1 q)
  omega
noncomputable def ccK14_10:Code:=(Tryd.f10.body).getD .skip
theorem Turned_ok (b:List UInt8) (at_:List Int) (bits:List UInt8) (hb:b.length≤200000):FOk EN 10 ⟨[.rd 5 (b),.rd 3 at_,.rd 5 (bits)],[.n 0,.n 1,.n 2],List UInt8,fun v=>([.rd 5 (b),.rd 3 at_,.rd 5 (bits),.rd 5 (v)],.n 3),fun v=>v.length≤b.length⟩:=by
 refine v_fun Tryd.f10 ccK14_10 MX (fun ν F σ w=>?_) Tryd.func10
 refine v_nl ?_
 refine v_mark 5 ?_
 refine v_cut 5 ?_
 refine v_loop (fun k:Nat × List UInt8=>([(8,.i (k.1:Int)),(7,.n 8)],[.mu 5 k.2])) (fun k=>k.1≤4∧k.2.length≤b.length) (fun k=>4 - k.1) (0,b) [7] ((0+b.length≤1000000)∧((0:Int)=(↑(0:Nat):Int))∧([]++b=b)) ⟨(by omega),rfl,rfl⟩ (by exact⟨Nat.zero_le _,Nat.le_refl _⟩) (fun k hk1=>?_)
 refine v_guard 17 (decide ((↑k.fst:Int)<(↑at_.length:Int))) True trivial (fun h2=>?_) (fun h2=>?_)
 ·have h2:=of_decide_eq_true h2
  refine v_guard 23 (decide ((↑k.fst:Int)<(↑bits.length:Int))) True trivial (fun h3=>?_) (fun h3=>?_)
  ·have h3:=of_decide_eq_true h3
   refine v_guard 27 (decide ((↑k.fst:Int)<4)) True trivial (fun h4=>?_) (fun h4=>?_)
   ·have h4:=of_decide_eq_true h4
    refine v_if (decide (0<(↑k.snd.length:Int))) True trivial (fun h5=>?_) (fun h5=>?_)
    ·have h5:=of_decide_eq_true h5
     refine v_if (decide (bits.getD (↑k.fst:Int).toNat 0 % 9=8)) ((0≤(↑k.fst:Int)∧(↑k.fst:Int)<(↑at_.length:Int))∧(ofI ↑k.snd.length≠0)∧(ofI (at_.getD (↑k.fst:Int).toNat 0) % ofI (↑k.snd.length:Int)<9223372036854775808)∧(0≤(↑k.fst:Int)∧(↑k.fst:Int)<(↑bits.length:Int))∧((9:UInt8)≠(0:UInt8))) ⟨(by omega),(by exact tu0 ‹_› (by omega)),(by exact tu9 ‹_› (by omega)),(by omega),(by decide)⟩ (fun h6=>?_) (fun h6=>?_)
     ·have h6:=of_decide_eq_true h6
      refine v_plan (.fs [0,1,2,3,4,5,6,7] (.o 8 (.fs [9] .e))) [] True trivial ?_
      exact v_back ((k.fst+1,List.take (↑(ofI (at_.getD (↑k.fst:Int).toNat 0) % ofI (↑k.snd.length:Int)).toNat:Int).toNat k.snd++List.drop ((↑(ofI (at_.getD (↑k.fst:Int).toNat 0) % ofI (↑k.snd.length:Int)).toNat:Int)+1).toNat k.snd)) [11] ((0≤(↑(ofI (at_.getD (↑k.fst:Int).toNat 0) % ofI (↑k.snd.length:Int)).toNat:Int)∧(↑(ofI (at_.getD (↑k.fst:Int).toNat 0) % ofI (↑k.snd.length:Int)).toNat:Int)≤(↑(ofI (at_.getD (↑k.fst:Int).toNat 0) % ofI (↑k.snd.length:Int)).toNat:Int)∧(↑(ofI (at_.getD (↑k.fst:Int).toNat 0) % ofI (↑k.snd.length:Int)).toNat:Int)≤(↑k.snd.length:Int)∧0<k.snd.length)∧(I64 ((↑(ofI (at_.getD (↑k.fst:Int).toNat 0) % ofI (↑k.snd.length:Int)).toNat:Int)+1))∧(0≤(↑(ofI (at_.getD (↑k.fst:Int).toNat 0) % ofI (↑k.snd.length:Int)).toNat:Int)+1∧(↑(ofI (at_.getD (↑k.fst:Int).toNat 0) % ofI (↑k.snd.length:Int)).toNat:Int)+1≤(↑k.snd.length:Int)∧0<k.snd.length)∧(0=0∧(↑(ofI (at_.getD (↑k.fst:Int).toNat 0) % ofI (↑k.snd.length:Int)).toNat:Int).toNat=(↑(ofI (at_.getD (↑k.fst:Int).toNat 0) % ofI (↑k.snd.length:Int)).toNat:Int).toNat∧k.snd.length=k.snd.length∧(↑(ofI (at_.getD (↑k.fst:Int).toNat 0) % ofI (↑k.snd.length:Int)).toNat:Int).toNat≤k.snd.length∧((↑(ofI (at_.getD (↑k.fst:Int).toNat 0) % ofI (↑k.snd.length:Int)).toNat:Int)+1).toNat≤k.snd.length∧0<k.snd.length∧(↑(ofI (at_.getD (↑k.fst:Int).toNat 0) % ofI (↑k.snd.length:Int)).toNat:Int).toNat+(k.snd.length - ((↑(ofI (at_.getD (↑k.fst:Int).toNat 0) % ofI (↑k.snd.length:Int)).toNat:Int)+1).toNat)≤1000000)∧(I64 (↑k.fst+1))∧((↑k.fst:Int)+1=(↑(k.fst+1):Int))∧(List.take (↑(ofI (at_.getD (↑k.fst:Int).toNat 0) % ofI (↑k.snd.length:Int)).toNat:Int).toNat k.snd++List.drop ((↑(ofI (at_.getD (↑k.fst:Int).toNat 0) % ofI (↑k.snd.length:Int)).toNat:Int)+1).toNat k.snd=List.take (↑(ofI (at_.getD (↑k.fst:Int).toNat 0) % ofI (↑k.snd.length:Int)).toNat:Int).toNat k.snd++List.drop ((↑(ofI (at_.getD (↑k.fst:Int).toNat 0) % ofI (↑k.snd.length:Int)).toNat:Int)+1).toNat k.snd)) ⟨(by(have hz:=tu (ofI (at_.getD (k.1:Int).toNat 0)) (n:=k.2.length) ‹_› (by omega);omega)),(by(have hz:=tu (ofI (at_.getD (k.1:Int).toNat 0)) (n:=k.2.length) ‹_› (by omega);unfold I64;omega)),(by(have hz:=tu (ofI (at_.getD (k.1:Int).toNat 0)) (n:=k.2.length) ‹_› (by omega);omega)),(by(have hz:=tu (ofI (at_.getD (k.1:Int).toNat 0)) (n:=k.2.length) ‹_› (by omega);omega)),(by(unfold I64;omega)),rfl,rfl⟩ (show(k.fst+1≤4∧(List.take (↑(ofI (at_.getD (↑k.fst:Int).toNat 0) % ofI (↑k.snd.length:Int)).toNat:Int).toNat k.snd++List.drop ((↑(ofI (at_.getD (↑k.fst:Int).toNat 0) % ofI (↑k.snd.length:Int)).toNat:Int)+1).toNat k.snd).length≤b.length)∧4 - (k.fst+1)<4 - k.fst from(by(simp;omega)))
     ·have h6:=of_decide_eq_false h6
      refine v_plan (.fs [0,1,2,4,5,6,7,8,9] (.o 3 (.fs [10,11] (.o 12 .e)))) [4] True trivial ?_
      exact v_back ((k.fst+1,k.snd.set (↑(ofI (at_.getD (↑k.fst:Int).toNat 0) % ofI (↑k.snd.length:Int)).toNat:Int).toNat (k.snd.getD (↑(ofI (at_.getD (↑k.fst:Int).toNat 0) % ofI (↑k.snd.length:Int)).toNat:Int).toNat 0 ^^^ 1 <<< (bits.getD (↑k.fst:Int).toNat 0 % 9)))) [8] ((0≤(↑(ofI (at_.getD (↑k.fst:Int).toNat 0) % ofI (↑k.snd.length:Int)).toNat:Int)∧(↑(ofI (at_.getD (↑k.fst:Int).toNat 0) % ofI (↑k.snd.length:Int)).toNat:Int)<(↑k.snd.length:Int))∧(0≤(↑k.fst:Int)∧(↑k.fst:Int)<(↑bits.length:Int))∧((9:UInt8)≠(0:UInt8))∧(bits.getD (↑k.fst:Int).toNat 0 % 9<8)∧((↑(ofI (at_.getD (↑k.fst:Int).toNat 0) % ofI (↑k.snd.length:Int)).toNat:Int).toNat<k.snd.length)∧(0≤(↑(ofI (at_.getD (↑k.fst:Int).toNat 0) % ofI (↑k.snd.length:Int)).toNat:Int)∧(↑(ofI (at_.getD (↑k.fst:Int).toNat 0) % ofI (↑k.snd.length:Int)).toNat:Int)<(↑k.snd.length:Int))∧((↑(ofI (at_.getD (↑k.fst:Int).toNat 0) % ofI (↑k.snd.length:Int)).toNat:Int).toNat<k.snd.length)∧(I64 (↑k.fst+1))∧((↑k.fst:Int)+1=(↑(k.fst+1):Int))∧(k.snd.set (↑(ofI (at_.getD (↑k.fst:Int).toNat 0) % ofI (↑k.snd.length:Int)).toNat:Int).toNat (k.snd.getD (↑(ofI (at_.getD (↑k.fst:Int).toNat 0) % ofI (↑k.snd.length:Int)).toNat:Int).toNat 0 ^^^ 1 <<< (bits.getD (↑k.fst:Int).toNat 0 % 9))=k.snd.set (↑(ofI (at_.getD (↑k.fst:Int).toNat 0) % ofI (↑k.snd.length:Int)).toNat:Int).toNat (k.snd.getD (↑(ofI (at_.getD (↑k.fst:Int).toNat 0) % ofI (↑k.snd.length:Int)).toNat:Int).toNat 0 ^^^ 1 <<< (bits.getD (↑k.fst:Int).toNat 0 % 9)))) ⟨(by(have hz:=tu (ofI (at_.getD (k.1:Int).toNat 0)) (n:=k.2.length) ‹_› (by omega);omega)),(by omega),(by decide),(by exact m98 ‹_›),(by(have hz:=tu (ofI (at_.getD (k.1:Int).toNat 0)) (n:=k.2.length) ‹_› (by omega);omega)),(by(have hz:=tu (ofI (at_.getD (k.1:Int).toNat 0)) (n:=k.2.length) ‹_› (by omega);omega)),(by(have hz:=tu (ofI (at_.getD (k.1:Int).toNat 0)) (n:=k.2.length) ‹_› (by omega);omega)),(by(unfold I64;omega)),rfl,rfl⟩ (show(k.fst+1≤4∧(k.snd.set (↑(ofI (at_.getD (↑k.fst:Int).toNat 0) % ofI (↑k.snd.length:Int)).toNat:Int).toNat (k.snd.getD (↑(ofI (at_.getD (↑k.fst:Int).toNat 0) % ofI (↑k.snd.length:Int)).toNat:Int).toNat 0 ^^^ 1 <<< (bits.getD (↑k.fst:Int).toNat 0 % 9))).length≤b.length)∧4 - (k.fst+1)<4 - k.fst from(by(simp;omega)))
    ·have h5:=of_decide_eq_false h5
     refine v_leave (.ex 0) True trivial ?_
     refine v_stop 8 True trivial ?_
     exact v_ret (k.snd) [8] ((b=b)∧(at_=at_)∧(bits=bits)∧(k.snd=k.snd)) ⟨rfl,rfl,rfl,rfl⟩ (by omega)
   ·have h4:=of_decide_eq_false h4
    refine v_leave (.ex 0) True trivial ?_
    refine v_stop 8 True trivial ?_
    exact v_ret (k.snd) [8] ((b=b)∧(at_=at_)∧(bits=bits)∧(k.snd=k.snd)) ⟨rfl,rfl,rfl,rfl⟩ (by omega)
  ·have h3:=of_decide_eq_false h3
   refine v_leave (.ex 0) True trivial ?_
   refine v_stop 8 True trivial ?_
   exact v_ret (k.snd) [8] ((b=b)∧(at_=at_)∧(bits=bits)∧(k.snd=k.snd)) ⟨rfl,rfl,rfl,rfl⟩ (by omega)
 ·have h2:=of_decide_eq_false h2
  refine v_leave (.ex 0) True trivial ?_
  refine v_stop 8 True trivial ?_
  exact v_ret (k.snd) [8] ((b=b)∧(at_=at_)∧(bits=bits)∧(k.snd=k.snd)) ⟨rfl,rfl,rfl,rfl⟩ (by omega)
abbrev mO (acts:List Act):Option Tr:=(growT acts 40).1
abbrev mP (acts:List Act):List Pair:=(growT acts 40).2
abbrev mT (acts:List Act) (wh:List UInt8):List Token:=mkT (growT acts 40).1 (smP (growT acts 40).2 [] wh)
theorem tcS_app (a b:List Token):tcS (a++b)=tcS a+tcS b:=by unfold tcS;rw[List.map_append,List.sum_append]
theorem pcs_tcS:∀(t:Tr) (w:List (List UInt8)),t.Ks→tcS (t.pcs w)≤2000*t.leaves.length
  | .leaf k v, w, h => by
    have h1:k.length≤1000:=h.1
    have h2:v.length≤1000:=h.2
    have e:(Tr.leaf k v).leaves.length=1:=rfl
    unfold Tr.pcs;split
    · exact Nat.zero_le _
    · rw[e];show(k.length+v.length)+0≤2000*1;omega
  | .node l r, w, h => by
    have e:(Tr.node l r).leaves.length=l.leaves.length+r.leaves.length:=List.length_append
    unfold Tr.pcs;split
    · exact Nat.zero_le _
    · have h1 := pcs_tcS l (w.take (cntB r.least w)) h.1; have h2 := pcs_tcS r (w.drop (cntB r.least w)) h.2
      have e2:=tcS_app (l.pcs (w.take (cntB r.least w))) (r.pcs (w.drop (cntB r.least w)))
      have e3:∀ x:List Token,tcS (kInn (Tr.node l r).height (Tr.node l r).size::x)=0+tcS x:=fun x=>rfl
      rw[e3,e2,e];omega
section
variable {acts:List Act} {wh b:List UInt8} {l x y:List Token} {i k:Nat} {q:Nat × List (List UInt8)}
theorem mP_eq:mP acts=leavesO (mO acts):=(growT_ok acts 40).2
theorem mP_len:(mP acts).length≤100000:=by rw[mP_eq];exact Nat.le_trans (growT_okN acts 40).leaves (by decide)
theorem mP_key:∀ p∈mP acts,p.key.length≤1000:=fun p hp=>by
  have:=(growT_fine acts 40 (by decide)).2.1 p (by rw[← mP_eq];exact hp);have:=this.1.2;omega
theorem mO_srt:Srt (leavesO (mO acts)):=(growT_ok acts 40).1
theorem mO_lv:(leavesO (mO acts)).length≤900000:=Nat.le_trans (growT_okN acts 40).leaves (by decide)
def sx (x:List Token):Prop:=tcS x≤200000∧x.length≤1000
theorem mT_sx:sx (mT acts wh):=by
  unfold sx mT
  have h:=growT_okN acts 40
  have hl:=h.leaves
  cases e:(growT acts 40).1 with
  | none=>exact⟨Nat.zero_le _,Nat.zero_le _⟩
  | some t =>
    have h1:=h t e
    rw[e] at hl
    have hl:t.leaves.length≤40:=hl
    have h2:=pcs_tcS t (wanL t.leaves (smP (growT acts 40).2 [] wh)) h1.1
    have h3:=t.pcs_len (wanL t.leaves (smP (growT acts 40).2 [] wh))
    exact⟨by show tcS (t.pcs _)≤200000;omega,by show(t.pcs _).length≤1000;omega⟩
abbrev mcK (l:List Token):Prop:=∀ x∈l,x.key.length≤140737488355328∧x.value.length≤140737488355328
theorem mc_1 (hx:mcK l) (h:(i:Int)<(l.length:Int)):I64 (((l.getD (i:Int).toNat kT0).key.length:Int)+((l.getD (i:Int).toNat kT0).value.length:Int)):=by
  have hi:i<l.length:=by omega
  have:=hx (l.getD (i:Int).toNat kT0) (by rw[Int.toNat_natCast,List.getD_eq_getElem?_getD,List.getElem?_eq_getElem hi];exact List.getElem_mem hi)
  unfold I64;omega
def LJ (l:List Token) (k:Nat):Prop:=k≤l.length∧tcS (l.take k)≤500*k∧l.length≤100
theorem LJ.start (h:¬ (100:Int)<l.length):LJ l 0:=⟨Nat.zero_le _,Nat.le_refl _,by omega⟩
theorem LJ.next (h:LJ l k) (hk:(k:Int)<l.length) (h5:¬ (500:Int)<((l.getD (k:Int).toNat kT0).key.length:Int)+((l.getD (k:Int).toNat kT0).value.length:Int)):LJ l (k+1)∧l.length - (k+1)<l.length - k:=by
  have hk':k<l.length:=by omega
  rw[Int.toNat_natCast,List.getD_eq_getElem?_getD,List.getElem?_eq_getElem hk'] at h5
  have h5':¬ (500:Int)<(l[k].key.length:Int)+(l[k].value.length:Int):=h5
  have h2:=h.2.1
  exact⟨⟨by omega,by rw[tcS_take l hk'];omega,h.2.2⟩,by omega⟩
theorem LJ.sxl (h:LJ l k) (hk:¬ (k:Int)<l.length):sx l:=by
  have h2:=h.2.1;have h3:=h.2.2;have h1:=h.1
  rw[List.take_of_length_le (by omega)] at h2
  exact⟨by omega,by omega⟩
theorem LJ.i64 (h:LJ l k):I64 ((k:Int)+1):=by have:=h.2.2;have:=h.1;unfold I64;omega
theorem sx_at (hi:(i:Int)<(2:Nat)) (h1:sx x) (h2:sx y):sx ([x,y].getD (i:Int).toNat []):=by
  have:i=0∨i=1:=by omega
  rcases this with rfl | rfl
  · exact h1
  · exact h2
theorem sx_1 (h:sx x):tcS x≤200000:=h.1
theorem sx_2 (h:sx x):x.length≤1000000:=Nat.le_trans h.2 (by decide)
theorem teB_len (x:List Token):(teB x).length≤65536:=by
  unfold teB
  split
  · exact Nat.zero_le _
  · rename_i h
    have h:=Decidable.not_not.1 h
    unfold teE at h
    split at h
    · cases h
    · split at h
      · rename_i z;exact absurd h z
      · split at h
        · cases h
        · split at h
          · cases h
          · omega
theorem teB_2:(teB x).length≤200000:=Nat.le_trans (teB_len x) (by decide)
def ts (k:Nat × List (List UInt8)):Prop:=k.1≤2∧k.2.length≤1+2*k.1∧∀ z∈k.2,z.length≤65536
theorem ts.start (h:¬ (3000:Int)<b.length):ts (0,[b]):=⟨by omega,by simp,fun z hz=>by rw[List.mem_singleton.1 hz];omega⟩
theorem ts.next {k:Nat × List (List UInt8)} (h:ts k) (hi:(k.1:Int)<(2:Nat)) {v:List UInt8} (hv:v.length≤(teB x).length):ts (k.1+1,k.2++[teB x,v])∧2 - (k.1+1)<2 - k.1:=by
  have hc:=teB_len x
  refine⟨⟨?_,?_,fun z hz=>?_⟩,by omega⟩
  · show k.1+1≤2;omega
  · show (k.2 ++ [teB x, v]).length ≤ 1 + 2 * (k.1 + 1)
    have:=h.2.1;simp only[List.length_append,List.length_cons,List.length_nil];omega
  · rcases List.mem_append.1 hz with hz | hz
    · exact h.2.2 z hz
    · simp only [List.mem_cons, List.not_mem_nil, or_false] at hz
      rcases hz with rfl | rfl <;> omega
theorem ts.at {l:List (List UInt8)} {n i:Nat} (h:ts (n,l)) (hi:(i:Int)<l.length):(l.getD (i:Int).toNat []).length≤65536:=by
  rw[Int.toNat_natCast,List.getD_eq_getElem?_getD,List.getElem?_eq_getElem (by omega)]
  exact h.2.2 _ (List.getElem_mem (l:=l) (n:=i) (by omega))
theorem deL_len (h:b.length≤65536):(deL b).length≤900000:=by
  unfold deL;split
  · exact Nat.zero_le _
  · rw[List.length_map];have:=unpk_len b;omega
theorem to2 (h:b.length≤65536):b.length≤200000:=Nat.le_trans h (by decide)
end
noncomputable def ccTK6_3:Code:=(Tryd.f3.body).getD .skip
theorem MultiCodes_ok (l:List Token) (b:List UInt8) (acts:List Act) (wh:List UInt8) (at_:List Int) (bits:List UInt8) (hx:mcK l) (hb:b.length≤140737488355328) (hwl:wh.length≤140737488355328):FOk EN 3 ⟨[.pr wordsP,.rd 32 l,.rd 5 (b),.rd 66 acts,.rd 5 (wh),.rd 3 at_,.rd 5 (bits)],[.n 1,.n 2,.n 3,.n 4,.n 5,.n 6],Unit,fun _=>([.pr wordsP,.rd 32 l,.rd 5 (b),.rd 66 acts,.rd 5 (wh),.rd 3 at_,.rd 5 (bits)],.b true),fun _=>True⟩:=by
 refine v_fun Tryd.f3 ccTK6_3 MX (fun ν F σ w=>?_) Tryd.func3
 refine v_nl ?_
 refine v_call _ [0] (Awake10_ok) ((wordsP=wordsP)) rfl (fun g1 p2=>?_)
 have p2:True:=p2
 refine v_if (!true) True trivial (fun h3=>?_) (fun h3=>?_)
 ·have h3:=(nt h3)
  contradiction
 ·have h3:=(nf h3)
  refine v_guard 36 (decide (100<(↑l.length:Int))) True trivial (fun h4=>?_) (fun h4=>?_)
  ·have h4:=of_decide_eq_true h4
   exact v_ret () [] ((true=true)∧(wordsP=wordsP)∧(l=l)∧(b=b)∧(acts=acts)∧(wh=wh)∧(at_=at_)∧(bits=bits)) ⟨rfl,rfl,rfl,rfl,rfl,rfl,rfl,rfl⟩ trivial
  ·have h4:=of_decide_eq_false h4
   refine v_if (decide (3000<(↑b.length:Int))) True trivial (fun h5=>?_) (fun h5=>?_)
   ·have h5:=of_decide_eq_true h5
    exact v_ret () [] ((true=true)∧(wordsP=wordsP)∧(l=l)∧(b=b)∧(acts=acts)∧(wh=wh)∧(at_=at_)∧(bits=bits)) ⟨rfl,rfl,rfl,rfl,rfl,rfl,rfl,rfl⟩ trivial
   ·have h5:=of_decide_eq_false h5
    refine v_loop (fun k:Nat=>([(43,.i k)],[])) (fun k=>LJ l k) (fun k=>l.length - k) 0 [] (((0:Int)=(↑(0:Nat):Int))) rfl (by exact LJ.start ‹_›) (fun k hk6=>?_)
    refine v_if (decide ((↑k:Int)<(↑l.length:Int))) True trivial (fun h7=>?_) (fun h7=>?_)
    ·have h7:=of_decide_eq_true h7
     refine v_if (decide (500<(↑(l.getD (↑k:Int).toNat (Token.mk 0 zero32 [] [] 0 0)).key.length:Int)+(↑(l.getD (↑k:Int).toNat (Token.mk 0 zero32 [] [] 0 0)).value.length:Int))) ((0≤(↑k:Int)∧(↑k:Int)<(↑l.length:Int))∧(I64 ((↑(l.getD (↑k:Int).toNat (Token.mk 0 zero32 [] [] 0 0)).key.length:Int)+(↑(l.getD (↑k:Int).toNat (Token.mk 0 zero32 [] [] 0 0)).value.length:Int)))) ⟨(by omega),(by exact mc_1 hx ‹_›)⟩ (fun h8=>?_) (fun h8=>?_)
     ·have h8:=of_decide_eq_true h8
      refine v_leave .rt True trivial ?_
      exact v_ret () [] ((true=true)∧(wordsP=wordsP)∧(l=l)∧(b=b)∧(acts=acts)∧(wh=wh)∧(at_=at_)∧(bits=bits)) ⟨rfl,rfl,rfl,rfl,rfl,rfl,rfl,rfl⟩ trivial
     ·have h8:=of_decide_eq_false h8
      exact v_back (k+1) [] ((I64 (↑k+1))∧((↑k:Int)+1=(↑(k+1):Int))) ⟨(by(unfold I64;omega)),rfl⟩ (show LJ l (k+1)∧l.length - (k+1)<l.length - k from(by exact LJ.next ‹_› ‹_› ‹_›))
    ·have h7:=of_decide_eq_false h7
     refine v_leave (.ex 0) True trivial ?_
     refine v_call _ [0,3] (Grow_ok (acts) (nat_lit 40) (by decide)) (((40:Int)=(↑(nat_lit 40):Int))∧(wordsP=wordsP)∧(acts=acts)) ⟨rfl,rfl,rfl⟩ (fun g9 p10=>?_)
     have p10:True:=p10
     refine v_call _ [9,7,4] (some10_ok ((growT acts 40).snd) ([]) (wh) (by exact mP_len) (by exact mP_key) (by decide) ‹_›) (((growT acts 40).snd=(growT acts 40).snd)∧(Eq (α:=List (List UInt8)) [] [])∧(wh=wh)) ⟨rfl,rfl,rfl⟩ (fun g11 p12=>?_)
     have p12:True:=p12
     refine v_call _ [0,8,10] (MakeT_ok ((growT acts 40).fst) (smP (growT acts 40).snd [] wh) (by exact(growT_fine acts 40 (by decide)).O) (by exact mO_srt) (by exact mO_lv) (by exact Nat.le_trans (smP_len _ _ _) (by decide))) ((wordsP=wordsP)∧(PTO (growT acts 40).fst=PTO (growT acts 40).fst)∧(false=false)∧(smP (growT acts 40).snd [] wh=smP (growT acts 40).snd [] wh)) ⟨rfl,rfl,rfl,rfl⟩ (fun g13 p14=>?_)
     have p14:True:=p14
     refine v_loop (fun q:Nat × List (List UInt8)=>([(72,.i (q.1:Int)),(18,.n 14)],[.ow 23 q.2])) (fun q=>ts q) (fun q=>2 - q.1) (0,[b]) [12] (((0:Int)=(↑(0:Nat):Int))∧([b]=[b])) ⟨rfl,rfl⟩ (by exact ts.start ‹_›) (fun q hk15=>?_)
     refine v_if (decide ((↑q.fst:Int)<(↑(2:Nat):Int))) True trivial (fun h16=>?_) (fun h16=>?_)
     ·have h16:=of_decide_eq_true h16
      refine v_call _ [15] (TEncode_ok ([l,mkT (growT acts 40).fst (smP (growT acts 40).snd [] wh)].getD (↑q.fst:Int).toNat []) (by exact sx_1 (sx_at ‹_› (LJ.sxl ‹_› ‹_›) mT_sx)) (by exact sx_2 (sx_at ‹_› (LJ.sxl ‹_› ‹_›) mT_sx))) (((0:Int)≤(↑q.fst:Int)∧(↑q.fst:Int)<(↑(2:Nat):Int))∧([l,mkT (growT acts 40).fst (smP (growT acts 40).snd [] wh)].getD (↑q.fst:Int).toNat []=[l,mkT (growT acts 40).fst (smP (growT acts 40).snd [] wh)].getD (↑q.fst:Int).toNat [])) ⟨(by omega),rfl⟩ (fun g17 p18=>?_)
      have p18:True:=p18
      refine v_call _ [15] (EncodeTokens_ok ([l,mkT (growT acts 40).fst (smP (growT acts 40).snd [] wh)].getD (↑q.fst:Int).toNat []) (by exact sx_1 (sx_at ‹_› (LJ.sxl ‹_› ‹_›) mT_sx)) (by exact sx_2 (sx_at ‹_› (LJ.sxl ‹_› ‹_›) mT_sx))) (([l,mkT (growT acts 40).fst (smP (growT acts 40).snd [] wh)].getD (↑q.fst:Int).toNat []=[l,mkT (growT acts 40).fst (smP (growT acts 40).snd [] wh)].getD (↑q.fst:Int).toNat [])) rfl (fun g19 p20=>?_)
      have p20:True:=p20
      refine v_guard 89 (decide (teE ([l,mkT (growT acts 40).fst (smP (growT acts 40).snd [] wh)].getD (↑q.fst:Int).toNat [])≠teE ([l,mkT (growT acts 40).fst (smP (growT acts 40).snd [] wh)].getD (↑q.fst:Int).toNat []))) True trivial (fun h21=>?_) (fun h21=>?_)
      ·have h21:=of_decide_eq_true h21
       omega
      ·have h21:=of_decide_eq_false h21
       refine v_if (decide (teB ([l,mkT (growT acts 40).fst (smP (growT acts 40).snd [] wh)].getD (↑q.fst:Int).toNat [])≠teB ([l,mkT (growT acts 40).fst (smP (growT acts 40).snd [] wh)].getD (↑q.fst:Int).toNat []))) True trivial (fun h22=>?_) (fun h22=>?_)
       ·have h22:=of_decide_eq_true h22
        contradiction
       ·have h22:=of_decide_eq_false h22
        refine v_call _ [17,5,6] (Turned_ok (teB ([l,mkT (growT acts 40).fst (smP (growT acts 40).snd [] wh)].getD (↑q.fst:Int).toNat [])) (at_) (bits) (by exact teB_2)) ((teB ([l,mkT (growT acts 40).fst (smP (growT acts 40).snd [] wh)].getD (↑q.fst:Int).toNat [])=teB ([l,mkT (growT acts 40).fst (smP (growT acts 40).snd [] wh)].getD (↑q.fst:Int).toNat []))∧(at_=at_)∧(bits=bits)) ⟨rfl,rfl,rfl⟩ (fun g23 p24=>?_)
        have p24:g23.length≤(teB ([l,mkT (growT acts 40).fst (smP (growT acts 40).snd [] wh)].getD (↑q.fst:Int).toNat [])).length:=p24
        exact v_back ((q.fst+(1:Nat),q.snd++[teB ([l,mkT (growT acts 40).fst (smP (growT acts 40).snd [] wh)].getD (↑q.fst:Int).toNat []),g23])) [21] ((q.snd.length+2≤1000000)∧(I64 (↑q.fst+1))∧((↑q.fst:Int)+1=(↑(q.fst+1):Int))∧(q.snd++[teB ([l,mkT (growT acts 40).fst (smP (growT acts 40).snd [] wh)].getD (↑q.fst:Int).toNat []),g23]=q.snd++[teB ([l,mkT (growT acts 40).fst (smP (growT acts 40).snd [] wh)].getD (↑q.fst:Int).toNat []),g23])) ⟨(by(have hz:=(‹ts q›).2.1;have hy:=(‹ts q›).1;omega)),(by(unfold I64;omega)),rfl,rfl⟩ (show ts (q.fst+(1:Nat),q.snd++[teB ([l,mkT (growT acts 40).fst (smP (growT acts 40).snd [] wh)].getD (↑q.fst:Int).toNat []),g23])∧(2:Nat) - (q.fst+(1:Nat))<(2:Nat) - q.fst from(by exact ts.next ‹_› ‹_› ‹_›))
     ·have h16:=of_decide_eq_false h16
      refine v_leave (.ex 2) True trivial ?_
      refine v_loop (fun j:Nat=>([(107,.i j)],[])) (fun j=>j≤q.2.length) (fun j=>q.2.length - j) 0 [] (((0:Int)=(↑(0:Nat):Int))) rfl (by omega) (fun j hk25=>?_)
      refine v_if (decide ((↑j:Int)<(↑q.snd.length:Int))) True trivial (fun h26=>?_) (fun h26=>?_)
      ·have h26:=of_decide_eq_true h26
       refine v_call _ [15] (TDecode_ok (q.snd.getD (↑j:Int).toNat []) (by exact to2 (ts.at (n:=q.1) ‹_› ‹_›))) ((0≤(↑j:Int)∧(↑j:Int)<(↑q.snd.length:Int))∧(q.snd.getD (↑j:Int).toNat []=q.snd.getD (↑j:Int).toNat [])) ⟨(by omega),rfl⟩ (fun g27 p28=>?_)
       have p28:True:=p28
       refine v_call _ [15] (DecodeTokens_ok (q.snd.getD (↑j:Int).toNat []) (by exact to2 (ts.at (n:=q.1) ‹_› ‹_›))) ((q.snd.getD (↑j:Int).toNat []=q.snd.getD (↑j:Int).toNat [])) rfl (fun g29 p30=>?_)
       have p30:True:=p30
       refine v_guard 124 (decide (deE (q.snd.getD (↑j:Int).toNat [])≠deE (q.snd.getD (↑j:Int).toNat []))) True trivial (fun h31=>?_) (fun h31=>?_)
       ·have h31:=of_decide_eq_true h31
        omega
       ·have h31:=of_decide_eq_false h31
        refine v_call _ [17,18] (SameTokens_ok (deL (q.snd.getD (↑j:Int).toNat [])) (deL (q.snd.getD (↑j:Int).toNat [])) (by exact deL_len (ts.at (n:=q.1) ‹_› ‹_›)) (by exact deL_len (ts.at (n:=q.1) ‹_› ‹_›))) ((deL (q.snd.getD (↑j:Int).toNat [])=deL (q.snd.getD (↑j:Int).toNat []))∧(deL (q.snd.getD (↑j:Int).toNat [])=deL (q.snd.getD (↑j:Int).toNat []))) ⟨rfl,rfl⟩ (fun g32 p33=>?_)
        have p33:True:=p33
        refine v_if (!decide (deL (q.snd.getD (↑j:Int).toNat [])=deL (q.snd.getD (↑j:Int).toNat []))) True trivial (fun h34=>?_) (fun h34=>?_)
        ·have h34:=of_decide_eq_false (nt h34)
         contradiction
        ·have h34:=of_decide_eq_true (nf h34)
         exact v_back (j+1) [] ((I64 (↑j+1))∧((↑j:Int)+1=(↑(j+1):Int))) ⟨(by(have hz:=(‹ts q›).2.1;have hy:=(‹ts q›).1;unfold I64;omega)),rfl⟩ (show j+1≤q.snd.length∧q.snd.length - (j+1)<q.snd.length - j from(by omega))
      ·have h26:=of_decide_eq_false h26
       refine v_leave (.ex 4) True trivial ?_
       exact v_ret () [] ((true=true)∧(wordsP=wordsP)∧(l=l)∧(b=b)∧(acts=acts)∧(wh=wh)∧(at_=at_)∧(bits=bits)) ⟨rfl,rfl,rfl,rfl,rfl,rfl,rfl,rfl⟩ trivial
end Go.Proofs.YtgpaifnijnaebaaDoor.X
