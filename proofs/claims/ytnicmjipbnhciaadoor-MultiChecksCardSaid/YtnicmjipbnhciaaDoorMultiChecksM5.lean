/- What the law MultiChecks needs: the engine, the walks of what it reaches, plain laws; part 5. -/
import Derived.Test.YtnicmjipbnhciaaDoorMultiChecksM4
set_option linter.unnecessarySimpa false
set_option linter.deprecated false
set_option linter.unusedVariables false
set_option linter.unusedSimpArgs false
set_option maxRecDepth 100000
namespace Go.Proofs.YtnicmjipbnhciaaDoor.X
open Go Go.RowKit Go.Proofs Go.Proofs.YtnicmjipbnhciaaDoor.E
abbrev kT0:Token:=⟨0,zero32,[],[],0,0⟩
structure WR where
  h:List UInt8
  e:Option Er
  a:Nat
  fs:List Item
def tokE (n:Nat) (c:Int):Option Er:=some (.step ((#[116,111,107,101,110]:Array UInt8).toList) n (.num c))
def wkN (ts:List Token):Nat→Int→Nat→List Item→WR
  | 0,_,a,fs=>⟨z32,tokE a 4,a,fs⟩
  | f + 1, ab, a, fs =>
    if(ts.length:Int)≤a then⟨z32,tokE a 4,a,fs⟩
    else if(ts.getD a kT0).kind=1 then⟨(ts.getD a kT0).hash.l,none,a+1,fs++[⟨true,[],[]⟩]⟩
    else if(ts.getD a kT0).kind=2 then
      if((ts.getD a kT0).key.length:Int)=0∨96<((ts.getD a kT0).key.length:Int)∨256<((ts.getD a kT0).value.length:Int) then⟨z32,tokE a 10,a+1,fs⟩
      else⟨nsum 0 1 (ts.getD a kT0).key (ts.getD a kT0).value z32 z32,none,a+1,fs++[⟨false,(ts.getD a kT0).key,(ts.getD a kT0).value⟩]⟩
    else if(ts.getD a kT0).kind=3 then
      if(ts.getD a kT0).height<1∨ab≤(ts.getD a kT0).height then⟨z32,tokE a 12,a+1,fs⟩
      else if(wkN ts f (ts.getD a kT0).height (a+1) fs).e.isNone=false then wkN ts f (ts.getD a kT0).height (a+1) fs
      else if(wkN ts f (ts.getD a kT0).height (wkN ts f (ts.getD a kT0).height (a+1) fs).a (wkN ts f (ts.getD a kT0).height (a+1) fs).fs).e.isNone=false then wkN ts f (ts.getD a kT0).height (wkN ts f (ts.getD a kT0).height (a+1) fs).a (wkN ts f (ts.getD a kT0).height (a+1) fs).fs
      else⟨nsum (ts.getD a kT0).height (ts.getD a kT0).size [] [] (wkN ts f (ts.getD a kT0).height (a+1) fs).h (wkN ts f (ts.getD a kT0).height (wkN ts f (ts.getD a kT0).height (a+1) fs).a (wkN ts f (ts.getD a kT0).height (a+1) fs).fs).h,none,(wkN ts f (ts.getD a kT0).height (wkN ts f (ts.getD a kT0).height (a+1) fs).a (wkN ts f (ts.getD a kT0).height (a+1) fs).fs).a,(wkN ts f (ts.getD a kT0).height (wkN ts f (ts.getD a kT0).height (a+1) fs).a (wkN ts f (ts.getD a kT0).height (a+1) fs).fs).fs⟩
    else⟨z32,tokE a 61,a+1,fs⟩
section
variable {ts:List Token} {f:Nat} {ab:Int} {a:Nat} {fs:List Item}
theorem wk1 (h:(ts.length:Int)≤a):wkN ts (f+1) ab a fs=⟨z32,tokE a 4,a,fs⟩:=by unfold wkN;rw[if_pos h]
theorem wk2 (h:¬ (ts.length:Int)≤a) (h1:(ts.getD (a:Int).toNat kT0).kind=1):wkN ts (f+1) ab a fs=⟨(ts.getD (a:Int).toNat kT0).hash.l,none,a+1,fs++[⟨true,[],[]⟩]⟩:=by
  rw[Int.toNat_natCast] at h1;unfold wkN;rw[if_neg h,if_pos h1];rfl
theorem wk3 (h:¬ (ts.length:Int)≤a) (h1:¬ (ts.getD (a:Int).toNat kT0).kind=1) (h2:(ts.getD (a:Int).toNat kT0).kind=2) (h3:((ts.getD (a:Int).toNat kT0).key.length:Int)=0∨96<((ts.getD (a:Int).toNat kT0).key.length:Int)∨256<((ts.getD (a:Int).toNat kT0).value.length:Int)):wkN ts (f+1) ab a fs=⟨z32,tokE a 10,a+1,fs⟩:=by
  rw[Int.toNat_natCast] at h1 h2 h3;unfold wkN;rw[if_neg h,if_neg h1,if_pos h2,if_pos h3]
theorem wk4 (h:¬ (ts.length:Int)≤a) (h1:¬ (ts.getD (a:Int).toNat kT0).kind=1) (h2:(ts.getD (a:Int).toNat kT0).kind=2) (h3:¬ ((ts.getD (a:Int).toNat kT0).key.length:Int)=0) (h4:¬ 96<((ts.getD (a:Int).toNat kT0).key.length:Int)) (h5:¬ 256<((ts.getD (a:Int).toNat kT0).value.length:Int)):wkN ts (f+1) ab a fs=⟨nsum 0 1 (ts.getD (a:Int).toNat kT0).key (ts.getD (a:Int).toNat kT0).value z32 z32,none,a+1,fs++[⟨false,(ts.getD (a:Int).toNat kT0).key,(ts.getD (a:Int).toNat kT0).value⟩]⟩:=by
  rw[Int.toNat_natCast] at *;unfold wkN;rw[if_neg h,if_neg h1,if_pos h2,if_neg (fun e=>e.elim h3 fun e=>e.elim h4 h5)]
theorem wk5 (h:¬ (ts.length:Int)≤a) (h1:¬ (ts.getD (a:Int).toNat kT0).kind=1) (h2:¬ (ts.getD (a:Int).toNat kT0).kind=2) (h3:(ts.getD (a:Int).toNat kT0).kind=3) (h4:(ts.getD (a:Int).toNat kT0).height<1∨ab≤(ts.getD (a:Int).toNat kT0).height):wkN ts (f+1) ab a fs=⟨z32,tokE a 12,a+1,fs⟩:=by
  rw[Int.toNat_natCast] at *;unfold wkN;rw[if_neg h,if_neg h1,if_neg h2,if_pos h3,if_pos h4]
theorem wk6 (h:¬ (ts.length:Int)≤a) (h1:¬ (ts.getD (a:Int).toNat kT0).kind=1) (h2:¬ (ts.getD (a:Int).toNat kT0).kind=2) (h3:¬ (ts.getD (a:Int).toNat kT0).kind=3):wkN ts (f+1) ab a fs=⟨z32,tokE a 61,a+1,fs⟩:=by
  rw[Int.toNat_natCast] at *;unfold wkN;rw[if_neg h,if_neg h1,if_neg h2,if_neg h3]
/-- the left side, the right side -/
abbrev wkA (ts:List Token) (f a:Nat) (fs:List Item):WR:=wkN ts f (ts.getD (a:Int).toNat kT0).height (a+1) fs
abbrev wkB (ts:List Token) (f a:Nat) (fs:List Item):WR:=wkN ts f (ts.getD (a:Int).toNat kT0).height (wkA ts f a fs).a (wkA ts f a fs).fs
theorem wk7 (h:¬ (ts.length:Int)≤a) (h1:¬ (ts.getD (a:Int).toNat kT0).kind=1) (h2:¬ (ts.getD (a:Int).toNat kT0).kind=2) (h3:(ts.getD (a:Int).toNat kT0).kind=3) (h4:¬ (ts.getD (a:Int).toNat kT0).height<1) (h5:¬ ab≤(ts.getD (a:Int).toNat kT0).height) (h6:(wkA ts f a fs).e.isNone=false):wkN ts (f+1) ab a fs=wkA ts f a fs:=by
  unfold wkA at *;rw[Int.toNat_natCast] at *;rw[wkN,if_neg h,if_neg h1,if_neg h2,if_pos h3,if_neg (fun e=>e.elim h4 h5),if_pos h6]
theorem wk8 (h:¬ (ts.length:Int)≤a) (h1:¬ (ts.getD (a:Int).toNat kT0).kind=1) (h2:¬ (ts.getD (a:Int).toNat kT0).kind=2) (h3:(ts.getD (a:Int).toNat kT0).kind=3) (h4:¬ (ts.getD (a:Int).toNat kT0).height<1) (h5:¬ ab≤(ts.getD (a:Int).toNat kT0).height) (h6:(wkA ts f a fs).e.isNone=true) (h7:(wkB ts f a fs).e.isNone=false):wkN ts (f+1) ab a fs=wkB ts f a fs:=by
  unfold wkB wkA at *;rw[Int.toNat_natCast] at *;rw[wkN,if_neg h,if_neg h1,if_neg h2,if_pos h3,if_neg (fun e=>e.elim h4 h5),if_neg (by rw[h6];decide),if_pos h7]
theorem wk9 (h:¬ (ts.length:Int)≤a) (h1:¬ (ts.getD (a:Int).toNat kT0).kind=1) (h2:¬ (ts.getD (a:Int).toNat kT0).kind=2) (h3:(ts.getD (a:Int).toNat kT0).kind=3) (h4:¬ (ts.getD (a:Int).toNat kT0).height<1) (h5:¬ ab≤(ts.getD (a:Int).toNat kT0).height) (h6:(wkA ts f a fs).e.isNone=true) (h7:(wkB ts f a fs).e.isNone=true):wkN ts (f+1) ab a fs=⟨nsum (ts.getD (a:Int).toNat kT0).height (ts.getD (a:Int).toNat kT0).size [] [] (wkA ts f a fs).h (wkB ts f a fs).h,none,(wkB ts f a fs).a,(wkB ts f a fs).fs⟩:=by
  unfold wkB wkA at *;rw[Int.toNat_natCast] at *;rw[wkN,if_neg h,if_neg h1,if_neg h2,if_pos h3,if_neg (fun e=>e.elim h4 h5),if_neg (by rw[h6];decide),if_neg (by rw[h7];decide)]
end
theorem wk_inv (ts:List Token):∀(f:Nat) (ab:Int) (a:Nat) (fs:List Item),a≤ts.length→fs.length≤a→(wkN ts f ab a fs).a≤ts.length∧(wkN ts f ab a fs).fs.length≤(wkN ts f ab a fs).a∧(wkN ts f ab a fs).h.length=32
  | 0,ab,a,fs,ha,hf=>⟨ha,hf,rfl⟩
  | f + 1, ab, a, fs, ha, hf => by
    unfold wkN
    split
    · exact⟨ha,hf,rfl⟩
    · rename_i h
      have hf1:∀ x:Item,(fs++[x]).length≤a+1:=fun x=>by simp;omega
      have ha1:a+1≤ts.length:=by omega
      split
      · exact⟨ha1,hf1 _,Sum32.h _⟩
      · split
        · split
          · exact⟨ha1,Nat.le_succ_of_le hf,rfl⟩
          · exact⟨ha1,hf1 _,Tr.nsum_len 0 1 (ts.getD a kT0).key (ts.getD a kT0).value z32 z32⟩
        · split
          · split
            · exact⟨ha1,Nat.le_succ_of_le hf,rfl⟩
            · have hA := wk_inv ts f (ts.getD a kT0).height (a + 1) fs ha1 (Nat.le_succ_of_le hf)
              have hB:=wk_inv ts f (ts.getD a kT0).height _ _ hA.1 hA.2.1
              split
              · exact hA
              · split
                · exact hB
                · exact⟨hB.1,hB.2.1,(show(nsum _ _ _ _ _ _).length=32 from Tr.nsum_len _ _ _ _ _ _)⟩
          · exact⟨ha1,Nat.le_succ_of_le hf,rfl⟩
theorem wkA_inv {ts:List Token} {f a:Nat} {fs:List Item} (h:¬ (ts.length:Int)≤a) (hf:fs.length≤a):(wkA ts f a fs).a≤ts.length∧(wkA ts f a fs).fs.length≤(wkA ts f a fs).a∧(wkA ts f a fs).h.length=32:=wk_inv ts f _ _ _ (by omega) (Nat.le_succ_of_le hf)
theorem wkB_inv {ts:List Token} {f a:Nat} {fs:List Item} (h:¬ (ts.length:Int)≤a) (hf:fs.length≤a):(wkB ts f a fs).a≤ts.length∧(wkB ts f a fs).fs.length≤(wkB ts f a fs).a∧(wkB ts f a fs).h.length=32:=wk_inv ts f _ _ _ (wkA_inv h hf).1 (wkA_inv h hf).2.1
abbrev kA (ts:List Token) (a:Nat):Token:=ts.getD (a:Int).toNat kT0
noncomputable def ccM6_96:Code:=(Tryd.f96.body).getD .skip
theorem wk_aux (f:Nat) (ts:List Token) (ab:Int) (a:Nat) (fs:List Item) (ha:a≤ts.length) (hf:fs.length≤a) (hl:ts.length≤4000) (h1:1≤ab) (hab:ab≤1000)
  (ih:∀(ab':Int) (a':Nat) (fs':List Item),1≤ab'→ab'<ab→a'≤ts.length→fs'.length≤a' →
   FOk EN 96 ⟨[.pr wordsP,.rd 100 ts,.ow 190 fs',.bx 187 [.n 1,.i a',.n 2]],[.p 3 0,.i ab'],Unit,fun _=>([.pr wordsP,.rd 100 ts,.no,.bx 187 [.n 1,.i (wkN ts f ab' a' fs').a,.n 5],.pn (PE (wkN ts f ab' a' fs').e) true (wkN ts f ab' a' fs').e.isNone,.ow 190 (wkN ts f ab' a' fs').fs],.t [.a [.h 32 (wkN ts f ab' a' fs').h],.n 4]),fun _=>True⟩) :
   FOk EN 96 ⟨[.pr wordsP,.rd 100 ts,.ow 190 fs,.bx 187 [.n 1,.i a,.n 2]],[.p 3 0,.i ab],Unit,fun _=>([.pr wordsP,.rd 100 ts,.no,.bx 187 [.n 1,.i (wkN ts (f+1) ab a fs).a,.n 5],.pn (PE (wkN ts (f+1) ab a fs).e) true (wkN ts (f+1) ab a fs).e.isNone,.ow 190 (wkN ts (f+1) ab a fs).fs],.t [.a [.h 32 (wkN ts (f+1) ab a fs).h],.n 4]),fun _=>True⟩:=by
 refine v_fun Tryd.f96 ccM6_96 MX (fun ν F σ w=>?_) Tryd.func96
 refine v_nl ?_
 refine v_plan (.fs [0,1,2,3,4,5,6,7,8,9] .e) [2,3,5] True trivial ?_
 refine v_if (decide ((↑ts.length:Int)≤(↑a:Int))) True trivial (fun h1=>?_) (fun h1=>?_)
 ·have h1:=of_decide_eq_true h1
  refine v_al [] (al_e1 (4)) True trivial ?_
  refine v_call _ [6] (faultAt_ok (((#[116,111,107,101,110]:Array UInt8).toList)) (↑a) (Er.num 4)) ((#[(116:UInt8),(111:UInt8),(107:UInt8),(101:UInt8),(110:UInt8)].toList=#[(116:UInt8),(111:UInt8),(107:UInt8),(101:UInt8),(110:UInt8)].toList)∧((↑a:Int)=(↑a:Int))∧((4:Int)=(4:Int))∧(PE (some (Er.num 4))=PE (some (Er.num 4)))∧(false=false)) ⟨rfl,rfl,rfl,rfl,rfl⟩ (fun g2 p3=>?_)
  have p3:True:=p3
  exact v_ret () [7,2] ((List.replicate 32 0=(wkN ts (f+1) ab a fs).h)∧(wordsP=wordsP)∧(ts=ts)∧((↑a:Int)=(↑(wkN ts (f+1) ab a fs).a:Int))∧(PE (some (Er.step ((#[116,111,107,101,110]:Array UInt8).toList) (↑a) (Er.num 4)))=PE (wkN ts (f+1) ab a fs).e)∧(false=(wkN ts (f+1) ab a fs).e.isNone)∧(fs=(wkN ts (f+1) ab a fs).fs)) ⟨(by(rw[wk1 ‹_›] <;> rfl)),rfl,rfl,(by(rw[wk1 ‹_›] <;> rfl)),(by(rw[wk1 ‹_›] <;> rfl)),(by(rw[wk1 ‹_›] <;> rfl)),(by(rw[wk1 ‹_›] <;> rfl))⟩ trivial
 ·have h1:=of_decide_eq_false h1
  refine v_plan (.fs [0,1,2,3,4,5,6,7,8,9,10,11,12,13] (.o 14 (.o 15 (.fs [16] .e)))) [2,3,5] True trivial ?_
  refine v_if (decide ((kA ts a).kind=1)) ((0≤(↑a:Int)∧(↑a:Int)<(↑ts.length:Int))∧(I64 (↑a+1))) ⟨(by omega),(by(unfold I64;omega))⟩ (fun h4=>?_) (fun h4=>?_)
  ·have h4:=of_decide_eq_true h4
   refine v_al [] (al_e0 ((wkN ts (f+1) ab a fs).e) (by(rw[wk2 ‹_› ‹_›] <;> rfl))) ((fs.length+1≤1000000)) (by omega) ?_
   exact v_ret () [12,11] (((kA ts a).hash.l=(wkN ts (f+1) ab a fs).h)∧(wordsP=wordsP)∧(ts=ts)∧((↑a:Int)+1=(↑(wkN ts (f+1) ab a fs).a:Int))∧(PE (wkN ts (f+1) ab a fs).e=PE (wkN ts (f+1) ab a fs).e)∧((wkN ts (f+1) ab a fs).e.isNone=(wkN ts (f+1) ab a fs).e.isNone)∧(fs++[Item.mk true [] []]=(wkN ts (f+1) ab a fs).fs)) ⟨(by(rw[wk2 ‹_› ‹_›] <;> rfl)),rfl,rfl,(by(rw[wk2 ‹_› ‹_›] <;> rfl)),rfl,rfl,(by(rw[wk2 ‹_› ‹_›] <;> rfl))⟩ trivial
  ·have h4:=of_decide_eq_false h4
   refine v_if (decide ((kA ts a).kind=2)) True trivial (fun h5=>?_) (fun h5=>?_)
   ·have h5:=of_decide_eq_true h5
    refine v_guard 71 (decide ((↑(kA ts a).key.length:Int)=0)) True trivial (fun h6=>?_) (fun h6=>?_)
    ·have h6:=of_decide_eq_true h6
     refine v_al [] (al_e1 (10)) True trivial ?_
     refine v_call _ [10] (faultAt_ok (((#[116,111,107,101,110]:Array UInt8).toList)) (↑a) (Er.num 10)) ((#[(116:UInt8),(111:UInt8),(107:UInt8),(101:UInt8),(110:UInt8)].toList=#[(116:UInt8),(111:UInt8),(107:UInt8),(101:UInt8),(110:UInt8)].toList)∧((↑a:Int)=(↑a:Int))∧((10:Int)=(10:Int))∧(PE (some (Er.num 10))=PE (some (Er.num 10)))∧(false=false)) ⟨rfl,rfl,rfl,rfl,rfl⟩ (fun g7 p8=>?_)
     have p8:True:=p8
     exact v_ret () [11,2] ((List.replicate 32 0=(wkN ts (f+1) ab a fs).h)∧(wordsP=wordsP)∧(ts=ts)∧((↑a:Int)+1=(↑(wkN ts (f+1) ab a fs).a:Int))∧(PE (some (Er.step ((#[116,111,107,101,110]:Array UInt8).toList) (↑a) (Er.num 10)))=PE (wkN ts (f+1) ab a fs).e)∧(false=(wkN ts (f+1) ab a fs).e.isNone)∧(fs=(wkN ts (f+1) ab a fs).fs)) ⟨(by(rw[wk3 ‹_› ‹_› ‹_› (by first | exact .inl ‹_› | exact .inr (.inl ‹_›) | exact .inr (.inr ‹_›))] <;> rfl)),rfl,rfl,(by(rw[wk3 ‹_› ‹_› ‹_› (by first | exact .inl ‹_› | exact .inr (.inl ‹_›) | exact .inr (.inr ‹_›))] <;> rfl)),(by(rw[wk3 ‹_› ‹_› ‹_› (by first | exact .inl ‹_› | exact .inr (.inl ‹_›) | exact .inr (.inr ‹_›))] <;> rfl)),(by(rw[wk3 ‹_› ‹_› ‹_› (by first | exact .inl ‹_› | exact .inr (.inl ‹_›) | exact .inr (.inr ‹_›))] <;> rfl)),(by(rw[wk3 ‹_› ‹_› ‹_› (by first | exact .inl ‹_› | exact .inr (.inl ‹_›) | exact .inr (.inr ‹_›))] <;> rfl))⟩ trivial
    ·have h6:=of_decide_eq_false h6
     refine v_guard 77 (decide (96<(↑(kA ts a).key.length:Int))) True trivial (fun h9=>?_) (fun h9=>?_)
     ·have h9:=of_decide_eq_true h9
      refine v_al [] (al_e1 (10)) True trivial ?_
      refine v_call _ [10] (faultAt_ok (((#[116,111,107,101,110]:Array UInt8).toList)) (↑a) (Er.num 10)) ((#[(116:UInt8),(111:UInt8),(107:UInt8),(101:UInt8),(110:UInt8)].toList=#[(116:UInt8),(111:UInt8),(107:UInt8),(101:UInt8),(110:UInt8)].toList)∧((↑a:Int)=(↑a:Int))∧((10:Int)=(10:Int))∧(PE (some (Er.num 10))=PE (some (Er.num 10)))∧(false=false)) ⟨rfl,rfl,rfl,rfl,rfl⟩ (fun g10 p11=>?_)
      have p11:True:=p11
      exact v_ret () [11,2] ((List.replicate 32 0=(wkN ts (f+1) ab a fs).h)∧(wordsP=wordsP)∧(ts=ts)∧((↑a:Int)+1=(↑(wkN ts (f+1) ab a fs).a:Int))∧(PE (some (Er.step ((#[116,111,107,101,110]:Array UInt8).toList) (↑a) (Er.num 10)))=PE (wkN ts (f+1) ab a fs).e)∧(false=(wkN ts (f+1) ab a fs).e.isNone)∧(fs=(wkN ts (f+1) ab a fs).fs)) ⟨(by(rw[wk3 ‹_› ‹_› ‹_› (by first | exact .inl ‹_› | exact .inr (.inl ‹_›) | exact .inr (.inr ‹_›))] <;> rfl)),rfl,rfl,(by(rw[wk3 ‹_› ‹_› ‹_› (by first | exact .inl ‹_› | exact .inr (.inl ‹_›) | exact .inr (.inr ‹_›))] <;> rfl)),(by(rw[wk3 ‹_› ‹_› ‹_› (by first | exact .inl ‹_› | exact .inr (.inl ‹_›) | exact .inr (.inr ‹_›))] <;> rfl)),(by(rw[wk3 ‹_› ‹_› ‹_› (by first | exact .inl ‹_› | exact .inr (.inl ‹_›) | exact .inr (.inr ‹_›))] <;> rfl)),(by(rw[wk3 ‹_› ‹_› ‹_› (by first | exact .inl ‹_› | exact .inr (.inl ‹_›) | exact .inr (.inr ‹_›))] <;> rfl))⟩ trivial
     ·have h9:=of_decide_eq_false h9
      refine v_if (decide (256<(↑(kA ts a).value.length:Int))) True trivial (fun h12=>?_) (fun h12=>?_)
      ·have h12:=of_decide_eq_true h12
       refine v_al [] (al_e1 (10)) True trivial ?_
       refine v_call _ [10] (faultAt_ok (((#[116,111,107,101,110]:Array UInt8).toList)) (↑a) (Er.num 10)) ((#[(116:UInt8),(111:UInt8),(107:UInt8),(101:UInt8),(110:UInt8)].toList=#[(116:UInt8),(111:UInt8),(107:UInt8),(101:UInt8),(110:UInt8)].toList)∧((↑a:Int)=(↑a:Int))∧((10:Int)=(10:Int))∧(PE (some (Er.num 10))=PE (some (Er.num 10)))∧(false=false)) ⟨rfl,rfl,rfl,rfl,rfl⟩ (fun g13 p14=>?_)
       have p14:True:=p14
       exact v_ret () [11,2] ((List.replicate 32 0=(wkN ts (f+1) ab a fs).h)∧(wordsP=wordsP)∧(ts=ts)∧((↑a:Int)+1=(↑(wkN ts (f+1) ab a fs).a:Int))∧(PE (some (Er.step ((#[116,111,107,101,110]:Array UInt8).toList) (↑a) (Er.num 10)))=PE (wkN ts (f+1) ab a fs).e)∧(false=(wkN ts (f+1) ab a fs).e.isNone)∧(fs=(wkN ts (f+1) ab a fs).fs)) ⟨(by(rw[wk3 ‹_› ‹_› ‹_› (by first | exact .inl ‹_› | exact .inr (.inl ‹_›) | exact .inr (.inr ‹_›))] <;> rfl)),rfl,rfl,(by(rw[wk3 ‹_› ‹_› ‹_› (by first | exact .inl ‹_› | exact .inr (.inl ‹_›) | exact .inr (.inr ‹_›))] <;> rfl)),(by(rw[wk3 ‹_› ‹_› ‹_› (by first | exact .inl ‹_› | exact .inr (.inl ‹_›) | exact .inr (.inr ‹_›))] <;> rfl)),(by(rw[wk3 ‹_› ‹_› ‹_› (by first | exact .inl ‹_› | exact .inr (.inl ‹_›) | exact .inr (.inr ‹_›))] <;> rfl)),(by(rw[wk3 ‹_› ‹_› ‹_› (by first | exact .inl ‹_› | exact .inr (.inl ‹_›) | exact .inr (.inr ‹_›))] <;> rfl))⟩ trivial
      ·have h12:=of_decide_eq_false h12
       refine v_plan (.fs [0,1,2,3,5,8] (.c 4 (.c 6 (.c 7 (.o 9 (.o 10 (.fs [11] (.o 12 (.o 13 (.fs [14,15] (.o 16 .e))))))) (.o 9 (.o 7 (.o 10 (.fs [11] (.o 12 (.o 13 (.fs [14,15] (.o 16 .e))))))))) (.o 9 (.o 6 (.o 7 (.o 10 (.fs [11] (.o 12 (.o 13 (.fs [14,15] (.o 16 .e)))))))))) (.c 6 (.c 4 (.c 7 (.o 9 (.o 10 (.fs [11] (.o 12 (.o 13 (.fs [14,15] (.o 16 .e))))))) (.o 9 (.o 7 (.o 10 (.fs [11] (.o 12 (.o 13 (.fs [14,15] (.o 16 .e))))))))) (.c 7 (.c 4 (.o 9 (.o 10 (.fs [11] (.o 12 (.o 13 (.fs [14,15] (.o 16 .e))))))) (.o 9 (.c 4 (.o 10 (.fs [11] (.o 12 (.o 13 (.fs [14,15] (.o 16 .e)))))) (.o 10 (.fs [11] (.c 4 (.o 12 (.o 13 (.fs [14,15] (.o 16 .e)))) (.o 12 (.o 4 (.o 13 (.fs [14,15] (.o 16 .e))))))))))) (.o 9 (.c 4 (.o 7 (.o 10 (.fs [11] (.o 12 (.o 13 (.fs [14,15] (.o 16 .e))))))) (.o 7 (.c 4 (.o 10 (.fs [11] (.o 12 (.o 13 (.fs [14,15] (.o 16 .e)))))) (.o 10 (.fs [11] (.c 4 (.o 12 (.o 13 (.fs [14,15] (.o 16 .e)))) (.o 12 (.o 4 (.o 13 (.fs [14,15] (.o 16 .e)))))))))))))) (.o 9 (.c 4 (.o 6 (.o 7 (.o 10 (.fs [11] (.o 12 (.o 13 (.fs [14,15] (.o 16 .e)))))))) (.o 6 (.c 4 (.o 7 (.o 10 (.fs [11] (.o 12 (.o 13 (.fs [14,15] (.o 16 .e))))))) (.o 7 (.c 4 (.o 10 (.fs [11] (.o 12 (.o 13 (.fs [14,15] (.o 16 .e)))))) (.o 10 (.fs [11] (.c 4 (.o 12 (.o 13 (.fs [14,15] (.o 16 .e)))) (.o 12 (.o 4 (.o 13 (.fs [14,15] (.o 16 .e))))))))))))))))) [] True trivial ?_
       refine v_pick True trivial ?_ ?_
       ·skip
        refine v_pick True trivial ?_ ?_
        ·skip
         refine v_pick True trivial ?_ ?_
         ·skip
          refine v_call _ [6] (clone_ok ((kA ts a).key) (by omega)) (((kA ts a).key=(kA ts a).key)) rfl (fun g15 p16=>?_)
          have p16:True:=p16
          refine v_call _ [7] (clone_ok ((kA ts a).value) (by omega)) (((kA ts a).value=(kA ts a).value)) rfl (fun g17 p18=>?_)
          have p18:True:=p18
          refine v_call _ [0,6,7] (thash_ok (0) (1) ((kA ts a).key) ((kA ts a).value) z32 z32 (by decide) (by omega) (by omega) rfl rfl) ((fs.length+1≤1000000)∧((0:Int)=(0:Int))∧((1:UInt64)=(1:UInt64))∧(List.replicate (32:Nat) (0:UInt8)=List.replicate (32:Nat) (0:UInt8))∧(List.replicate (32:Nat) (0:UInt8)=List.replicate (32:Nat) (0:UInt8))∧(wordsP=wordsP)∧((kA ts a).key=(kA ts a).key)∧((kA ts a).value=(kA ts a).value)) ⟨(by omega),rfl,rfl,rfl,rfl,rfl,rfl,rfl⟩ (fun g19 p20=>?_)
          have p20:True:=p20
          refine v_al [] (al_e0 ((wkN ts (f+1) ab a fs).e) (by(rw[wk4 ‹_› ‹_› ‹_› ‹_› ‹_› ‹_›] <;> rfl))) True trivial ?_
          exact v_ret () [14,13] ((nsum 0 1 (kA ts a).key (kA ts a).value z32 z32=(wkN ts (f+1) ab a fs).h)∧(wordsP=wordsP)∧(ts=ts)∧((↑a:Int)+1=(↑(wkN ts (f+1) ab a fs).a:Int))∧(PE (wkN ts (f+1) ab a fs).e=PE (wkN ts (f+1) ab a fs).e)∧((wkN ts (f+1) ab a fs).e.isNone=(wkN ts (f+1) ab a fs).e.isNone)∧(fs++[Item.mk false (kA ts a).key (kA ts a).value]=(wkN ts (f+1) ab a fs).fs)) ⟨(by(rw[wk4 ‹_› ‹_› ‹_› ‹_› ‹_› ‹_›] <;> rfl)),rfl,rfl,(by(rw[wk4 ‹_› ‹_› ‹_› ‹_› ‹_› ‹_›] <;> rfl)),rfl,rfl,(by(rw[wk4 ‹_› ‹_› ‹_› ‹_› ‹_› ‹_›] <;> rfl))⟩ trivial
         ·skip
          refine v_call _ [6] (clone_ok ((kA ts a).key) (by omega)) (((kA ts a).key=(kA ts a).key)) rfl (fun g21 p22=>?_)
          have p22:True:=p22
          refine v_call _ [7] (clone_ok ((kA ts a).value) (by omega)) (((kA ts a).value=(kA ts a).value)) rfl (fun g23 p24=>?_)
          have p24:True:=p24
          refine v_call _ [0,6,7] (thash_ok (0) (1) ((kA ts a).key) ((kA ts a).value) z32 z32 (by decide) (by omega) (by omega) rfl rfl) ((fs.length+1≤1000000)∧((0:Int)=(0:Int))∧((1:UInt64)=(1:UInt64))∧(List.replicate (32:Nat) (0:UInt8)=List.replicate (32:Nat) (0:UInt8))∧(List.replicate (32:Nat) (0:UInt8)=List.replicate (32:Nat) (0:UInt8))∧(wordsP=wordsP)∧((kA ts a).key=(kA ts a).key)∧((kA ts a).value=(kA ts a).value)) ⟨(by omega),rfl,rfl,rfl,rfl,rfl,rfl,rfl⟩ (fun g25 p26=>?_)
          have p26:True:=p26
          refine v_al [] (al_e0 ((wkN ts (f+1) ab a fs).e) (by(rw[wk4 ‹_› ‹_› ‹_› ‹_› ‹_› ‹_›] <;> rfl))) True trivial ?_
          exact v_ret () [14,13] ((nsum 0 1 (kA ts a).key (kA ts a).value z32 z32=(wkN ts (f+1) ab a fs).h)∧(wordsP=wordsP)∧(ts=ts)∧((↑a:Int)+1=(↑(wkN ts (f+1) ab a fs).a:Int))∧(PE (wkN ts (f+1) ab a fs).e=PE (wkN ts (f+1) ab a fs).e)∧((wkN ts (f+1) ab a fs).e.isNone=(wkN ts (f+1) ab a fs).e.isNone)∧(fs++[Item.mk false (kA ts a).key (kA ts a).value]=(wkN ts (f+1) ab a fs).fs)) ⟨(by(rw[wk4 ‹_› ‹_› ‹_› ‹_› ‹_› ‹_›] <;> rfl)),rfl,rfl,(by(rw[wk4 ‹_› ‹_› ‹_› ‹_› ‹_› ‹_›] <;> rfl)),rfl,rfl,(by(rw[wk4 ‹_› ‹_› ‹_› ‹_› ‹_› ‹_›] <;> rfl))⟩ trivial
        ·skip
         refine v_call _ [6] (clone_ok ((kA ts a).key) (by omega)) (((kA ts a).key=(kA ts a).key)) rfl (fun g27 p28=>?_)
         have p28:True:=p28
         refine v_call _ [7] (clone_ok ((kA ts a).value) (by omega)) (((kA ts a).value=(kA ts a).value)) rfl (fun g29 p30=>?_)
         have p30:True:=p30
         refine v_call _ [0,6,7] (thash_ok (0) (1) ((kA ts a).key) ((kA ts a).value) z32 z32 (by decide) (by omega) (by omega) rfl rfl) ((fs.length+1≤1000000)∧((0:Int)=(0:Int))∧((1:UInt64)=(1:UInt64))∧(List.replicate (32:Nat) (0:UInt8)=List.replicate (32:Nat) (0:UInt8))∧(List.replicate (32:Nat) (0:UInt8)=List.replicate (32:Nat) (0:UInt8))∧(wordsP=wordsP)∧((kA ts a).key=(kA ts a).key)∧((kA ts a).value=(kA ts a).value)) ⟨(by omega),rfl,rfl,rfl,rfl,rfl,rfl,rfl⟩ (fun g31 p32=>?_)
         have p32:True:=p32
         refine v_al [] (al_e0 ((wkN ts (f+1) ab a fs).e) (by(rw[wk4 ‹_› ‹_› ‹_› ‹_› ‹_› ‹_›] <;> rfl))) True trivial ?_
         exact v_ret () [14,13] ((nsum 0 1 (kA ts a).key (kA ts a).value z32 z32=(wkN ts (f+1) ab a fs).h)∧(wordsP=wordsP)∧(ts=ts)∧((↑a:Int)+1=(↑(wkN ts (f+1) ab a fs).a:Int))∧(PE (wkN ts (f+1) ab a fs).e=PE (wkN ts (f+1) ab a fs).e)∧((wkN ts (f+1) ab a fs).e.isNone=(wkN ts (f+1) ab a fs).e.isNone)∧(fs++[Item.mk false (kA ts a).key (kA ts a).value]=(wkN ts (f+1) ab a fs).fs)) ⟨(by(rw[wk4 ‹_› ‹_› ‹_› ‹_› ‹_› ‹_›] <;> rfl)),rfl,rfl,(by(rw[wk4 ‹_› ‹_› ‹_› ‹_› ‹_› ‹_›] <;> rfl)),rfl,rfl,(by(rw[wk4 ‹_› ‹_› ‹_› ‹_› ‹_› ‹_›] <;> rfl))⟩ trivial
       ·skip
        refine v_pick True trivial ?_ ?_
        ·skip
         refine v_pick True trivial ?_ ?_
         ·skip
          refine v_pick True trivial ?_ ?_
          ·skip
           refine v_call _ [6] (clone_ok ((kA ts a).key) (by omega)) (((kA ts a).key=(kA ts a).key)) rfl (fun g33 p34=>?_)
           have p34:True:=p34
           refine v_call _ [7] (clone_ok ((kA ts a).value) (by omega)) (((kA ts a).value=(kA ts a).value)) rfl (fun g35 p36=>?_)
           have p36:True:=p36
           refine v_call _ [0,6,7] (thash_ok (0) (1) ((kA ts a).key) ((kA ts a).value) z32 z32 (by decide) (by omega) (by omega) rfl rfl) ((fs.length+1≤1000000)∧((0:Int)=(0:Int))∧((1:UInt64)=(1:UInt64))∧(List.replicate (32:Nat) (0:UInt8)=List.replicate (32:Nat) (0:UInt8))∧(List.replicate (32:Nat) (0:UInt8)=List.replicate (32:Nat) (0:UInt8))∧(wordsP=wordsP)∧((kA ts a).key=(kA ts a).key)∧((kA ts a).value=(kA ts a).value)) ⟨(by omega),rfl,rfl,rfl,rfl,rfl,rfl,rfl⟩ (fun g37 p38=>?_)
           have p38:True:=p38
           refine v_al [] (al_e0 ((wkN ts (f+1) ab a fs).e) (by(rw[wk4 ‹_› ‹_› ‹_› ‹_› ‹_› ‹_›] <;> rfl))) True trivial ?_
           exact v_ret () [14,13] ((nsum 0 1 (kA ts a).key (kA ts a).value z32 z32=(wkN ts (f+1) ab a fs).h)∧(wordsP=wordsP)∧(ts=ts)∧((↑a:Int)+1=(↑(wkN ts (f+1) ab a fs).a:Int))∧(PE (wkN ts (f+1) ab a fs).e=PE (wkN ts (f+1) ab a fs).e)∧((wkN ts (f+1) ab a fs).e.isNone=(wkN ts (f+1) ab a fs).e.isNone)∧(fs++[Item.mk false (kA ts a).key (kA ts a).value]=(wkN ts (f+1) ab a fs).fs)) ⟨(by(rw[wk4 ‹_› ‹_› ‹_› ‹_› ‹_› ‹_›] <;> rfl)),rfl,rfl,(by(rw[wk4 ‹_› ‹_› ‹_› ‹_› ‹_› ‹_›] <;> rfl)),rfl,rfl,(by(rw[wk4 ‹_› ‹_› ‹_› ‹_› ‹_› ‹_›] <;> rfl))⟩ trivial
          ·skip
           refine v_call _ [6] (clone_ok ((kA ts a).key) (by omega)) (((kA ts a).key=(kA ts a).key)) rfl (fun g39 p40=>?_)
           have p40:True:=p40
           refine v_call _ [7] (clone_ok ((kA ts a).value) (by omega)) (((kA ts a).value=(kA ts a).value)) rfl (fun g41 p42=>?_)
           have p42:True:=p42
           refine v_call _ [0,6,7] (thash_ok (0) (1) ((kA ts a).key) ((kA ts a).value) z32 z32 (by decide) (by omega) (by omega) rfl rfl) ((fs.length+1≤1000000)∧((0:Int)=(0:Int))∧((1:UInt64)=(1:UInt64))∧(List.replicate (32:Nat) (0:UInt8)=List.replicate (32:Nat) (0:UInt8))∧(List.replicate (32:Nat) (0:UInt8)=List.replicate (32:Nat) (0:UInt8))∧(wordsP=wordsP)∧((kA ts a).key=(kA ts a).key)∧((kA ts a).value=(kA ts a).value)) ⟨(by omega),rfl,rfl,rfl,rfl,rfl,rfl,rfl⟩ (fun g43 p44=>?_)
           have p44:True:=p44
           refine v_al [] (al_e0 ((wkN ts (f+1) ab a fs).e) (by(rw[wk4 ‹_› ‹_› ‹_› ‹_› ‹_› ‹_›] <;> rfl))) True trivial ?_
           exact v_ret () [14,13] ((nsum 0 1 (kA ts a).key (kA ts a).value z32 z32=(wkN ts (f+1) ab a fs).h)∧(wordsP=wordsP)∧(ts=ts)∧((↑a:Int)+1=(↑(wkN ts (f+1) ab a fs).a:Int))∧(PE (wkN ts (f+1) ab a fs).e=PE (wkN ts (f+1) ab a fs).e)∧((wkN ts (f+1) ab a fs).e.isNone=(wkN ts (f+1) ab a fs).e.isNone)∧(fs++[Item.mk false (kA ts a).key (kA ts a).value]=(wkN ts (f+1) ab a fs).fs)) ⟨(by(rw[wk4 ‹_› ‹_› ‹_› ‹_› ‹_› ‹_›] <;> rfl)),rfl,rfl,(by(rw[wk4 ‹_› ‹_› ‹_› ‹_› ‹_› ‹_›] <;> rfl)),rfl,rfl,(by(rw[wk4 ‹_› ‹_› ‹_› ‹_› ‹_› ‹_›] <;> rfl))⟩ trivial
         ·skip
          refine v_pick True trivial ?_ ?_
          ·skip
           refine v_call _ [6] (clone_ok ((kA ts a).key) (by omega)) (((kA ts a).key=(kA ts a).key)) rfl (fun g45 p46=>?_)
           have p46:True:=p46
           refine v_pick True trivial ?_ ?_
           ·skip
            refine v_call _ [7] (clone_ok ((kA ts a).value) (by omega)) (((kA ts a).value=(kA ts a).value)) rfl (fun g47 p48=>?_)
            have p48:True:=p48
            refine v_call _ [0,6,7] (thash_ok (0) (1) ((kA ts a).key) ((kA ts a).value) z32 z32 (by decide) (by omega) (by omega) rfl rfl) ((fs.length+1≤1000000)∧((0:Int)=(0:Int))∧((1:UInt64)=(1:UInt64))∧(List.replicate (32:Nat) (0:UInt8)=List.replicate (32:Nat) (0:UInt8))∧(List.replicate (32:Nat) (0:UInt8)=List.replicate (32:Nat) (0:UInt8))∧(wordsP=wordsP)∧((kA ts a).key=(kA ts a).key)∧((kA ts a).value=(kA ts a).value)) ⟨(by omega),rfl,rfl,rfl,rfl,rfl,rfl,rfl⟩ (fun g49 p50=>?_)
            have p50:True:=p50
            refine v_al [] (al_e0 ((wkN ts (f+1) ab a fs).e) (by(rw[wk4 ‹_› ‹_› ‹_› ‹_› ‹_› ‹_›] <;> rfl))) True trivial ?_
            exact v_ret () [14,13] ((nsum 0 1 (kA ts a).key (kA ts a).value z32 z32=(wkN ts (f+1) ab a fs).h)∧(wordsP=wordsP)∧(ts=ts)∧((↑a:Int)+1=(↑(wkN ts (f+1) ab a fs).a:Int))∧(PE (wkN ts (f+1) ab a fs).e=PE (wkN ts (f+1) ab a fs).e)∧((wkN ts (f+1) ab a fs).e.isNone=(wkN ts (f+1) ab a fs).e.isNone)∧(fs++[Item.mk false (kA ts a).key (kA ts a).value]=(wkN ts (f+1) ab a fs).fs)) ⟨(by(rw[wk4 ‹_› ‹_› ‹_› ‹_› ‹_› ‹_›] <;> rfl)),rfl,rfl,(by(rw[wk4 ‹_› ‹_› ‹_› ‹_› ‹_› ‹_›] <;> rfl)),rfl,rfl,(by(rw[wk4 ‹_› ‹_› ‹_› ‹_› ‹_› ‹_›] <;> rfl))⟩ trivial
           ·skip
            refine v_pick True trivial ?_ ?_
            ·skip
             refine v_call _ [7] (clone_ok ((kA ts a).value) (by omega)) (((kA ts a).value=(kA ts a).value)) rfl (fun g51 p52=>?_)
             have p52:True:=p52
             refine v_call _ [0,6,7] (thash_ok (0) (1) ((kA ts a).key) ((kA ts a).value) z32 z32 (by decide) (by omega) (by omega) rfl rfl) ((fs.length+1≤1000000)∧((0:Int)=(0:Int))∧((1:UInt64)=(1:UInt64))∧(List.replicate (32:Nat) (0:UInt8)=List.replicate (32:Nat) (0:UInt8))∧(List.replicate (32:Nat) (0:UInt8)=List.replicate (32:Nat) (0:UInt8))∧(wordsP=wordsP)∧((kA ts a).key=(kA ts a).key)∧((kA ts a).value=(kA ts a).value)) ⟨(by omega),rfl,rfl,rfl,rfl,rfl,rfl,rfl⟩ (fun g53 p54=>?_)
             have p54:True:=p54
             refine v_al [] (al_e0 ((wkN ts (f+1) ab a fs).e) (by(rw[wk4 ‹_› ‹_› ‹_› ‹_› ‹_› ‹_›] <;> rfl))) True trivial ?_
             exact v_ret () [14,13] ((nsum 0 1 (kA ts a).key (kA ts a).value z32 z32=(wkN ts (f+1) ab a fs).h)∧(wordsP=wordsP)∧(ts=ts)∧((↑a:Int)+1=(↑(wkN ts (f+1) ab a fs).a:Int))∧(PE (wkN ts (f+1) ab a fs).e=PE (wkN ts (f+1) ab a fs).e)∧((wkN ts (f+1) ab a fs).e.isNone=(wkN ts (f+1) ab a fs).e.isNone)∧(fs++[Item.mk false (kA ts a).key (kA ts a).value]=(wkN ts (f+1) ab a fs).fs)) ⟨(by(rw[wk4 ‹_› ‹_› ‹_› ‹_› ‹_› ‹_›] <;> rfl)),rfl,rfl,(by(rw[wk4 ‹_› ‹_› ‹_› ‹_› ‹_› ‹_›] <;> rfl)),rfl,rfl,(by(rw[wk4 ‹_› ‹_› ‹_› ‹_› ‹_› ‹_›] <;> rfl))⟩ trivial
            ·skip
             refine v_call _ [7] (clone_ok ((kA ts a).value) (by omega)) (((kA ts a).value=(kA ts a).value)) rfl (fun g55 p56=>?_)
             have p56:True:=p56
             refine v_pick True trivial ?_ ?_
             ·skip
              refine v_call _ [0,6,7] (thash_ok (0) (1) ((kA ts a).key) ((kA ts a).value) z32 z32 (by decide) (by omega) (by omega) rfl rfl) ((fs.length+1≤1000000)∧((0:Int)=(0:Int))∧((1:UInt64)=(1:UInt64))∧(List.replicate (32:Nat) (0:UInt8)=List.replicate (32:Nat) (0:UInt8))∧(List.replicate (32:Nat) (0:UInt8)=List.replicate (32:Nat) (0:UInt8))∧(wordsP=wordsP)∧((kA ts a).key=(kA ts a).key)∧((kA ts a).value=(kA ts a).value)) ⟨(by omega),rfl,rfl,rfl,rfl,rfl,rfl,rfl⟩ (fun g57 p58=>?_)
              have p58:True:=p58
              refine v_al [] (al_e0 ((wkN ts (f+1) ab a fs).e) (by(rw[wk4 ‹_› ‹_› ‹_› ‹_› ‹_› ‹_›] <;> rfl))) True trivial ?_
              exact v_ret () [14,13] ((nsum 0 1 (kA ts a).key (kA ts a).value z32 z32=(wkN ts (f+1) ab a fs).h)∧(wordsP=wordsP)∧(ts=ts)∧((↑a:Int)+1=(↑(wkN ts (f+1) ab a fs).a:Int))∧(PE (wkN ts (f+1) ab a fs).e=PE (wkN ts (f+1) ab a fs).e)∧((wkN ts (f+1) ab a fs).e.isNone=(wkN ts (f+1) ab a fs).e.isNone)∧(fs++[Item.mk false (kA ts a).key (kA ts a).value]=(wkN ts (f+1) ab a fs).fs)) ⟨(by(rw[wk4 ‹_› ‹_› ‹_› ‹_› ‹_› ‹_›] <;> rfl)),rfl,rfl,(by(rw[wk4 ‹_› ‹_› ‹_› ‹_› ‹_› ‹_›] <;> rfl)),rfl,rfl,(by(rw[wk4 ‹_› ‹_› ‹_› ‹_› ‹_› ‹_›] <;> rfl))⟩ trivial
             ·skip
              refine v_call _ [0,6,7] (thash_ok (0) (1) ((kA ts a).key) ((kA ts a).value) z32 z32 (by decide) (by omega) (by omega) rfl rfl) ((fs.length+1≤1000000)∧((0:Int)=(0:Int))∧((1:UInt64)=(1:UInt64))∧(List.replicate (32:Nat) (0:UInt8)=List.replicate (32:Nat) (0:UInt8))∧(List.replicate (32:Nat) (0:UInt8)=List.replicate (32:Nat) (0:UInt8))∧(wordsP=wordsP)∧((kA ts a).key=(kA ts a).key)∧((kA ts a).value=(kA ts a).value)) ⟨(by omega),rfl,rfl,rfl,rfl,rfl,rfl,rfl⟩ (fun g59 p60=>?_)
              have p60:True:=p60
              refine v_al [] (al_e0 ((wkN ts (f+1) ab a fs).e) (by(rw[wk4 ‹_› ‹_› ‹_› ‹_› ‹_› ‹_›] <;> rfl))) True trivial ?_
              exact v_ret () [14,13] ((nsum 0 1 (kA ts a).key (kA ts a).value z32 z32=(wkN ts (f+1) ab a fs).h)∧(wordsP=wordsP)∧(ts=ts)∧((↑a:Int)+1=(↑(wkN ts (f+1) ab a fs).a:Int))∧(PE (wkN ts (f+1) ab a fs).e=PE (wkN ts (f+1) ab a fs).e)∧((wkN ts (f+1) ab a fs).e.isNone=(wkN ts (f+1) ab a fs).e.isNone)∧(fs++[Item.mk false (kA ts a).key (kA ts a).value]=(wkN ts (f+1) ab a fs).fs)) ⟨(by(rw[wk4 ‹_› ‹_› ‹_› ‹_› ‹_› ‹_›] <;> rfl)),rfl,rfl,(by(rw[wk4 ‹_› ‹_› ‹_› ‹_› ‹_› ‹_›] <;> rfl)),rfl,rfl,(by(rw[wk4 ‹_› ‹_› ‹_› ‹_› ‹_› ‹_›] <;> rfl))⟩ trivial
          ·skip
           refine v_pick True trivial ?_ ?_
           ·skip
            refine v_call _ [6] (clone_ok ((kA ts a).key) (by omega)) (((kA ts a).key=(kA ts a).key)) rfl (fun g61 p62=>?_)
            have p62:True:=p62
            refine v_call _ [7] (clone_ok ((kA ts a).value) (by omega)) (((kA ts a).value=(kA ts a).value)) rfl (fun g63 p64=>?_)
            have p64:True:=p64
            refine v_call _ [0,6,7] (thash_ok (0) (1) ((kA ts a).key) ((kA ts a).value) z32 z32 (by decide) (by omega) (by omega) rfl rfl) ((fs.length+1≤1000000)∧((0:Int)=(0:Int))∧((1:UInt64)=(1:UInt64))∧(List.replicate (32:Nat) (0:UInt8)=List.replicate (32:Nat) (0:UInt8))∧(List.replicate (32:Nat) (0:UInt8)=List.replicate (32:Nat) (0:UInt8))∧(wordsP=wordsP)∧((kA ts a).key=(kA ts a).key)∧((kA ts a).value=(kA ts a).value)) ⟨(by omega),rfl,rfl,rfl,rfl,rfl,rfl,rfl⟩ (fun g65 p66=>?_)
            have p66:True:=p66
            refine v_al [] (al_e0 ((wkN ts (f+1) ab a fs).e) (by(rw[wk4 ‹_› ‹_› ‹_› ‹_› ‹_› ‹_›] <;> rfl))) True trivial ?_
            exact v_ret () [14,13] ((nsum 0 1 (kA ts a).key (kA ts a).value z32 z32=(wkN ts (f+1) ab a fs).h)∧(wordsP=wordsP)∧(ts=ts)∧((↑a:Int)+1=(↑(wkN ts (f+1) ab a fs).a:Int))∧(PE (wkN ts (f+1) ab a fs).e=PE (wkN ts (f+1) ab a fs).e)∧((wkN ts (f+1) ab a fs).e.isNone=(wkN ts (f+1) ab a fs).e.isNone)∧(fs++[Item.mk false (kA ts a).key (kA ts a).value]=(wkN ts (f+1) ab a fs).fs)) ⟨(by(rw[wk4 ‹_› ‹_› ‹_› ‹_› ‹_› ‹_›] <;> rfl)),rfl,rfl,(by(rw[wk4 ‹_› ‹_› ‹_› ‹_› ‹_› ‹_›] <;> rfl)),rfl,rfl,(by(rw[wk4 ‹_› ‹_› ‹_› ‹_› ‹_› ‹_›] <;> rfl))⟩ trivial
           ·skip
            refine v_call _ [6] (clone_ok ((kA ts a).key) (by omega)) (((kA ts a).key=(kA ts a).key)) rfl (fun g67 p68=>?_)
            have p68:True:=p68
            refine v_pick True trivial ?_ ?_
            ·skip
             refine v_call _ [7] (clone_ok ((kA ts a).value) (by omega)) (((kA ts a).value=(kA ts a).value)) rfl (fun g69 p70=>?_)
             have p70:True:=p70
             refine v_call _ [0,6,7] (thash_ok (0) (1) ((kA ts a).key) ((kA ts a).value) z32 z32 (by decide) (by omega) (by omega) rfl rfl) ((fs.length+1≤1000000)∧((0:Int)=(0:Int))∧((1:UInt64)=(1:UInt64))∧(List.replicate (32:Nat) (0:UInt8)=List.replicate (32:Nat) (0:UInt8))∧(List.replicate (32:Nat) (0:UInt8)=List.replicate (32:Nat) (0:UInt8))∧(wordsP=wordsP)∧((kA ts a).key=(kA ts a).key)∧((kA ts a).value=(kA ts a).value)) ⟨(by omega),rfl,rfl,rfl,rfl,rfl,rfl,rfl⟩ (fun g71 p72=>?_)
             have p72:True:=p72
             refine v_al [] (al_e0 ((wkN ts (f+1) ab a fs).e) (by(rw[wk4 ‹_› ‹_› ‹_› ‹_› ‹_› ‹_›] <;> rfl))) True trivial ?_
             exact v_ret () [14,13] ((nsum 0 1 (kA ts a).key (kA ts a).value z32 z32=(wkN ts (f+1) ab a fs).h)∧(wordsP=wordsP)∧(ts=ts)∧((↑a:Int)+1=(↑(wkN ts (f+1) ab a fs).a:Int))∧(PE (wkN ts (f+1) ab a fs).e=PE (wkN ts (f+1) ab a fs).e)∧((wkN ts (f+1) ab a fs).e.isNone=(wkN ts (f+1) ab a fs).e.isNone)∧(fs++[Item.mk false (kA ts a).key (kA ts a).value]=(wkN ts (f+1) ab a fs).fs)) ⟨(by(rw[wk4 ‹_› ‹_› ‹_› ‹_› ‹_› ‹_›] <;> rfl)),rfl,rfl,(by(rw[wk4 ‹_› ‹_› ‹_› ‹_› ‹_› ‹_›] <;> rfl)),rfl,rfl,(by(rw[wk4 ‹_› ‹_› ‹_› ‹_› ‹_› ‹_›] <;> rfl))⟩ trivial
            ·skip
             refine v_call _ [7] (clone_ok ((kA ts a).value) (by omega)) (((kA ts a).value=(kA ts a).value)) rfl (fun g73 p74=>?_)
             have p74:True:=p74
             refine v_pick True trivial ?_ ?_
             ·skip
              refine v_call _ [0,6,7] (thash_ok (0) (1) ((kA ts a).key) ((kA ts a).value) z32 z32 (by decide) (by omega) (by omega) rfl rfl) ((fs.length+1≤1000000)∧((0:Int)=(0:Int))∧((1:UInt64)=(1:UInt64))∧(List.replicate (32:Nat) (0:UInt8)=List.replicate (32:Nat) (0:UInt8))∧(List.replicate (32:Nat) (0:UInt8)=List.replicate (32:Nat) (0:UInt8))∧(wordsP=wordsP)∧((kA ts a).key=(kA ts a).key)∧((kA ts a).value=(kA ts a).value)) ⟨(by omega),rfl,rfl,rfl,rfl,rfl,rfl,rfl⟩ (fun g75 p76=>?_)
              have p76:True:=p76
              refine v_al [] (al_e0 ((wkN ts (f+1) ab a fs).e) (by(rw[wk4 ‹_› ‹_› ‹_› ‹_› ‹_› ‹_›] <;> rfl))) True trivial ?_
              exact v_ret () [14,13] ((nsum 0 1 (kA ts a).key (kA ts a).value z32 z32=(wkN ts (f+1) ab a fs).h)∧(wordsP=wordsP)∧(ts=ts)∧((↑a:Int)+1=(↑(wkN ts (f+1) ab a fs).a:Int))∧(PE (wkN ts (f+1) ab a fs).e=PE (wkN ts (f+1) ab a fs).e)∧((wkN ts (f+1) ab a fs).e.isNone=(wkN ts (f+1) ab a fs).e.isNone)∧(fs++[Item.mk false (kA ts a).key (kA ts a).value]=(wkN ts (f+1) ab a fs).fs)) ⟨(by(rw[wk4 ‹_› ‹_› ‹_› ‹_› ‹_› ‹_›] <;> rfl)),rfl,rfl,(by(rw[wk4 ‹_› ‹_› ‹_› ‹_› ‹_› ‹_›] <;> rfl)),rfl,rfl,(by(rw[wk4 ‹_› ‹_› ‹_› ‹_› ‹_› ‹_›] <;> rfl))⟩ trivial
             ·skip
              refine v_call _ [0,6,7] (thash_ok (0) (1) ((kA ts a).key) ((kA ts a).value) z32 z32 (by decide) (by omega) (by omega) rfl rfl) ((fs.length+1≤1000000)∧((0:Int)=(0:Int))∧((1:UInt64)=(1:UInt64))∧(List.replicate (32:Nat) (0:UInt8)=List.replicate (32:Nat) (0:UInt8))∧(List.replicate (32:Nat) (0:UInt8)=List.replicate (32:Nat) (0:UInt8))∧(wordsP=wordsP)∧((kA ts a).key=(kA ts a).key)∧((kA ts a).value=(kA ts a).value)) ⟨(by omega),rfl,rfl,rfl,rfl,rfl,rfl,rfl⟩ (fun g77 p78=>?_)
              have p78:True:=p78
              refine v_al [] (al_e0 ((wkN ts (f+1) ab a fs).e) (by(rw[wk4 ‹_› ‹_› ‹_› ‹_› ‹_› ‹_›] <;> rfl))) True trivial ?_
              exact v_ret () [14,13] ((nsum 0 1 (kA ts a).key (kA ts a).value z32 z32=(wkN ts (f+1) ab a fs).h)∧(wordsP=wordsP)∧(ts=ts)∧((↑a:Int)+1=(↑(wkN ts (f+1) ab a fs).a:Int))∧(PE (wkN ts (f+1) ab a fs).e=PE (wkN ts (f+1) ab a fs).e)∧((wkN ts (f+1) ab a fs).e.isNone=(wkN ts (f+1) ab a fs).e.isNone)∧(fs++[Item.mk false (kA ts a).key (kA ts a).value]=(wkN ts (f+1) ab a fs).fs)) ⟨(by(rw[wk4 ‹_› ‹_› ‹_› ‹_› ‹_› ‹_›] <;> rfl)),rfl,rfl,(by(rw[wk4 ‹_› ‹_› ‹_› ‹_› ‹_› ‹_›] <;> rfl)),rfl,rfl,(by(rw[wk4 ‹_› ‹_› ‹_› ‹_› ‹_› ‹_›] <;> rfl))⟩ trivial
        ·skip
         refine v_pick True trivial ?_ ?_
         ·skip
          refine v_call _ [6] (clone_ok ((kA ts a).key) (by omega)) (((kA ts a).key=(kA ts a).key)) rfl (fun g79 p80=>?_)
          have p80:True:=p80
          refine v_call _ [7] (clone_ok ((kA ts a).value) (by omega)) (((kA ts a).value=(kA ts a).value)) rfl (fun g81 p82=>?_)
          have p82:True:=p82
          refine v_call _ [0,6,7] (thash_ok (0) (1) ((kA ts a).key) ((kA ts a).value) z32 z32 (by decide) (by omega) (by omega) rfl rfl) ((fs.length+1≤1000000)∧((0:Int)=(0:Int))∧((1:UInt64)=(1:UInt64))∧(List.replicate (32:Nat) (0:UInt8)=List.replicate (32:Nat) (0:UInt8))∧(List.replicate (32:Nat) (0:UInt8)=List.replicate (32:Nat) (0:UInt8))∧(wordsP=wordsP)∧((kA ts a).key=(kA ts a).key)∧((kA ts a).value=(kA ts a).value)) ⟨(by omega),rfl,rfl,rfl,rfl,rfl,rfl,rfl⟩ (fun g83 p84=>?_)
          have p84:True:=p84
          refine v_al [] (al_e0 ((wkN ts (f+1) ab a fs).e) (by(rw[wk4 ‹_› ‹_› ‹_› ‹_› ‹_› ‹_›] <;> rfl))) True trivial ?_
          exact v_ret () [14,13] ((nsum 0 1 (kA ts a).key (kA ts a).value z32 z32=(wkN ts (f+1) ab a fs).h)∧(wordsP=wordsP)∧(ts=ts)∧((↑a:Int)+1=(↑(wkN ts (f+1) ab a fs).a:Int))∧(PE (wkN ts (f+1) ab a fs).e=PE (wkN ts (f+1) ab a fs).e)∧((wkN ts (f+1) ab a fs).e.isNone=(wkN ts (f+1) ab a fs).e.isNone)∧(fs++[Item.mk false (kA ts a).key (kA ts a).value]=(wkN ts (f+1) ab a fs).fs)) ⟨(by(rw[wk4 ‹_› ‹_› ‹_› ‹_› ‹_› ‹_›] <;> rfl)),rfl,rfl,(by(rw[wk4 ‹_› ‹_› ‹_› ‹_› ‹_› ‹_›] <;> rfl)),rfl,rfl,(by(rw[wk4 ‹_› ‹_› ‹_› ‹_› ‹_› ‹_›] <;> rfl))⟩ trivial
         ·skip
          refine v_pick True trivial ?_ ?_
          ·skip
           refine v_call _ [6] (clone_ok ((kA ts a).key) (by omega)) (((kA ts a).key=(kA ts a).key)) rfl (fun g85 p86=>?_)
           have p86:True:=p86
           refine v_call _ [7] (clone_ok ((kA ts a).value) (by omega)) (((kA ts a).value=(kA ts a).value)) rfl (fun g87 p88=>?_)
           have p88:True:=p88
           refine v_call _ [0,6,7] (thash_ok (0) (1) ((kA ts a).key) ((kA ts a).value) z32 z32 (by decide) (by omega) (by omega) rfl rfl) ((fs.length+1≤1000000)∧((0:Int)=(0:Int))∧((1:UInt64)=(1:UInt64))∧(List.replicate (32:Nat) (0:UInt8)=List.replicate (32:Nat) (0:UInt8))∧(List.replicate (32:Nat) (0:UInt8)=List.replicate (32:Nat) (0:UInt8))∧(wordsP=wordsP)∧((kA ts a).key=(kA ts a).key)∧((kA ts a).value=(kA ts a).value)) ⟨(by omega),rfl,rfl,rfl,rfl,rfl,rfl,rfl⟩ (fun g89 p90=>?_)
           have p90:True:=p90
           refine v_al [] (al_e0 ((wkN ts (f+1) ab a fs).e) (by(rw[wk4 ‹_› ‹_› ‹_› ‹_› ‹_› ‹_›] <;> rfl))) True trivial ?_
           exact v_ret () [14,13] ((nsum 0 1 (kA ts a).key (kA ts a).value z32 z32=(wkN ts (f+1) ab a fs).h)∧(wordsP=wordsP)∧(ts=ts)∧((↑a:Int)+1=(↑(wkN ts (f+1) ab a fs).a:Int))∧(PE (wkN ts (f+1) ab a fs).e=PE (wkN ts (f+1) ab a fs).e)∧((wkN ts (f+1) ab a fs).e.isNone=(wkN ts (f+1) ab a fs).e.isNone)∧(fs++[Item.mk false (kA ts a).key (kA ts a).value]=(wkN ts (f+1) ab a fs).fs)) ⟨(by(rw[wk4 ‹_› ‹_› ‹_› ‹_› ‹_› ‹_›] <;> rfl)),rfl,rfl,(by(rw[wk4 ‹_› ‹_› ‹_› ‹_› ‹_› ‹_›] <;> rfl)),rfl,rfl,(by(rw[wk4 ‹_› ‹_› ‹_› ‹_› ‹_› ‹_›] <;> rfl))⟩ trivial
          ·skip
           refine v_call _ [6] (clone_ok ((kA ts a).key) (by omega)) (((kA ts a).key=(kA ts a).key)) rfl (fun g91 p92=>?_)
           have p92:True:=p92
           refine v_pick True trivial ?_ ?_
           ·skip
            refine v_call _ [7] (clone_ok ((kA ts a).value) (by omega)) (((kA ts a).value=(kA ts a).value)) rfl (fun g93 p94=>?_)
            have p94:True:=p94
            refine v_call _ [0,6,7] (thash_ok (0) (1) ((kA ts a).key) ((kA ts a).value) z32 z32 (by decide) (by omega) (by omega) rfl rfl) ((fs.length+1≤1000000)∧((0:Int)=(0:Int))∧((1:UInt64)=(1:UInt64))∧(List.replicate (32:Nat) (0:UInt8)=List.replicate (32:Nat) (0:UInt8))∧(List.replicate (32:Nat) (0:UInt8)=List.replicate (32:Nat) (0:UInt8))∧(wordsP=wordsP)∧((kA ts a).key=(kA ts a).key)∧((kA ts a).value=(kA ts a).value)) ⟨(by omega),rfl,rfl,rfl,rfl,rfl,rfl,rfl⟩ (fun g95 p96=>?_)
            have p96:True:=p96
            refine v_al [] (al_e0 ((wkN ts (f+1) ab a fs).e) (by(rw[wk4 ‹_› ‹_› ‹_› ‹_› ‹_› ‹_›] <;> rfl))) True trivial ?_
            exact v_ret () [14,13] ((nsum 0 1 (kA ts a).key (kA ts a).value z32 z32=(wkN ts (f+1) ab a fs).h)∧(wordsP=wordsP)∧(ts=ts)∧((↑a:Int)+1=(↑(wkN ts (f+1) ab a fs).a:Int))∧(PE (wkN ts (f+1) ab a fs).e=PE (wkN ts (f+1) ab a fs).e)∧((wkN ts (f+1) ab a fs).e.isNone=(wkN ts (f+1) ab a fs).e.isNone)∧(fs++[Item.mk false (kA ts a).key (kA ts a).value]=(wkN ts (f+1) ab a fs).fs)) ⟨(by(rw[wk4 ‹_› ‹_› ‹_› ‹_› ‹_› ‹_›] <;> rfl)),rfl,rfl,(by(rw[wk4 ‹_› ‹_› ‹_› ‹_› ‹_› ‹_›] <;> rfl)),rfl,rfl,(by(rw[wk4 ‹_› ‹_› ‹_› ‹_› ‹_› ‹_›] <;> rfl))⟩ trivial
           ·skip
            refine v_call _ [7] (clone_ok ((kA ts a).value) (by omega)) (((kA ts a).value=(kA ts a).value)) rfl (fun g97 p98=>?_)
            have p98:True:=p98
            refine v_pick True trivial ?_ ?_
            ·skip
             refine v_call _ [0,6,7] (thash_ok (0) (1) ((kA ts a).key) ((kA ts a).value) z32 z32 (by decide) (by omega) (by omega) rfl rfl) ((fs.length+1≤1000000)∧((0:Int)=(0:Int))∧((1:UInt64)=(1:UInt64))∧(List.replicate (32:Nat) (0:UInt8)=List.replicate (32:Nat) (0:UInt8))∧(List.replicate (32:Nat) (0:UInt8)=List.replicate (32:Nat) (0:UInt8))∧(wordsP=wordsP)∧((kA ts a).key=(kA ts a).key)∧((kA ts a).value=(kA ts a).value)) ⟨(by omega),rfl,rfl,rfl,rfl,rfl,rfl,rfl⟩ (fun g99 p100=>?_)
             have p100:True:=p100
             refine v_al [] (al_e0 ((wkN ts (f+1) ab a fs).e) (by(rw[wk4 ‹_› ‹_› ‹_› ‹_› ‹_› ‹_›] <;> rfl))) True trivial ?_
             exact v_ret () [14,13] ((nsum 0 1 (kA ts a).key (kA ts a).value z32 z32=(wkN ts (f+1) ab a fs).h)∧(wordsP=wordsP)∧(ts=ts)∧((↑a:Int)+1=(↑(wkN ts (f+1) ab a fs).a:Int))∧(PE (wkN ts (f+1) ab a fs).e=PE (wkN ts (f+1) ab a fs).e)∧((wkN ts (f+1) ab a fs).e.isNone=(wkN ts (f+1) ab a fs).e.isNone)∧(fs++[Item.mk false (kA ts a).key (kA ts a).value]=(wkN ts (f+1) ab a fs).fs)) ⟨(by(rw[wk4 ‹_› ‹_› ‹_› ‹_› ‹_› ‹_›] <;> rfl)),rfl,rfl,(by(rw[wk4 ‹_› ‹_› ‹_› ‹_› ‹_› ‹_›] <;> rfl)),rfl,rfl,(by(rw[wk4 ‹_› ‹_› ‹_› ‹_› ‹_› ‹_›] <;> rfl))⟩ trivial
            ·skip
             refine v_call _ [0,6,7] (thash_ok (0) (1) ((kA ts a).key) ((kA ts a).value) z32 z32 (by decide) (by omega) (by omega) rfl rfl) ((fs.length+1≤1000000)∧((0:Int)=(0:Int))∧((1:UInt64)=(1:UInt64))∧(List.replicate (32:Nat) (0:UInt8)=List.replicate (32:Nat) (0:UInt8))∧(List.replicate (32:Nat) (0:UInt8)=List.replicate (32:Nat) (0:UInt8))∧(wordsP=wordsP)∧((kA ts a).key=(kA ts a).key)∧((kA ts a).value=(kA ts a).value)) ⟨(by omega),rfl,rfl,rfl,rfl,rfl,rfl,rfl⟩ (fun g101 p102=>?_)
             have p102:True:=p102
             refine v_al [] (al_e0 ((wkN ts (f+1) ab a fs).e) (by(rw[wk4 ‹_› ‹_› ‹_› ‹_› ‹_› ‹_›] <;> rfl))) True trivial ?_
             exact v_ret () [14,13] ((nsum 0 1 (kA ts a).key (kA ts a).value z32 z32=(wkN ts (f+1) ab a fs).h)∧(wordsP=wordsP)∧(ts=ts)∧((↑a:Int)+1=(↑(wkN ts (f+1) ab a fs).a:Int))∧(PE (wkN ts (f+1) ab a fs).e=PE (wkN ts (f+1) ab a fs).e)∧((wkN ts (f+1) ab a fs).e.isNone=(wkN ts (f+1) ab a fs).e.isNone)∧(fs++[Item.mk false (kA ts a).key (kA ts a).value]=(wkN ts (f+1) ab a fs).fs)) ⟨(by(rw[wk4 ‹_› ‹_› ‹_› ‹_› ‹_› ‹_›] <;> rfl)),rfl,rfl,(by(rw[wk4 ‹_› ‹_› ‹_› ‹_› ‹_› ‹_›] <;> rfl)),rfl,rfl,(by(rw[wk4 ‹_› ‹_› ‹_› ‹_› ‹_› ‹_›] <;> rfl))⟩ trivial
   ·have h5:=of_decide_eq_false h5
    refine v_if (decide ((kA ts a).kind=3)) True trivial (fun h103=>?_) (fun h103=>?_)
    ·have h103:=of_decide_eq_true h103
     refine v_guard 114 (decide ((kA ts a).height<1)) True trivial (fun h104=>?_) (fun h104=>?_)
     ·have h104:=of_decide_eq_true h104
      refine v_al [] (al_e1 (12)) True trivial ?_
      refine v_call _ [10] (faultAt_ok (((#[116,111,107,101,110]:Array UInt8).toList)) (↑a) (Er.num 12)) ((#[(116:UInt8),(111:UInt8),(107:UInt8),(101:UInt8),(110:UInt8)].toList=#[(116:UInt8),(111:UInt8),(107:UInt8),(101:UInt8),(110:UInt8)].toList)∧((↑a:Int)=(↑a:Int))∧((12:Int)=(12:Int))∧(PE (some (Er.num 12))=PE (some (Er.num 12)))∧(false=false)) ⟨rfl,rfl,rfl,rfl,rfl⟩ (fun g105 p106=>?_)
      have p106:True:=p106
      exact v_ret () [11,2] ((List.replicate 32 0=(wkN ts (f+1) ab a fs).h)∧(wordsP=wordsP)∧(ts=ts)∧((↑a:Int)+1=(↑(wkN ts (f+1) ab a fs).a:Int))∧(PE (some (Er.step ((#[116,111,107,101,110]:Array UInt8).toList) (↑a) (Er.num 12)))=PE (wkN ts (f+1) ab a fs).e)∧(false=(wkN ts (f+1) ab a fs).e.isNone)∧(fs=(wkN ts (f+1) ab a fs).fs)) ⟨(by(rw[wk5 ‹_› ‹_› ‹_› ‹_› (by first | exact .inl ‹_› | exact .inr ‹_›)] <;> rfl)),rfl,rfl,(by(rw[wk5 ‹_› ‹_› ‹_› ‹_› (by first | exact .inl ‹_› | exact .inr ‹_›)] <;> rfl)),(by(rw[wk5 ‹_› ‹_› ‹_› ‹_› (by first | exact .inl ‹_› | exact .inr ‹_›)] <;> rfl)),(by(rw[wk5 ‹_› ‹_› ‹_› ‹_› (by first | exact .inl ‹_› | exact .inr ‹_›)] <;> rfl)),(by(rw[wk5 ‹_› ‹_› ‹_› ‹_› (by first | exact .inl ‹_› | exact .inr ‹_›)] <;> rfl))⟩ trivial
     ·have h104:=of_decide_eq_false h104
      refine v_if (decide (ab≤(kA ts a).height)) True trivial (fun h107=>?_) (fun h107=>?_)
      ·have h107:=of_decide_eq_true h107
       refine v_al [] (al_e1 (12)) True trivial ?_
       refine v_call _ [10] (faultAt_ok (((#[116,111,107,101,110]:Array UInt8).toList)) (↑a) (Er.num 12)) ((#[(116:UInt8),(111:UInt8),(107:UInt8),(101:UInt8),(110:UInt8)].toList=#[(116:UInt8),(111:UInt8),(107:UInt8),(101:UInt8),(110:UInt8)].toList)∧((↑a:Int)=(↑a:Int))∧((12:Int)=(12:Int))∧(PE (some (Er.num 12))=PE (some (Er.num 12)))∧(false=false)) ⟨rfl,rfl,rfl,rfl,rfl⟩ (fun g108 p109=>?_)
       have p109:True:=p109
       exact v_ret () [11,2] ((List.replicate 32 0=(wkN ts (f+1) ab a fs).h)∧(wordsP=wordsP)∧(ts=ts)∧((↑a:Int)+1=(↑(wkN ts (f+1) ab a fs).a:Int))∧(PE (some (Er.step ((#[116,111,107,101,110]:Array UInt8).toList) (↑a) (Er.num 12)))=PE (wkN ts (f+1) ab a fs).e)∧(false=(wkN ts (f+1) ab a fs).e.isNone)∧(fs=(wkN ts (f+1) ab a fs).fs)) ⟨(by(rw[wk5 ‹_› ‹_› ‹_› ‹_› (by first | exact .inl ‹_› | exact .inr ‹_›)] <;> rfl)),rfl,rfl,(by(rw[wk5 ‹_› ‹_› ‹_› ‹_› (by first | exact .inl ‹_› | exact .inr ‹_›)] <;> rfl)),(by(rw[wk5 ‹_› ‹_› ‹_› ‹_› (by first | exact .inl ‹_› | exact .inr ‹_›)] <;> rfl)),(by(rw[wk5 ‹_› ‹_› ‹_› ‹_› (by first | exact .inl ‹_› | exact .inr ‹_›)] <;> rfl)),(by(rw[wk5 ‹_› ‹_› ‹_› ‹_› (by first | exact .inl ‹_› | exact .inr ‹_›)] <;> rfl))⟩ trivial
      ·have h107:=of_decide_eq_false h107
       refine v_call _ [0,1,2,3] (ih ((kA ts a).height) (a+nat_lit 1) (fs) (by omega) (by omega) (by(simp;omega)) (by omega)) (((kA ts a).height=(kA ts a).height)∧(wordsP=wordsP)∧(ts=ts)∧(fs=fs)∧((↑a:Int)+(1:Int)=(↑(a+nat_lit 1):Int))) ⟨rfl,rfl,rfl,rfl,rfl⟩ (fun g110 p111=>?_)
       have p111:True:=p111
       refine v_if (!(wkA ts f a fs).e.isNone) True trivial (fun h112=>?_) (fun h112=>?_)
       ·have h112:=(nt h112)
        exact v_ret () [10,11] (((wkA ts f a fs).h=(wkN ts (f+(1:Nat)) ab a fs).h)∧(wordsP=wordsP)∧(ts=ts)∧((↑(wkA ts f a fs).a:Int)=(↑(wkN ts (f+(1:Nat)) ab a fs).a:Int))∧(PE (wkA ts f a fs).e=PE (wkN ts (f+(1:Nat)) ab a fs).e)∧((wkA ts f a fs).e.isNone=(wkN ts (f+(1:Nat)) ab a fs).e.isNone)∧((wkA ts f a fs).fs=(wkN ts (f+(1:Nat)) ab a fs).fs)) ⟨(by(rw[wk7 ‹_› ‹_› ‹_› ‹_› ‹_› ‹_› ‹_›])),rfl,rfl,(by(rw[wk7 ‹_› ‹_› ‹_› ‹_› ‹_› ‹_› ‹_›])),(by(rw[wk7 ‹_› ‹_› ‹_› ‹_› ‹_› ‹_› ‹_›])),(by(rw[wk7 ‹_› ‹_› ‹_› ‹_› ‹_› ‹_› ‹_›])),(by(rw[wk7 ‹_› ‹_› ‹_› ‹_› ‹_› ‹_› ‹_›]))⟩ trivial
       ·have h112:=(nf h112)
        refine v_call _ [0,1,11,3] (ih ((kA ts a).height) ((wkA ts f a fs).a) ((wkA ts f a fs).fs) (by omega) (by omega) (by exact(wkA_inv ‹_› hf).1) (by exact(wkA_inv ‹_› hf).2.1)) (((kA ts a).height=(kA ts a).height)∧(wordsP=wordsP)∧(ts=ts)∧((wkA ts f a fs).fs=(wkA ts f a fs).fs)∧((↑(wkA ts f a fs).a:Int)=(↑(wkA ts f a fs).a:Int))) ⟨rfl,rfl,rfl,rfl,rfl⟩ (fun g113 p114=>?_)
        have p114:True:=p114
        refine v_if (!(wkB ts f a fs).e.isNone) True trivial (fun h115=>?_) (fun h115=>?_)
        ·have h115:=(nt h115)
         exact v_ret () [13,14] (((wkB ts f a fs).h=(wkN ts (f+(1:Nat)) ab a fs).h)∧(wordsP=wordsP)∧(ts=ts)∧((↑(wkB ts f a fs).a:Int)=(↑(wkN ts (f+(1:Nat)) ab a fs).a:Int))∧(PE (wkB ts f a fs).e=PE (wkN ts (f+(1:Nat)) ab a fs).e)∧((wkB ts f a fs).e.isNone=(wkN ts (f+(1:Nat)) ab a fs).e.isNone)∧((wkB ts f a fs).fs=(wkN ts (f+(1:Nat)) ab a fs).fs)) ⟨(by(rw[wk8 ‹_› ‹_› ‹_› ‹_› ‹_› ‹_› ‹_› ‹_›])),rfl,rfl,(by(rw[wk8 ‹_› ‹_› ‹_› ‹_› ‹_› ‹_› ‹_› ‹_›])),(by(rw[wk8 ‹_› ‹_› ‹_› ‹_› ‹_› ‹_› ‹_› ‹_›])),(by(rw[wk8 ‹_› ‹_› ‹_› ‹_› ‹_› ‹_› ‹_› ‹_›])),(by(rw[wk8 ‹_› ‹_› ‹_› ‹_› ‹_› ‹_› ‹_› ‹_›]))⟩ trivial
        ·have h115:=(nf h115)
         refine v_call _ [0,4,4] (thash_ok ((kA ts a).height) ((kA ts a).size) ([]) ([]) ((wkA ts f a fs).h) ((wkB ts f a fs).h) (by omega) (by decide) (by decide) (by exact(wkA_inv ‹_› hf).2.2) (by exact(wkB_inv ‹_› hf).2.2)) (((kA ts a).height=(kA ts a).height)∧((kA ts a).size=(kA ts a).size)∧((wkA ts f a fs).h=(wkA ts f a fs).h)∧((wkB ts f a fs).h=(wkB ts f a fs).h)∧(wordsP=wordsP)∧(Eq (α:=List UInt8) [] [])∧(Eq (α:=List UInt8) [] [])) ⟨rfl,rfl,rfl,rfl,rfl,rfl,rfl⟩ (fun g116 p117=>?_)
         have p117:True:=p117
         refine v_al [] (al_e0 ((wkN ts (f+1) ab a fs).e) (by(rw[wk9 ‹_› ‹_› ‹_› ‹_› ‹_› ‹_› ‹_› ‹_›] <;> rfl))) True trivial ?_
         exact v_ret () [16,14] ((nsum (kA ts a).height (kA ts a).size [] [] (wkA ts f a fs).h (wkB ts f a fs).h=(wkN ts (f+(1:Nat)) ab a fs).h)∧(wordsP=wordsP)∧(ts=ts)∧((↑(wkB ts f a fs).a:Int)=(↑(wkN ts (f+(1:Nat)) ab a fs).a:Int))∧(PE (wkN ts (f+1) ab a fs).e=PE (wkN ts (f+1) ab a fs).e)∧((wkN ts (f+1) ab a fs).e.isNone=(wkN ts (f+1) ab a fs).e.isNone)∧((wkB ts f a fs).fs=(wkN ts (f+(1:Nat)) ab a fs).fs)) ⟨(by(rw[wk9 ‹_› ‹_› ‹_› ‹_› ‹_› ‹_› ‹_› ‹_›] <;> rfl)),rfl,rfl,(by(rw[wk9 ‹_› ‹_› ‹_› ‹_› ‹_› ‹_› ‹_› ‹_›] <;> rfl)),rfl,rfl,(by(rw[wk9 ‹_› ‹_› ‹_› ‹_› ‹_› ‹_› ‹_› ‹_›] <;> rfl))⟩ trivial
    ·have h103:=of_decide_eq_false h103
     refine v_al [] (al_e1 (61)) True trivial ?_
     refine v_call _ [10] (faultAt_ok (((#[116,111,107,101,110]:Array UInt8).toList)) (↑a) (Er.num 61)) ((#[(116:UInt8),(111:UInt8),(107:UInt8),(101:UInt8),(110:UInt8)].toList=#[(116:UInt8),(111:UInt8),(107:UInt8),(101:UInt8),(110:UInt8)].toList)∧((↑a:Int)=(↑a:Int))∧((61:Int)=(61:Int))∧(PE (some (Er.num 61))=PE (some (Er.num 61)))∧(false=false)) ⟨rfl,rfl,rfl,rfl,rfl⟩ (fun g118 p119=>?_)
     have p119:True:=p119
     exact v_ret () [11,2] ((List.replicate 32 0=(wkN ts (f+1) ab a fs).h)∧(wordsP=wordsP)∧(ts=ts)∧((↑a:Int)+1=(↑(wkN ts (f+1) ab a fs).a:Int))∧(PE (some (Er.step ((#[116,111,107,101,110]:Array UInt8).toList) (↑a) (Er.num 61)))=PE (wkN ts (f+1) ab a fs).e)∧(false=(wkN ts (f+1) ab a fs).e.isNone)∧(fs=(wkN ts (f+1) ab a fs).fs)) ⟨(by(rw[wk6 ‹_› ‹_› ‹_› ‹_›] <;> rfl)),rfl,rfl,(by(rw[wk6 ‹_› ‹_› ‹_› ‹_›] <;> rfl)),(by(rw[wk6 ‹_› ‹_› ‹_› ‹_›] <;> rfl)),(by(rw[wk6 ‹_› ‹_› ‹_› ‹_›] <;> rfl)),(by(rw[wk6 ‹_› ‹_› ‹_› ‹_›] <;> rfl))⟩ trivial
def StI (a b:List Token) (i:Nat):Prop:=a.take i=b.take i∧i≤a.length∧a.length=b.length
section
variable {a b:List Token} {i:Nat}
theorem StI.start (h:¬ (a.length:Int)≠(b.length:Int)):StI a b 0:=⟨by simp,Nat.zero_le _,by omega⟩
theorem StI.len (h:(a.length:Int)≠(b.length:Int)):false=decide (a=b):=(decide_eq_false fun e=>h (by rw[e])).symm
theorem take_tok {l:List Token} {n:Nat} (h:n<l.length):l.take (n+1)=l.take n++[l.getD n kT0]:=by
  rw[List.take_succ,List.getD_eq_getElem?_getD,List.getElem?_eq_getElem h];rfl
theorem StI.next (h:StI a b i) (hi:(i:Int)<a.length) (he:a.getD (i:Int).toNat kT0=b.getD (i:Int).toNat kT0):StI a b (i+1)∧a.length - (i+1)<a.length - i:=by
  obtain⟨h1,h2,h3⟩:=h
  rw[Int.toNat_natCast] at he
  exact⟨⟨by rw[take_tok (by omega),take_tok (by omega),h1,he],by omega,h3⟩,by omega⟩
theorem StI.bad (h:a.getD (i:Int).toNat kT0≠b.getD (i:Int).toNat kT0):false=decide (a=b):=(decide_eq_false fun e=>h (by rw[e])).symm
theorem StI.end (h:StI a b i) (hi:¬ (i:Int)<a.length):true=decide (a=b):=by
  obtain⟨h1,h2,h3⟩:=h
  rw[List.take_of_length_le (by omega),List.take_of_length_le (by omega)] at h1
  exact(decide_eq_true h1).symm
end
def smK (ks:List (List UInt8)):Nat→List (List UInt8)
  | 0=>[]
  | n+1=>smK ks n++(if n<10∧(ks.getD n []).length≤96 then[ks.getD n []] else[])
def smX (l:List Pair) (wh:List UInt8) (n:Nat):List UInt8:=(l.getD (((wh.getD n 0).toNat:Int) % (l.length:Int)).toNat dP).key
def smW (l:List Pair) (wh:List UInt8):Nat→List (List UInt8)
  | 0=>[]
  | n+1=>smW l wh n++(if n<10∧0<l.length then[if n % 3=2 then smX l wh n++[1] else smX l wh n] else[])
def smP (l:List Pair) (ks:List (List UInt8)) (wh:List UInt8):List (List UInt8):=smK ks ks.length++smW l wh wh.length
theorem smK_len (ks:List (List UInt8)):∀ n,(smK ks n).length≤min n 10
  | 0=>Nat.zero_le _
  | n+1=>by have:=smK_len ks n;unfold smK;split <;> simp <;> omega
theorem smW_len (l:List Pair) (wh:List UInt8):∀ n,(smW l wh n).length≤min n 10
  | 0=>Nat.zero_le _
  | n+1=>by have:=smW_len l wh n;unfold smW;split <;> simp <;> omega
theorem smP_len (l:List Pair) (ks:List (List UInt8)) (wh:List UInt8):(smP l ks wh).length≤20:=by
  have:=smK_len ks ks.length;have:=smW_len l wh wh.length;unfold smP;rw[List.length_append];omega
section
variable {l:List Pair} {ks:List (List UInt8)} {wh:List UInt8} {i:Nat}
theorem sm1 (h:(i:Int)<10) (h2:((ks.getD (i:Int).toNat []).length:Int)≤96):smK ks i++[ks.getD (i:Int).toNat []]=smK ks (i+1):=by rw[Int.toNat_natCast] at *;rw[smK,if_pos ⟨by omega,by omega⟩]
theorem sm2 (h2:¬ ((ks.getD (i:Int).toNat []).length:Int)≤96):smK ks i=smK ks (i+1):=by rw[Int.toNat_natCast] at *;rw[smK,if_neg (fun e=>h2 (by omega)),List.append_nil]
theorem sm3 (h:¬ (i:Int)<10):smK ks i=smK ks (i+1):=by rw[smK,if_neg (fun e=>h (by omega)),List.append_nil]
theorem sm4:(smK ks i).length+1≤1000000:=by have:=smK_len ks i;omega
end
section
variable {l:List Pair} {ks:List (List UInt8)} {wh:List UInt8} {i j:Nat}
abbrev smY (l:List Pair) (wh:List UInt8) (j:Nat):List UInt8:=(l.getD (((wh.getD (j:Int).toNat 0).toNat:Int) % (l.length:Int)).toNat dP).key
theorem sw0:smK ks i=smK ks i++smW l wh 0:=(List.append_nil _).symm
theorem sw1 (h:(0:Int)<(l.length:Int)) {x:UInt8}:(0:Int)≤(x.toNat:Int) % (l.length:Int)∧(x.toNat:Int) % (l.length:Int)<(l.length:Int):=⟨Int.emod_nonneg _ (by omega),Int.emod_lt_of_pos _ h⟩
theorem getD_key (hk:∀ p∈l,p.key.length≤1000) (n:Nat):(l.getD n dP).key.length≤1000:=by
  rw[List.getD_eq_getElem?_getD]
  cases h:l[n]? with
  | none=>exact Nat.zero_le _
  | some x=>exact hk x (List.mem_of_getElem? h)
theorem sw2 (hk:∀ p∈l,p.key.length≤1000) {n:Nat}:0+(l.getD n dP).key.length≤1000000:=by have:=getD_key hk n;omega
theorem sw3 (hk:∀ p∈l,p.key.length≤1000) {n:Nat}:([]++(l.getD n dP).key).length+1≤1000000:=by have:=getD_key hk n;rw[List.nil_append];omega
theorem sw4:(smK ks i++smW l wh j).length+1≤1000000:=by have:=smK_len ks i;have:=smW_len l wh j;rw[List.length_append];omega
theorem sw5 (h:(j:Int)<10) (h0:(0:Int)<(l.length:Int)) (h3:(j:Int) % 3=2):smK ks i++smW l wh j++[[]++smY l wh j++[1]]=smK ks i++smW l wh (j+1):=by
  rw[List.append_assoc];congr 1;rw[smW,if_pos ⟨by omega,by omega⟩,if_pos (by omega)];rfl
theorem sw6 (h:(j:Int)<10) (h0:(0:Int)<(l.length:Int)) (h3:¬ (j:Int) % 3=2):smK ks i++smW l wh j++[smY l wh j]=smK ks i++smW l wh (j+1):=by
  rw[List.append_assoc];congr 1;rw[smW,if_pos ⟨by omega,by omega⟩,if_neg (by omega)];rfl
theorem sw7 (h0:¬ (0:Int)<(l.length:Int)):smK ks i++smW l wh j=smK ks i++smW l wh (j+1):=by rw[smW,if_neg (fun e=>h0 (by omega)),List.append_nil]
theorem sw8 (h:¬ (j:Int)<10):smK ks i++smW l wh j=smK ks i++smW l wh (j+1):=by rw[smW,if_neg (fun e=>h (by omega)),List.append_nil]
theorem sw9 (hi:i≤ks.length) (h:¬ (i:Int)<ks.length) (hj:j≤wh.length) (h2:¬ (j:Int)<wh.length):smK ks i++smW l wh j=smP l ks wh:=by
  rw[show i=ks.length by omega,show j=wh.length by omega];rfl
end
noncomputable def ccN2_44:Code:=(Tryd.f44.body).getD .skip
theorem some10_ok (l:List Pair) (ks:List (List UInt8)) (wh:List UInt8) (hl:l.length≤100000) (hk:∀ p∈l,p.key.length≤1000) (hkl:ks.length≤140737488355328) (hwl:wh.length≤140737488355328):FOk EN 44 ⟨[.rd 46 (l),.rd 22 ks,.rd 5 (wh)],[.n 0,.n 1,.n 2],Unit,fun _=>([.rd 46 (l),.rd 22 ks,.rd 5 (wh),.ow 22 (smP l ks wh)],.n 3),fun _=>True⟩:=by
 refine v_fun Tryd.f44 ccN2_44 MX (fun ν F σ w=>?_) Tryd.func44
 refine v_nl ?_
 refine v_loop (fun i:Nat=>([(15,.i i),(7,.n 4)],[.ow 22 (smK ks i)])) (fun i=>i≤ks.length) (fun i=>ks.length - i) 0 [3] (((0:Int)=(↑(0:Nat):Int))∧([]=smK ks 0)) ⟨rfl,rfl⟩ (by omega) (fun i hk1=>?_)
 refine v_if (decide ((↑i:Int)<(↑ks.length:Int))) True trivial (fun h2=>?_) (fun h2=>?_)
 ·have h2:=of_decide_eq_true h2
  refine v_guard 22 (decide ((↑i:Int)<10)) ((0≤(↑i:Int)∧(↑i:Int)<(↑ks.length:Int))) (by omega) (fun h3=>?_) (fun h3=>?_)
  ·have h3:=of_decide_eq_true h3
   refine v_if (decide ((↑(ks.getD (↑i:Int).toNat []).length:Int)≤96)) True trivial (fun h4=>?_) (fun h4=>?_)
   ·have h4:=of_decide_eq_true h4
    exact v_back (i+1) [8] (((smK ks i).length+1≤1000000)∧(I64 (↑i+1))∧((↑i:Int)+1=(↑(i+1):Int))∧(smK ks i++[ks.getD (↑i:Int).toNat []]=smK ks (i+1))) ⟨(by exact sm4),(by(unfold I64;omega)),rfl,(by exact sm1 ‹_› ‹_›)⟩ (show i+1≤ks.length∧ks.length - (i+1)<ks.length - i from(by omega))
   ·have h4:=of_decide_eq_false h4
    exact v_back (i+1) [4] ((I64 (↑i+1))∧((↑i:Int)+1=(↑(i+1):Int))∧(smK ks i=smK ks (i+1))) ⟨(by(unfold I64;omega)),rfl,(by exact sm2 ‹_›)⟩ (show i+1≤ks.length∧ks.length - (i+1)<ks.length - i from(by omega))
  ·have h3:=of_decide_eq_false h3
   exact v_back (i+1) [4] ((I64 (↑i+1))∧((↑i:Int)+1=(↑(i+1):Int))∧(smK ks i=smK ks (i+1))) ⟨(by(unfold I64;omega)),rfl,(by exact sm3 ‹_›)⟩ (show i+1≤ks.length∧ks.length - (i+1)<ks.length - i from(by omega))
 ·have h2:=of_decide_eq_false h2
  refine v_leave (.ex 0) True trivial ?_
  refine v_loop (fun j:Nat=>([(34,.i j),(7,.n 5)],[.ow 22 (smK ks i++smW l wh j)])) (fun j=>j≤wh.length) (fun j=>wh.length - j) 0 [4] (((0:Int)=(↑(0:Nat):Int))∧(smK ks i=smK ks i++smW l wh 0)) ⟨rfl,(by exact sw0)⟩ (by omega) (fun j hk5=>?_)
  refine v_if (decide ((↑j:Int)<(↑wh.length:Int))) True trivial (fun h6=>?_) (fun h6=>?_)
  ·have h6:=of_decide_eq_true h6
   refine v_guard 41 (decide ((↑j:Int)<10)) ((0≤(↑j:Int)∧(↑j:Int)<(↑wh.length:Int))) (by omega) (fun h7=>?_) (fun h7=>?_)
   ·have h7:=of_decide_eq_true h7
    refine v_if (decide (0<(↑l.length:Int))) True trivial (fun h8=>?_) (fun h8=>?_)
    ·have h8:=of_decide_eq_true h8
     refine v_if (decide ((↑j:Int) % 3=2)) ((0≤(↑(wh.getD (↑j:Int).toNat 0).toNat:Int)∧0<(↑l.length:Int))∧(0≤(↑(wh.getD (↑j:Int).toNat 0).toNat:Int) % (↑l.length:Int)∧(↑(wh.getD (↑j:Int).toNat 0).toNat:Int) % (↑l.length:Int)<(↑l.length:Int))∧((0:Int)≤(↑j:Int)∧(0:Int)<(3:Int))) ⟨(by omega),(by exact sw1 ‹_›),(by omega)⟩ (fun h9=>?_) (fun h9=>?_)
     ·have h9:=of_decide_eq_true h9
      exact v_back (j+1) [15] ((0+(l.getD ((↑(wh.getD (↑j:Int).toNat 0).toNat:Int) % (↑l.length:Int)).toNat (Pair.mk [] [])).key.length≤1000000)∧(([]++(l.getD ((↑(wh.getD (↑j:Int).toNat 0).toNat:Int) % (↑l.length:Int)).toNat (Pair.mk [] [])).key).length+1≤1000000)∧((smK ks i++smW l wh j).length+1≤1000000)∧(I64 (↑j+1))∧((↑j:Int)+1=(↑(j+1):Int))∧(smK ks i++smW l wh j++[[]++(l.getD ((↑(wh.getD (↑j:Int).toNat 0).toNat:Int) % (↑l.length:Int)).toNat (Pair.mk [] [])).key++[1]]=smK ks i++smW l wh (j+1))) ⟨(by exact sw2 hk),(by exact sw3 hk),(by exact sw4),(by(unfold I64;omega)),rfl,(by exact sw5 ‹_› ‹_› ‹_›)⟩ (show j+1≤wh.length∧wh.length - (j+1)<wh.length - j from(by omega))
     ·have h9:=of_decide_eq_false h9
      exact v_back (j+1) [11] (((smK ks i++smW l wh j).length+1≤1000000)∧(I64 (↑j+1))∧((↑j:Int)+1=(↑(j+1):Int))∧(smK ks i++smW l wh j++[(l.getD ((↑(wh.getD (↑j:Int).toNat 0).toNat:Int) % (↑l.length:Int)).toNat (Pair.mk [] [])).key]=smK ks i++smW l wh (j+1))) ⟨(by exact sw4),(by(unfold I64;omega)),rfl,(by exact sw6 ‹_› ‹_› ‹_›)⟩ (show j+1≤wh.length∧wh.length - (j+1)<wh.length - j from(by omega))
    ·have h8:=of_decide_eq_false h8
     exact v_back (j+1) [5] ((I64 (↑j+1))∧((↑j:Int)+1=(↑(j+1):Int))∧(smK ks i++smW l wh j=smK ks i++smW l wh (j+1))) ⟨(by(unfold I64;omega)),rfl,(by exact sw7 ‹_›)⟩ (show j+1≤wh.length∧wh.length - (j+1)<wh.length - j from(by omega))
   ·have h7:=of_decide_eq_false h7
    exact v_back (j+1) [5] ((I64 (↑j+1))∧((↑j:Int)+1=(↑(j+1):Int))∧(smK ks i++smW l wh j=smK ks i++smW l wh (j+1))) ⟨(by(unfold I64;omega)),rfl,(by exact sw8 ‹_›)⟩ (show j+1≤wh.length∧wh.length - (j+1)<wh.length - j from(by omega))
  ·have h6:=of_decide_eq_false h6
   refine v_leave (.ex 2) True trivial ?_
   exact v_ret () [5] ((l=l)∧(ks=ks)∧(wh=wh)∧(smK ks i++smW l wh j=smP l ks wh)) ⟨rfl,rfl,rfl,(by exact sw9 ‹_› ‹_› ‹_› ‹_›)⟩ trivial
theorem findG_ge {k:List UInt8}:∀ {l:List Pair} {i:Nat},0≤findG k l i↔∃ p∈l,p.key=k
  | [],i=>by simp[findG]
  | x :: xs, i => by
    unfold findG
    split
    · rename_i h;exact⟨fun _=>⟨x,List.mem_cons_self ..,h⟩,fun _=>by omega⟩
    · rename_i h
      rw[findG_ge (l:=xs)]
      exact⟨fun⟨p,a,b⟩=>⟨p,List.mem_cons_of_mem _ a,b⟩,fun⟨p,a,b⟩=>by rcases List.mem_cons.1 a with rfl | a;exact absurd b h;exact⟨p,a,b⟩⟩
theorem find_ge {k:List UInt8} {l:List Pair}:0≤findP l k↔∃ p∈l,p.key=k:=findG_ge
theorem cut_there {k:List UInt8} {o:Option Tr} (h:Srt (leavesO o)) (hf:0≤findP (leavesO o) k):o.isNone=false∧((gt o).cut k).isSome=true∧cutR k (gt o)=cutO k o:=by
  obtain⟨p,hp,hk⟩:=find_ge.1 hf
  cases o with
  | none=>simp[leavesO] at hp
  | some t =>
    rcases Tr.cut_leaves k t h with⟨e,hn⟩ | ⟨r,e,e2,_⟩
    · exact absurd hk (hn p hp)
    · exact⟨rfl,by show(t.cut k).isSome=true;rw[e];rfl,by show(t.cut k).getD none=_;rw[e,show cutO k (some t)=r by simp[cutO,e]];rfl⟩
theorem cut_not {k:List UInt8} {o:Option Tr} (h:Srt (leavesO o)) (hf:¬ 0≤findP (leavesO o) k):cutO k o=o:=by
  cases o with
  | none=>rfl
  | some t =>
    rcases Tr.cut_leaves k t h with⟨e,hn⟩ | ⟨r,e,e2,p,hp,hk⟩
    · simp[cutO,e]
    · exact absurd (find_ge.2 ⟨p,hp,hk⟩) hf
def GrN (acts:List Act) (m:Nat) (q:Nat × Option Tr):Prop:=GrI acts m (q.1,q.2,leavesO q.2)∧Srt (leavesO q.2)
section
variable {acts:List Act} {m i:Nat} {o:Option Tr}
theorem GrN.start:GrN acts m (0,none):=⟨GrI.start,List.Pairwise.nil⟩
theorem GrN.put (h:GrN acts m (i,o)) (hi:(i:Int)<acts.length) (hm:¬ (m:Int)≤i) (hk:¬ 90<((keyA (acts.getD i dA)).length:Int)) (h6:(acts.getD i dA).kind % 6<4):GrN acts m (i+1,putO (keyA (acts.getD i dA)) (valA (acts.getD i dA)) o)∧acts.length - (i+1)<acts.length - i:=by
  have g:=h.1.put hi hm hk h6
  have e:leavesO (putO (keyA (acts.getD i dA)) (valA (acts.getD i dA)) o)=putPair (keyA (acts.getD i dA)) (valA (acts.getD i dA)) (leavesO o):=putO_leaves h.2
  refine⟨⟨by show GrI acts m (i+1,_,leavesO (putO _ _ o));rw[e];exact g.1,by show Srt (leavesO (putO _ _ o));rw[e];exact h.2.put⟩,by omega⟩
theorem GrN.cutO (h:GrN acts m (i,o)) (hi:(i:Int)<acts.length) (hm:¬ (m:Int)≤i) (hk:¬ 90<((keyA (acts.getD i dA)).length:Int)) (h6:¬ (acts.getD i dA).kind % 6<4):GrN acts m (i+1,X.cutO (keyA (acts.getD i dA)) o)∧acts.length - (i+1)<acts.length - i:=by
  have g:=h.1.cut hi hm hk h6
  have e:leavesO (X.cutO (keyA (acts.getD i dA)) o)=cutPair (keyA (acts.getD i dA)) (leavesO o):=cutO_leaves h.2
  refine⟨⟨by show GrI acts m (i+1,_,leavesO (X.cutO _ o));rw[e];exact g.1,by show Srt (leavesO (X.cutO _ o));rw[e];exact h.2.cut⟩,by omega⟩
theorem GrN.cut (h:GrN acts m (i,o)) (hi:(i:Int)<acts.length) (hm:¬ (m:Int)≤i) (hk:¬ 90<((keyA (acts.getD i dA)).length:Int)) (h6:¬ (acts.getD i dA).kind % 6<4) (hf:0≤findP (leavesO o) (keyA (acts.getD i dA))):GrN acts m (i+1,cutR (keyA (acts.getD i dA)) (gt o))∧acts.length - (i+1)<acts.length - i:=by
  rw[(cut_there h.2 hf).2.2];exact h.cutO hi hm hk h6
theorem GrN.skip (h:GrN acts m (i,o)) (hi:(i:Int)<acts.length) (hm:¬ (m:Int)≤i) (hk:¬ 90<((keyA (acts.getD i dA)).length:Int)) (h6:¬ (acts.getD i dA).kind % 6<4) (hf:¬ 0≤findP (leavesO o) (keyA (acts.getD i dA))):GrN acts m (i+1,o)∧acts.length - (i+1)<acts.length - i:=by
  have:=h.cutO hi hm hk h6;rwa [cut_not h.2 hf] at this
theorem GrN.hh (h:GrN acts m (i,o)) (hm:m≤100):(gt o).height<700∧(leavesO o).length≤100000:=by
  obtain⟨⟨_,a2,_,a4,_⟩,_⟩:=h
  have a2:i≤m:=a2
  have l:=a4.leaves
  have l:(leavesO o).length≤i:=l
  refine⟨?_,by omega⟩
  cases o with
  | none=>decide
  | some t=>have:=(a4 t rfl).2;have:=t.height_depth;show t.height<700;have q:t.depth+1≤i:=(a4 t rfl).2;omega
end
section
variable {acts:List Act} {m i:Nat} {o:Option Tr}
theorem GrN.s1 (h:GrN acts m (i,o)) (hi:¬ (i:Int)<acts.length):(growT acts m).1=o:=by rw[h.1.stop1 hi]
theorem GrN.s2 (h:GrN acts m (i,o)) (hi:(m:Int)≤i):(growT acts m).1=o:=by rw[h.1.stop2 hi]
theorem GrN.s3 (h:GrN acts m (i,o)) (hi:(i:Int)<acts.length) (hm:¬ (m:Int)≤i) (hk:90<((keyA (acts.getD i dA)).length:Int)):(growT acts m).1=o:=by rw[h.1.stop3 hi hm hk]
end
namespace Tr
end Tr
namespace Tr
end Tr
/-- Leaves as they come from calls. -/
def lvOk (l:List Pair):Prop:=∀ p∈l,(1≤p.key.length∧p.key.length≤90)∧p.value.length≤100
theorem growG_lv:∀(n:Nat) (acts:List Act) (s:Option Tr × List Pair),lvOk s.2→lvOk (growG n acts s).2
  | 0,acts,s,h=>by unfold growG;exact h
  | n+1,[],s,h=>by unfold growG;exact h
  | n + 1, a :: l, s, h => by
    unfold growG
    split
    · exact h
    · rename_i hk
      refine growG_lv n l _ ?_
      unfold stepA;split
      · intro p hp
        rcases mem_putPair hp with rfl | hp
        · exact⟨⟨keyA_pos a,by show(keyA a).length≤90;omega⟩,valA_len a⟩
        · exact h p hp
      · intro p hp;exact h p (List.mem_filter.1 hp).1
theorem growT_lv (acts:List Act) (m:Nat):lvOk (leavesO (growT acts m).1):=by rw[← (growT_ok acts m).2];exact growG_lv m acts _ (fun p hp=>by simp at hp)
theorem growG_okN:∀(n i:Nat) (acts:List Act) (s:Option Tr × List Pair),okN i s.1→okN (n+i) (growG n acts s).1
  | 0,i,acts,s,h=>by unfold growG;rw[Nat.zero_add];exact h
  | n+1,i,[],s,h=>by unfold growG;exact fun t e=>⟨(h t e).1,by have:=(h t e).2;omega⟩
  | n + 1, i, a :: l, s, h => by
    unfold growG
    split
    · exact fun t e=>⟨(h t e).1,by have:=(h t e).2;omega⟩
    · rename_i hk
      rw[show n+1+i=n+(i+1) by omega]
      refine growG_okN n (i+1) l _ ?_
      unfold stepA;split
      · exact okN.put h (by omega) (by have:=valA_len a;omega)
      · exact okN.cut h
theorem growT_okN (acts:List Act) (m:Nat):okN m (growT acts m).1:=by have:=growG_okN m 0 acts (none,[]) (fun t e=>by simp at e);exact this
/-- A tree as calls make it: sorted, small. -/
def fine (o:Option Tr):Prop:=Srt (leavesO o)∧lvOk (leavesO o)∧okN 64 o
theorem growT_fine (acts:List Act) (m:Nat) (hm:m≤64):fine (growT acts m).1:=⟨(growT_ok acts m).1,growT_lv acts m,fun t e=>⟨(growT_okN acts m t e).1,by have:=(growT_okN acts m t e).2;omega⟩⟩
theorem fine.O {o:Option Tr} (h:fine o):okO o:=h.2.2.O (by decide)
theorem getD_eq {L:List Pair} {j:Nat} (h:j<L.length):L.getD j dP=L[j]:=by rw[List.getD_eq_getElem?_getD,List.getElem?_eq_getElem h];rfl
theorem wk_t (ts:List Token) (hl:ts.length≤4000):∀(f:Nat) (ab:Int) (a:Nat) (fs:List Item),1≤ab→ab≤f→f≤900→a≤ts.length→fs.length≤a →
      FOk EN 96 ⟨[.pr wordsP,.rd 100 ts,.ow 190 fs,.bx 187 [.n 1,.i a,.n 2]],[.p 3 0,.i ab],Unit,fun _=>([.pr wordsP,.rd 100 ts,.no,.bx 187 [.n 1,.i (wkN ts f ab a fs).a,.n 5],.pn (PE (wkN ts f ab a fs).e) true (wkN ts f ab a fs).e.isNone,.ow 190 (wkN ts f ab a fs).fs],.t [.a [.h 32 (wkN ts f ab a fs).h],.n 4]),fun _=>True⟩
  | 0,ab,a,fs,h1,h2,_,_,_=>by omega
  | f+1,ab,a,fs,h1,h2,h3,ha,hf=>wk_aux f ts ab a fs ha hf hl h1 (by omega) fun ab' a' fs' h1' h2' ha' hf'=>wk_t ts hl f ab' a' fs' h1' (by omega) (by omega) ha' hf'
theorem wk65_ok (ts:List Token) (hl:ts.length≤4000):FOk EN 96 ⟨[.pr wordsP,.rd 100 ts,.ow 190 [],.bx 187 [.n 1,.i 0,.n 2]],[.p 3 0,.i 65],Unit,fun _=>([.pr wordsP,.rd 100 ts,.no,.bx 187 [.n 1,.i (wkN ts 65 65 0 []).a,.n 5],.pn (PE (wkN ts 65 65 0 []).e) true (wkN ts 65 65 0 []).e.isNone,.ow 190 (wkN ts 65 65 0 []).fs],.t [.a [.h 32 (wkN ts 65 65 0 []).h],.n 4]),fun _=>True⟩ :=
  wk_t ts hl 65 65 0 [] (by decide) (by decide) (by decide) (Nat.zero_le _) (Nat.le_refl _)
/-- do the leaves' keys rise? -/
def ordI:List UInt8→List Item→Bool
  | _,[]=>true
  | last,x::r=>if x.hidden=true then ordI last r else if 0≤Lib.compareBytes last x.key then false else ordI x.key r
def chkR (root:List UInt8) (ts:List Token):Option Er × List Item :=
  if 2048<(ts.length:Int) then(some (.step ((#[116,111,107,101,110,115]:Array UInt8).toList) ts.length (.num 3)),[])
  else if(ts.length:Int)=0∧root=sum256 [] then(none,[])
  else if(wkN ts 65 65 0 []).e.isNone=false then((wkN ts 65 65 0 []).e,[])
  else if((wkN ts 65 65 0 []).a:Int)<ts.length then(tokE (wkN ts 65 65 0 []).a 3,[])
  else if ¬ (wkN ts 65 65 0 []).h=root then(some (.step ((#[114,111,111,116]:Array UInt8).toList) 0 (.num 21)),[])
  else if ordI [] (wkN ts 65 65 0 []).fs=false then(some (.step ((#[111,114,100,101,114]:Array UInt8).toList) 0 (.num 5)),[])
  else(none,(wkN ts 65 65 0 []).fs)
def fo (r:Option Er × List Item):Option (List Item):=if r.1.isNone=true then some r.2 else none
def PFh (σ:Nat→Nat) (w:World):Option (List Item)→Value→Prop
  | none,v=>v=.pointer none
  | some fs,v=>∃ b o x,v=.pointer (some ⟨b,o,none⟩)∧Seg σ w b o [x]∧Rd (GT.Γ 190).T σ w x fs
def PF (o:Option (List Item)):PP:=⟨fun σ w v=>PFh σ w o v,fun {M σ w σ' w' v} st h=>by
  cases o with
  | none=>exact h
  | some t=>obtain⟨b,o,x,e,hs,ha⟩:=h;exact⟨b,o,x,e,hs.step st,ha.step st⟩⟩
theorem open_f (fs:List Item):Opens (G:=GT) (PF (some fs)) (fun _=>[.rd 190 fs]) (fun b=>[.n b]):=by
  rintro base σ w x ⟨b,o,y,e,h,ha⟩
  have hy:y.oneCell'=true:=by obtain⟨a,c,e,_⟩:=ha.form;rw[e];rfl
  refine⟨fun n=>if n=0 then y else .bool false,fun n=>by dsimp only;split;exact hy;rfl,fun ν hν=>⟨fun i en hi=>?_,b,o,e,?_⟩⟩
  · match i, hi with
    | 0,hi=>simp only[List.getElem?_cons_zero,Option.some.injEq] at hi;subst hi;exact ha
    | i+1,hi=>simp at hi
  · have e0 := hν 0 (by simp)
    simp only[Nat.add_zero,if_true] at e0
    simpa [denC,den,e0] using h
theorem close_f (fs:List Item):Closes (G:=GT) (PF (some fs)) [.rd 190 fs] [.n 0]:=by
  intro ν σ w x b hE e hS
  exact⟨b,0,ν 0,e,by simpa [denC,den] using hS,hE 0 _ rfl⟩
theorem close_f_any (o:Option (List Item)) (fs:List Item) (h:o=some fs):Closes (G:=GT) (PF o) [.rd 190 fs] [.n 0]:=by subst h;exact close_f fs
theorem al_f0 (o:Option (List Item)) (h:o=none):AlOk (G:=GT) (PF o) false o.isNone [] (.v (.pointer none)):=by subst h;exact al_nil (i:=false) (fun _ _=>rfl)
section
variable {root:List UInt8} {ts:List Token}
abbrev wkR (ts:List Token):WR:=wkN ts 65 65 0 []
theorem ck1 (h:2048<(ts.length:Int)):chkR root ts=(some (.step ((#[116,111,107,101,110,115]:Array UInt8).toList) ts.length (.num 3)),[]):=by unfold chkR;rw[if_pos h]
theorem ck2 (h:¬ 2048<(ts.length:Int)) (h1:(ts.length:Int)=0) (h2:root=sum256 []):chkR root ts=(none,[]):=by unfold chkR;rw[if_neg h,if_pos ⟨h1,h2⟩]
theorem ck3 (h:¬ 2048<(ts.length:Int)) (h1:¬ ((ts.length:Int)=0∧root=sum256 [])) (h2:(wkR ts).e.isNone=false):chkR root ts=((wkR ts).e,[]):=by unfold chkR;rw[if_neg h,if_neg h1,if_pos h2]
theorem ck4 (h:¬ 2048<(ts.length:Int)) (h1:¬ ((ts.length:Int)=0∧root=sum256 [])) (h2:(wkR ts).e.isNone=true) (h3:((wkR ts).a:Int)<ts.length):chkR root ts=(tokE (wkR ts).a 3,[]):=by
  unfold chkR;rw[if_neg h,if_neg h1,if_neg (by rw[h2];decide),if_pos h3]
theorem ck5 (h:¬ 2048<(ts.length:Int)) (h1:¬ ((ts.length:Int)=0∧root=sum256 [])) (h2:(wkR ts).e.isNone=true) (h3:¬ ((wkR ts).a:Int)<ts.length) (h4:¬ (wkR ts).h=root):chkR root ts=(some (.step ((#[114,111,111,116]:Array UInt8).toList) 0 (.num 21)),[]):=by
  unfold chkR;rw[if_neg h,if_neg h1,if_neg (by rw[h2];decide),if_neg h3,if_pos h4]
theorem ck6 (h:¬ 2048<(ts.length:Int)) (h1:¬ ((ts.length:Int)=0∧root=sum256 [])) (h2:(wkR ts).e.isNone=true) (h3:¬ ((wkR ts).a:Int)<ts.length) (h4:(wkR ts).h=root) (h5:ordI [] (wkR ts).fs=false):chkR root ts=(some (.step ((#[111,114,100,101,114]:Array UInt8).toList) 0 (.num 5)),[]):=by
  unfold chkR;rw[if_neg h,if_neg h1,if_neg (by rw[h2];decide),if_neg h3,if_neg (fun e=>e h4),if_pos h5]
theorem ck7 (h:¬ 2048<(ts.length:Int)) (h1:¬ ((ts.length:Int)=0∧root=sum256 [])) (h2:(wkR ts).e.isNone=true) (h3:¬ ((wkR ts).a:Int)<ts.length) (h4:(wkR ts).h=root) (h5:ordI [] (wkR ts).fs=true):chkR root ts=(none,(wkR ts).fs):=by
  unfold chkR;rw[if_neg h,if_neg h1,if_neg (by rw[h2];decide),if_neg h3,if_neg (fun e=>e h4),if_neg (by rw[h5];decide)]
theorem fo3 (h:¬ 2048<(ts.length:Int)) (h1:¬ ((ts.length:Int)=0∧root=sum256 [])) (h2:(wkR ts).e.isNone=false):fo (chkR root ts)=none:=by
  rw[ck3 h h1 h2];unfold fo;rw[if_neg (by show ¬ (wkR ts).e.isNone=true;rw[h2];decide)]
end
abbrev dI:Item:=⟨false,[],[]⟩
def OrI (fs:List Item) (q:Nat × List UInt8):Prop:=ordI q.2 (fs.drop q.1)=ordI [] fs∧q.1≤fs.length
def oiS (fs:List Item) (q:Nat × List UInt8):Nat × List UInt8:=(q.1+1,if(fs.getD q.1 dI).hidden=true then q.2 else(fs.getD q.1 dI).key)
section
variable {fs:List Item} {q:Nat × List UInt8}
theorem drop_item (hi:(q.1:Int)<fs.length):fs.drop q.1=fs.getD q.1 dI::fs.drop (q.1+1):=by
  have h:q.1<fs.length:=by omega
  rw[List.drop_eq_getElem_cons h,List.getD_eq_getElem?_getD,List.getElem?_eq_getElem h];rfl
theorem OrI.start:OrI fs (0,[]):=⟨rfl,Nat.zero_le _⟩
theorem OrI.nextH (h:OrI fs q) (hi:(q.1:Int)<fs.length) (hh:(fs.getD (q.1:Int).toNat dI).hidden=true):OrI fs (oiS fs q)∧fs.length - (oiS fs q).1<fs.length - q.1:=by
  rw[Int.toNat_natCast] at hh
  refine⟨⟨?_,by show q.1+1≤_;omega⟩,by show fs.length - (q.1+1)<_;omega⟩
  rw[← h.1,drop_item hi];unfold oiS;rw[ordI,if_pos hh,if_pos hh]
theorem OrI.nextN (h:OrI fs q) (hi:(q.1:Int)<fs.length) (hh:(fs.getD (q.1:Int).toNat dI).hidden=false) (hc:¬ 0≤Lib.compareBytes q.2 (fs.getD (q.1:Int).toNat dI).key):OrI fs (oiS fs q)∧fs.length - (oiS fs q).1<fs.length - q.1:=by
  rw[Int.toNat_natCast] at hh hc
  refine⟨⟨?_,by show q.1+1≤_;omega⟩,by show fs.length - (q.1+1)<_;omega⟩
  rw[← h.1,drop_item hi];unfold oiS;rw[ordI,if_neg (by rw[hh];decide),if_neg hc,if_neg (by rw[hh];decide)]
theorem OrI.bad (h:OrI fs q) (hi:(q.1:Int)<fs.length) (hh:(fs.getD (q.1:Int).toNat dI).hidden=false) (hc:0≤Lib.compareBytes q.2 (fs.getD (q.1:Int).toNat dI).key):ordI [] fs=false:=by
  rw[Int.toNat_natCast] at hh hc
  rw[← h.1,drop_item hi,ordI,if_neg (by rw[hh];decide),if_pos hc]
theorem OrI.end (h:OrI fs q) (hi:¬ (q.1:Int)<fs.length):ordI [] fs=true:=by
  rw[← h.1,List.drop_of_length_le (by omega)];rfl
theorem oiH (hh:(fs.getD (q.1:Int).toNat dI).hidden=true):q.2=(oiS fs q).2:=by rw[Int.toNat_natCast] at hh;unfold oiS;rw[if_pos hh]
theorem oiN (hh:(fs.getD (q.1:Int).toNat dI).hidden=false):(fs.getD (q.1:Int).toNat dI).key=(oiS fs q).2:=by rw[Int.toNat_natCast] at *;unfold oiS;rw[if_neg (by rw[hh];decide)]
end
noncomputable def ccM7_50:Code:=(Tryd.f50.body).getD .skip
theorem Check_ok (root:List UInt8) (ts:List Token) (hr:root.length=32) (hl:ts.length≤100000):FOk EN 50 ⟨[.pr wordsP,.rd 100 ts],[.a [.h 32 root],.n 1],Unit,fun _=>([.pr wordsP,.rd 100 ts,.pn (PF (fo (chkR root ts))) false (fo (chkR root ts)).isNone,.pn (PE (chkR root ts).1) true (chkR root ts).1.isNone],.t [.n 2,.n 3]),fun _=>True⟩:=by
 refine v_fun Tryd.f50 ccM7_50 MX (fun ν F σ w=>?_) Tryd.func50
 refine v_nl ?_
 refine v_if (decide (2048<(↑ts.length:Int))) True trivial (fun h1=>?_) (fun h1=>?_)
 ·have h1:=of_decide_eq_true h1
  refine v_al [] (al_e1 (3)) True trivial ?_
  refine v_call _ [4] (faultAt_ok (#[116,111,107,101,110,115].toList) (↑ts.length) (Er.num 3)) ((#[(116:UInt8),(111:UInt8),(107:UInt8),(101:UInt8),(110:UInt8),(115:UInt8)].toList=#[(116:UInt8),(111:UInt8),(107:UInt8),(101:UInt8),(110:UInt8),(115:UInt8)].toList)∧((↑ts.length:Int)=(↑ts.length:Int))∧((3:Int)=(3:Int))∧(PE (some (Er.num 3))=PE (some (Er.num 3)))∧(false=false)) ⟨rfl,rfl,rfl,rfl,rfl⟩ (fun g2 p3=>?_)
  have p3:True:=p3
  refine v_al [] (al_f0 (fo (chkR root ts)) (by(rw[ck1 ‹_›] <;> rfl))) True trivial ?_
  exact v_ret () [6,5] ((wordsP=wordsP)∧(ts=ts)∧(PF (fo (chkR root ts))=PF (fo (chkR root ts)))∧((fo (chkR root ts)).isNone=(fo (chkR root ts)).isNone)∧(PE (some (Er.step #[116,111,107,101,110,115].toList (↑ts.length) (Er.num 3)))=PE (chkR root ts).fst)∧(false=(chkR root ts).fst.isNone)) ⟨rfl,rfl,rfl,rfl,(by(rw[ck1 ‹_›] <;> rfl)),(by(rw[ck1 ‹_›] <;> rfl))⟩ trivial
 ·have h1:=of_decide_eq_false h1
  refine v_plan (.fs [0,1,2,3,4] (.o 5 (.fs [6,7,8] .e))) [3] True trivial ?_
  refine v_guard 24 (decide ((↑ts.length:Int)=0)) True trivial (fun h4=>?_) (fun h4=>?_)
  ·have h4:=of_decide_eq_true h4
   refine v_call _ [0] (Empty_ok) ((wordsP=wordsP)) rfl (fun g5 p6=>?_)
   have p6:True:=p6
   refine v_if (decide (root=sum256 [])) ((EN.P.eqGuardType EN.P.depth (52:Nat)=false)∧(root.length=32)∧((sum256 []).length=32)) ⟨rfl,‹_›,rfl⟩ (fun h7=>?_) (fun h7=>?_)
   ·have h7:=of_decide_eq_true h7
    refine v_close 4 [2] (close_f_any (fo (chkR root ts)) ([]) (by(rw[ck2 ‹_› ‹_› ‹_›] <;> rfl))) ((Eq (α:=List Item) [] [])) rfl ?_
    refine v_al [4] (al_ptr (PF (fo (chkR root ts)))) ((PLe (PF (fo (chkR root ts))) (PF (fo (chkR root ts))))∧(false=false)) ⟨fun _ _ _ h=>h,rfl⟩ ?_
    refine v_al [] (al_e0 ((chkR root ts).fst) (by(rw[ck2 ‹_› ‹_› ‹_›] <;> rfl))) True trivial ?_
    exact v_ret () [5,6] ((wordsP=wordsP)∧(ts=ts)∧(PF (fo (chkR root ts))=PF (fo (chkR root ts)))∧(false=(fo (chkR root ts)).isNone)∧(PE (chkR root ts).fst=PE (chkR root ts).fst)∧((chkR root ts).fst.isNone=(chkR root ts).fst.isNone)) ⟨rfl,rfl,rfl,(by(rw[ck2 ‹_› ‹_› ‹_›] <;> rfl)),rfl,rfl⟩ trivial
   ·have h7:=of_decide_eq_false h7
    refine v_call _ [0,1,2,4] (wk65_ok (ts) (by omega)) (((65:Int)=(65:Int))∧(wordsP=wordsP)∧(ts=ts)∧(Eq (α:=List Item) [] [])∧((0:Int)=(0:Int))) ⟨rfl,rfl,rfl,rfl,rfl⟩ (fun g8 p9=>?_)
    have p9:True:=p9
    refine v_run True trivial ?_
    refine v_nl ?_
    refine v_if (!(wkN ts 65 65 0 []).e.isNone) True trivial (fun h10=>?_) (fun h10=>?_)
    ·have h10:=(nt h10)
     refine v_al [] (al_f0 (fo (chkR root ts)) (by exact fo3 ‹_› (by first | exact fun e=>absurd e.1 ‹_› | exact fun e=>absurd e.2 ‹_›) ‹_›)) True trivial ?_
     exact v_ret () [9,5] ((wordsP=wordsP)∧(ts=ts)∧(PF (fo (chkR root ts))=PF (fo (chkR root ts)))∧((fo (chkR root ts)).isNone=(fo (chkR root ts)).isNone)∧(PE (wkN ts 65 65 0 []).e=PE (chkR root ts).fst)∧((wkN ts 65 65 0 []).e.isNone=(chkR root ts).fst.isNone)) ⟨rfl,rfl,rfl,rfl,(by(rw[ck3 ‹_› (by first | exact fun e=>absurd e.1 ‹_› | exact fun e=>absurd e.2 ‹_›) ‹_›] <;> first | rfl | assumption)),(by(rw[ck3 ‹_› (by first | exact fun e=>absurd e.1 ‹_› | exact fun e=>absurd e.2 ‹_›) ‹_›] <;> first | rfl | assumption))⟩ trivial
    ·have h10:=(nf h10)
     refine v_if (decide ((↑(wkN ts 65 65 0 []).a:Int)<(↑ts.length:Int))) True trivial (fun h11=>?_) (fun h11=>?_)
     ·have h11:=of_decide_eq_true h11
      omega
     ·have h11:=of_decide_eq_false h11
      refine v_if (!decide ((wkN ts 65 65 0 []).h=root)) ((EN.P.eqGuardType EN.P.depth (52:Nat)=false)∧((wkN ts 65 65 0 []).h.length=32)∧(root.length=32)) ⟨rfl,(by exact(wk_inv ts 65 65 0 [] (Nat.zero_le _) (Nat.le_refl _)).2.2),‹_›⟩ (fun h12=>?_) (fun h12=>?_)
      ·have h12:=of_decide_eq_false (nt h12)
       refine v_al [] (al_e1 (21)) True trivial ?_
       refine v_call _ [9] (faultAt_ok (#[114,111,111,116].toList) (0) (Er.num 21)) ((#[(114:UInt8),(111:UInt8),(111:UInt8),(116:UInt8)].toList=#[(114:UInt8),(111:UInt8),(111:UInt8),(116:UInt8)].toList)∧((0:Int)=(0:Int))∧((21:Int)=(21:Int))∧(PE (some (Er.num 21))=PE (some (Er.num 21)))∧(false=false)) ⟨rfl,rfl,rfl,rfl,rfl⟩ (fun g13 p14=>?_)
       have p14:True:=p14
       refine v_al [] (al_f0 (fo (chkR root ts)) (by(rw[ck5 ‹_› (by first | exact fun e=>absurd e.1 ‹_› | exact fun e=>absurd e.2 ‹_›) ‹_› ‹_› ‹_›] <;> rfl))) True trivial ?_
       exact v_ret () [11,10] ((wordsP=wordsP)∧(ts=ts)∧(PF (fo (chkR root ts))=PF (fo (chkR root ts)))∧((fo (chkR root ts)).isNone=(fo (chkR root ts)).isNone)∧(PE (some (Er.step #[114,111,111,116].toList 0 (Er.num 21)))=PE (chkR root ts).fst)∧(false=(chkR root ts).fst.isNone)) ⟨rfl,rfl,rfl,rfl,(by(rw[ck5 ‹_› (by first | exact fun e=>absurd e.1 ‹_› | exact fun e=>absurd e.2 ‹_›) ‹_› ‹_› ‹_›] <;> rfl)),(by(rw[ck5 ‹_› (by first | exact fun e=>absurd e.1 ‹_› | exact fun e=>absurd e.2 ‹_›) ‹_› ‹_› ‹_›] <;> rfl))⟩ trivial
      ·have h12:=of_decide_eq_true (nf h12)
       refine v_loop (fun q:Nat × List UInt8=>([(68,.i q.1),(9,.n 9)],[.rd 5 (q.2)])) (fun q=>OrI (wkR ts).fs q) (fun q=>(wkR ts).fs.length - q.1) (0,[]) [8] (((0:Int)=(↑(0:Nat):Int))∧(Eq (α:=List UInt8) [] [])) ⟨rfl,rfl⟩ (by exact⟨rfl,Nat.zero_le _⟩) (fun q hk15=>?_)
       refine v_if (decide ((↑q.fst:Int)<(↑(wkN ts 65 65 0 []).fs.length:Int))) True trivial (fun h16=>?_) (fun h16=>?_)
       ·have h16:=of_decide_eq_true h16
        refine v_if (((wkN ts 65 65 0 []).fs.getD (↑q.fst:Int).toNat (Item.mk false [] [])).hidden) ((0≤(↑q.fst:Int)∧(↑q.fst:Int)<(↑(wkN ts 65 65 0 []).fs.length:Int))) (by omega) (fun h17=>?_) (fun h17=>?_)
        ·skip
         exact v_back (oiS (wkR ts).fs q) [9] ((I64 (↑q.fst+1))∧((↑q.fst:Int)+1=(↑(oiS (wkR ts).fs q).fst:Int))∧(q.snd=(oiS (wkR ts).fs q).snd)) ⟨(by(have hw:=wk_inv ts 65 65 0 [] (Nat.zero_le _) (Nat.le_refl _);first | omega | (unfold I64;omega))),rfl,(by exact oiH ‹_›)⟩ (show OrI (wkR ts).fs (oiS (wkR ts).fs q)∧(wkR ts).fs.length - (oiS (wkR ts).fs q).fst<(wkR ts).fs.length - q.fst from(by exact OrI.nextH ‹_› ‹_› ‹_›))
        ·skip
         refine v_call _ [9,10] (bcmp_ok (q.snd) (((wkN ts 65 65 0 []).fs.getD (↑q.fst:Int).toNat (Item.mk false [] [])).key)) ((q.snd=q.snd)∧(((wkN ts 65 65 0 []).fs.getD (↑q.fst:Int).toNat (Item.mk false [] [])).key=((wkN ts 65 65 0 []).fs.getD (↑q.fst:Int).toNat (Item.mk false [] [])).key)) ⟨rfl,rfl⟩ (fun g18 p19=>?_)
         have p19:True:=p19
         refine v_if (decide (0≤Lib.compareBytes q.snd ((wkN ts 65 65 0 []).fs.getD (↑q.fst:Int).toNat (Item.mk false [] [])).key)) True trivial (fun h20=>?_) (fun h20=>?_)
         ·have h20:=of_decide_eq_true h20
          refine v_al [] (al_e1 (5)) True trivial ?_
          refine v_call _ [14] (faultAt_ok (#[111,114,100,101,114].toList) (0) (Er.num 5)) ((#[(111:UInt8),(114:UInt8),(100:UInt8),(101:UInt8),(114:UInt8)].toList=#[(111:UInt8),(114:UInt8),(100:UInt8),(101:UInt8),(114:UInt8)].toList)∧((0:Int)=(0:Int))∧((5:Int)=(5:Int))∧(PE (some (Er.num 5))=PE (some (Er.num 5)))∧(false=false)) ⟨rfl,rfl,rfl,rfl,rfl⟩ (fun g21 p22=>?_)
          have p22:True:=p22
          refine v_leave .rt True trivial ?_
          refine v_al [] (al_f0 (fo (chkR root ts)) (by(rw[ck6 ‹_› (by first | exact fun e=>absurd e.1 ‹_› | exact fun e=>absurd e.2 ‹_›) ‹_› ‹_› ‹_› ((‹OrI (wkR ts).fs q›).bad ‹_› ‹_› ‹_›)] <;> rfl))) True trivial ?_
          exact v_ret () [16,15] ((wordsP=wordsP)∧(ts=ts)∧(PF (fo (chkR root ts))=PF (fo (chkR root ts)))∧((fo (chkR root ts)).isNone=(fo (chkR root ts)).isNone)∧(PE (some (Er.step #[111,114,100,101,114].toList 0 (Er.num 5)))=PE (chkR root ts).fst)∧(false=(chkR root ts).fst.isNone)) ⟨rfl,rfl,rfl,rfl,(by(rw[ck6 ‹_› (by first | exact fun e=>absurd e.1 ‹_› | exact fun e=>absurd e.2 ‹_›) ‹_› ‹_› ‹_› ((‹OrI (wkR ts).fs q›).bad ‹_› ‹_› ‹_›)] <;> rfl)),(by(rw[ck6 ‹_› (by first | exact fun e=>absurd e.1 ‹_› | exact fun e=>absurd e.2 ‹_›) ‹_› ‹_› ‹_› ((‹OrI (wkR ts).fs q›).bad ‹_› ‹_› ‹_›)] <;> rfl))⟩ trivial
         ·have h20:=of_decide_eq_false h20
          exact v_back (oiS (wkR ts).fs q) [10] ((I64 (↑q.fst+1))∧((↑q.fst:Int)+1=(↑(oiS (wkR ts).fs q).fst:Int))∧(((wkN ts 65 65 0 []).fs.getD (↑q.fst:Int).toNat (Item.mk false [] [])).key=(oiS (wkR ts).fs q).snd)) ⟨(by(have hw:=wk_inv ts 65 65 0 [] (Nat.zero_le _) (Nat.le_refl _);first | omega | (unfold I64;omega))),rfl,(by exact oiN ‹_›)⟩ (show OrI (wkR ts).fs (oiS (wkR ts).fs q)∧(wkR ts).fs.length - (oiS (wkR ts).fs q).fst<(wkR ts).fs.length - q.fst from(by exact OrI.nextN ‹_› ‹_› ‹_› ‹_›))
       ·have h16:=of_decide_eq_false h16
        refine v_leave (.ex 2) True trivial ?_
        refine v_close 10 [6] (close_f_any (fo (chkR root ts)) ((wkN ts 65 65 0 []).fs) (by(rw[ck7 ‹_› (by first | exact fun e=>absurd e.1 ‹_› | exact fun e=>absurd e.2 ‹_›) ‹_› ‹_› ‹_› ((‹OrI (wkR ts).fs q›).end ‹_›)] <;> rfl))) (((wkN ts 65 65 0 []).fs=(wkN ts 65 65 0 []).fs)) rfl ?_
        refine v_al [10] (al_ptr (PF (fo (chkR root ts)))) ((PLe (PF (fo (chkR root ts))) (PF (fo (chkR root ts))))∧(false=false)) ⟨fun _ _ _ h=>h,rfl⟩ ?_
        refine v_al [] (al_e0 ((chkR root ts).fst) (by(rw[ck7 ‹_› (by first | exact fun e=>absurd e.1 ‹_› | exact fun e=>absurd e.2 ‹_›) ‹_› ‹_› ‹_› ((‹OrI (wkR ts).fs q›).end ‹_›)] <;> rfl))) True trivial ?_
        exact v_ret () [11,12] ((wordsP=wordsP)∧(ts=ts)∧(PF (fo (chkR root ts))=PF (fo (chkR root ts)))∧(false=(fo (chkR root ts)).isNone)∧(PE (chkR root ts).fst=PE (chkR root ts).fst)∧((chkR root ts).fst.isNone=(chkR root ts).fst.isNone)) ⟨rfl,rfl,rfl,(by(rw[ck7 ‹_› (by first | exact fun e=>absurd e.1 ‹_› | exact fun e=>absurd e.2 ‹_›) ‹_› ‹_› ‹_› ((‹OrI (wkR ts).fs q›).end ‹_›)] <;> rfl)),rfl,rfl⟩ trivial
  ·have h4:=of_decide_eq_false h4
   refine v_call _ [0,1,2,4] (wk65_ok (ts) (by omega)) (((65:Int)=(65:Int))∧(wordsP=wordsP)∧(ts=ts)∧(Eq (α:=List Item) [] [])∧((0:Int)=(0:Int))) ⟨rfl,rfl,rfl,rfl,rfl⟩ (fun g23 p24=>?_)
   have p24:True:=p24
   refine v_run True trivial ?_
   refine v_nl ?_
   refine v_if (!(wkN ts 65 65 0 []).e.isNone) True trivial (fun h25=>?_) (fun h25=>?_)
   ·have h25:=(nt h25)
    refine v_al [] (al_f0 (fo (chkR root ts)) (by exact fo3 ‹_› (by first | exact fun e=>absurd e.1 ‹_› | exact fun e=>absurd e.2 ‹_›) ‹_›)) True trivial ?_
    exact v_ret () [9,5] ((wordsP=wordsP)∧(ts=ts)∧(PF (fo (chkR root ts))=PF (fo (chkR root ts)))∧((fo (chkR root ts)).isNone=(fo (chkR root ts)).isNone)∧(PE (wkN ts 65 65 0 []).e=PE (chkR root ts).fst)∧((wkN ts 65 65 0 []).e.isNone=(chkR root ts).fst.isNone)) ⟨rfl,rfl,rfl,rfl,(by(rw[ck3 ‹_› (by first | exact fun e=>absurd e.1 ‹_› | exact fun e=>absurd e.2 ‹_›) ‹_›] <;> first | rfl | assumption)),(by(rw[ck3 ‹_› (by first | exact fun e=>absurd e.1 ‹_› | exact fun e=>absurd e.2 ‹_›) ‹_›] <;> first | rfl | assumption))⟩ trivial
   ·have h25:=(nf h25)
    refine v_if (decide ((↑(wkN ts 65 65 0 []).a:Int)<(↑ts.length:Int))) True trivial (fun h26=>?_) (fun h26=>?_)
    ·have h26:=of_decide_eq_true h26
     refine v_al [] (al_e1 (3)) True trivial ?_
     refine v_call _ [9] (faultAt_ok (#[116,111,107,101,110].toList) (↑(wkN ts 65 65 0 []).a) (Er.num 3)) ((#[(116:UInt8),(111:UInt8),(107:UInt8),(101:UInt8),(110:UInt8)].toList=#[(116:UInt8),(111:UInt8),(107:UInt8),(101:UInt8),(110:UInt8)].toList)∧((↑(wkN ts 65 65 0 []).a:Int)=(↑(wkN ts 65 65 0 []).a:Int))∧((3:Int)=(3:Int))∧(PE (some (Er.num 3))=PE (some (Er.num 3)))∧(false=false)) ⟨rfl,rfl,rfl,rfl,rfl⟩ (fun g27 p28=>?_)
     have p28:True:=p28
     refine v_al [] (al_f0 (fo (chkR root ts)) (by(rw[ck4 ‹_› (by first | exact fun e=>absurd e.1 ‹_› | exact fun e=>absurd e.2 ‹_›) ‹_› ‹_›] <;> rfl))) True trivial ?_
     exact v_ret () [11,10] ((wordsP=wordsP)∧(ts=ts)∧(PF (fo (chkR root ts))=PF (fo (chkR root ts)))∧((fo (chkR root ts)).isNone=(fo (chkR root ts)).isNone)∧(PE (some (Er.step #[116,111,107,101,110].toList (↑(wkN ts 65 65 0 []).a) (Er.num 3)))=PE (chkR root ts).fst)∧(false=(chkR root ts).fst.isNone)) ⟨rfl,rfl,rfl,rfl,(by(rw[ck4 ‹_› (by first | exact fun e=>absurd e.1 ‹_› | exact fun e=>absurd e.2 ‹_›) ‹_› ‹_›] <;> rfl)),(by(rw[ck4 ‹_› (by first | exact fun e=>absurd e.1 ‹_› | exact fun e=>absurd e.2 ‹_›) ‹_› ‹_›] <;> rfl))⟩ trivial
    ·have h26:=of_decide_eq_false h26
     refine v_if (!decide ((wkN ts 65 65 0 []).h=root)) ((EN.P.eqGuardType EN.P.depth (52:Nat)=false)∧((wkN ts 65 65 0 []).h.length=32)∧(root.length=32)) ⟨rfl,(by exact(wk_inv ts 65 65 0 [] (Nat.zero_le _) (Nat.le_refl _)).2.2),‹_›⟩ (fun h29=>?_) (fun h29=>?_)
     ·have h29:=of_decide_eq_false (nt h29)
      refine v_al [] (al_e1 (21)) True trivial ?_
      refine v_call _ [9] (faultAt_ok (#[114,111,111,116].toList) (0) (Er.num 21)) ((#[(114:UInt8),(111:UInt8),(111:UInt8),(116:UInt8)].toList=#[(114:UInt8),(111:UInt8),(111:UInt8),(116:UInt8)].toList)∧((0:Int)=(0:Int))∧((21:Int)=(21:Int))∧(PE (some (Er.num 21))=PE (some (Er.num 21)))∧(false=false)) ⟨rfl,rfl,rfl,rfl,rfl⟩ (fun g30 p31=>?_)
      have p31:True:=p31
      refine v_al [] (al_f0 (fo (chkR root ts)) (by(rw[ck5 ‹_› (by first | exact fun e=>absurd e.1 ‹_› | exact fun e=>absurd e.2 ‹_›) ‹_› ‹_› ‹_›] <;> rfl))) True trivial ?_
      exact v_ret () [11,10] ((wordsP=wordsP)∧(ts=ts)∧(PF (fo (chkR root ts))=PF (fo (chkR root ts)))∧((fo (chkR root ts)).isNone=(fo (chkR root ts)).isNone)∧(PE (some (Er.step #[114,111,111,116].toList 0 (Er.num 21)))=PE (chkR root ts).fst)∧(false=(chkR root ts).fst.isNone)) ⟨rfl,rfl,rfl,rfl,(by(rw[ck5 ‹_› (by first | exact fun e=>absurd e.1 ‹_› | exact fun e=>absurd e.2 ‹_›) ‹_› ‹_› ‹_›] <;> rfl)),(by(rw[ck5 ‹_› (by first | exact fun e=>absurd e.1 ‹_› | exact fun e=>absurd e.2 ‹_›) ‹_› ‹_› ‹_›] <;> rfl))⟩ trivial
     ·have h29:=of_decide_eq_true (nf h29)
      refine v_loop (fun q:Nat × List UInt8=>([(68,.i q.1),(9,.n 9)],[.rd 5 (q.2)])) (fun q=>OrI (wkR ts).fs q) (fun q=>(wkR ts).fs.length - q.1) (0,[]) [8] (((0:Int)=(↑(0:Nat):Int))∧(Eq (α:=List UInt8) [] [])) ⟨rfl,rfl⟩ (by exact⟨rfl,Nat.zero_le _⟩) (fun q hk32=>?_)
      refine v_if (decide ((↑q.fst:Int)<(↑(wkN ts 65 65 0 []).fs.length:Int))) True trivial (fun h33=>?_) (fun h33=>?_)
      ·have h33:=of_decide_eq_true h33
       refine v_if (((wkN ts 65 65 0 []).fs.getD (↑q.fst:Int).toNat (Item.mk false [] [])).hidden) ((0≤(↑q.fst:Int)∧(↑q.fst:Int)<(↑(wkN ts 65 65 0 []).fs.length:Int))) (by omega) (fun h34=>?_) (fun h34=>?_)
       ·skip
        exact v_back (oiS (wkR ts).fs q) [9] ((I64 (↑q.fst+1))∧((↑q.fst:Int)+1=(↑(oiS (wkR ts).fs q).fst:Int))∧(q.snd=(oiS (wkR ts).fs q).snd)) ⟨(by(have hw:=wk_inv ts 65 65 0 [] (Nat.zero_le _) (Nat.le_refl _);first | omega | (unfold I64;omega))),rfl,(by exact oiH ‹_›)⟩ (show OrI (wkR ts).fs (oiS (wkR ts).fs q)∧(wkR ts).fs.length - (oiS (wkR ts).fs q).fst<(wkR ts).fs.length - q.fst from(by exact OrI.nextH ‹_› ‹_› ‹_›))
       ·skip
        refine v_call _ [9,10] (bcmp_ok (q.snd) (((wkN ts 65 65 0 []).fs.getD (↑q.fst:Int).toNat (Item.mk false [] [])).key)) ((q.snd=q.snd)∧(((wkN ts 65 65 0 []).fs.getD (↑q.fst:Int).toNat (Item.mk false [] [])).key=((wkN ts 65 65 0 []).fs.getD (↑q.fst:Int).toNat (Item.mk false [] [])).key)) ⟨rfl,rfl⟩ (fun g35 p36=>?_)
        have p36:True:=p36
        refine v_if (decide (0≤Lib.compareBytes q.snd ((wkN ts 65 65 0 []).fs.getD (↑q.fst:Int).toNat (Item.mk false [] [])).key)) True trivial (fun h37=>?_) (fun h37=>?_)
        ·have h37:=of_decide_eq_true h37
         refine v_al [] (al_e1 (5)) True trivial ?_
         refine v_call _ [14] (faultAt_ok (#[111,114,100,101,114].toList) (0) (Er.num 5)) ((#[(111:UInt8),(114:UInt8),(100:UInt8),(101:UInt8),(114:UInt8)].toList=#[(111:UInt8),(114:UInt8),(100:UInt8),(101:UInt8),(114:UInt8)].toList)∧((0:Int)=(0:Int))∧((5:Int)=(5:Int))∧(PE (some (Er.num 5))=PE (some (Er.num 5)))∧(false=false)) ⟨rfl,rfl,rfl,rfl,rfl⟩ (fun g38 p39=>?_)
         have p39:True:=p39
         refine v_leave .rt True trivial ?_
         refine v_al [] (al_f0 (fo (chkR root ts)) (by(rw[ck6 ‹_› (by first | exact fun e=>absurd e.1 ‹_› | exact fun e=>absurd e.2 ‹_›) ‹_› ‹_› ‹_› ((‹OrI (wkR ts).fs q›).bad ‹_› ‹_› ‹_›)] <;> rfl))) True trivial ?_
         exact v_ret () [16,15] ((wordsP=wordsP)∧(ts=ts)∧(PF (fo (chkR root ts))=PF (fo (chkR root ts)))∧((fo (chkR root ts)).isNone=(fo (chkR root ts)).isNone)∧(PE (some (Er.step #[111,114,100,101,114].toList 0 (Er.num 5)))=PE (chkR root ts).fst)∧(false=(chkR root ts).fst.isNone)) ⟨rfl,rfl,rfl,rfl,(by(rw[ck6 ‹_› (by first | exact fun e=>absurd e.1 ‹_› | exact fun e=>absurd e.2 ‹_›) ‹_› ‹_› ‹_› ((‹OrI (wkR ts).fs q›).bad ‹_› ‹_› ‹_›)] <;> rfl)),(by(rw[ck6 ‹_› (by first | exact fun e=>absurd e.1 ‹_› | exact fun e=>absurd e.2 ‹_›) ‹_› ‹_› ‹_› ((‹OrI (wkR ts).fs q›).bad ‹_› ‹_› ‹_›)] <;> rfl))⟩ trivial
        ·have h37:=of_decide_eq_false h37
         exact v_back (oiS (wkR ts).fs q) [10] ((I64 (↑q.fst+1))∧((↑q.fst:Int)+1=(↑(oiS (wkR ts).fs q).fst:Int))∧(((wkN ts 65 65 0 []).fs.getD (↑q.fst:Int).toNat (Item.mk false [] [])).key=(oiS (wkR ts).fs q).snd)) ⟨(by(have hw:=wk_inv ts 65 65 0 [] (Nat.zero_le _) (Nat.le_refl _);first | omega | (unfold I64;omega))),rfl,(by exact oiN ‹_›)⟩ (show OrI (wkR ts).fs (oiS (wkR ts).fs q)∧(wkR ts).fs.length - (oiS (wkR ts).fs q).fst<(wkR ts).fs.length - q.fst from(by exact OrI.nextN ‹_› ‹_› ‹_› ‹_›))
      ·have h33:=of_decide_eq_false h33
       refine v_leave (.ex 2) True trivial ?_
       refine v_close 10 [6] (close_f_any (fo (chkR root ts)) ((wkN ts 65 65 0 []).fs) (by(rw[ck7 ‹_› (by first | exact fun e=>absurd e.1 ‹_› | exact fun e=>absurd e.2 ‹_›) ‹_› ‹_› ‹_› ((‹OrI (wkR ts).fs q›).end ‹_›)] <;> rfl))) (((wkN ts 65 65 0 []).fs=(wkN ts 65 65 0 []).fs)) rfl ?_
       refine v_al [10] (al_ptr (PF (fo (chkR root ts)))) ((PLe (PF (fo (chkR root ts))) (PF (fo (chkR root ts))))∧(false=false)) ⟨fun _ _ _ h=>h,rfl⟩ ?_
       refine v_al [] (al_e0 ((chkR root ts).fst) (by(rw[ck7 ‹_› (by first | exact fun e=>absurd e.1 ‹_› | exact fun e=>absurd e.2 ‹_›) ‹_› ‹_› ‹_› ((‹OrI (wkR ts).fs q›).end ‹_›)] <;> rfl))) True trivial ?_
       exact v_ret () [11,12] ((wordsP=wordsP)∧(ts=ts)∧(PF (fo (chkR root ts))=PF (fo (chkR root ts)))∧(false=(fo (chkR root ts)).isNone)∧(PE (chkR root ts).fst=PE (chkR root ts).fst)∧((chkR root ts).fst.isNone=(chkR root ts).fst.isNone)) ⟨rfl,rfl,rfl,(by(rw[ck7 ‹_› (by first | exact fun e=>absurd e.1 ‹_› | exact fun e=>absurd e.2 ‹_›) ‹_› ‹_› ‹_› ((‹OrI (wkR ts).fs q›).end ‹_›)] <;> rfl)),rfl,rfl⟩ trivial
def getI (k:List UInt8):Bool→List Item→List UInt8 × Bool × Bool
  | ahead,[]=>([],false,ahead)
  | ahead,x::r=>if x.hidden=true then getI k false r else if Lib.compareBytes x.key k=0 then(x.value,true,true) else if 0<Lib.compareBytes x.key k then([],false,ahead) else getI k true r
def getF (o:Option (List Item)) (k:List UInt8):List UInt8 × Bool × Bool :=
  match o with
  | none=>([],false,false)
  | some fs=>if(k.length:Int)=0∨96<(k.length:Int) then([],false,false) else getI k true fs
noncomputable def ccM8_51:Code:=(Tryd.f51.body).getD .skip
theorem Get1_aux (k:List UInt8):FOk EN 51 ⟨[.pn (PF none) false true,.rd 5 (k)],[.n 0,.n 1],Unit,fun _=>([.pn (PF none) false true,.rd 5 (k),.rd 5 ([])],.t [.n 2,.b false,.b false]),fun _=>True⟩:=by
 refine v_fun Tryd.f51 ccM8_51 MX (fun ν F σ w=>?_) Tryd.func51
 refine v_nl ?_
 refine v_guard 13 (true) True trivial (fun h1=>?_) (fun h1=>?_)
 ·skip
  exact v_ret () [2] ((false=false)∧(false=false)∧(PF none=PF none)∧(true=true)∧(k=k)∧(Eq (α:=List UInt8) [] [])) ⟨rfl,rfl,rfl,rfl,rfl,rfl⟩ trivial
 ·skip
  contradiction
theorem gf1 {fs:List Item} {k:List UInt8} (h:(k.length:Int)=0∨96<(k.length:Int)):getF (some fs) k=([],false,false):=by unfold getF;dsimp only;rw[if_pos h]
theorem gf2 {fs:List Item} {k:List UInt8} (h:¬ (k.length:Int)=0) (h2:¬ 96<(k.length:Int)):getF (some fs) k=getI k true fs:=by unfold getF;dsimp only;rw[if_neg (fun e=>e.elim h h2)]
def GtI (fs:List Item) (k:List UInt8) (q:Nat × Bool):Prop:=getI k q.2 (fs.drop q.1)=getI k true fs∧q.1≤fs.length
section
variable {fs:List Item} {k:List UInt8} {q:Nat × Bool}
theorem drop_it {n:Nat} (hi:(n:Int)<fs.length):fs.drop n=fs.getD n dI::fs.drop (n+1):=drop_item (q:=(n,[])) hi
theorem GtI.start:GtI fs k (0,true):=⟨rfl,Nat.zero_le _⟩
theorem GtI.h (h:GtI fs k q) (hi:(q.1:Int)<fs.length) (hh:(fs.getD (q.1:Int).toNat dI).hidden=true):GtI fs k (q.1+1,false)∧fs.length - (q.1+1)<fs.length - q.1:=by
  rw[Int.toNat_natCast] at hh
  refine⟨⟨?_,by show q.1+1≤_;omega⟩,by omega⟩
  rw[← h.1,drop_it hi,getI,if_pos hh]
theorem GtI.n (h:GtI fs k q) (hi:(q.1:Int)<fs.length) (hh:(fs.getD (q.1:Int).toNat dI).hidden=false) (h0:¬ Lib.compareBytes (fs.getD (q.1:Int).toNat dI).key k=0) (h1:¬ 0<Lib.compareBytes (fs.getD (q.1:Int).toNat dI).key k):GtI fs k (q.1+1,true)∧fs.length - (q.1+1)<fs.length - q.1:=by
  rw[Int.toNat_natCast] at hh h0 h1
  refine⟨⟨?_,by show q.1+1≤_;omega⟩,by omega⟩
  rw[← h.1,drop_it hi,getI,if_neg (by rw[hh];decide),if_neg h0,if_neg h1]
theorem GtI.f (h:GtI fs k q) (hi:(q.1:Int)<fs.length) (hh:(fs.getD (q.1:Int).toNat dI).hidden=false) (h0:Lib.compareBytes (fs.getD (q.1:Int).toNat dI).key k=0):getI k true fs=((fs.getD (q.1:Int).toNat dI).value,true,true):=by
  rw[Int.toNat_natCast] at *
  rw[← h.1,drop_it hi,getI,if_neg (by rw[hh];decide),if_pos h0]
theorem GtI.b (h:GtI fs k q) (hi:(q.1:Int)<fs.length) (hh:(fs.getD (q.1:Int).toNat dI).hidden=false) (h0:¬ Lib.compareBytes (fs.getD (q.1:Int).toNat dI).key k=0) (h1:0<Lib.compareBytes (fs.getD (q.1:Int).toNat dI).key k):getI k true fs=([],false,q.2):=by
  rw[Int.toNat_natCast] at *
  rw[← h.1,drop_it hi,getI,if_neg (by rw[hh];decide),if_neg h0,if_pos h1]
theorem GtI.e (h:GtI fs k q) (hi:¬ (q.1:Int)<fs.length):getI k true fs=([],false,q.2):=by
  rw[← h.1,List.drop_of_length_le (by omega),getI]
theorem getD_val (hv:∀ x∈fs,x.value.length≤1000) {n:Nat}:(fs.getD n dI).value.length≤1000000:=by
  rw[List.getD_eq_getElem?_getD]
  cases h:fs[n]? with
  | none=>exact Nat.zero_le _
  | some x=>exact Nat.le_trans (hv x (List.mem_of_getElem? h)) (by decide)
end
theorem Get2_aux (fs:List Item) (k:List UInt8) (hl:fs.length≤100000) (hv:∀ x∈fs,x.value.length≤1000):FOk EN 51 ⟨[.pn (PF (some fs)) false false,.rd 5 (k)],[.n 0,.n 1],Unit,fun _=>([.pn (PF (some fs)) false false,.rd 5 (k),.rd 5 ((getF (some fs) k).1)],.t [.n 2,.b (getF (some fs) k).2.1,.b (getF (some fs) k).2.2]),fun _=>True⟩:=by
 refine v_fun Tryd.f51 ccM8_51 MX (fun ν F σ w=>?_) Tryd.func51
 refine v_nl ?_
 refine v_guard 13 (false) True trivial (fun h1=>?_) (fun h1=>?_)
 ·skip
  contradiction
 ·skip
  refine v_guard 18 (decide ((↑k.length:Int)=0)) True trivial (fun h2=>?_) (fun h2=>?_)
  ·have h2:=of_decide_eq_true h2
   exact v_ret () [2] ((false=(getF (some fs) k).snd.fst)∧(false=(getF (some fs) k).snd.snd)∧(PF (some fs)=PF (some fs))∧(false=false)∧(k=k)∧([]=(getF (some fs) k).fst)) ⟨(by(rw[gf1 (.inl ‹_›)] <;> rfl)),(by(rw[gf1 (.inl ‹_›)] <;> rfl)),rfl,rfl,rfl,(by(rw[gf1 (.inl ‹_›)] <;> rfl))⟩ trivial
  ·have h2:=of_decide_eq_false h2
   refine v_if (decide (96<(↑k.length:Int))) True trivial (fun h3=>?_) (fun h3=>?_)
   ·have h3:=of_decide_eq_true h3
    exact v_ret () [2] ((false=(getF (some fs) k).snd.fst)∧(false=(getF (some fs) k).snd.snd)∧(PF (some fs)=PF (some fs))∧(false=false)∧(k=k)∧([]=(getF (some fs) k).fst)) ⟨(by(rw[gf1 (.inr ‹_›)] <;> rfl)),(by(rw[gf1 (.inr ‹_›)] <;> rfl)),rfl,rfl,rfl,(by(rw[gf1 (.inr ‹_›)] <;> rfl))⟩ trivial
   ·have h3:=of_decide_eq_false h3
    refine v_open 0 (open_f (fs)) ((PF (some fs)=PF (some fs))) rfl ?_
    refine v_loop (fun q:Nat × Bool=>([(28,.i q.1),(7,.b q.2)],[])) (fun q=>GtI fs k q) (fun q=>fs.length - q.1) (0,true) [] (((0:Int)=(↑(0:Nat):Int))∧(true=true)) ⟨rfl,rfl⟩ (by exact⟨rfl,Nat.zero_le _⟩) (fun q hk4=>?_)
    refine v_if (decide ((↑q.fst:Int)<(↑fs.length:Int))) True trivial (fun h5=>?_) (fun h5=>?_)
    ·have h5:=of_decide_eq_true h5
     refine v_if ((fs.getD (↑q.fst:Int).toNat (Item.mk false [] [])).hidden) ((0≤(↑q.fst:Int)∧(↑q.fst:Int)<(↑fs.length:Int))) (by omega) (fun h6=>?_) (fun h6=>?_)
     ·skip
      exact v_back ((q.fst+1,false)) [] ((I64 (↑q.fst+1))∧((↑q.fst:Int)+1=(↑(q.fst+1):Int))∧(false=false)) ⟨(by(unfold I64;omega)),rfl,rfl⟩ (show GtI fs k (q.fst+1,false)∧fs.length - (q.fst+1)<fs.length - q.fst from(by exact GtI.h ‹_› ‹_› ‹_›))
     ·skip
      refine v_call _ [4,1] (bcmp_ok ((fs.getD (↑q.fst:Int).toNat (Item.mk false [] [])).key) (k)) (((fs.getD (↑q.fst:Int).toNat (Item.mk false [] [])).key=(fs.getD (↑q.fst:Int).toNat (Item.mk false [] [])).key)∧(k=k)) ⟨rfl,rfl⟩ (fun g7 p8=>?_)
      have p8:True:=p8
      refine v_if (decide (Lib.compareBytes (fs.getD (↑q.fst:Int).toNat (Item.mk false [] [])).key k=0)) True trivial (fun h9=>?_) (fun h9=>?_)
      ·have h9:=of_decide_eq_true h9
       refine v_call _ [5] (clone_ok ((fs.getD (↑q.fst:Int).toNat (Item.mk false [] [])).value) (by exact getD_val hv)) (((fs.getD (↑q.fst:Int).toNat (Item.mk false [] [])).value=(fs.getD (↑q.fst:Int).toNat (Item.mk false [] [])).value)) rfl (fun g10 p11=>?_)
       have p11:True:=p11
       refine v_leave .rt True trivial ?_
       exact v_ret () [8] ((true=(getF (some fs) k).snd.fst)∧(true=(getF (some fs) k).snd.snd)∧(PLe (PF (some fs)) (PF (some fs)))∧(false=false)∧(k=k)∧((fs.getD (↑q.fst:Int).toNat (Item.mk false [] [])).value=(getF (some fs) k).fst)) ⟨(by(rw[gf2 ‹_› ‹_›,GtI.f ‹_› ‹_› ‹_› ‹_›] <;> rfl)),(by(rw[gf2 ‹_› ‹_›,GtI.f ‹_› ‹_› ‹_› ‹_›] <;> rfl)),fun _ _ _ h=>h,rfl,rfl,(by(rw[gf2 ‹_› ‹_›,GtI.f ‹_› ‹_› ‹_› ‹_›] <;> rfl))⟩ trivial
      ·have h9:=of_decide_eq_false h9
       refine v_if (decide (0<Lib.compareBytes (fs.getD (↑q.fst:Int).toNat (Item.mk false [] [])).key k)) True trivial (fun h12=>?_) (fun h12=>?_)
       ·have h12:=of_decide_eq_true h12
        refine v_leave (.ex 0) True trivial ?_
        exact v_ret () [2] ((false=(getF (some fs) k).snd.fst)∧(q.snd=(getF (some fs) k).snd.snd)∧(PLe (PF (some fs)) (PF (some fs)))∧(false=false)∧(k=k)∧([]=(getF (some fs) k).fst)) ⟨(by(rw[gf2 ‹_› ‹_›,GtI.b ‹_› ‹_› ‹_› ‹_› ‹_›] <;> rfl)),(by(rw[gf2 ‹_› ‹_›,GtI.b ‹_› ‹_› ‹_› ‹_› ‹_›] <;> rfl)),fun _ _ _ h=>h,rfl,rfl,(by(rw[gf2 ‹_› ‹_›,GtI.b ‹_› ‹_› ‹_› ‹_› ‹_›] <;> rfl))⟩ trivial
       ·have h12:=of_decide_eq_false h12
        exact v_back ((q.fst+1,true)) [] ((I64 (↑q.fst+1))∧((↑q.fst:Int)+1=(↑(q.fst+1):Int))∧(true=true)) ⟨(by(unfold I64;omega)),rfl,rfl⟩ (show GtI fs k (q.fst+1,true)∧fs.length - (q.fst+1)<fs.length - q.fst from(by exact GtI.n ‹_› ‹_› ‹_› ‹_› ‹_›))
    ·have h5:=of_decide_eq_false h5
     refine v_leave (.ex 0) True trivial ?_
     exact v_ret () [2] ((false=(getF (some fs) k).snd.fst)∧(q.snd=(getF (some fs) k).snd.snd)∧(PLe (PF (some fs)) (PF (some fs)))∧(false=false)∧(k=k)∧([]=(getF (some fs) k).fst)) ⟨(by(rw[gf2 ‹_› ‹_›,GtI.e ‹_› ‹_›] <;> rfl)),(by(rw[gf2 ‹_› ‹_›,GtI.e ‹_› ‹_›] <;> rfl)),fun _ _ _ h=>h,rfl,rfl,(by(rw[gf2 ‹_› ‹_›,GtI.e ‹_› ‹_›] <;> rfl))⟩ trivial
theorem Get_ok (o:Option (List Item)) (k:List UInt8) (hl:(o.getD []).length≤100000) (hv:∀ x∈o.getD [],x.value.length≤1000):FOk EN 51 ⟨[.pn (PF o) false o.isNone,.rd 5 (k)],[.n 0,.n 1],Unit,fun _=>([.pn (PF o) false o.isNone,.rd 5 (k),.rd 5 ((getF o k).1)],.t [.n 2,.b (getF o k).2.1,.b (getF o k).2.2]),fun _=>True⟩:=by
  cases o with
  | none=>exact Get1_aux k
  | some fs=>exact Get2_aux fs k hl hv
namespace Tr
def its:Tr→List (List UInt8)→List Item
  | leaf k v,w=>if w.isEmpty then[⟨true,[],[]⟩] else[⟨false,k,v⟩]
  | node l r,w=>if w.isEmpty then[⟨true,[],[]⟩] else l.its (w.take (cntB r.least w))++r.its (w.drop (cntB r.least w))
end Tr
theorem nsum_nk {h:Int} (h0:¬ h=0) (s:UInt64) (k v l r:List UInt8):nsum h s [] [] l r=nsum h s k v l r:=by unfold nsum;rw[if_neg h0,if_neg h0]
theorem getD_mid {pre post:List Token} {x:Token}:(pre++x::post).getD pre.length kT0=x:=by simp
theorem len_mid {pre post:List Token} {x:Token}:¬ ((pre++x::post).length:Int)≤(pre.length:Int):=by simp;omega
theorem wk_hid {pre post:List Token} (h:List UInt8) (hl:h.length=32) (f:Nat) (ab:Int) (fs:List Item):wkN (pre++kHid h::post) (f+1) ab pre.length fs=⟨h,none,pre.length+1,fs++[⟨true,[],[]⟩]⟩:=by
  unfold wkN;rw[if_neg len_mid,getD_mid,if_pos (show(kHid h).kind=1 from rfl)]
  show WR.mk (mk32 h).l none _ _=_
  rw[mk32_of hl]
theorem wk_lf {pre post:List Token} (k v:List UInt8) (hk:1≤k.length∧k.length≤96) (hv:v.length≤256) (f:Nat) (ab:Int) (fs:List Item):wkN (pre++kLeaf k v::post) (f+1) ab pre.length fs=⟨nsum 0 1 k v z32 z32,none,pre.length+1,fs++[⟨false,k,v⟩]⟩:=by
  unfold wkN;rw[if_neg len_mid,getD_mid,if_neg (by show ¬ (2:UInt8)=1;decide),if_pos (show(kLeaf k v).kind=2 from rfl),if_neg (by show ¬ ((k.length:Int)=0∨96<(k.length:Int)∨256<(v.length:Int));omega)]
  rfl
theorem wk_in {pre post:List Token} (h:Int) (s:UInt64) (f:Nat) (ab:Int) (fs:List Item) (h1:1≤h) (h2:h<ab) {a b:WR} (ea:wkN (pre++kInn h s::post) f h (pre.length+1) fs=a) (na:a.e=none) (eb:wkN (pre++kInn h s::post) f h a.a a.fs=b) (nb:b.e=none) :
    wkN (pre++kInn h s::post) (f+1) ab pre.length fs=⟨nsum h s [] [] a.h b.h,none,b.a,b.fs⟩:=by
  subst ea;subst eb
  rw[wkN,if_neg len_mid,getD_mid,if_neg (by show ¬ (3:UInt8)=1;decide),if_neg (by show ¬ (3:UInt8)=2;decide),if_pos (show(kInn h s).kind=3 from rfl),if_neg (by show ¬ (h<1∨ab≤h);omega)]
  have e1:(kInn h s).height=h:=rfl
  have e2:(kInn h s).size=s:=rfl
  rw[e1,e2,if_neg (by rw[na];decide),if_neg (by rw[nb];decide)]
theorem wk_pcs:∀(t:Tr) (w:List (List UInt8)) (pre post:List Token) (f:Nat) (ab:Int) (fs:List Item),lvOk t.leaves→t.height<f→t.height<ab →
    wkN (pre++(t.pcs w++post)) f ab pre.length fs=⟨t.hash,none,pre.length+(t.pcs w).length,fs++t.its w⟩
  | t,w,pre,post,0,ab,fs,hk,hf,ha=>by have:=t.height_nn;omega
  | .leaf k v, w, pre, post, f + 1, ab, fs, hk, hf, ha => by
    unfold Tr.pcs Tr.its;split
    · rw[List.singleton_append,wk_hid _ (Tr.hash_len _)];rfl
    · have := hk ⟨k, v⟩ (List.mem_singleton_self _)
      have h1:=this.1;have h2:=this.2
      rw[List.singleton_append,wk_lf k v ⟨h1.1,Nat.le_trans h1.2 (by decide)⟩ (Nat.le_trans h2 (by decide))];rfl
  | .node l r, w, pre, post, f + 1, ab, fs, hk, hf, ha => by
    unfold Tr.pcs Tr.its;split
    · rw[List.singleton_append,wk_hid _ (Tr.hash_len _)];rfl
    · have n1 := l.height_nn; have n2 := r.height_nn
      have hh:(Tr.node l r).height=1+max l.height r.height:=rfl
      have hl:lvOk l.leaves:=fun p hp=>hk p (List.mem_append_left _ hp)
      have hr:lvOk r.leaves:=fun p hp=>hk p (List.mem_append_right _ hp)
      generalize hL:l.pcs (w.take (cntB r.least w))=L
      generalize hR:r.pcs (w.drop (cntB r.least w))=R
      have e0:pre++(kInn (Tr.node l r).height (Tr.node l r).size::(L++R)++post)=pre++kInn (Tr.node l r).height (Tr.node l r).size::(L++(R++post)):=by simp
      have e1:pre++kInn (Tr.node l r).height (Tr.node l r).size::(L++(R++post))=(pre++[kInn (Tr.node l r).height (Tr.node l r).size])++(L++(R++post)):=by simp
      have e2:pre++kInn (Tr.node l r).height (Tr.node l r).size::(L++(R++post))=(pre++[kInn (Tr.node l r).height (Tr.node l r).size]++L)++(R++post):=by simp
      have p1:(pre++[kInn (Tr.node l r).height (Tr.node l r).size]).length=pre.length+1:=by simp
      have p2:(pre++[kInn (Tr.node l r).height (Tr.node l r).size]++L).length=pre.length+1+L.length:=by simp;omega
      have hA:=wk_pcs l (w.take (cntB r.least w)) (pre++[kInn (Tr.node l r).height (Tr.node l r).size]) (R++post) f (Tr.node l r).height fs hl (by omega) (by omega)
      rw[hL,← e1,p1] at hA
      have hB:=wk_pcs r (w.drop (cntB r.least w)) (pre++[kInn (Tr.node l r).height (Tr.node l r).size]++L) post f (Tr.node l r).height (fs++l.its (w.take (cntB r.least w))) hr (by omega) (by omega)
      rw[hR,← e2,p2] at hB
      rw[e0,wk_in _ _ f ab fs (by omega) ha hA rfl hB rfl]
      rw[WR.mk.injEq]
      refine⟨?_,rfl,?_,?_⟩
      · exact nsum_nk (by omega) _ _ _ _ _
      · simp only[List.length_cons,List.length_append];omega
      · rw[List.append_assoc]
def keysI:List Item→List (List UInt8)
  | []=>[]
  | x::r=>if x.hidden=true then keysI r else x.key::keysI r
theorem keysI_app:∀ a b:List Item,keysI (a++b)=keysI a++keysI b
  | [],b=>rfl
  | x::a,b=>by simp only[List.cons_append,keysI];rw[keysI_app a b];split <;> simp
theorem ordI_of:∀ {l:List Item} {last:List UInt8},(last::keysI l).Pairwise klt→ordI last l=true
  | [],_,_=>rfl
  | x :: r, last, h => by
    unfold ordI;unfold keysI at h
    split
    · rename_i hx;rw[if_pos hx] at h;exact ordI_of h
    · rename_i hx; rw [if_neg hx] at h
      obtain⟨h1,h2⟩:=List.pairwise_cons.1 h
      have:klt last x.key:=h1 _ (List.mem_cons_self ..)
      rw[if_neg (by unfold klt at this;omega)]
      exact ordI_of h2
theorem keysI_its:∀(t:Tr) (w:List (List UInt8)),(keysI (t.its w)).Sublist (ksP t.leaves)
  | .leaf k v, w => by unfold Tr.its; split
                       · exact List.nil_sublist _
                       · exact List.Sublist.refl _
  | .node l r, w => by
    unfold Tr.its;split
    · exact List.nil_sublist _
    · rw [keysI_app]; unfold ksP; rw [show (Tr.node l r).leaves = l.leaves ++ r.leaves from rfl, List.map_append]
      exact(keysI_its l _).append (keysI_its r _)
theorem ord_its {t:Tr} (hs:Srt t.leaves) (hk:lvOk t.leaves) (w:List (List UInt8)):ordI [] (t.its w)=true:=by
  refine ordI_of (List.pairwise_cons.2 ⟨fun x hx=>?_,?_⟩)
  · have := (keysI_its t w).subset hx
    obtain⟨p,hp,rfl⟩:=List.mem_map.1 this
    have h1:=(hk p hp).1.1
    cases e:p.key with
    | nil=>rw[e] at h1;simp at h1
    | cons a b=>show Lib.compareBytes [] (a::b)<0;simp[Lib.compareBytes]
  · exact List.Pairwise.sublist (keysI_its t w) (by unfold ksP;rw[List.pairwise_map];exact hs)
theorem pcs_ne (t:Tr) (w:List (List UInt8)):t.pcs w≠[]:=by cases t <;> (unfold Tr.pcs;split <;> simp)
theorem chk_make {t:Tr} (hs:Srt t.leaves) (hk:lvOk t.leaves) (hh:t.height<65) (w:List (List UInt8)) (hl:(t.pcs w).length≤2048):chkR t.hash (t.pcs w)=(none,t.its w):=by
  have hw:=wk_pcs t w [] [] 65 65 [] hk hh hh
  rw[List.nil_append,List.append_nil] at hw
  simp only[List.length_nil,Nat.zero_add,List.nil_append] at hw
  have hn:=pcs_ne t w
  have hlen:(t.pcs w).length≠0:=fun e=>hn (List.eq_nil_of_length_eq_zero e)
  rw[ck7 (by omega) (fun e=>hlen (by have:=e.1;omega)) (by unfold wkR;rw[hw];rfl) (by unfold wkR;rw[hw];exact Int.lt_irrefl _) (by unfold wkR;rw[hw]) (by unfold wkR;rw[hw];exact ord_its hs hk w)]
  unfold wkR;rw[hw]
def awK:List (List UInt8):=[[97],[98],[99],[100]]
def awN:Nat→Option Tr
  | 0=>none
  | n+1=>putO (awK.getD n []) (awK.getD n []) (awN n)
theorem awL:∀ {i:Nat},(i:Int)<4→1≤(awK.getD (i:Int).toNat []).length∧(awK.getD (i:Int).toNat []).length≤96
  | 0,_=>by decide
  | 1,_=>by decide
  | 2,_=>by decide
  | 3,_=>by decide
  | _+4,h=>by omega
theorem awL0:∀ i:Nat,(awK.getD i []).length≤1
  | 0=>by decide
  | 1=>by decide
  | 2=>by decide
  | 3=>by decide
  | i+4=>by simp[awK]
theorem awOk:∀ i:Nat,okN i (awN i)
  | 0=>fun t e=>by simp[awN] at e
  | i+1=>okN.put (awOk i) (Nat.le_trans (awL0 i) (by decide)) (Nat.le_trans (awL0 i) (by decide))
theorem awO {i:Nat} (h:i≤4):okO (awN i):=(awOk i).O (by omega)
abbrev awC:Option Er × List Item:=chkR (hashO (awN 4)) (mkT (awN 4) [[98]])
abbrev awI:List Item:=[⟨true,[],[]⟩,⟨false,[98],[98]⟩,⟨true,[],[]⟩]
noncomputable def ccM9_42:Code:=(Tryd.f42.body).getD .skip
theorem Awake10_aux (hs:Srt (leavesO (awN 4))) (hl:(leavesO (awN 4)).length≤900000) (c1:awC.1.isNone=true) (g1:getF (fo awC) [98]=([98],true,true)) (g2:getF (fo awC) [98,98]=([],false,false)) (m1:(mkT (awN 4) [[98]]).length=5) (f1:fo awC=some awI):FOk EN 42 ⟨[.pr wordsP],[],Unit,fun _=>([.pr wordsP],.b true),fun _=>True⟩:=by
 refine v_fun Tryd.f42 ccM9_42 MX (fun ν F σ w=>?_) Tryd.func42
 refine v_nl ?_
 refine v_call _ [0] (new_ok) ((wordsP=wordsP)) rfl (fun g1 p2=>?_)
 have p2:True:=p2
 refine v_loop (fun i:Nat=>([(16,.i i),(1,.p 4 0)],[.pn (PTO (awN i)) false false])) (fun i=>i≤4) (fun i=>4 - i) 0 [2] (((0:Int)=(↑(0:Nat):Int))∧(PTO none=PTO (awN 0))∧(false=false)) ⟨rfl,rfl,rfl⟩ (by decide) (fun i hk3=>?_)
 refine v_if (decide ((↑i:Int)<(↑(4:Nat):Int))) True trivial (fun h4=>?_) (fun h4=>?_)
 ·have h4:=of_decide_eq_true h4
  refine v_call _ [0,6,7,4] (Put_ok (awN i) ([#[97].toList,#[98].toList,#[99].toList,#[100].toList].getD (↑i:Int).toNat []) ([#[97].toList,#[98].toList,#[99].toList,#[100].toList].getD (↑i:Int).toNat []) (by exact awO (by omega)) (by exact awL ‹_›) (by exact Nat.le_trans (awL0 _) (by decide))) (((0:Int)≤(↑i:Int)∧(↑i:Int)<(↑(4:Nat):Int))∧(([#[(97:UInt8)].toList,#[(98:UInt8)].toList,#[(99:UInt8)].toList,#[(100:UInt8)].toList].getD (↑i:Int).toNat []).length≤(1000000:Nat))∧(([#[(97:UInt8)].toList,#[(98:UInt8)].toList,#[(99:UInt8)].toList,#[(100:UInt8)].toList].getD (↑i:Int).toNat []).length≤(1000000:Nat))∧(wordsP=wordsP)∧([#[(97:UInt8)].toList,#[(98:UInt8)].toList,#[(99:UInt8)].toList,#[(100:UInt8)].toList].getD (↑i:Int).toNat []=[#[(97:UInt8)].toList,#[(98:UInt8)].toList,#[(99:UInt8)].toList,#[(100:UInt8)].toList].getD (↑i:Int).toNat [])∧([#[(97:UInt8)].toList,#[(98:UInt8)].toList,#[(99:UInt8)].toList,#[(100:UInt8)].toList].getD (↑i:Int).toNat []=[#[(97:UInt8)].toList,#[(98:UInt8)].toList,#[(99:UInt8)].toList,#[(100:UInt8)].toList].getD (↑i:Int).toNat [])∧(PTO (awN i)=PTO (awN i))∧(false=false)) ⟨(by omega),(by exact Nat.le_trans (awL0 _) (by decide)),(by exact Nat.le_trans (awL0 _) (by decide)),rfl,rfl,rfl,rfl,rfl⟩ (fun g5 p6=>?_)
  have p6:True:=p6
  exact v_back (i+1) [8] ((I64 (↑i+1))∧((↑i:Int)+1=(↑(i+1):Int))∧(PTO (putO ([#[97].toList,#[98].toList,#[99].toList,#[100].toList].getD (↑i:Int).toNat []) ([#[97].toList,#[98].toList,#[99].toList,#[100].toList].getD (↑i:Int).toNat []) (awN i))=PTO (awN (i+1)))∧(false=false)) ⟨(by(unfold I64;omega)),rfl,rfl,rfl⟩ (show i+1≤4∧4 - (i+1)<4 - i from(by omega))
 ·have h4:=of_decide_eq_false h4
  refine v_leave (.ex 0) True trivial ?_
  refine v_call _ [0,4,6] (MakeT_ok (awN i) ([[98]]) (by exact awO (by omega)) (by(cases(show i=4 by omega);exact hs)) (by(cases(show i=4 by omega);exact hl)) (by decide)) ((0<1)∧(wordsP=wordsP)∧(PTO (awN i)=PTO (awN i))∧(false=false)∧([[(98:UInt8)]]=[[(98:UInt8)]])) ⟨(by decide),rfl,rfl,rfl,rfl⟩ (fun g7 p8=>?_)
  have p8:True:=p8
  refine v_call _ [0,4] (Root_ok (awN i)) ((wordsP=wordsP)∧(PTO (awN i)=PTO (awN i))∧(false=false)) ⟨rfl,rfl,rfl⟩ (fun g9 p10=>?_)
  have p10:True:=p10
  refine v_call _ [0,7] (Check_ok (hashO (awN i)) (mkT (awN i) [[98]]) (by exact hashO_len _) (by(cases(show i=4 by omega);rw[m1];decide))) ((hashO (awN i)=hashO (awN i))∧(wordsP=wordsP)∧(mkT (awN i) [[98]]=mkT (awN i) [[98]])) ⟨rfl,rfl,rfl⟩ (fun g11 p12=>?_)
  have p12:True:=p12
  refine v_call _ [8,10] (Get_ok (fo (chkR (hashO (awN i)) (mkT (awN i) [[98]]))) ([98]) (by(cases(show i=4 by omega);rw[f1];decide)) (by(cases(show i=4 by omega);rw[f1];decide))) ((0<1)∧(PF (fo (chkR (hashO (awN i)) (mkT (awN i) [[98]])))=PF (fo (chkR (hashO (awN i)) (mkT (awN i) [[98]]))))∧((fo (chkR (hashO (awN i)) (mkT (awN i) [[98]]))).isNone=(fo (chkR (hashO (awN i)) (mkT (awN i) [[98]]))).isNone)∧([(98:UInt8)]=[(98:UInt8)])) ⟨(by decide),rfl,rfl,rfl⟩ (fun g13 p14=>?_)
  have p14:True:=p14
  refine v_call _ [8,12] (Get_ok (fo (chkR (hashO (awN i)) (mkT (awN i) [[98]]))) ([98,98]) (by(cases(show i=4 by omega);rw[f1];decide)) (by(cases(show i=4 by omega);rw[f1];decide))) ((0<2)∧(PF (fo (chkR (hashO (awN i)) (mkT (awN i) [[98]])))=PF (fo (chkR (hashO (awN i)) (mkT (awN i) [[98]]))))∧((fo (chkR (hashO (awN i)) (mkT (awN i) [[98]]))).isNone=(fo (chkR (hashO (awN i)) (mkT (awN i) [[98]]))).isNone)∧([(98:UInt8),(98:UInt8)]=[(98:UInt8),(98:UInt8)])) ⟨(by decide),rfl,rfl,rfl⟩ (fun g15 p16=>?_)
  have p16:True:=p16
  refine v_guard 60 ((chkR (hashO (awN i)) (mkT (awN i) [[98]])).fst.isNone) True trivial (fun h17=>?_) (fun h17=>?_)
  ·skip
   refine v_guard 65 (decide ((↑(mkT (awN i) [[98]]).length:Int)=5)) True trivial (fun h18=>?_) (fun h18=>?_)
   ·have h18:=of_decide_eq_true h18
    refine v_guard 68 ((getF (fo (chkR (hashO (awN i)) (mkT (awN i) [[98]]))) [98]).snd.fst) True trivial (fun h19=>?_) (fun h19=>?_)
    ·skip
     refine v_guard 71 ((getF (fo (chkR (hashO (awN i)) (mkT (awN i) [[98]]))) [98]).snd.snd) True trivial (fun h20=>?_) (fun h20=>?_)
     ·skip
      refine v_guard 76 (decide ((getF (fo (chkR (hashO (awN i)) (mkT (awN i) [[98]]))) [98]).fst=#[98].toList)) True trivial (fun h21=>?_) (fun h21=>?_)
      ·have h21:=of_decide_eq_true h21
       refine v_guard 80 (!(getF (fo (chkR (hashO (awN i)) (mkT (awN i) [[98]]))) [98,98]).snd.fst) True trivial (fun h22=>?_) (fun h22=>?_)
       ·have h22:=(nt h22)
        exact v_ret () [] (((!(getF (fo (chkR (hashO (awN i)) (mkT (awN i) [[98]]))) [98,98]).snd.snd)=true)∧(wordsP=wordsP)) ⟨(by(cases(show i=4 by omega);rw[f1];decide)),rfl⟩ trivial
       ·have h22:=(nf h22)
        exfalso;(cases(show i=4 by omega);rw[c1] at *;simp_all;done)
      ·have h21:=of_decide_eq_false h21
       exfalso;(cases(show i=4 by omega);rw[c1] at *;simp_all;done)
     ·skip
      exfalso;(cases(show i=4 by omega);rw[c1] at *;simp_all;done)
    ·skip
     exfalso;(cases(show i=4 by omega);rw[c1] at *;simp_all;done)
   ·have h18:=of_decide_eq_false h18
    exfalso;(cases(show i=4 by omega);rw[c1] at *;simp_all;done)
  ·skip
   exfalso;(cases(show i=4 by omega);rw[c1] at *;simp_all;done)
theorem aw4_leaves:leavesO (awN 4)=[⟨[97],[97]⟩,⟨[98],[98]⟩,⟨[99],[99]⟩,⟨[100],[100]⟩]:=by decide
theorem aw4_srt:Srt (leavesO (awN 4)):=by rw[aw4_leaves];unfold Srt;decide
theorem aw4_lv:lvOk (leavesO (awN 4)):=by rw[aw4_leaves];unfold lvOk;decide
theorem aw4_C:awC=(none,awI):=by
  have hn:(awN 4).isNone=false:=by decide
  have hh:(gt (awN 4)).height<65:=by decide
  have hp:(mkT (awN 4) [[98]]).length≤2048:=by decide
  have hi:(gt (awN 4)).its (wanL (leavesO (awN 4)) [[98]])=awI:=by decide
  unfold awC
  cases e:awN 4 with
  | none=>rw[e] at hn;cases hn
  | some t =>
    have h1:=aw4_srt;have h2:=aw4_lv
    rw[e] at h1 h2 hh hp hi
    rw[← hi];exact chk_make h1 h2 hh _ hp
theorem Awake10_ok:FOk EN 42 ⟨[.pr wordsP],[],Unit,fun _=>([.pr wordsP],.b true),fun _=>True⟩:=by
  have hf:fo awC=some awI:=by rw[aw4_C];rfl
  exact Awake10_aux aw4_srt (by rw[aw4_leaves];decide) (by rw[aw4_C];rfl) (by rw[hf];decide) (by rw[hf];decide) (by decide) hf
theorem rd_bb_len {σ:Nat→Nat} {w:World} {v:Value} {xs:List (List UInt8)} (h:Rd (tSl tU8) σ w v xs):xs.length≤140737488355328:=by
  have h1:xs.length*24≤140737488355328:=h.bd
  omega
section
variable {acts:List Act} {m:Nat} {ks:List (List UInt8)}
abbrev gO1 (acts:List Act) (m:Nat):Option Tr:=(growT acts m).1
abbrev gL1 (acts:List Act) (m:Nat):List Pair:=(growT acts m).2
theorem mm_eq:gL1 acts m=leavesO (gO1 acts m):=(growT_ok acts m).2
theorem mm_len (hm:m≤64):(gL1 acts m).length≤64:=by rw[mm_eq];exact Nat.le_trans (growT_okN acts m).leaves hm
theorem mm_key (hm:m≤64):∀ p∈gL1 acts m,p.key.length≤1000:=fun p hp=>by
  have:=(growT_fine acts m hm).2.1 p (by rw[← mm_eq];exact hp);have:=this.1.2;omega
theorem mm_srt:Srt (leavesO (gO1 acts m)):=(growT_ok acts m).1
theorem mm_lv (hm:m≤64):(leavesO (gO1 acts m)).length≤64:=Nat.le_trans (growT_okN acts m).leaves hm
theorem mm_gt (hm:m≤64):(gt (gO1 acts m)).Ks∧(gt (gO1 acts m)).height<900∧(gt (gO1 acts m)).leaves.length≤64∧(gt (gO1 acts m)).depth≤64:=by
  have h:=growT_okN acts m
  have hl:=mm_lv (acts:=acts) hm
  cases e:gO1 acts m with
  | none=>exact⟨⟨Nat.zero_le _,Nat.zero_le _⟩,by decide,by decide,by decide⟩
  | some t =>
    have h1:=h t e;have q:=t.height_depth
    rw[e] at hl
    refine⟨h1.1,?_,hl,?_⟩ <;> (show(_:_)) <;> simp only[gt,Option.getD_some] <;> omega
theorem mm_mk (hm:m≤64):(mkT (gO1 acts m) ks).length≤200:=by
  have h:=(mm_gt (acts:=acts) hm).2.2.2
  cases e:gO1 acts m with
  | none=>exact Nat.zero_le _
  | some t=>rw[e] at h;have h:t.depth≤64:=h;have:=t.pcs_len (wanL t.leaves ks);show(t.pcs _).length≤200;omega
end
theorem wk_e (ts:List Token):∀(f:Nat) (ab:Int) (a:Nat) (fs:List Item),(wkN ts f ab a fs).e=none∨∃ n c,(wkN ts f ab a fs).e=tokE n c∧c≠0∧0≤c∧c≤100
  | 0,ab,a,fs=>.inr ⟨a,4,rfl,by decide,by decide,by decide⟩
  | f + 1, ab, a, fs => by
    unfold wkN
    split
    · exact .inr ⟨_,_,rfl,by decide,by decide,by decide⟩
    · split
      · exact .inl rfl
      · split
        · split
          · exact .inr ⟨_,_,rfl,by decide,by decide,by decide⟩
          · exact .inl rfl
        · split
          · split
            · exact .inr ⟨_,_,rfl,by decide,by decide,by decide⟩
            · split
              · exact wk_e ts f _ _ _
              · split
                · exact wk_e ts f _ _ _
                · exact .inl rfl
          · exact .inr ⟨_,_,rfl,by decide,by decide,by decide⟩
theorem code0 {r:WR} (h:r.e=none∨∃ n c,r.e=tokE n c∧c≠0∧0≤c∧c≤100):(codeO r.e=0→r.e.isNone=true)∧(¬ codeO r.e=0→r.e.isNone=false):=by
  rcases h with h | ⟨n,c,h,hc,_,_⟩
  · rw[h];exact⟨fun _=>rfl,fun q=>absurd rfl q⟩
  · rw[h];exact⟨fun q=>absurd (show c=0 from q) hc,fun _=>rfl⟩
section
variable {ts:List Token} {f:Nat} {ab:Int} {a:Nat} {fs:List Item}
theorem cA0 (h:codeO (wkA ts f a fs).e=0):(wkA ts f a fs).e.isNone=true:=(code0 (wk_e ts f _ _ _)).1 h
theorem cA1 (h:¬ codeO (wkA ts f a fs).e=0):(wkA ts f a fs).e.isNone=false:=(code0 (wk_e ts f _ _ _)).2 h
theorem wk89 (h:¬ (ts.length:Int)≤a) (h1:¬ (ts.getD (a:Int).toNat kT0).kind=1) (h2:¬ (ts.getD (a:Int).toNat kT0).kind=2) (h3:(ts.getD (a:Int).toNat kT0).kind=3) (h4:¬ (ts.getD (a:Int).toNat kT0).height<1) (h5:¬ ab≤(ts.getD (a:Int).toNat kT0).height) (h6:codeO (wkA ts f a fs).e=0) :
    (wkN ts (f+1) ab a fs).e=(wkB ts f a fs).e∧(wkN ts (f+1) ab a fs).a=(wkB ts f a fs).a∧(wkN ts (f+1) ab a fs).fs=(wkB ts f a fs).fs∧((wkB ts f a fs).e.isNone=true→(wkN ts (f+1) ab a fs).h=nsum (ts.getD (a:Int).toNat kT0).height (ts.getD (a:Int).toNat kT0).size [] [] (wkA ts f a fs).h (wkB ts f a fs).h):=by
  cases hb:(wkB ts f a fs).e.isNone with
  | false=>rw[wk8 h h1 h2 h3 h4 h5 (cA0 h6) hb];exact⟨rfl,rfl,rfl,fun q=>nomatch q⟩
  | true=>rw[wk9 h h1 h2 h3 h4 h5 (cA0 h6) hb];exact⟨(Option.isNone_iff_eq_none.1 hb).symm,rfl,rfl,fun _=>rfl⟩
theorem wkF {v1 v2:List UInt8} (h:¬ (ts.length:Int)≤a) (h1:¬ (ts.getD (a:Int).toNat kT0).kind=1) (h2:¬ (ts.getD (a:Int).toNat kT0).kind=2) (h3:(ts.getD (a:Int).toNat kT0).kind=3) (h4:¬ (ts.getD (a:Int).toNat kT0).height<1) (h5:¬ ab≤(ts.getD (a:Int).toNat kT0).height) (h6:codeO (wkA ts f a fs).e=0)
    (p1:v1.length=32∧((wkA ts f a fs).e.isNone=true→v1=(wkA ts f a fs).h)) (p2:v2.length=32∧((wkB ts f a fs).e.isNone=true→v2=(wkB ts f a fs).h)) :
    (nsum (ts.getD (a:Int).toNat kT0).height (ts.getD (a:Int).toNat kT0).size [] [] v1 v2).length=32∧((wkN ts (f+1) ab a fs).e.isNone=true→nsum (ts.getD (a:Int).toNat kT0).height (ts.getD (a:Int).toNat kT0).size [] [] v1 v2=(wkN ts (f+1) ab a fs).h):=by
  obtain⟨w1,w2,w3,w4⟩:=wk89 (ab:=ab) h h1 h2 h3 h4 h5 h6
  refine⟨Tr.nsum_len _ _ _ _ _ _,fun q=>?_⟩
  rw[w1] at q
  rw[w4 q,p1.2 (cA0 h6),p2.2 q]
end
theorem nn3 {x y:UInt8} (h:¬ x≠y):x=y:=Classical.not_not.1 h
theorem lt1 {n:Nat} (h:(n:Int)<1):(n:Int)=0:=by omega
theorem nlt1 {n:Nat} (h:¬ (n:Int)<1):¬ (n:Int)=0:=by omega
abbrev kA7 (ts:List Token) (a:Nat):Token:=ts.getD (a:Int).toNat kT0
noncomputable def ccN7_99:Code:=(Tryd.f99.body).getD .skip
theorem rwk_aux (f:Nat) (ts:List Token) (ab:Int) (a:Nat) (fs:List Item) (ha:a≤ts.length) (hf:fs.length≤a) (hl:ts.length≤4000) (h1:1≤ab) (hab:ab≤900)
  (ih:∀(ab':Int) (a':Nat) (fs':List Item),1≤ab'→ab'<ab→a'≤ts.length→fs'.length≤a' →
   FOk EN 99 ⟨[.pr rootsP,.rd 100 ts,.ow 198 fs',.bx 195 [.n 1,.i a',.i 0,.n 2]],[.p 3 0,.i ab'],List UInt8,fun v=>([.pr rootsP,.rd 100 ts,.no,.bx 195 [.n 1,.i (wkN ts f ab' a' fs').a,.i (codeO (wkN ts f ab' a' fs').e),.n 4],.ow 198 (wkN ts f ab' a' fs').fs],.a [.h 32 v]),fun v=>v.length=32∧((wkN ts f ab' a' fs').e.isNone=true→v=(wkN ts f ab' a' fs').h)⟩) :
   FOk EN 99 ⟨[.pr rootsP,.rd 100 ts,.ow 198 fs,.bx 195 [.n 1,.i a,.i 0,.n 2]],[.p 3 0,.i ab],List UInt8,fun v=>([.pr rootsP,.rd 100 ts,.no,.bx 195 [.n 1,.i (wkN ts (f+1) ab a fs).a,.i (codeO (wkN ts (f+1) ab a fs).e),.n 4],.ow 198 (wkN ts (f+1) ab a fs).fs],.a [.h 32 v]),fun v=>v.length=32∧((wkN ts (f+1) ab a fs).e.isNone=true→v=(wkN ts (f+1) ab a fs).h)⟩:=by
 refine v_fun Tryd.f99 ccN7_99 MX (fun ν F σ w=>?_) Tryd.func99
 refine v_nl ?_
 refine v_plan (.fs [0,1,2,3,4,5,6,7,8,9] .e) [2,3,5] True trivial ?_
 refine v_if (decide ((↑ts.length:Int)≤(↑a:Int))) True trivial (fun h1=>?_) (fun h1=>?_)
 ·have h1:=of_decide_eq_true h1
  exact v_ret z32 [2] ((List.replicate (32:Nat) (0:UInt8)=List.replicate (32:Nat) (0:UInt8))∧(rootsP=rootsP)∧(ts=ts)∧((↑a:Int)=(↑(wkN ts (f+1) ab a fs).a:Int))∧(4=codeO (wkN ts (f+1) ab a fs).e)∧(fs=(wkN ts (f+1) ab a fs).fs)) ⟨rfl,rfl,rfl,(by(rw[wk1 ‹_›] <;> first | rfl | exact⟨rfl,fun h=>Bool.noConfusion (show false=true from h)⟩ | exact⟨Sum32.h _,fun _=>rfl⟩ | exact⟨Tr.nsum_len _ _ _ _ _ _,fun _=>rfl⟩)),(by(rw[wk1 ‹_›] <;> first | rfl | exact⟨rfl,fun h=>Bool.noConfusion (show false=true from h)⟩ | exact⟨Sum32.h _,fun _=>rfl⟩ | exact⟨Tr.nsum_len _ _ _ _ _ _,fun _=>rfl⟩)),(by(rw[wk1 ‹_›] <;> first | rfl | exact⟨rfl,fun h=>Bool.noConfusion (show false=true from h)⟩ | exact⟨Sum32.h _,fun _=>rfl⟩ | exact⟨Tr.nsum_len _ _ _ _ _ _,fun _=>rfl⟩))⟩ (by(rw[wk1 ‹_›] <;> first | rfl | exact⟨rfl,fun h=>Bool.noConfusion (show false=true from h)⟩ | exact⟨Sum32.h _,fun _=>rfl⟩ | exact⟨Tr.nsum_len _ _ _ _ _ _,fun _=>rfl⟩))
 ·have h1:=of_decide_eq_false h1
  refine v_plan (.fs [0,1,2,3,4,5,6,7,8,9] (.o 10 (.o 11 .e))) [2,3,5] True trivial ?_
  refine v_if (decide ((kA7 ts a).kind=1)) ((0≤(↑a:Int)∧(↑a:Int)<(↑ts.length:Int))∧(I64 (↑a+1))) ⟨(by omega),(by(unfold I64;omega))⟩ (fun h2=>?_) (fun h2=>?_)
  ·have h2:=of_decide_eq_true h2
   exact v_ret ((kA7 ts a).hash.l) [11] ((fs.length+1≤1000000)∧((kA7 ts a).hash.l=(kA7 ts a).hash.l)∧(rootsP=rootsP)∧(ts=ts)∧((↑a:Int)+1=(↑(wkN ts (f+1) ab a fs).a:Int))∧(0=codeO (wkN ts (f+1) ab a fs).e)∧(fs++[Item.mk true [] []]=(wkN ts (f+1) ab a fs).fs)) ⟨(by omega),rfl,rfl,rfl,(by(rw[wk2 ‹_› ‹_›] <;> first | rfl | exact⟨rfl,fun h=>Bool.noConfusion (show false=true from h)⟩ | exact⟨Sum32.h _,fun _=>rfl⟩ | exact⟨Tr.nsum_len _ _ _ _ _ _,fun _=>rfl⟩)),(by(rw[wk2 ‹_› ‹_›] <;> first | rfl | exact⟨rfl,fun h=>Bool.noConfusion (show false=true from h)⟩ | exact⟨Sum32.h _,fun _=>rfl⟩ | exact⟨Tr.nsum_len _ _ _ _ _ _,fun _=>rfl⟩)),(by(rw[wk2 ‹_› ‹_›] <;> first | rfl | exact⟨rfl,fun h=>Bool.noConfusion (show false=true from h)⟩ | exact⟨Sum32.h _,fun _=>rfl⟩ | exact⟨Tr.nsum_len _ _ _ _ _ _,fun _=>rfl⟩))⟩ (by(rw[wk2 ‹_› ‹_›] <;> first | rfl | exact⟨rfl,fun h=>Bool.noConfusion (show false=true from h)⟩ | exact⟨Sum32.h _,fun _=>rfl⟩ | exact⟨Tr.nsum_len _ _ _ _ _ _,fun _=>rfl⟩))
  ·have h2:=of_decide_eq_false h2
   refine v_if (decide ((kA7 ts a).kind=2)) True trivial (fun h3=>?_) (fun h3=>?_)
   ·have h3:=of_decide_eq_true h3
    refine v_guard 61 (decide ((↑(kA7 ts a).key.length:Int)<1)) True trivial (fun h4=>?_) (fun h4=>?_)
    ·have h4:=of_decide_eq_true h4
     exact v_ret z32 [2] ((List.replicate (32:Nat) (0:UInt8)=List.replicate (32:Nat) (0:UInt8))∧(rootsP=rootsP)∧(ts=ts)∧((↑a:Int)+1=(↑(wkN ts (f+1) ab a fs).a:Int))∧(10=codeO (wkN ts (f+1) ab a fs).e)∧(fs=(wkN ts (f+1) ab a fs).fs)) ⟨rfl,rfl,rfl,(by(rw[wk3 ‹_› ‹_› ‹_› (by first | exact .inl (lt1 ‹_›) | exact .inr (.inl ‹_›) | exact .inr (.inr ‹_›))] <;> first | rfl | exact⟨rfl,fun h=>Bool.noConfusion (show false=true from h)⟩ | exact⟨Sum32.h _,fun _=>rfl⟩ | exact⟨Tr.nsum_len _ _ _ _ _ _,fun _=>rfl⟩)),(by(rw[wk3 ‹_› ‹_› ‹_› (by first | exact .inl (lt1 ‹_›) | exact .inr (.inl ‹_›) | exact .inr (.inr ‹_›))] <;> first | rfl | exact⟨rfl,fun h=>Bool.noConfusion (show false=true from h)⟩ | exact⟨Sum32.h _,fun _=>rfl⟩ | exact⟨Tr.nsum_len _ _ _ _ _ _,fun _=>rfl⟩)),(by(rw[wk3 ‹_› ‹_› ‹_› (by first | exact .inl (lt1 ‹_›) | exact .inr (.inl ‹_›) | exact .inr (.inr ‹_›))] <;> first | rfl | exact⟨rfl,fun h=>Bool.noConfusion (show false=true from h)⟩ | exact⟨Sum32.h _,fun _=>rfl⟩ | exact⟨Tr.nsum_len _ _ _ _ _ _,fun _=>rfl⟩))⟩ (by(rw[wk3 ‹_› ‹_› ‹_› (by first | exact .inl (lt1 ‹_›) | exact .inr (.inl ‹_›) | exact .inr (.inr ‹_›))] <;> first | rfl | exact⟨rfl,fun h=>Bool.noConfusion (show false=true from h)⟩ | exact⟨Sum32.h _,fun _=>rfl⟩ | exact⟨Tr.nsum_len _ _ _ _ _ _,fun _=>rfl⟩))
    ·have h4:=of_decide_eq_false h4
     refine v_guard 67 (decide (96<(↑(kA7 ts a).key.length:Int))) True trivial (fun h5=>?_) (fun h5=>?_)
     ·have h5:=of_decide_eq_true h5
      exact v_ret z32 [2] ((List.replicate (32:Nat) (0:UInt8)=List.replicate (32:Nat) (0:UInt8))∧(rootsP=rootsP)∧(ts=ts)∧((↑a:Int)+1=(↑(wkN ts (f+1) ab a fs).a:Int))∧(10=codeO (wkN ts (f+1) ab a fs).e)∧(fs=(wkN ts (f+1) ab a fs).fs)) ⟨rfl,rfl,rfl,(by(rw[wk3 ‹_› ‹_› ‹_› (by first | exact .inl (lt1 ‹_›) | exact .inr (.inl ‹_›) | exact .inr (.inr ‹_›))] <;> first | rfl | exact⟨rfl,fun h=>Bool.noConfusion (show false=true from h)⟩ | exact⟨Sum32.h _,fun _=>rfl⟩ | exact⟨Tr.nsum_len _ _ _ _ _ _,fun _=>rfl⟩)),(by(rw[wk3 ‹_› ‹_› ‹_› (by first | exact .inl (lt1 ‹_›) | exact .inr (.inl ‹_›) | exact .inr (.inr ‹_›))] <;> first | rfl | exact⟨rfl,fun h=>Bool.noConfusion (show false=true from h)⟩ | exact⟨Sum32.h _,fun _=>rfl⟩ | exact⟨Tr.nsum_len _ _ _ _ _ _,fun _=>rfl⟩)),(by(rw[wk3 ‹_› ‹_› ‹_› (by first | exact .inl (lt1 ‹_›) | exact .inr (.inl ‹_›) | exact .inr (.inr ‹_›))] <;> first | rfl | exact⟨rfl,fun h=>Bool.noConfusion (show false=true from h)⟩ | exact⟨Sum32.h _,fun _=>rfl⟩ | exact⟨Tr.nsum_len _ _ _ _ _ _,fun _=>rfl⟩))⟩ (by(rw[wk3 ‹_› ‹_› ‹_› (by first | exact .inl (lt1 ‹_›) | exact .inr (.inl ‹_›) | exact .inr (.inr ‹_›))] <;> first | rfl | exact⟨rfl,fun h=>Bool.noConfusion (show false=true from h)⟩ | exact⟨Sum32.h _,fun _=>rfl⟩ | exact⟨Tr.nsum_len _ _ _ _ _ _,fun _=>rfl⟩))
     ·have h5:=of_decide_eq_false h5
      refine v_if (decide (256<(↑(kA7 ts a).value.length:Int))) True trivial (fun h6=>?_) (fun h6=>?_)
      ·have h6:=of_decide_eq_true h6
       exact v_ret z32 [2] ((List.replicate (32:Nat) (0:UInt8)=List.replicate (32:Nat) (0:UInt8))∧(rootsP=rootsP)∧(ts=ts)∧((↑a:Int)+1=(↑(wkN ts (f+1) ab a fs).a:Int))∧(10=codeO (wkN ts (f+1) ab a fs).e)∧(fs=(wkN ts (f+1) ab a fs).fs)) ⟨rfl,rfl,rfl,(by(rw[wk3 ‹_› ‹_› ‹_› (by first | exact .inl (lt1 ‹_›) | exact .inr (.inl ‹_›) | exact .inr (.inr ‹_›))] <;> first | rfl | exact⟨rfl,fun h=>Bool.noConfusion (show false=true from h)⟩ | exact⟨Sum32.h _,fun _=>rfl⟩ | exact⟨Tr.nsum_len _ _ _ _ _ _,fun _=>rfl⟩)),(by(rw[wk3 ‹_› ‹_› ‹_› (by first | exact .inl (lt1 ‹_›) | exact .inr (.inl ‹_›) | exact .inr (.inr ‹_›))] <;> first | rfl | exact⟨rfl,fun h=>Bool.noConfusion (show false=true from h)⟩ | exact⟨Sum32.h _,fun _=>rfl⟩ | exact⟨Tr.nsum_len _ _ _ _ _ _,fun _=>rfl⟩)),(by(rw[wk3 ‹_› ‹_› ‹_› (by first | exact .inl (lt1 ‹_›) | exact .inr (.inl ‹_›) | exact .inr (.inr ‹_›))] <;> first | rfl | exact⟨rfl,fun h=>Bool.noConfusion (show false=true from h)⟩ | exact⟨Sum32.h _,fun _=>rfl⟩ | exact⟨Tr.nsum_len _ _ _ _ _ _,fun _=>rfl⟩))⟩ (by(rw[wk3 ‹_› ‹_› ‹_› (by first | exact .inl (lt1 ‹_›) | exact .inr (.inl ‹_›) | exact .inr (.inr ‹_›))] <;> first | rfl | exact⟨rfl,fun h=>Bool.noConfusion (show false=true from h)⟩ | exact⟨Sum32.h _,fun _=>rfl⟩ | exact⟨Tr.nsum_len _ _ _ _ _ _,fun _=>rfl⟩))
      ·have h6:=of_decide_eq_false h6
       refine v_plan (.fs [0,1,2,3,5,7] (.c 4 (.c 6 (.o 8 (.fs [9] (.o 10 (.o 11 (.fs [12,13] (.o 14 .e)))))) (.o 8 (.o 6 (.fs [9] (.o 10 (.o 11 (.fs [12,13] (.o 14 .e)))))))) (.c 6 (.c 4 (.o 8 (.fs [9] (.o 10 (.o 11 (.fs [12,13] (.o 14 .e)))))) (.o 8 (.fs [9] (.c 4 (.o 10 (.o 11 (.fs [12,13] (.o 14 .e)))) (.o 10 (.o 4 (.o 11 (.fs [12,13] (.o 14 .e))))))))) (.o 8 (.c 4 (.o 6 (.fs [9] (.o 10 (.o 11 (.fs [12,13] (.o 14 .e)))))) (.o 6 (.fs [9] (.c 4 (.o 10 (.o 11 (.fs [12,13] (.o 14 .e)))) (.o 10 (.o 4 (.o 11 (.fs [12,13] (.o 14 .e))))))))))))) [] True trivial ?_
       refine v_pick True trivial ?_ ?_
       ·skip
        refine v_pick True trivial ?_ ?_
        ·skip
         refine v_call _ [0,6,7] (rhash_ok (0) (1) ((kA7 ts a).key) ((kA7 ts a).value) z32 z32 (by decide) (by omega) (by omega) rfl rfl) ((fs.length+1≤1000000)∧((0:Int)=(0:Int))∧((1:UInt64)=(1:UInt64))∧(List.replicate (32:Nat) (0:UInt8)=List.replicate (32:Nat) (0:UInt8))∧(List.replicate (32:Nat) (0:UInt8)=List.replicate (32:Nat) (0:UInt8))∧(rootsP=rootsP)∧((kA7 ts a).key=(kA7 ts a).key)∧((kA7 ts a).value=(kA7 ts a).value)) ⟨(by omega),rfl,rfl,rfl,rfl,rfl,rfl,rfl⟩ (fun g7 p8=>?_)
         have p8:True:=p8
         exact v_ret (nsum 0 1 (kA7 ts a).key (kA7 ts a).value z32 z32) [11] ((nsum 0 1 (kA7 ts a).key (kA7 ts a).value z32 z32=nsum 0 1 (kA7 ts a).key (kA7 ts a).value z32 z32)∧(rootsP=rootsP)∧(ts=ts)∧((↑a:Int)+1=(↑(wkN ts (f+1) ab a fs).a:Int))∧(0=codeO (wkN ts (f+1) ab a fs).e)∧(fs++[Item.mk false (kA7 ts a).key (kA7 ts a).value]=(wkN ts (f+1) ab a fs).fs)) ⟨rfl,rfl,rfl,(by(rw[wk4 ‹_› ‹_› ‹_› (nlt1 ‹_›) ‹_› ‹_›] <;> first | rfl | exact⟨rfl,fun h=>Bool.noConfusion (show false=true from h)⟩ | exact⟨Sum32.h _,fun _=>rfl⟩ | exact⟨Tr.nsum_len _ _ _ _ _ _,fun _=>rfl⟩)),(by(rw[wk4 ‹_› ‹_› ‹_› (nlt1 ‹_›) ‹_› ‹_›] <;> first | rfl | exact⟨rfl,fun h=>Bool.noConfusion (show false=true from h)⟩ | exact⟨Sum32.h _,fun _=>rfl⟩ | exact⟨Tr.nsum_len _ _ _ _ _ _,fun _=>rfl⟩)),(by(rw[wk4 ‹_› ‹_› ‹_› (nlt1 ‹_›) ‹_› ‹_›] <;> first | rfl | exact⟨rfl,fun h=>Bool.noConfusion (show false=true from h)⟩ | exact⟨Sum32.h _,fun _=>rfl⟩ | exact⟨Tr.nsum_len _ _ _ _ _ _,fun _=>rfl⟩))⟩ (by(rw[wk4 ‹_› ‹_› ‹_› (nlt1 ‹_›) ‹_› ‹_›] <;> first | rfl | exact⟨rfl,fun h=>Bool.noConfusion (show false=true from h)⟩ | exact⟨Sum32.h _,fun _=>rfl⟩ | exact⟨Tr.nsum_len _ _ _ _ _ _,fun _=>rfl⟩))
        ·skip
         refine v_call _ [0,6,7] (rhash_ok (0) (1) ((kA7 ts a).key) ((kA7 ts a).value) z32 z32 (by decide) (by omega) (by omega) rfl rfl) ((fs.length+1≤1000000)∧((0:Int)=(0:Int))∧((1:UInt64)=(1:UInt64))∧(List.replicate (32:Nat) (0:UInt8)=List.replicate (32:Nat) (0:UInt8))∧(List.replicate (32:Nat) (0:UInt8)=List.replicate (32:Nat) (0:UInt8))∧(rootsP=rootsP)∧((kA7 ts a).key=(kA7 ts a).key)∧((kA7 ts a).value=(kA7 ts a).value)) ⟨(by omega),rfl,rfl,rfl,rfl,rfl,rfl,rfl⟩ (fun g9 p10=>?_)
         have p10:True:=p10
         exact v_ret (nsum 0 1 (kA7 ts a).key (kA7 ts a).value z32 z32) [11] ((nsum 0 1 (kA7 ts a).key (kA7 ts a).value z32 z32=nsum 0 1 (kA7 ts a).key (kA7 ts a).value z32 z32)∧(rootsP=rootsP)∧(ts=ts)∧((↑a:Int)+1=(↑(wkN ts (f+1) ab a fs).a:Int))∧(0=codeO (wkN ts (f+1) ab a fs).e)∧(fs++[Item.mk false (kA7 ts a).key (kA7 ts a).value]=(wkN ts (f+1) ab a fs).fs)) ⟨rfl,rfl,rfl,(by(rw[wk4 ‹_› ‹_› ‹_› (nlt1 ‹_›) ‹_› ‹_›] <;> first | rfl | exact⟨rfl,fun h=>Bool.noConfusion (show false=true from h)⟩ | exact⟨Sum32.h _,fun _=>rfl⟩ | exact⟨Tr.nsum_len _ _ _ _ _ _,fun _=>rfl⟩)),(by(rw[wk4 ‹_› ‹_› ‹_› (nlt1 ‹_›) ‹_› ‹_›] <;> first | rfl | exact⟨rfl,fun h=>Bool.noConfusion (show false=true from h)⟩ | exact⟨Sum32.h _,fun _=>rfl⟩ | exact⟨Tr.nsum_len _ _ _ _ _ _,fun _=>rfl⟩)),(by(rw[wk4 ‹_› ‹_› ‹_› (nlt1 ‹_›) ‹_› ‹_›] <;> first | rfl | exact⟨rfl,fun h=>Bool.noConfusion (show false=true from h)⟩ | exact⟨Sum32.h _,fun _=>rfl⟩ | exact⟨Tr.nsum_len _ _ _ _ _ _,fun _=>rfl⟩))⟩ (by(rw[wk4 ‹_› ‹_› ‹_› (nlt1 ‹_›) ‹_› ‹_›] <;> first | rfl | exact⟨rfl,fun h=>Bool.noConfusion (show false=true from h)⟩ | exact⟨Sum32.h _,fun _=>rfl⟩ | exact⟨Tr.nsum_len _ _ _ _ _ _,fun _=>rfl⟩))
       ·skip
        refine v_pick True trivial ?_ ?_
        ·skip
         refine v_pick True trivial ?_ ?_
         ·skip
          refine v_call _ [0,6,7] (rhash_ok (0) (1) ((kA7 ts a).key) ((kA7 ts a).value) z32 z32 (by decide) (by omega) (by omega) rfl rfl) ((fs.length+1≤1000000)∧((0:Int)=(0:Int))∧((1:UInt64)=(1:UInt64))∧(List.replicate (32:Nat) (0:UInt8)=List.replicate (32:Nat) (0:UInt8))∧(List.replicate (32:Nat) (0:UInt8)=List.replicate (32:Nat) (0:UInt8))∧(rootsP=rootsP)∧((kA7 ts a).key=(kA7 ts a).key)∧((kA7 ts a).value=(kA7 ts a).value)) ⟨(by omega),rfl,rfl,rfl,rfl,rfl,rfl,rfl⟩ (fun g11 p12=>?_)
          have p12:True:=p12
          exact v_ret (nsum 0 1 (kA7 ts a).key (kA7 ts a).value z32 z32) [11] ((nsum 0 1 (kA7 ts a).key (kA7 ts a).value z32 z32=nsum 0 1 (kA7 ts a).key (kA7 ts a).value z32 z32)∧(rootsP=rootsP)∧(ts=ts)∧((↑a:Int)+1=(↑(wkN ts (f+1) ab a fs).a:Int))∧(0=codeO (wkN ts (f+1) ab a fs).e)∧(fs++[Item.mk false (kA7 ts a).key (kA7 ts a).value]=(wkN ts (f+1) ab a fs).fs)) ⟨rfl,rfl,rfl,(by(rw[wk4 ‹_› ‹_› ‹_› (nlt1 ‹_›) ‹_› ‹_›] <;> first | rfl | exact⟨rfl,fun h=>Bool.noConfusion (show false=true from h)⟩ | exact⟨Sum32.h _,fun _=>rfl⟩ | exact⟨Tr.nsum_len _ _ _ _ _ _,fun _=>rfl⟩)),(by(rw[wk4 ‹_› ‹_› ‹_› (nlt1 ‹_›) ‹_› ‹_›] <;> first | rfl | exact⟨rfl,fun h=>Bool.noConfusion (show false=true from h)⟩ | exact⟨Sum32.h _,fun _=>rfl⟩ | exact⟨Tr.nsum_len _ _ _ _ _ _,fun _=>rfl⟩)),(by(rw[wk4 ‹_› ‹_› ‹_› (nlt1 ‹_›) ‹_› ‹_›] <;> first | rfl | exact⟨rfl,fun h=>Bool.noConfusion (show false=true from h)⟩ | exact⟨Sum32.h _,fun _=>rfl⟩ | exact⟨Tr.nsum_len _ _ _ _ _ _,fun _=>rfl⟩))⟩ (by(rw[wk4 ‹_› ‹_› ‹_› (nlt1 ‹_›) ‹_› ‹_›] <;> first | rfl | exact⟨rfl,fun h=>Bool.noConfusion (show false=true from h)⟩ | exact⟨Sum32.h _,fun _=>rfl⟩ | exact⟨Tr.nsum_len _ _ _ _ _ _,fun _=>rfl⟩))
         ·skip
          refine v_pick True trivial ?_ ?_
          ·skip
           refine v_call _ [0,6,7] (rhash_ok (0) (1) ((kA7 ts a).key) ((kA7 ts a).value) z32 z32 (by decide) (by omega) (by omega) rfl rfl) ((fs.length+1≤1000000)∧((0:Int)=(0:Int))∧((1:UInt64)=(1:UInt64))∧(List.replicate (32:Nat) (0:UInt8)=List.replicate (32:Nat) (0:UInt8))∧(List.replicate (32:Nat) (0:UInt8)=List.replicate (32:Nat) (0:UInt8))∧(rootsP=rootsP)∧((kA7 ts a).key=(kA7 ts a).key)∧((kA7 ts a).value=(kA7 ts a).value)) ⟨(by omega),rfl,rfl,rfl,rfl,rfl,rfl,rfl⟩ (fun g13 p14=>?_)
           have p14:True:=p14
           exact v_ret (nsum 0 1 (kA7 ts a).key (kA7 ts a).value z32 z32) [11] ((nsum 0 1 (kA7 ts a).key (kA7 ts a).value z32 z32=nsum 0 1 (kA7 ts a).key (kA7 ts a).value z32 z32)∧(rootsP=rootsP)∧(ts=ts)∧((↑a:Int)+1=(↑(wkN ts (f+1) ab a fs).a:Int))∧(0=codeO (wkN ts (f+1) ab a fs).e)∧(fs++[Item.mk false (kA7 ts a).key (kA7 ts a).value]=(wkN ts (f+1) ab a fs).fs)) ⟨rfl,rfl,rfl,(by(rw[wk4 ‹_› ‹_› ‹_› (nlt1 ‹_›) ‹_› ‹_›] <;> first | rfl | exact⟨rfl,fun h=>Bool.noConfusion (show false=true from h)⟩ | exact⟨Sum32.h _,fun _=>rfl⟩ | exact⟨Tr.nsum_len _ _ _ _ _ _,fun _=>rfl⟩)),(by(rw[wk4 ‹_› ‹_› ‹_› (nlt1 ‹_›) ‹_› ‹_›] <;> first | rfl | exact⟨rfl,fun h=>Bool.noConfusion (show false=true from h)⟩ | exact⟨Sum32.h _,fun _=>rfl⟩ | exact⟨Tr.nsum_len _ _ _ _ _ _,fun _=>rfl⟩)),(by(rw[wk4 ‹_› ‹_› ‹_› (nlt1 ‹_›) ‹_› ‹_›] <;> first | rfl | exact⟨rfl,fun h=>Bool.noConfusion (show false=true from h)⟩ | exact⟨Sum32.h _,fun _=>rfl⟩ | exact⟨Tr.nsum_len _ _ _ _ _ _,fun _=>rfl⟩))⟩ (by(rw[wk4 ‹_› ‹_› ‹_› (nlt1 ‹_›) ‹_› ‹_›] <;> first | rfl | exact⟨rfl,fun h=>Bool.noConfusion (show false=true from h)⟩ | exact⟨Sum32.h _,fun _=>rfl⟩ | exact⟨Tr.nsum_len _ _ _ _ _ _,fun _=>rfl⟩))
          ·skip
           refine v_call _ [0,6,7] (rhash_ok (0) (1) ((kA7 ts a).key) ((kA7 ts a).value) z32 z32 (by decide) (by omega) (by omega) rfl rfl) ((fs.length+1≤1000000)∧((0:Int)=(0:Int))∧((1:UInt64)=(1:UInt64))∧(List.replicate (32:Nat) (0:UInt8)=List.replicate (32:Nat) (0:UInt8))∧(List.replicate (32:Nat) (0:UInt8)=List.replicate (32:Nat) (0:UInt8))∧(rootsP=rootsP)∧((kA7 ts a).key=(kA7 ts a).key)∧((kA7 ts a).value=(kA7 ts a).value)) ⟨(by omega),rfl,rfl,rfl,rfl,rfl,rfl,rfl⟩ (fun g15 p16=>?_)
           have p16:True:=p16
           exact v_ret (nsum 0 1 (kA7 ts a).key (kA7 ts a).value z32 z32) [11] ((nsum 0 1 (kA7 ts a).key (kA7 ts a).value z32 z32=nsum 0 1 (kA7 ts a).key (kA7 ts a).value z32 z32)∧(rootsP=rootsP)∧(ts=ts)∧((↑a:Int)+1=(↑(wkN ts (f+1) ab a fs).a:Int))∧(0=codeO (wkN ts (f+1) ab a fs).e)∧(fs++[Item.mk false (kA7 ts a).key (kA7 ts a).value]=(wkN ts (f+1) ab a fs).fs)) ⟨rfl,rfl,rfl,(by(rw[wk4 ‹_› ‹_› ‹_› (nlt1 ‹_›) ‹_› ‹_›] <;> first | rfl | exact⟨rfl,fun h=>Bool.noConfusion (show false=true from h)⟩ | exact⟨Sum32.h _,fun _=>rfl⟩ | exact⟨Tr.nsum_len _ _ _ _ _ _,fun _=>rfl⟩)),(by(rw[wk4 ‹_› ‹_› ‹_› (nlt1 ‹_›) ‹_› ‹_›] <;> first | rfl | exact⟨rfl,fun h=>Bool.noConfusion (show false=true from h)⟩ | exact⟨Sum32.h _,fun _=>rfl⟩ | exact⟨Tr.nsum_len _ _ _ _ _ _,fun _=>rfl⟩)),(by(rw[wk4 ‹_› ‹_› ‹_› (nlt1 ‹_›) ‹_› ‹_›] <;> first | rfl | exact⟨rfl,fun h=>Bool.noConfusion (show false=true from h)⟩ | exact⟨Sum32.h _,fun _=>rfl⟩ | exact⟨Tr.nsum_len _ _ _ _ _ _,fun _=>rfl⟩))⟩ (by(rw[wk4 ‹_› ‹_› ‹_› (nlt1 ‹_›) ‹_› ‹_›] <;> first | rfl | exact⟨rfl,fun h=>Bool.noConfusion (show false=true from h)⟩ | exact⟨Sum32.h _,fun _=>rfl⟩ | exact⟨Tr.nsum_len _ _ _ _ _ _,fun _=>rfl⟩))
        ·skip
         refine v_pick True trivial ?_ ?_
         ·skip
          refine v_call _ [0,6,7] (rhash_ok (0) (1) ((kA7 ts a).key) ((kA7 ts a).value) z32 z32 (by decide) (by omega) (by omega) rfl rfl) ((fs.length+1≤1000000)∧((0:Int)=(0:Int))∧((1:UInt64)=(1:UInt64))∧(List.replicate (32:Nat) (0:UInt8)=List.replicate (32:Nat) (0:UInt8))∧(List.replicate (32:Nat) (0:UInt8)=List.replicate (32:Nat) (0:UInt8))∧(rootsP=rootsP)∧((kA7 ts a).key=(kA7 ts a).key)∧((kA7 ts a).value=(kA7 ts a).value)) ⟨(by omega),rfl,rfl,rfl,rfl,rfl,rfl,rfl⟩ (fun g17 p18=>?_)
          have p18:True:=p18
          exact v_ret (nsum 0 1 (kA7 ts a).key (kA7 ts a).value z32 z32) [11] ((nsum 0 1 (kA7 ts a).key (kA7 ts a).value z32 z32=nsum 0 1 (kA7 ts a).key (kA7 ts a).value z32 z32)∧(rootsP=rootsP)∧(ts=ts)∧((↑a:Int)+1=(↑(wkN ts (f+1) ab a fs).a:Int))∧(0=codeO (wkN ts (f+1) ab a fs).e)∧(fs++[Item.mk false (kA7 ts a).key (kA7 ts a).value]=(wkN ts (f+1) ab a fs).fs)) ⟨rfl,rfl,rfl,(by(rw[wk4 ‹_› ‹_› ‹_› (nlt1 ‹_›) ‹_› ‹_›] <;> first | rfl | exact⟨rfl,fun h=>Bool.noConfusion (show false=true from h)⟩ | exact⟨Sum32.h _,fun _=>rfl⟩ | exact⟨Tr.nsum_len _ _ _ _ _ _,fun _=>rfl⟩)),(by(rw[wk4 ‹_› ‹_› ‹_› (nlt1 ‹_›) ‹_› ‹_›] <;> first | rfl | exact⟨rfl,fun h=>Bool.noConfusion (show false=true from h)⟩ | exact⟨Sum32.h _,fun _=>rfl⟩ | exact⟨Tr.nsum_len _ _ _ _ _ _,fun _=>rfl⟩)),(by(rw[wk4 ‹_› ‹_› ‹_› (nlt1 ‹_›) ‹_› ‹_›] <;> first | rfl | exact⟨rfl,fun h=>Bool.noConfusion (show false=true from h)⟩ | exact⟨Sum32.h _,fun _=>rfl⟩ | exact⟨Tr.nsum_len _ _ _ _ _ _,fun _=>rfl⟩))⟩ (by(rw[wk4 ‹_› ‹_› ‹_› (nlt1 ‹_›) ‹_› ‹_›] <;> first | rfl | exact⟨rfl,fun h=>Bool.noConfusion (show false=true from h)⟩ | exact⟨Sum32.h _,fun _=>rfl⟩ | exact⟨Tr.nsum_len _ _ _ _ _ _,fun _=>rfl⟩))
         ·skip
          refine v_pick True trivial ?_ ?_
          ·skip
           refine v_call _ [0,6,7] (rhash_ok (0) (1) ((kA7 ts a).key) ((kA7 ts a).value) z32 z32 (by decide) (by omega) (by omega) rfl rfl) ((fs.length+1≤1000000)∧((0:Int)=(0:Int))∧((1:UInt64)=(1:UInt64))∧(List.replicate (32:Nat) (0:UInt8)=List.replicate (32:Nat) (0:UInt8))∧(List.replicate (32:Nat) (0:UInt8)=List.replicate (32:Nat) (0:UInt8))∧(rootsP=rootsP)∧((kA7 ts a).key=(kA7 ts a).key)∧((kA7 ts a).value=(kA7 ts a).value)) ⟨(by omega),rfl,rfl,rfl,rfl,rfl,rfl,rfl⟩ (fun g19 p20=>?_)
           have p20:True:=p20
           exact v_ret (nsum 0 1 (kA7 ts a).key (kA7 ts a).value z32 z32) [11] ((nsum 0 1 (kA7 ts a).key (kA7 ts a).value z32 z32=nsum 0 1 (kA7 ts a).key (kA7 ts a).value z32 z32)∧(rootsP=rootsP)∧(ts=ts)∧((↑a:Int)+1=(↑(wkN ts (f+1) ab a fs).a:Int))∧(0=codeO (wkN ts (f+1) ab a fs).e)∧(fs++[Item.mk false (kA7 ts a).key (kA7 ts a).value]=(wkN ts (f+1) ab a fs).fs)) ⟨rfl,rfl,rfl,(by(rw[wk4 ‹_› ‹_› ‹_› (nlt1 ‹_›) ‹_› ‹_›] <;> first | rfl | exact⟨rfl,fun h=>Bool.noConfusion (show false=true from h)⟩ | exact⟨Sum32.h _,fun _=>rfl⟩ | exact⟨Tr.nsum_len _ _ _ _ _ _,fun _=>rfl⟩)),(by(rw[wk4 ‹_› ‹_› ‹_› (nlt1 ‹_›) ‹_› ‹_›] <;> first | rfl | exact⟨rfl,fun h=>Bool.noConfusion (show false=true from h)⟩ | exact⟨Sum32.h _,fun _=>rfl⟩ | exact⟨Tr.nsum_len _ _ _ _ _ _,fun _=>rfl⟩)),(by(rw[wk4 ‹_› ‹_› ‹_› (nlt1 ‹_›) ‹_› ‹_›] <;> first | rfl | exact⟨rfl,fun h=>Bool.noConfusion (show false=true from h)⟩ | exact⟨Sum32.h _,fun _=>rfl⟩ | exact⟨Tr.nsum_len _ _ _ _ _ _,fun _=>rfl⟩))⟩ (by(rw[wk4 ‹_› ‹_› ‹_› (nlt1 ‹_›) ‹_› ‹_›] <;> first | rfl | exact⟨rfl,fun h=>Bool.noConfusion (show false=true from h)⟩ | exact⟨Sum32.h _,fun _=>rfl⟩ | exact⟨Tr.nsum_len _ _ _ _ _ _,fun _=>rfl⟩))
          ·skip
           refine v_call _ [0,6,7] (rhash_ok (0) (1) ((kA7 ts a).key) ((kA7 ts a).value) z32 z32 (by decide) (by omega) (by omega) rfl rfl) ((fs.length+1≤1000000)∧((0:Int)=(0:Int))∧((1:UInt64)=(1:UInt64))∧(List.replicate (32:Nat) (0:UInt8)=List.replicate (32:Nat) (0:UInt8))∧(List.replicate (32:Nat) (0:UInt8)=List.replicate (32:Nat) (0:UInt8))∧(rootsP=rootsP)∧((kA7 ts a).key=(kA7 ts a).key)∧((kA7 ts a).value=(kA7 ts a).value)) ⟨(by omega),rfl,rfl,rfl,rfl,rfl,rfl,rfl⟩ (fun g21 p22=>?_)
           have p22:True:=p22
           exact v_ret (nsum 0 1 (kA7 ts a).key (kA7 ts a).value z32 z32) [11] ((nsum 0 1 (kA7 ts a).key (kA7 ts a).value z32 z32=nsum 0 1 (kA7 ts a).key (kA7 ts a).value z32 z32)∧(rootsP=rootsP)∧(ts=ts)∧((↑a:Int)+1=(↑(wkN ts (f+1) ab a fs).a:Int))∧(0=codeO (wkN ts (f+1) ab a fs).e)∧(fs++[Item.mk false (kA7 ts a).key (kA7 ts a).value]=(wkN ts (f+1) ab a fs).fs)) ⟨rfl,rfl,rfl,(by(rw[wk4 ‹_› ‹_› ‹_› (nlt1 ‹_›) ‹_› ‹_›] <;> first | rfl | exact⟨rfl,fun h=>Bool.noConfusion (show false=true from h)⟩ | exact⟨Sum32.h _,fun _=>rfl⟩ | exact⟨Tr.nsum_len _ _ _ _ _ _,fun _=>rfl⟩)),(by(rw[wk4 ‹_› ‹_› ‹_› (nlt1 ‹_›) ‹_› ‹_›] <;> first | rfl | exact⟨rfl,fun h=>Bool.noConfusion (show false=true from h)⟩ | exact⟨Sum32.h _,fun _=>rfl⟩ | exact⟨Tr.nsum_len _ _ _ _ _ _,fun _=>rfl⟩)),(by(rw[wk4 ‹_› ‹_› ‹_› (nlt1 ‹_›) ‹_› ‹_›] <;> first | rfl | exact⟨rfl,fun h=>Bool.noConfusion (show false=true from h)⟩ | exact⟨Sum32.h _,fun _=>rfl⟩ | exact⟨Tr.nsum_len _ _ _ _ _ _,fun _=>rfl⟩))⟩ (by(rw[wk4 ‹_› ‹_› ‹_› (nlt1 ‹_›) ‹_› ‹_›] <;> first | rfl | exact⟨rfl,fun h=>Bool.noConfusion (show false=true from h)⟩ | exact⟨Sum32.h _,fun _=>rfl⟩ | exact⟨Tr.nsum_len _ _ _ _ _ _,fun _=>rfl⟩))
   ·have h3:=of_decide_eq_false h3
    refine v_if (decide ((kA7 ts a).kind≠3)) True trivial (fun h23=>?_) (fun h23=>?_)
    ·have h23:=of_decide_eq_true h23
     exact v_ret z32 [2] ((List.replicate (32:Nat) (0:UInt8)=List.replicate (32:Nat) (0:UInt8))∧(rootsP=rootsP)∧(ts=ts)∧((↑a:Int)+1=(↑(wkN ts (f+1) ab a fs).a:Int))∧(61=codeO (wkN ts (f+1) ab a fs).e)∧(fs=(wkN ts (f+1) ab a fs).fs)) ⟨rfl,rfl,rfl,(by(rw[wk6 ‹_› ‹_› ‹_› ‹_›] <;> first | rfl | exact⟨rfl,fun h=>Bool.noConfusion (show false=true from h)⟩ | exact⟨Sum32.h _,fun _=>rfl⟩ | exact⟨Tr.nsum_len _ _ _ _ _ _,fun _=>rfl⟩)),(by(rw[wk6 ‹_› ‹_› ‹_› ‹_›] <;> first | rfl | exact⟨rfl,fun h=>Bool.noConfusion (show false=true from h)⟩ | exact⟨Sum32.h _,fun _=>rfl⟩ | exact⟨Tr.nsum_len _ _ _ _ _ _,fun _=>rfl⟩)),(by(rw[wk6 ‹_› ‹_› ‹_› ‹_›] <;> first | rfl | exact⟨rfl,fun h=>Bool.noConfusion (show false=true from h)⟩ | exact⟨Sum32.h _,fun _=>rfl⟩ | exact⟨Tr.nsum_len _ _ _ _ _ _,fun _=>rfl⟩))⟩ (by(rw[wk6 ‹_› ‹_› ‹_› ‹_›] <;> first | rfl | exact⟨rfl,fun h=>Bool.noConfusion (show false=true from h)⟩ | exact⟨Sum32.h _,fun _=>rfl⟩ | exact⟨Tr.nsum_len _ _ _ _ _ _,fun _=>rfl⟩))
    ·have h23:=of_decide_eq_false h23
     refine v_guard 107 (decide ((kA7 ts a).height<1)) True trivial (fun h24=>?_) (fun h24=>?_)
     ·have h24:=of_decide_eq_true h24
      exact v_ret z32 [2] ((List.replicate (32:Nat) (0:UInt8)=List.replicate (32:Nat) (0:UInt8))∧(rootsP=rootsP)∧(ts=ts)∧((↑a:Int)+1=(↑(wkN ts (f+1) ab a fs).a:Int))∧(12=codeO (wkN ts (f+1) ab a fs).e)∧(fs=(wkN ts (f+1) ab a fs).fs)) ⟨rfl,rfl,rfl,(by(rw[wk5 ‹_› ‹_› ‹_› (nn3 ‹_›) (by first | exact .inl ‹_› | exact .inr ‹_›)] <;> first | rfl | exact⟨rfl,fun h=>Bool.noConfusion (show false=true from h)⟩ | exact⟨Sum32.h _,fun _=>rfl⟩ | exact⟨Tr.nsum_len _ _ _ _ _ _,fun _=>rfl⟩)),(by(rw[wk5 ‹_› ‹_› ‹_› (nn3 ‹_›) (by first | exact .inl ‹_› | exact .inr ‹_›)] <;> first | rfl | exact⟨rfl,fun h=>Bool.noConfusion (show false=true from h)⟩ | exact⟨Sum32.h _,fun _=>rfl⟩ | exact⟨Tr.nsum_len _ _ _ _ _ _,fun _=>rfl⟩)),(by(rw[wk5 ‹_› ‹_› ‹_› (nn3 ‹_›) (by first | exact .inl ‹_› | exact .inr ‹_›)] <;> first | rfl | exact⟨rfl,fun h=>Bool.noConfusion (show false=true from h)⟩ | exact⟨Sum32.h _,fun _=>rfl⟩ | exact⟨Tr.nsum_len _ _ _ _ _ _,fun _=>rfl⟩))⟩ (by(rw[wk5 ‹_› ‹_› ‹_› (nn3 ‹_›) (by first | exact .inl ‹_› | exact .inr ‹_›)] <;> first | rfl | exact⟨rfl,fun h=>Bool.noConfusion (show false=true from h)⟩ | exact⟨Sum32.h _,fun _=>rfl⟩ | exact⟨Tr.nsum_len _ _ _ _ _ _,fun _=>rfl⟩))
     ·have h24:=of_decide_eq_false h24
      refine v_if (decide (ab≤(kA7 ts a).height)) True trivial (fun h25=>?_) (fun h25=>?_)
      ·have h25:=of_decide_eq_true h25
       exact v_ret z32 [2] ((List.replicate (32:Nat) (0:UInt8)=List.replicate (32:Nat) (0:UInt8))∧(rootsP=rootsP)∧(ts=ts)∧((↑a:Int)+1=(↑(wkN ts (f+1) ab a fs).a:Int))∧(12=codeO (wkN ts (f+1) ab a fs).e)∧(fs=(wkN ts (f+1) ab a fs).fs)) ⟨rfl,rfl,rfl,(by(rw[wk5 ‹_› ‹_› ‹_› (nn3 ‹_›) (by first | exact .inl ‹_› | exact .inr ‹_›)] <;> first | rfl | exact⟨rfl,fun h=>Bool.noConfusion (show false=true from h)⟩ | exact⟨Sum32.h _,fun _=>rfl⟩ | exact⟨Tr.nsum_len _ _ _ _ _ _,fun _=>rfl⟩)),(by(rw[wk5 ‹_› ‹_› ‹_› (nn3 ‹_›) (by first | exact .inl ‹_› | exact .inr ‹_›)] <;> first | rfl | exact⟨rfl,fun h=>Bool.noConfusion (show false=true from h)⟩ | exact⟨Sum32.h _,fun _=>rfl⟩ | exact⟨Tr.nsum_len _ _ _ _ _ _,fun _=>rfl⟩)),(by(rw[wk5 ‹_› ‹_› ‹_› (nn3 ‹_›) (by first | exact .inl ‹_› | exact .inr ‹_›)] <;> first | rfl | exact⟨rfl,fun h=>Bool.noConfusion (show false=true from h)⟩ | exact⟨Sum32.h _,fun _=>rfl⟩ | exact⟨Tr.nsum_len _ _ _ _ _ _,fun _=>rfl⟩))⟩ (by(rw[wk5 ‹_› ‹_› ‹_› (nn3 ‹_›) (by first | exact .inl ‹_› | exact .inr ‹_›)] <;> first | rfl | exact⟨rfl,fun h=>Bool.noConfusion (show false=true from h)⟩ | exact⟨Sum32.h _,fun _=>rfl⟩ | exact⟨Tr.nsum_len _ _ _ _ _ _,fun _=>rfl⟩))
      ·have h25:=of_decide_eq_false h25
       refine v_call _ [0,1,2,3] (ih ((kA7 ts a).height) (a+nat_lit 1) (fs) (by omega) (by omega) (by(simp;omega)) (by omega)) (((kA7 ts a).height=(kA7 ts a).height)∧(rootsP=rootsP)∧(ts=ts)∧(fs=fs)∧((↑a:Int)+(1:Int)=(↑(a+nat_lit 1):Int))∧((0:Int)=(0:Int))) ⟨rfl,rfl,rfl,rfl,rfl,rfl⟩ (fun g26 p27=>?_)
       have p27:g26.length=(32:Nat)∧((wkA ts f a fs).e.isNone=true→g26=(wkA ts f a fs).h):=p27
       refine v_if (decide (codeO (wkA ts f a fs).e=(0:Int))) True trivial (fun h28=>?_) (fun h28=>?_)
       ·have h28:=of_decide_eq_true h28
        refine v_call _ [0,1,11,3] (ih ((kA7 ts a).height) ((wkA ts f a fs).a) ((wkA ts f a fs).fs) (by omega) (by omega) (by exact(wkA_inv ‹_› hf).1) (by exact(wkA_inv ‹_› hf).2.1)) (((kA7 ts a).height=(kA7 ts a).height)∧(rootsP=rootsP)∧(ts=ts)∧((wkA ts f a fs).fs=(wkA ts f a fs).fs)∧((↑(wkA ts f a fs).a:Int)=(↑(wkA ts f a fs).a:Int))∧(codeO (wkA ts f a fs).e=(0:Int))) ⟨rfl,rfl,rfl,rfl,rfl,‹_›⟩ (fun g29 p30=>?_)
        have p30:g29.length=(32:Nat)∧((wkB ts f a fs).e.isNone=true→g29=(wkB ts f a fs).h):=p30
        refine v_call _ [0,4,4] (rhash_ok ((kA7 ts a).height) ((kA7 ts a).size) ([]) ([]) (g26) (g29) (by omega) (by decide) (by decide) (by omega) (by omega)) (((kA7 ts a).height=(kA7 ts a).height)∧((kA7 ts a).size=(kA7 ts a).size)∧(g26=g26)∧(g29=g29)∧(rootsP=rootsP)∧(Eq (α:=List UInt8) [] [])∧(Eq (α:=List UInt8) [] [])) ⟨rfl,rfl,rfl,rfl,rfl,rfl,rfl⟩ (fun g31 p32=>?_)
        have p32:True:=p32
        exact v_ret (nsum (kA7 ts a).height (kA7 ts a).size [] [] g26 g29) [12] ((nsum (kA7 ts a).height (kA7 ts a).size [] [] g26 g29=nsum (kA7 ts a).height (kA7 ts a).size [] [] g26 g29)∧(rootsP=rootsP)∧(ts=ts)∧((↑(wkB ts f a fs).a:Int)=(↑(wkN ts (f+(1:Nat)) ab a fs).a:Int))∧(codeO (wkB ts f a fs).e=codeO (wkN ts (f+(1:Nat)) ab a fs).e)∧((wkB ts f a fs).fs=(wkN ts (f+(1:Nat)) ab a fs).fs)) ⟨rfl,rfl,rfl,(by(rw[(wk89 ‹_› ‹_› ‹_› (nn3 ‹_›) ‹_› ‹_› ‹_›).2.1])),(by exact(wk89 ‹_› ‹_› ‹_› (nn3 ‹_›) ‹_› ‹_› ‹_›).1 ▸ rfl),(by(rw[(wk89 ‹_› ‹_› ‹_› (nn3 ‹_›) ‹_› ‹_› ‹_›).2.2.1]))⟩ (by exact wkF ‹_› ‹_› ‹_› (nn3 ‹_›) ‹_› ‹_› ‹_› ‹_› ‹_›)
       ·have h28:=of_decide_eq_false h28
        refine v_call _ [0,4,4] (rhash_ok ((kA7 ts a).height) ((kA7 ts a).size) ([]) ([]) (g26) z32 (by omega) (by decide) (by decide) (by omega) rfl) (((kA7 ts a).height=(kA7 ts a).height)∧((kA7 ts a).size=(kA7 ts a).size)∧(g26=g26)∧(List.replicate (32:Nat) (0:UInt8)=List.replicate (32:Nat) (0:UInt8))∧(rootsP=rootsP)∧(Eq (α:=List UInt8) [] [])∧(Eq (α:=List UInt8) [] [])) ⟨rfl,rfl,rfl,rfl,rfl,rfl,rfl⟩ (fun g33 p34=>?_)
        have p34:True:=p34
        exact v_ret (nsum (kA7 ts a).height (kA7 ts a).size [] [] g26 z32) [11] ((nsum (kA7 ts a).height (kA7 ts a).size [] [] g26 z32=nsum (kA7 ts a).height (kA7 ts a).size [] [] g26 z32)∧(rootsP=rootsP)∧(ts=ts)∧((↑(wkA ts f a fs).a:Int)=(↑(wkN ts (f+(1:Nat)) ab a fs).a:Int))∧(codeO (wkA ts f a fs).e=codeO (wkN ts (f+(1:Nat)) ab a fs).e)∧((wkA ts f a fs).fs=(wkN ts (f+(1:Nat)) ab a fs).fs)) ⟨rfl,rfl,rfl,(by(rw[wk7 ‹_› ‹_› ‹_› (nn3 ‹_›) ‹_› ‹_› (cA1 ‹_›)] <;> first | rfl | exact⟨Tr.nsum_len _ _ _ _ _ _,fun q=>nomatch (cA1 ‹_›).symm.trans q⟩)),(by(rw[wk7 ‹_› ‹_› ‹_› (nn3 ‹_›) ‹_› ‹_› (cA1 ‹_›)] <;> first | rfl | exact⟨Tr.nsum_len _ _ _ _ _ _,fun q=>nomatch (cA1 ‹_›).symm.trans q⟩)),(by(rw[wk7 ‹_› ‹_› ‹_› (nn3 ‹_›) ‹_› ‹_› (cA1 ‹_›)] <;> first | rfl | exact⟨Tr.nsum_len _ _ _ _ _ _,fun q=>nomatch (cA1 ‹_›).symm.trans q⟩))⟩ (by(rw[wk7 ‹_› ‹_› ‹_› (nn3 ‹_›) ‹_› ‹_› (cA1 ‹_›)] <;> first | rfl | exact⟨Tr.nsum_len _ _ _ _ _ _,fun q=>nomatch (cA1 ‹_›).symm.trans q⟩))
theorem rwk_t (ts:List Token) (hl:ts.length≤4000):∀(f:Nat) (ab:Int) (a:Nat) (fs:List Item),1≤ab→ab≤f→f≤900→a≤ts.length→fs.length≤a →
      FOk EN 99 ⟨[.pr rootsP,.rd 100 ts,.ow 198 fs,.bx 195 [.n 1,.i a,.i 0,.n 2]],[.p 3 0,.i ab],List UInt8,fun v=>([.pr rootsP,.rd 100 ts,.no,.bx 195 [.n 1,.i (wkN ts f ab a fs).a,.i (codeO (wkN ts f ab a fs).e),.n 4],.ow 198 (wkN ts f ab a fs).fs],.a [.h 32 v]),fun v=>v.length=32∧((wkN ts f ab a fs).e.isNone=true→v=(wkN ts f ab a fs).h)⟩
  | 0,ab,a,fs,h1,h2,_,_,_=>by omega
  | f+1,ab,a,fs,h1,h2,h3,ha,hf=>rwk_aux f ts ab a fs ha hf hl h1 (by omega) fun ab' a' fs' h1' h2' ha' hf'=>rwk_t ts hl f ab' a' fs' h1' (by omega) (by omega) ha' hf'
theorem rwk65_ok (ts:List Token) (hl:ts.length≤4000):FOk EN 99 ⟨[.pr rootsP,.rd 100 ts,.ow 198 [],.bx 195 [.n 1,.i 0,.i 0,.n 2]],[.p 3 0,.i 65],List UInt8,fun v=>([.pr rootsP,.rd 100 ts,.no,.bx 195 [.n 1,.i (wkN ts 65 65 0 []).a,.i (codeO (wkN ts 65 65 0 []).e),.n 4],.ow 198 (wkN ts 65 65 0 []).fs],.a [.h 32 v]),fun v=>v.length=32∧((wkN ts 65 65 0 []).e.isNone=true→v=(wkN ts 65 65 0 []).h)⟩ :=
  rwk_t ts hl 65 65 0 [] (by decide) (by decide) (by decide) (Nat.zero_le _) (Nat.le_refl _)
section
variable {ts:List Token} {root v:List UInt8} {q:Nat × List UInt8}
theorem rc1 (h:codeO (wkR ts).e≠0):(wkR ts).e.isNone=false:=(code0 (wk_e ts 65 65 0 [])).2 h
theorem rc0 (h:¬ codeO (wkR ts).e≠0):(wkR ts).e.isNone=true:=(code0 (wk_e ts 65 65 0 [])).1 (Classical.not_not.1 h)
theorem rch (p:v.length=32∧((wkR ts).e.isNone=true→v=(wkR ts).h)) (h:¬ codeO (wkR ts).e≠0) (hr:¬ v=root):¬ (wkR ts).h=root:=by rw[← p.2 (rc0 h)];exact hr
theorem rci (p:v.length=32∧((wkR ts).e.isNone=true→v=(wkR ts).h)) (h:¬ codeO (wkR ts).e≠0) (hr:v=root):(wkR ts).h=root:=by rw[← p.2 (rc0 h)];exact hr
theorem lq_t {x last:List UInt8} (h:(Op.bytesLess x last || decide (x=last))=true):0≤Lib.compareBytes last x:=by
  rw[Bool.or_eq_true,decide_eq_true_eq] at h
  have:=cmp_anti x last
  rcases h with h | h
  · have:=less_t h;omega
  · have:=cmp_zero.2 h;omega
theorem lq_f {x last:List UInt8} (h:(Op.bytesLess x last || decide (x=last))=false):¬ 0≤Lib.compareBytes last x:=by
  rw[Bool.or_eq_false_iff,decide_eq_false_iff_not] at h
  have:=cmp_anti x last
  have h1:=less_f h.1
  have h2:¬ Lib.compareBytes x last=0:=fun e=>h.2 (cmp_zero.1 e)
  omega
end
noncomputable def ccN8_55:Code:=(Tryd.f55.body).getD .skip
theorem rChk_ok (root:List UInt8) (ts:List Token) (hr:root.length=32) (hl:ts.length≤100000):FOk EN 55 ⟨[.pr rootsP,.rd 100 ts],[.a [.h 32 root],.n 1],Unit,fun _=>([.pr rootsP,.rd 100 ts,.rd 198 (chkR root ts).2],.t [.n 2,.i (codeO (chkR root ts).1)]),fun _=>True⟩:=by
 refine v_fun Tryd.f55 ccN8_55 MX (fun ν F σ w=>?_) Tryd.func55
 refine v_nl ?_
 refine v_if (decide (2048<(↑ts.length:Int))) True trivial (fun h1=>?_) (fun h1=>?_)
 ·have h1:=of_decide_eq_true h1
  exact v_ret () [2] ((3=codeO (chkR root ts).fst)∧(rootsP=rootsP)∧(ts=ts)∧([]=(chkR root ts).snd)) ⟨(by(rw[ck1 ‹_›] <;> rfl)),rfl,rfl,(by(rw[ck1 ‹_›] <;> rfl))⟩ trivial
 ·have h1:=of_decide_eq_false h1
  refine v_plan (.fs [0,1,2,3,4] (.o 5 (.fs [6,7] .e))) [3] True trivial ?_
  refine v_guard 16 (decide ((↑ts.length:Int)=0)) True trivial (fun h2=>?_) (fun h2=>?_)
  ·have h2:=of_decide_eq_true h2
   refine v_call _ [0,2] (rsum_ok ([]) (by decide)) ((rootsP=rootsP)∧(Eq (α:=List UInt8) [] [])) ⟨rfl,rfl⟩ (fun g3 p4=>?_)
   have p4:True:=p4
   refine v_if (decide (root=sum256 [])) ((EN.P.eqGuardType EN.P.depth (52:Nat)=false)∧(root.length=32)∧((sum256 []).length=32)) ⟨rfl,‹_›,rfl⟩ (fun h5=>?_) (fun h5=>?_)
   ·have h5:=of_decide_eq_true h5
    exact v_ret () [2] ((0=codeO (chkR root ts).fst)∧(rootsP=rootsP)∧(ts=ts)∧([]=(chkR root ts).snd)) ⟨(by(rw[ck2 ‹_› ‹_› ‹_›] <;> rfl)),rfl,rfl,(by(rw[ck2 ‹_› ‹_› ‹_›] <;> rfl))⟩ trivial
   ·have h5:=of_decide_eq_false h5
    refine v_call _ [0,1,2,4] (rwk65_ok (ts) (by omega)) (((65:Int)=(65:Int))∧(rootsP=rootsP)∧(ts=ts)∧(Eq (α:=List Item) [] [])∧((0:Int)=(0:Int))∧((0:Int)=(0:Int))) ⟨rfl,rfl,rfl,rfl,rfl,rfl⟩ (fun g6 p7=>?_)
    have p7:g6.length=32∧((wkN ts 65 65 0 []).e.isNone=true→g6=(wkN ts 65 65 0 []).h):=p7
    refine v_run True trivial ?_
    refine v_nl ?_
    refine v_if (decide (codeO (wkN ts 65 65 0 []).e≠0)) True trivial (fun h8=>?_) (fun h8=>?_)
    ·have h8:=of_decide_eq_true h8
     refine v_plan (.fs [0,1,2,3,4,5] .e) [3,4,5,6] True trivial ?_
     exact v_ret () [7] ((codeO (wkN ts 65 65 0 []).e=codeO (chkR root ts).fst)∧(rootsP=rootsP)∧(ts=ts)∧([]=(chkR root ts).snd)) ⟨(by(rw[ck3 ‹_› (by first | exact fun e=>absurd e.1 ‹_› | exact fun e=>absurd e.2 ‹_›) (rc1 ‹_›)])),rfl,rfl,(by(rw[ck3 ‹_› (by first | exact fun e=>absurd e.1 ‹_› | exact fun e=>absurd e.2 ‹_›) (rc1 ‹_›)]))⟩ trivial
    ·have h8:=of_decide_eq_false h8
     refine v_if (decide ((↑(wkN ts 65 65 0 []).a:Int)<(↑ts.length:Int))) True trivial (fun h9=>?_) (fun h9=>?_)
     ·have h9:=of_decide_eq_true h9
      omega
     ·have h9:=of_decide_eq_false h9
      refine v_if (!decide (g6=root)) ((EN.P.eqGuardType EN.P.depth (52:Nat)=false)∧(g6.length=32)∧(root.length=32)) ⟨rfl,(by omega),‹_›⟩ (fun h10=>?_) (fun h10=>?_)
      ·have h10:=of_decide_eq_false (nt h10)
       exact v_ret () [7] ((21=codeO (chkR root ts).fst)∧(rootsP=rootsP)∧(ts=ts)∧([]=(chkR root ts).snd)) ⟨(by(rw[ck5 ‹_› (by first | exact fun e=>absurd e.1 ‹_› | exact fun e=>absurd e.2 ‹_›) (rc0 ‹_›) ‹_› (rch ‹_› ‹_› ‹_›)] <;> rfl)),rfl,rfl,(by(rw[ck5 ‹_› (by first | exact fun e=>absurd e.1 ‹_› | exact fun e=>absurd e.2 ‹_›) (rc0 ‹_›) ‹_› (rch ‹_› ‹_› ‹_›)] <;> rfl))⟩ trivial
      ·have h10:=of_decide_eq_true (nf h10)
       refine v_loop (fun q:Nat × List UInt8=>([(9,.i q.1),(8,.s q.2)],[])) (fun q=>OrI (wkR ts).fs q) (fun q=>(wkR ts).fs.length - q.1) (0,[]) [] (((0:Int)=(↑(0:Nat):Int))∧(Eq (α:=List UInt8) (Array.toList #[]) [])) ⟨rfl,rfl⟩ (by exact⟨rfl,Nat.zero_le _⟩) (fun q hk11=>?_)
       refine v_if (decide ((↑q.fst:Int)<(↑(wkN ts 65 65 0 []).fs.length:Int))) True trivial (fun h12=>?_) (fun h12=>?_)
       ·have h12:=of_decide_eq_true h12
        refine v_if (((wkN ts 65 65 0 []).fs.getD (↑q.fst:Int).toNat (Item.mk false [] [])).hidden) ((0≤(↑q.fst:Int)∧(↑q.fst:Int)<(↑(wkN ts 65 65 0 []).fs.length:Int))) (by omega) (fun h13=>?_) (fun h13=>?_)
        ·skip
         exact v_back (oiS (wkR ts).fs q) [] ((I64 (↑q.fst+1))∧((↑q.fst:Int)+1=(↑(oiS (wkR ts).fs q).fst:Int))∧(q.snd=(oiS (wkR ts).fs q).snd)) ⟨(by(have hw:=wk_inv ts 65 65 0 [] (Nat.zero_le _) (Nat.le_refl _);first | omega | (unfold I64;omega))),rfl,(by exact oiH ‹_›)⟩ (show OrI (wkR ts).fs (oiS (wkR ts).fs q)∧(wkR ts).fs.length - (oiS (wkR ts).fs q).fst<(wkR ts).fs.length - q.fst from(by exact OrI.nextH ‹_› ‹_› ‹_›))
        ·skip
         refine v_if (Op.bytesLess ((wkN ts 65 65 0 []).fs.getD (↑q.fst:Int).toNat (Item.mk false [] [])).key q.snd || decide (((wkN ts 65 65 0 []).fs.getD (↑q.fst:Int).toNat (Item.mk false [] [])).key=q.snd)) ((0≤(↑q.fst:Int)∧(↑q.fst:Int)<(↑(wkN ts 65 65 0 []).fs.length:Int))) (by omega) (fun h14=>?_) (fun h14=>?_)
         ·skip
          refine v_leave .rt True trivial ?_
          exact v_ret () [7] ((5=codeO (chkR root ts).fst)∧(rootsP=rootsP)∧(ts=ts)∧([]=(chkR root ts).snd)) ⟨(by(rw[ck6 ‹_› (by first | exact fun e=>absurd e.1 ‹_› | exact fun e=>absurd e.2 ‹_›) (rc0 ‹_›) ‹_› (rci ‹_› ‹_› ‹_›) ((‹OrI (wkR ts).fs q›).bad ‹_› ‹_› (lq_t ‹_›))] <;> rfl)),rfl,rfl,(by(rw[ck6 ‹_› (by first | exact fun e=>absurd e.1 ‹_› | exact fun e=>absurd e.2 ‹_›) (rc0 ‹_›) ‹_› (rci ‹_› ‹_› ‹_›) ((‹OrI (wkR ts).fs q›).bad ‹_› ‹_› (lq_t ‹_›))] <;> rfl))⟩ trivial
         ·skip
          exact v_back (oiS (wkR ts).fs q) [] ((0≤(↑q.fst:Int)∧(↑q.fst:Int)<(↑(wkN ts 65 65 0 []).fs.length:Int))∧(I64 (↑q.fst+1))∧((↑q.fst:Int)+1=(↑(oiS (wkR ts).fs q).fst:Int))∧(((wkN ts 65 65 0 []).fs.getD (↑q.fst:Int).toNat (Item.mk false [] [])).key=(oiS (wkR ts).fs q).snd)) ⟨(by omega),(by(have hw:=wk_inv ts 65 65 0 [] (Nat.zero_le _) (Nat.le_refl _);first | omega | (unfold I64;omega))),rfl,(by exact oiN ‹_›)⟩ (show OrI (wkR ts).fs (oiS (wkR ts).fs q)∧(wkR ts).fs.length - (oiS (wkR ts).fs q).fst<(wkR ts).fs.length - q.fst from(by exact OrI.nextN ‹_› ‹_› ‹_› (lq_f ‹_›)))
       ·have h12:=of_decide_eq_false h12
        refine v_leave (.ex 0) True trivial ?_
        exact v_ret () [5] ((0=codeO (chkR root ts).fst)∧(rootsP=rootsP)∧(ts=ts)∧((wkN ts 65 65 0 []).fs=(chkR root ts).snd)) ⟨(by(rw[ck7 ‹_› (by first | exact fun e=>absurd e.1 ‹_› | exact fun e=>absurd e.2 ‹_›) (rc0 ‹_›) ‹_› (rci ‹_› ‹_› ‹_›) ((‹OrI (wkR ts).fs q›).end ‹_›)] <;> rfl)),rfl,rfl,(by(rw[ck7 ‹_› (by first | exact fun e=>absurd e.1 ‹_› | exact fun e=>absurd e.2 ‹_›) (rc0 ‹_›) ‹_› (rci ‹_› ‹_› ‹_›) ((‹OrI (wkR ts).fs q›).end ‹_›)] <;> rfl))⟩ trivial
  ·have h2:=of_decide_eq_false h2
   refine v_call _ [0,1,2,4] (rwk65_ok (ts) (by omega)) (((65:Int)=(65:Int))∧(rootsP=rootsP)∧(ts=ts)∧(Eq (α:=List Item) [] [])∧((0:Int)=(0:Int))∧((0:Int)=(0:Int))) ⟨rfl,rfl,rfl,rfl,rfl,rfl⟩ (fun g15 p16=>?_)
   have p16:g15.length=32∧((wkN ts 65 65 0 []).e.isNone=true→g15=(wkN ts 65 65 0 []).h):=p16
   refine v_run True trivial ?_
   refine v_nl ?_
   refine v_if (decide (codeO (wkN ts 65 65 0 []).e≠0)) True trivial (fun h17=>?_) (fun h17=>?_)
   ·have h17:=of_decide_eq_true h17
    refine v_plan (.fs [0,1,2,3,4,5] .e) [3,4,5,6] True trivial ?_
    exact v_ret () [7] ((codeO (wkN ts 65 65 0 []).e=codeO (chkR root ts).fst)∧(rootsP=rootsP)∧(ts=ts)∧([]=(chkR root ts).snd)) ⟨(by(rw[ck3 ‹_› (by first | exact fun e=>absurd e.1 ‹_› | exact fun e=>absurd e.2 ‹_›) (rc1 ‹_›)])),rfl,rfl,(by(rw[ck3 ‹_› (by first | exact fun e=>absurd e.1 ‹_› | exact fun e=>absurd e.2 ‹_›) (rc1 ‹_›)]))⟩ trivial
   ·have h17:=of_decide_eq_false h17
    refine v_if (decide ((↑(wkN ts 65 65 0 []).a:Int)<(↑ts.length:Int))) True trivial (fun h18=>?_) (fun h18=>?_)
    ·have h18:=of_decide_eq_true h18
     exact v_ret () [7] ((3=codeO (chkR root ts).fst)∧(rootsP=rootsP)∧(ts=ts)∧([]=(chkR root ts).snd)) ⟨(by(rw[ck4 ‹_› (by first | exact fun e=>absurd e.1 ‹_› | exact fun e=>absurd e.2 ‹_›) (rc0 ‹_›) ‹_›] <;> rfl)),rfl,rfl,(by(rw[ck4 ‹_› (by first | exact fun e=>absurd e.1 ‹_› | exact fun e=>absurd e.2 ‹_›) (rc0 ‹_›) ‹_›] <;> rfl))⟩ trivial
    ·have h18:=of_decide_eq_false h18
     refine v_if (!decide (g15=root)) ((EN.P.eqGuardType EN.P.depth (52:Nat)=false)∧(g15.length=32)∧(root.length=32)) ⟨rfl,(by omega),‹_›⟩ (fun h19=>?_) (fun h19=>?_)
     ·have h19:=of_decide_eq_false (nt h19)
      exact v_ret () [7] ((21=codeO (chkR root ts).fst)∧(rootsP=rootsP)∧(ts=ts)∧([]=(chkR root ts).snd)) ⟨(by(rw[ck5 ‹_› (by first | exact fun e=>absurd e.1 ‹_› | exact fun e=>absurd e.2 ‹_›) (rc0 ‹_›) ‹_› (rch ‹_› ‹_› ‹_›)] <;> rfl)),rfl,rfl,(by(rw[ck5 ‹_› (by first | exact fun e=>absurd e.1 ‹_› | exact fun e=>absurd e.2 ‹_›) (rc0 ‹_›) ‹_› (rch ‹_› ‹_› ‹_›)] <;> rfl))⟩ trivial
     ·have h19:=of_decide_eq_true (nf h19)
      refine v_loop (fun q:Nat × List UInt8=>([(9,.i q.1),(8,.s q.2)],[])) (fun q=>OrI (wkR ts).fs q) (fun q=>(wkR ts).fs.length - q.1) (0,[]) [] (((0:Int)=(↑(0:Nat):Int))∧(Eq (α:=List UInt8) (Array.toList #[]) [])) ⟨rfl,rfl⟩ (by exact⟨rfl,Nat.zero_le _⟩) (fun q hk20=>?_)
      refine v_if (decide ((↑q.fst:Int)<(↑(wkN ts 65 65 0 []).fs.length:Int))) True trivial (fun h21=>?_) (fun h21=>?_)
      ·have h21:=of_decide_eq_true h21
       refine v_if (((wkN ts 65 65 0 []).fs.getD (↑q.fst:Int).toNat (Item.mk false [] [])).hidden) ((0≤(↑q.fst:Int)∧(↑q.fst:Int)<(↑(wkN ts 65 65 0 []).fs.length:Int))) (by omega) (fun h22=>?_) (fun h22=>?_)
       ·skip
        exact v_back (oiS (wkR ts).fs q) [] ((I64 (↑q.fst+1))∧((↑q.fst:Int)+1=(↑(oiS (wkR ts).fs q).fst:Int))∧(q.snd=(oiS (wkR ts).fs q).snd)) ⟨(by(have hw:=wk_inv ts 65 65 0 [] (Nat.zero_le _) (Nat.le_refl _);first | omega | (unfold I64;omega))),rfl,(by exact oiH ‹_›)⟩ (show OrI (wkR ts).fs (oiS (wkR ts).fs q)∧(wkR ts).fs.length - (oiS (wkR ts).fs q).fst<(wkR ts).fs.length - q.fst from(by exact OrI.nextH ‹_› ‹_› ‹_›))
       ·skip
        refine v_if (Op.bytesLess ((wkN ts 65 65 0 []).fs.getD (↑q.fst:Int).toNat (Item.mk false [] [])).key q.snd || decide (((wkN ts 65 65 0 []).fs.getD (↑q.fst:Int).toNat (Item.mk false [] [])).key=q.snd)) ((0≤(↑q.fst:Int)∧(↑q.fst:Int)<(↑(wkN ts 65 65 0 []).fs.length:Int))) (by omega) (fun h23=>?_) (fun h23=>?_)
        ·skip
         refine v_leave .rt True trivial ?_
         exact v_ret () [7] ((5=codeO (chkR root ts).fst)∧(rootsP=rootsP)∧(ts=ts)∧([]=(chkR root ts).snd)) ⟨(by(rw[ck6 ‹_› (by first | exact fun e=>absurd e.1 ‹_› | exact fun e=>absurd e.2 ‹_›) (rc0 ‹_›) ‹_› (rci ‹_› ‹_› ‹_›) ((‹OrI (wkR ts).fs q›).bad ‹_› ‹_› (lq_t ‹_›))] <;> rfl)),rfl,rfl,(by(rw[ck6 ‹_› (by first | exact fun e=>absurd e.1 ‹_› | exact fun e=>absurd e.2 ‹_›) (rc0 ‹_›) ‹_› (rci ‹_› ‹_› ‹_›) ((‹OrI (wkR ts).fs q›).bad ‹_› ‹_› (lq_t ‹_›))] <;> rfl))⟩ trivial
        ·skip
         exact v_back (oiS (wkR ts).fs q) [] ((0≤(↑q.fst:Int)∧(↑q.fst:Int)<(↑(wkN ts 65 65 0 []).fs.length:Int))∧(I64 (↑q.fst+1))∧((↑q.fst:Int)+1=(↑(oiS (wkR ts).fs q).fst:Int))∧(((wkN ts 65 65 0 []).fs.getD (↑q.fst:Int).toNat (Item.mk false [] [])).key=(oiS (wkR ts).fs q).snd)) ⟨(by omega),(by(have hw:=wk_inv ts 65 65 0 [] (Nat.zero_le _) (Nat.le_refl _);first | omega | (unfold I64;omega))),rfl,(by exact oiN ‹_›)⟩ (show OrI (wkR ts).fs (oiS (wkR ts).fs q)∧(wkR ts).fs.length - (oiS (wkR ts).fs q).fst<(wkR ts).fs.length - q.fst from(by exact OrI.nextN ‹_› ‹_› ‹_› (lq_f ‹_›)))
      ·have h21:=of_decide_eq_false h21
       refine v_leave (.ex 0) True trivial ?_
       exact v_ret () [5] ((0=codeO (chkR root ts).fst)∧(rootsP=rootsP)∧(ts=ts)∧((wkN ts 65 65 0 []).fs=(chkR root ts).snd)) ⟨(by(rw[ck7 ‹_› (by first | exact fun e=>absurd e.1 ‹_› | exact fun e=>absurd e.2 ‹_›) (rc0 ‹_›) ‹_› (rci ‹_› ‹_› ‹_›) ((‹OrI (wkR ts).fs q›).end ‹_›)] <;> rfl)),rfl,rfl,(by(rw[ck7 ‹_› (by first | exact fun e=>absurd e.1 ‹_› | exact fun e=>absurd e.2 ‹_›) (rc0 ‹_›) ‹_› (rci ‹_› ‹_› ‹_›) ((‹OrI (wkR ts).fs q›).end ‹_›)] <;> rfl))⟩ trivial
/-- the keys in another order, each twice -/
def othK (ks:List (List UInt8)) (tn:UInt8) (i:Nat):List UInt8:=ks.getD (((i:Int)+(tn.toNat:Int)) % (ks.length:Int)).toNat []
def oth (ks:List (List UInt8)) (tn:UInt8):Nat→List (List UInt8)
  | 0=>[]
  | n+1=>oth ks tn n++[othK ks tn n,othK ks tn n]
section
variable {acts:List Act} {m i:Nat} {ks:List (List UInt8)} {tn:UInt8}
end
def gR (k:List UInt8):List Item→Nat→Int × Int→List UInt8 × Bool × Bool
  | [],_,s=>([],false,decide (s.1=s.2))
  | x::r,i,s=>if x.hidden=true then gR k r (i+1) s else if x.key=k then(x.value,true,true) else if Op.bytesLess x.key k=true then gR k r (i+1) (((i+1:Nat):Int),s.2) else if(i:Int)<s.2 then gR k r (i+1) (s.1,(i:Int)) else gR k r (i+1) s
def rG (fs:List Item) (k:List UInt8):List UInt8 × Bool × Bool:=if(k.length:Int)<1∨96<(k.length:Int) then([],false,false) else gR k fs 0 (0,(fs.length:Int))
theorem rgq1 {fs:List Item} {k:List UInt8} (h:(k.length:Int)<1∨96<(k.length:Int)):rG fs k=([],false,false):=by unfold rG;rw[if_pos h]
theorem rgq2 {fs:List Item} {k:List UInt8} (h:¬ (k.length:Int)<1) (h2:¬ 96<(k.length:Int)):rG fs k=gR k fs 0 (0,(fs.length:Int)):=by unfold rG;rw[if_neg (fun e=>e.elim h h2)]
def RgI (fs:List Item) (k:List UInt8) (q:Nat × Int × Int):Prop:=gR k (fs.drop q.1) q.1 q.2=gR k fs 0 (0,(fs.length:Int))∧q.1≤fs.length
section
variable {fs:List Item} {k:List UInt8} {i:Nat} {a b:Int}
theorem RgI.start:RgI fs k (0,0,(fs.length:Int)):=⟨rfl,Nat.zero_le _⟩
theorem RgI.h (h:RgI fs k (i,a,b)) (hi:(i:Int)<fs.length) (hh:(fs.getD (i:Int).toNat dI).hidden=true):RgI fs k (i+1,a,b)∧fs.length - (i+1)<fs.length - i:=by
  rw[Int.toNat_natCast] at hh
  refine⟨⟨?_,by show i+1≤_;omega⟩,by omega⟩
  rw[← h.1];show _=gR k (fs.drop i) i (a,b);rw[drop_it hi,gR,if_pos hh]
theorem RgI.f (h:RgI fs k (i,a,b)) (hi:(i:Int)<fs.length) (hh:(fs.getD (i:Int).toNat dI).hidden=false) (hk:(fs.getD (i:Int).toNat dI).key=k):gR k fs 0 (0,(fs.length:Int))=((fs.getD (i:Int).toNat dI).value,true,true):=by
  rw[Int.toNat_natCast] at *
  rw[← h.1];show gR k (fs.drop i) i (a,b)=_;rw[drop_it hi,gR,if_neg (by rw[hh];decide),if_pos hk]
theorem RgI.l (h:RgI fs k (i,a,b)) (hi:(i:Int)<fs.length) (hh:(fs.getD (i:Int).toNat dI).hidden=false) (hk:¬ (fs.getD (i:Int).toNat dI).key=k) (hl:Op.bytesLess (fs.getD (i:Int).toNat dI).key k=true):RgI fs k (i+1,((i+1:Nat):Int),b)∧fs.length - (i+1)<fs.length - i:=by
  rw[Int.toNat_natCast] at *
  refine⟨⟨?_,by show i+1≤_;omega⟩,by omega⟩
  rw[← h.1];show _=gR k (fs.drop i) i (a,b);rw[drop_it hi,gR,if_neg (by rw[hh];decide),if_neg hk,if_pos hl]
theorem RgI.g (h:RgI fs k (i,a,b)) (hi:(i:Int)<fs.length) (hh:(fs.getD (i:Int).toNat dI).hidden=false) (hk:¬ (fs.getD (i:Int).toNat dI).key=k) (hl:Op.bytesLess (fs.getD (i:Int).toNat dI).key k=false) (hb:(i:Int)<b):RgI fs k (i+1,a,(i:Int))∧fs.length - (i+1)<fs.length - i:=by
  rw[Int.toNat_natCast] at *
  refine⟨⟨?_,by show i+1≤_;omega⟩,by omega⟩
  rw[← h.1];show _=gR k (fs.drop i) i (a,b);rw[drop_it hi,gR,if_neg (by rw[hh];decide),if_neg hk,if_neg (by rw[hl];decide),if_pos hb]
theorem RgI.n (h:RgI fs k (i,a,b)) (hi:(i:Int)<fs.length) (hh:(fs.getD (i:Int).toNat dI).hidden=false) (hk:¬ (fs.getD (i:Int).toNat dI).key=k) (hl:Op.bytesLess (fs.getD (i:Int).toNat dI).key k=false) (hb:¬ (i:Int)<b):RgI fs k (i+1,a,b)∧fs.length - (i+1)<fs.length - i:=by
  rw[Int.toNat_natCast] at *
  refine⟨⟨?_,by show i+1≤_;omega⟩,by omega⟩
  rw[← h.1];show _=gR k (fs.drop i) i (a,b);rw[drop_it hi,gR,if_neg (by rw[hh];decide),if_neg hk,if_neg (by rw[hl];decide),if_neg hb]
theorem RgI.e (h:RgI fs k (i,a,b)) (hi:¬ (i:Int)<fs.length):gR k fs 0 (0,(fs.length:Int))=([],false,decide (a=b)):=by
  rw[← h.1];show gR k (fs.drop i) i (a,b)=_;rw[List.drop_of_length_le (by omega),gR]
end
noncomputable def ccN9_100:Code:=(Tryd.f100.body).getD .skip
theorem rGet_ok (fs:List Item) (k:List UInt8) (hl:fs.length≤100000):FOk EN 100 ⟨[.rd 198 fs,.rd 5 (k)],[.n 0,.n 1],Unit,fun _=>([.rd 198 fs,.rd 5 (k),.rd 5 ((rG fs k).1)],.t [.n 2,.b (rG fs k).2.1,.b (rG fs k).2.2]),fun _=>True⟩:=by
 refine v_fun Tryd.f100 ccN9_100 MX (fun ν F σ w=>?_) Tryd.func100
 refine v_nl ?_
 refine v_guard 13 (decide ((↑k.length:Int)<1)) True trivial (fun h1=>?_) (fun h1=>?_)
 ·have h1:=of_decide_eq_true h1
  exact v_ret () [2] ((false=(rG fs k).snd.fst)∧(false=(rG fs k).snd.snd)∧(fs=fs)∧(k=k)∧([]=(rG fs k).fst)) ⟨(by(rw[rgq1 (.inl ‹_›)] <;> rfl)),(by(rw[rgq1 (.inl ‹_›)] <;> rfl)),rfl,rfl,(by(rw[rgq1 (.inl ‹_›)] <;> rfl))⟩ trivial
 ·have h1:=of_decide_eq_false h1
  refine v_if (decide (96<(↑k.length:Int))) True trivial (fun h2=>?_) (fun h2=>?_)
  ·have h2:=of_decide_eq_true h2
   exact v_ret () [2] ((false=(rG fs k).snd.fst)∧(false=(rG fs k).snd.snd)∧(fs=fs)∧(k=k)∧([]=(rG fs k).fst)) ⟨(by(rw[rgq1 (.inr ‹_›)] <;> rfl)),(by(rw[rgq1 (.inr ‹_›)] <;> rfl)),rfl,rfl,(by(rw[rgq1 (.inr ‹_›)] <;> rfl))⟩ trivial
  ·have h2:=of_decide_eq_false h2
   refine v_loop (fun q:Nat × Int × Int=>([(9,.i q.1),(7,.i q.2.1),(8,.i q.2.2)],[])) (fun q=>RgI fs k q) (fun q=>fs.length - q.1) (0,0,(fs.length:Int)) [] (((0:Int)=(↑(0:Nat):Int))∧((0:Int)=(0:Int))∧((↑fs.length:Int)=(↑fs.length:Int))) ⟨rfl,rfl,rfl⟩ (by exact⟨rfl,Nat.zero_le _⟩) (fun q hk3=>?_)
   refine v_if (decide ((↑q.fst:Int)<(↑fs.length:Int))) True trivial (fun h4=>?_) (fun h4=>?_)
   ·have h4:=of_decide_eq_true h4
    refine v_if ((fs.getD (↑q.fst:Int).toNat (Item.mk false [] [])).hidden) ((0≤(↑q.fst:Int)∧(↑q.fst:Int)<(↑fs.length:Int))) (by omega) (fun h5=>?_) (fun h5=>?_)
    ·skip
     exact v_back ((q.fst+1,q.snd.fst,q.snd.snd)) [] ((I64 (↑q.fst+1))∧((↑q.fst:Int)+1=(↑(q.fst+1):Int))∧(q.snd.fst=q.snd.fst)∧(q.snd.snd=q.snd.snd)) ⟨(by(unfold I64;omega)),rfl,rfl,rfl⟩ (show RgI fs k (q.fst+1,q.snd.fst,q.snd.snd)∧fs.length - (q.fst+1)<fs.length - q.fst from(by exact RgI.h ‹_› ‹_› ‹_›))
    ·skip
     refine v_plan (.fs [0,1,2,3,4,5,6,7,8] .e) [] True trivial ?_
     refine v_if (decide ((fs.getD (↑q.fst:Int).toNat (Item.mk false [] [])).key=k)) ((0≤(↑q.fst:Int)∧(↑q.fst:Int)<(↑fs.length:Int))) (by omega) (fun h6=>?_) (fun h6=>?_)
     ·have h6:=of_decide_eq_true h6
      refine v_leave .rt ((0≤(↑q.fst:Int)∧(↑q.fst:Int)<(↑fs.length:Int))) (by omega) ?_
      exact v_ret () [10] ((true=(rG fs k).snd.fst)∧(true=(rG fs k).snd.snd)∧(fs=fs)∧(k=k)∧((fs.getD (↑q.fst:Int).toNat (Item.mk false [] [])).value=(rG fs k).fst)) ⟨(by(rw[rgq2 ‹_› ‹_›,RgI.f ‹_› ‹_› ‹_› ‹_›] <;> rfl)),(by(rw[rgq2 ‹_› ‹_›,RgI.f ‹_› ‹_› ‹_› ‹_›] <;> rfl)),rfl,rfl,(by(rw[rgq2 ‹_› ‹_›,RgI.f ‹_› ‹_› ‹_› ‹_›] <;> rfl))⟩ trivial
     ·have h6:=of_decide_eq_false h6
      refine v_plan (.fs [0,1,2,3,4,5,6,7,8] .e) [] True trivial ?_
      refine v_if (Op.bytesLess (fs.getD (↑q.fst:Int).toNat (Item.mk false [] [])).key k) ((0≤(↑q.fst:Int)∧(↑q.fst:Int)<(↑fs.length:Int))) (by omega) (fun h7=>?_) (fun h7=>?_)
      ·skip
       exact v_back ((q.fst+1,↑q.fst+1,q.snd.snd)) [] ((I64 (↑q.fst+1))∧(I64 (↑q.fst+1))∧((↑q.fst:Int)+1=(↑(q.fst+1):Int))∧((↑q.fst:Int)+1=(↑q.fst:Int)+1)∧(q.snd.snd=q.snd.snd)) ⟨(by(unfold I64;omega)),(by(unfold I64;omega)),rfl,rfl,rfl⟩ (show RgI fs k (q.fst+1,↑q.fst+1,q.snd.snd)∧fs.length - (q.fst+1)<fs.length - q.fst from(by exact RgI.l ‹_› ‹_› ‹_› ‹_› ‹_›))
      ·skip
       refine v_if (decide (↑q.fst<q.snd.snd)) True trivial (fun h8=>?_) (fun h8=>?_)
       ·have h8:=of_decide_eq_true h8
        exact v_back ((q.fst+1,q.snd.fst,↑q.fst)) [] ((I64 (↑q.fst+1))∧((↑q.fst:Int)+1=(↑(q.fst+1):Int))∧(q.snd.fst=q.snd.fst)∧((↑q.fst:Int)=(↑q.fst:Int))) ⟨(by(unfold I64;omega)),rfl,rfl,rfl⟩ (show RgI fs k (q.fst+1,q.snd.fst,↑q.fst)∧fs.length - (q.fst+1)<fs.length - q.fst from(by exact RgI.g ‹_› ‹_› ‹_› ‹_› ‹_› ‹_›))
       ·have h8:=of_decide_eq_false h8
        exact v_back ((q.fst+1,q.snd.fst,q.snd.snd)) [] ((I64 (↑q.fst+1))∧((↑q.fst:Int)+1=(↑(q.fst+1):Int))∧(q.snd.fst=q.snd.fst)∧(q.snd.snd=q.snd.snd)) ⟨(by(unfold I64;omega)),rfl,rfl,rfl⟩ (show RgI fs k (q.fst+1,q.snd.fst,q.snd.snd)∧fs.length - (q.fst+1)<fs.length - q.fst from(by exact RgI.n ‹_› ‹_› ‹_› ‹_› ‹_› ‹_›))
   ·have h4:=of_decide_eq_false h4
    refine v_leave (.ex 0) True trivial ?_
    exact v_ret () [2] ((false=(rG fs k).snd.fst)∧(decide (q.snd.fst=q.snd.snd)=(rG fs k).snd.snd)∧(fs=fs)∧(k=k)∧([]=(rG fs k).fst)) ⟨(by(rw[rgq2 ‹_› ‹_›,RgI.e ‹_› ‹_›] <;> rfl)),(by(rw[rgq2 ‹_› ‹_›,RgI.e ‹_› ‹_›] <;> rfl)),rfl,rfl,(by(rw[rgq2 ‹_› ‹_›,RgI.e ‹_› ‹_›] <;> rfl))⟩ trivial
theorem gR_gt {k:List UInt8}:∀(r:List Item) (last:List UInt8) (j:Nat) (s:Int × Int),ordI last r=true→klt k last→s.2≤j→gR k r j s=([],false,decide (s.1=s.2))
  | [],_,_,_,_,_,_=>rfl
  | x :: r, last, j, s, ho, hk, hs => by
    unfold ordI at ho;unfold gR
    split at ho
    · rename_i hx;rw[if_pos hx];exact gR_gt r last (j+1) s ho hk (by omega)
    · rename_i hx; rw [if_neg hx]
      split at ho
      · cases ho
      · rename_i hc
        have hlt:klt k x.key:=klt_trans hk (by unfold klt;omega)
        have h1:¬ x.key=k:=fun e=>klt_ne hlt e.symm
        have h2:¬ Op.bytesLess x.key k=true:=fun e=>by have:=less_t e;have:=cmp_anti k x.key;unfold klt at hlt;omega
        rw[if_neg h1,if_neg h2,if_neg (by omega)]
        exact gR_gt r x.key (j+1) s ho hlt (by omega)
theorem gR_getI {k:List UInt8}:∀(r:List Item) (last:List UInt8) (i:Nat) (a n:Int),ordI last r=true→n=i+(r.length:Int)→a≤i→gR k r i (a,n)=getI k (decide (a=i)) r
  | [], last, i, a, n, ho, hn, ha => by
    have:n=i:=by simpa using hn
    subst this;rfl
  | x :: r, last, i, a, n, ho, hn, ha => by
    have hn':n=((i+1:Nat):Int)+(r.length:Int):=by rw[hn,List.length_cons];omega
    unfold ordI at ho;unfold gR getI
    split at ho
    · rename_i hx;rw[if_pos hx,if_pos hx,gR_getI r last (i+1) a n ho hn' (by omega),decide_eq_false (by omega)]
    · rename_i hx; rw [if_neg hx, if_neg hx]
      split at ho
      · cases ho
      · rename_i hc
        by_cases hk:x.key=k
        · rw[if_pos hk,if_pos (cmp_zero.2 hk)]
        · rw [if_neg hk, if_neg (fun e => hk (cmp_zero.1 e))]
          cases hl:Op.bytesLess x.key k with
          | true =>
            have:=less_t hl
            rw[if_pos rfl,if_neg (by omega)]
            show gR k r (i+1) (((i+1:Nat):Int),n)=_
            rw[gR_getI r x.key (i+1) _ n ho hn' (Int.le_refl _),decide_eq_true rfl]
          | false =>
            have h1:=less_f hl
            have h2:¬ Lib.compareBytes x.key k=0:=fun e=>hk (cmp_zero.1 e)
            rw[if_neg (by decide),if_pos (by rw[hn'];show(i:Int)<_;omega),if_pos (by omega)]
            exact gR_gt r x.key (i+1) (a,(i:Int)) ho (by have:=cmp_anti k x.key;unfold klt;omega) (by show(i:Int)≤_;omega)
theorem rG_getF {fs:List Item} {k:List UInt8} (ho:ordI [] fs=true):rG fs k=getF (some fs) k:=by
  by_cases h:(k.length:Int)<1∨96<(k.length:Int)
  · rw[rgq1 h,gf1 (h.elim (fun h=>.inl (by omega)) .inr)]
  · rw [rgq2 (fun e => h (.inl e)) (fun e => h (.inr e)), gf2 (fun e => h (.inl (by omega))) (fun e => h (.inr e))]
    exact gR_getI fs [] 0 0 _ ho (by simp) (Int.le_refl _)
theorem sa1 {fs:List Item} {x:List UInt8} (ho:ordI [] fs=true):((getF (some fs) x).2.1 != (rG fs x).2.1)=false:=by rw[rG_getF ho];simp
theorem sa2 {fs:List Item} {x:List UInt8} (ho:ordI [] fs=true):((getF (some fs) x).2.2 != (rG fs x).2.2)=false:=by rw[rG_getF ho];simp
theorem sa3 {fs:List Item} {x:List UInt8} (ho:ordI [] fs=true):(getF (some fs) x).1=(rG fs x).1:=by rw[rG_getF ho]
noncomputable def ccN9_56:Code:=(Tryd.f56.body).getD .skip
theorem same10_ok (o:Option (List Item)) (fs:List Item) (ks:List (List UInt8)) (he:o=some fs) (ho:ordI [] fs=true) (hl:fs.length≤100000) (hv:∀ x∈fs,x.value.length≤1000) (hk:ks.length≤140737488355328):FOk EN 56 ⟨[.pn (PF o) false o.isNone,.rd 198 fs,.rd 22 ks],[.n 0,.n 1,.n 2],Unit,fun _=>([.pn (PF o) false o.isNone,.rd 198 fs,.rd 22 ks],.b true),fun _=>True⟩:=by
 subst he
 refine v_fun Tryd.f56 ccN9_56 MX (fun ν F σ w=>?_) Tryd.func56
 refine v_nl ?_
 refine v_loop (fun i:Nat=>([(17,.i i)],[])) (fun i=>i≤ks.length) (fun i=>ks.length - i) 0 [] (((0:Int)=(↑(0:Nat):Int))) rfl (by omega) (fun i hk1=>?_)
 refine v_if (decide ((↑i:Int)<(↑ks.length:Int))) True trivial (fun h2=>?_) (fun h2=>?_)
 ·have h2:=of_decide_eq_true h2
  refine v_call _ [0,4] (Get_ok (some fs) (ks.getD (↑i:Int).toNat []) ‹_› ‹_›) ((0≤(↑i:Int)∧(↑i:Int)<(↑ks.length:Int))∧(PF (some fs)=PF (some fs))∧(false=false)∧(ks.getD (↑i:Int).toNat []=ks.getD (↑i:Int).toNat [])) ⟨(by omega),rfl,rfl,rfl⟩ (fun g3 p4=>?_)
  have p4:True:=p4
  refine v_call _ [1,4] (rGet_ok (fs) (ks.getD (↑i:Int).toNat []) ‹_›) ((fs=fs)∧(ks.getD (↑i:Int).toNat []=ks.getD (↑i:Int).toNat [])) ⟨rfl,rfl⟩ (fun g5 p6=>?_)
  have p6:True:=p6
  refine v_guard 38 ((getF (some fs) (ks.getD (↑i:Int).toNat [])).snd.fst != (rG fs (ks.getD (↑i:Int).toNat [])).snd.fst) True trivial (fun h7=>?_) (fun h7=>?_)
  ·skip
   exfalso;exact Bool.noConfusion ((sa1 ho).symm.trans ‹_›)
  ·skip
   refine v_guard 43 ((getF (some fs) (ks.getD (↑i:Int).toNat [])).snd.snd != (rG fs (ks.getD (↑i:Int).toNat [])).snd.snd) True trivial (fun h8=>?_) (fun h8=>?_)
   ·skip
    exfalso;exact Bool.noConfusion ((sa2 ho).symm.trans ‹_›)
   ·skip
    refine v_if (decide ((getF (some fs) (ks.getD (↑i:Int).toNat [])).fst≠(rG fs (ks.getD (↑i:Int).toNat [])).fst)) True trivial (fun h9=>?_) (fun h9=>?_)
    ·have h9:=of_decide_eq_true h9
     exfalso;exact absurd (sa3 ho) ‹_›
    ·have h9:=of_decide_eq_false h9
     exact v_back (i+1) [] ((I64 (↑i+1))∧((↑i:Int)+1=(↑(i+1):Int))) ⟨(by(unfold I64;omega)),rfl⟩ (show i+1≤ks.length∧ks.length - (i+1)<ks.length - i from(by omega))
 ·have h2:=of_decide_eq_false h2
  refine v_leave (.ex 0) True trivial ?_
  exact v_ret () [] ((true=true)∧(PF (some fs)=PF (some fs))∧(false=false)∧(fs=fs)∧(ks=ks)) ⟨rfl,rfl,rfl,rfl,rfl⟩ trivial
theorem ofI_ln {n:Nat} (h:n≤200000):(ofI (n:Int)).toNat=n:=by
  unfold ofI
  rw[UInt64.toNat_ofNat']
  omega
theorem tn (x:UInt64) {n:Nat} (h0:¬ (n:Int)=0) (h:n≤200000):(x % ofI (n:Int)).toNat<n:=by
  have e:=ofI_ln h
  rw[UInt64.toNat_mod,e];exact Nat.mod_lt _ (by omega)
section
variable {l:List Token} {a:UInt8} {x:UInt64} {i:Nat} {y:Token}
theorem tc0 (hl:l.length≤100000):(([]:List Token)++l).length≤200000:=by show l.length≤_;omega
theorem tc1 {n:Nat} (h:¬ (n:Int)=0):0≤(a.toNat:Int) % (n:Int)∧(a.toNat:Int) % (n:Int)<(n:Int):=⟨Int.emod_nonneg _ h,Int.emod_lt_of_pos _ (by omega)⟩
theorem tc2 {n:Nat} (h:¬ (n:Int)=0):((a.toNat:Int) % (n:Int)).toNat<n:=by have:=tc1 (a:=a) h;omega
theorem tc3 {n:Nat} (h:¬ (n:Int)=0):0≤(a.toNat:Int) % (n:Int)∧(a.toNat:Int) % (n:Int)≤(a.toNat:Int) % (n:Int)∧(a.toNat:Int) % (n:Int)≤(n:Int)∧0<n:=by have:=tc1 (a:=a) h;omega
theorem tc4 {n:Nat} (h:¬ (n:Int)=0):I64 ((a.toNat:Int) % (n:Int)+1):=by have:=tc1 (a:=a) h;have:=UInt8.toNat_lt a;have e:(a.toNat:Int) % (n:Int)=((a.toNat % n:Nat):Int):=rfl;have:=Nat.mod_le a.toNat n;unfold I64;rw[e];omega
theorem tc5 {n:Nat} (h:¬ (n:Int)=0):0≤(a.toNat:Int) % (n:Int)+1∧(a.toNat:Int) % (n:Int)+1≤(n:Int)∧0<n:=by have:=tc1 (a:=a) h;omega
theorem tc6 {n:Nat} (h:¬ (n:Int)=0) (hl:n≤200000):0=0∧((a.toNat:Int) % (n:Int)).toNat=((a.toNat:Int) % (n:Int)).toNat∧n=n∧((a.toNat:Int) % (n:Int)).toNat≤n∧((a.toNat:Int) % (n:Int)+1).toNat≤n∧0<n∧((a.toNat:Int) % (n:Int)).toNat+(n - ((a.toNat:Int) % (n:Int)+1).toNat)≤1000000:=by have:=tc1 (a:=a) h;omega
theorem tc7 {n:Nat} (h:¬ (n:Int)=0) (hl:n≤200000):ofI (n:Int)≠0:=by
  intro q
  have e:=ofI_ln hl
  rw[q] at e
  have:(0:UInt64).toNat=0:=rfl
  omega
theorem tc8 {n:Nat} (h:¬ (n:Int)=0) (hl:n≤200000):x % ofI (n:Int)<9223372036854775808:=by
  apply UInt64.lt_iff_toNat_lt.2
  have:=tn x h hl
  have e3:(9223372036854775808:UInt64).toNat=9223372036854775808:=rfl
  omega
theorem tc9 {n m:Nat} (h:¬ (n:Int)=0) (hl:n≤200000) (e:m=n):0≤(((x % ofI (n:Int)).toNat:Nat):Int)∧(((x % ofI (n:Int)).toNat:Nat):Int)<(m:Int):=by
  have:=tn x h hl;omega
theorem tc10 {n m:Nat} (h:¬ (n:Int)=0) (hl:n≤200000) (e:m=n):((((x % ofI (n:Int)).toNat:Nat):Int)).toNat<m:=by
  have:=tn x h hl;omega
end
noncomputable def ccN10_54:Code:=(Tryd.f54.body).getD .skip
theorem Change10_ok (l:List Token) (wh a:UInt8) (n:Int) (h b:List UInt8) (hn:I64 n) (hh:h.length=32) (hl:l.length≤100000):FOk EN 54 ⟨[.rd 100 l,.rd 5 (b)],[.n 0,.c wh,.c a,.i n,.a [.h 32 h],.n 1],List Token,fun v=>([.rd 100 l,.rd 5 (b),.rd 100 v],.n 2),fun v=>v.length≤l.length+1⟩:=by
 refine v_fun Tryd.f54 ccN10_54 MX (fun ν F σ w=>?_) Tryd.func54
 refine v_nl ?_
 refine v_mark 100 ?_
 refine v_cut 100 ?_
 refine v_if (decide ((↑([]++l).length:Int)=0)) ((0+l.length≤1000000)) (by omega) (fun h1=>?_) (fun h1=>?_)
 ·have h1:=of_decide_eq_true h1
  refine v_stop 8 True trivial ?_
  exact v_ret ([Token.mk wh (mk32 h) b [] n 0]) [8] ((l=l)∧(b=b)∧([Token.mk wh (mk32 h) b [] n 0]=[Token.mk wh (mk32 h) b [] n 0])) ⟨rfl,rfl,rfl⟩ (Nat.le_add_left 1 _)
 ·have h1:=of_decide_eq_false h1
  refine v_if (decide (wh % 9=0)) ((0≤(↑a.toNat:Int)∧0<(↑([]++l).length:Int))∧((9:UInt8)≠(0:UInt8))) ⟨(by omega),(by decide)⟩ (fun h2=>?_) (fun h2=>?_)
  ·have h2:=of_decide_eq_true h2
   refine v_stop 7 (((5:UInt64)≠(0:UInt64))∧(0≤(↑a.toNat:Int) % (↑([]++l).length:Int)∧(↑a.toNat:Int) % (↑([]++l).length:Int)<(↑([]++l).length:Int))∧(((↑a.toNat:Int) % (↑([]++l).length:Int)).toNat<([]++l).length)∧(((↑a.toNat:Int) % (↑([]++l).length:Int)).toNat<([]++l).length)) ⟨(by decide),(by exact tc1 ‹_›),(by exact tc2 ‹_›),(by exact tc2 ‹_›)⟩ ?_
   exact v_ret (([]++l).set ((↑a.toNat:Int) % (↑([]++l).length:Int)).toNat (Token.mk (ofI n % 5).toUInt8 (mk32 (([]++l).getD ((↑a.toNat:Int) % (↑([]++l).length:Int)).toNat (Token.mk 0 zero32 [] [] 0 0)).hash.l) (([]++l).getD ((↑a.toNat:Int) % (↑([]++l).length:Int)).toNat (Token.mk 0 zero32 [] [] 0 0)).key (([]++l).getD ((↑a.toNat:Int) % (↑([]++l).length:Int)).toNat (Token.mk 0 zero32 [] [] 0 0)).value (([]++l).getD ((↑a.toNat:Int) % (↑([]++l).length:Int)).toNat (Token.mk 0 zero32 [] [] 0 0)).height (([]++l).getD ((↑a.toNat:Int) % (↑([]++l).length:Int)).toNat (Token.mk 0 zero32 [] [] 0 0)).size)) [7] ((l=l)∧(b=b)∧(([]++l).set ((↑a.toNat:Int) % (↑([]++l).length:Int)).toNat (Token.mk (ofI n % 5).toUInt8 (mk32 (([]++l).getD ((↑a.toNat:Int) % (↑([]++l).length:Int)).toNat (Token.mk 0 zero32 [] [] 0 0)).hash.l) (([]++l).getD ((↑a.toNat:Int) % (↑([]++l).length:Int)).toNat (Token.mk 0 zero32 [] [] 0 0)).key (([]++l).getD ((↑a.toNat:Int) % (↑([]++l).length:Int)).toNat (Token.mk 0 zero32 [] [] 0 0)).value (([]++l).getD ((↑a.toNat:Int) % (↑([]++l).length:Int)).toNat (Token.mk 0 zero32 [] [] 0 0)).height (([]++l).getD ((↑a.toNat:Int) % (↑([]++l).length:Int)).toNat (Token.mk 0 zero32 [] [] 0 0)).size)=([]++l).set ((↑a.toNat:Int) % (↑([]++l).length:Int)).toNat (Token.mk (ofI n % 5).toUInt8 (mk32 (([]++l).getD ((↑a.toNat:Int) % (↑([]++l).length:Int)).toNat (Token.mk 0 zero32 [] [] 0 0)).hash.l) (([]++l).getD ((↑a.toNat:Int) % (↑([]++l).length:Int)).toNat (Token.mk 0 zero32 [] [] 0 0)).key (([]++l).getD ((↑a.toNat:Int) % (↑([]++l).length:Int)).toNat (Token.mk 0 zero32 [] [] 0 0)).value (([]++l).getD ((↑a.toNat:Int) % (↑([]++l).length:Int)).toNat (Token.mk 0 zero32 [] [] 0 0)).height (([]++l).getD ((↑a.toNat:Int) % (↑([]++l).length:Int)).toNat (Token.mk 0 zero32 [] [] 0 0)).size))) ⟨rfl,rfl,rfl⟩ (by(have hq:=tc2 (a:=a) (n:=(([]:List Token)++l).length) ‹_›;simp only[List.length_append,List.length_set,List.length_take,List.length_drop,List.length_cons,List.length_nil] at *;omega))
  ·have h2:=of_decide_eq_false h2
   refine v_if (decide (wh % 9=1)) True trivial (fun h3=>?_) (fun h3=>?_)
   ·have h3:=of_decide_eq_true h3
    refine v_stop 7 ((0≤(↑a.toNat:Int) % (↑([]++l).length:Int)∧(↑a.toNat:Int) % (↑([]++l).length:Int)<(↑([]++l).length:Int))∧(((↑a.toNat:Int) % (↑([]++l).length:Int)).toNat<([]++l).length)∧(((↑a.toNat:Int) % (↑([]++l).length:Int)).toNat<([]++l).length)) ⟨(by exact tc1 ‹_›),(by exact tc2 ‹_›),(by exact tc2 ‹_›)⟩ ?_
    exact v_ret (([]++l).set ((↑a.toNat:Int) % (↑([]++l).length:Int)).toNat (Token.mk (([]++l).getD ((↑a.toNat:Int) % (↑([]++l).length:Int)).toNat (Token.mk 0 zero32 [] [] 0 0)).kind (mk32 h) (([]++l).getD ((↑a.toNat:Int) % (↑([]++l).length:Int)).toNat (Token.mk 0 zero32 [] [] 0 0)).key (([]++l).getD ((↑a.toNat:Int) % (↑([]++l).length:Int)).toNat (Token.mk 0 zero32 [] [] 0 0)).value (([]++l).getD ((↑a.toNat:Int) % (↑([]++l).length:Int)).toNat (Token.mk 0 zero32 [] [] 0 0)).height (([]++l).getD ((↑a.toNat:Int) % (↑([]++l).length:Int)).toNat (Token.mk 0 zero32 [] [] 0 0)).size)) [7] ((l=l)∧(b=b)∧(([]++l).set ((↑a.toNat:Int) % (↑([]++l).length:Int)).toNat (Token.mk (([]++l).getD ((↑a.toNat:Int) % (↑([]++l).length:Int)).toNat (Token.mk 0 zero32 [] [] 0 0)).kind (mk32 h) (([]++l).getD ((↑a.toNat:Int) % (↑([]++l).length:Int)).toNat (Token.mk 0 zero32 [] [] 0 0)).key (([]++l).getD ((↑a.toNat:Int) % (↑([]++l).length:Int)).toNat (Token.mk 0 zero32 [] [] 0 0)).value (([]++l).getD ((↑a.toNat:Int) % (↑([]++l).length:Int)).toNat (Token.mk 0 zero32 [] [] 0 0)).height (([]++l).getD ((↑a.toNat:Int) % (↑([]++l).length:Int)).toNat (Token.mk 0 zero32 [] [] 0 0)).size)=([]++l).set ((↑a.toNat:Int) % (↑([]++l).length:Int)).toNat (Token.mk (([]++l).getD ((↑a.toNat:Int) % (↑([]++l).length:Int)).toNat (Token.mk 0 zero32 [] [] 0 0)).kind (mk32 h) (([]++l).getD ((↑a.toNat:Int) % (↑([]++l).length:Int)).toNat (Token.mk 0 zero32 [] [] 0 0)).key (([]++l).getD ((↑a.toNat:Int) % (↑([]++l).length:Int)).toNat (Token.mk 0 zero32 [] [] 0 0)).value (([]++l).getD ((↑a.toNat:Int) % (↑([]++l).length:Int)).toNat (Token.mk 0 zero32 [] [] 0 0)).height (([]++l).getD ((↑a.toNat:Int) % (↑([]++l).length:Int)).toNat (Token.mk 0 zero32 [] [] 0 0)).size))) ⟨rfl,rfl,rfl⟩ (by(have hq:=tc2 (a:=a) (n:=(([]:List Token)++l).length) ‹_›;simp only[List.length_append,List.length_set,List.length_take,List.length_drop,List.length_cons,List.length_nil] at *;omega))
   ·have h3:=of_decide_eq_false h3
    refine v_if (decide (wh % 9=2)) True trivial (fun h4=>?_) (fun h4=>?_)
    ·have h4:=of_decide_eq_true h4
     refine v_stop 7 ((0≤(↑a.toNat:Int) % (↑([]++l).length:Int)∧(↑a.toNat:Int) % (↑([]++l).length:Int)<(↑([]++l).length:Int))∧(((↑a.toNat:Int) % (↑([]++l).length:Int)).toNat<([]++l).length)∧(((↑a.toNat:Int) % (↑([]++l).length:Int)).toNat<([]++l).length)) ⟨(by exact tc1 ‹_›),(by exact tc2 ‹_›),(by exact tc2 ‹_›)⟩ ?_
     exact v_ret (([]++l).set ((↑a.toNat:Int) % (↑([]++l).length:Int)).toNat (Token.mk (([]++l).getD ((↑a.toNat:Int) % (↑([]++l).length:Int)).toNat (Token.mk 0 zero32 [] [] 0 0)).kind (mk32 (([]++l).getD ((↑a.toNat:Int) % (↑([]++l).length:Int)).toNat (Token.mk 0 zero32 [] [] 0 0)).hash.l) b (([]++l).getD ((↑a.toNat:Int) % (↑([]++l).length:Int)).toNat (Token.mk 0 zero32 [] [] 0 0)).value (([]++l).getD ((↑a.toNat:Int) % (↑([]++l).length:Int)).toNat (Token.mk 0 zero32 [] [] 0 0)).height (([]++l).getD ((↑a.toNat:Int) % (↑([]++l).length:Int)).toNat (Token.mk 0 zero32 [] [] 0 0)).size)) [7] ((l=l)∧(b=b)∧(([]++l).set ((↑a.toNat:Int) % (↑([]++l).length:Int)).toNat (Token.mk (([]++l).getD ((↑a.toNat:Int) % (↑([]++l).length:Int)).toNat (Token.mk 0 zero32 [] [] 0 0)).kind (mk32 (([]++l).getD ((↑a.toNat:Int) % (↑([]++l).length:Int)).toNat (Token.mk 0 zero32 [] [] 0 0)).hash.l) b (([]++l).getD ((↑a.toNat:Int) % (↑([]++l).length:Int)).toNat (Token.mk 0 zero32 [] [] 0 0)).value (([]++l).getD ((↑a.toNat:Int) % (↑([]++l).length:Int)).toNat (Token.mk 0 zero32 [] [] 0 0)).height (([]++l).getD ((↑a.toNat:Int) % (↑([]++l).length:Int)).toNat (Token.mk 0 zero32 [] [] 0 0)).size)=([]++l).set ((↑a.toNat:Int) % (↑([]++l).length:Int)).toNat (Token.mk (([]++l).getD ((↑a.toNat:Int) % (↑([]++l).length:Int)).toNat (Token.mk 0 zero32 [] [] 0 0)).kind (mk32 (([]++l).getD ((↑a.toNat:Int) % (↑([]++l).length:Int)).toNat (Token.mk 0 zero32 [] [] 0 0)).hash.l) b (([]++l).getD ((↑a.toNat:Int) % (↑([]++l).length:Int)).toNat (Token.mk 0 zero32 [] [] 0 0)).value (([]++l).getD ((↑a.toNat:Int) % (↑([]++l).length:Int)).toNat (Token.mk 0 zero32 [] [] 0 0)).height (([]++l).getD ((↑a.toNat:Int) % (↑([]++l).length:Int)).toNat (Token.mk 0 zero32 [] [] 0 0)).size))) ⟨rfl,rfl,rfl⟩ (by(have hq:=tc2 (a:=a) (n:=(([]:List Token)++l).length) ‹_›;simp only[List.length_append,List.length_set,List.length_take,List.length_drop,List.length_cons,List.length_nil] at *;omega))
    ·have h4:=of_decide_eq_false h4
     refine v_if (decide (wh % 9=3)) True trivial (fun h5=>?_) (fun h5=>?_)
     ·have h5:=of_decide_eq_true h5
      refine v_stop 7 ((0≤(↑a.toNat:Int) % (↑([]++l).length:Int)∧(↑a.toNat:Int) % (↑([]++l).length:Int)<(↑([]++l).length:Int))∧(((↑a.toNat:Int) % (↑([]++l).length:Int)).toNat<([]++l).length)∧(((↑a.toNat:Int) % (↑([]++l).length:Int)).toNat<([]++l).length)) ⟨(by exact tc1 ‹_›),(by exact tc2 ‹_›),(by exact tc2 ‹_›)⟩ ?_
      exact v_ret (([]++l).set ((↑a.toNat:Int) % (↑([]++l).length:Int)).toNat (Token.mk (([]++l).getD ((↑a.toNat:Int) % (↑([]++l).length:Int)).toNat (Token.mk 0 zero32 [] [] 0 0)).kind (mk32 (([]++l).getD ((↑a.toNat:Int) % (↑([]++l).length:Int)).toNat (Token.mk 0 zero32 [] [] 0 0)).hash.l) (([]++l).getD ((↑a.toNat:Int) % (↑([]++l).length:Int)).toNat (Token.mk 0 zero32 [] [] 0 0)).key b (([]++l).getD ((↑a.toNat:Int) % (↑([]++l).length:Int)).toNat (Token.mk 0 zero32 [] [] 0 0)).height (([]++l).getD ((↑a.toNat:Int) % (↑([]++l).length:Int)).toNat (Token.mk 0 zero32 [] [] 0 0)).size)) [7] ((l=l)∧(b=b)∧(([]++l).set ((↑a.toNat:Int) % (↑([]++l).length:Int)).toNat (Token.mk (([]++l).getD ((↑a.toNat:Int) % (↑([]++l).length:Int)).toNat (Token.mk 0 zero32 [] [] 0 0)).kind (mk32 (([]++l).getD ((↑a.toNat:Int) % (↑([]++l).length:Int)).toNat (Token.mk 0 zero32 [] [] 0 0)).hash.l) (([]++l).getD ((↑a.toNat:Int) % (↑([]++l).length:Int)).toNat (Token.mk 0 zero32 [] [] 0 0)).key b (([]++l).getD ((↑a.toNat:Int) % (↑([]++l).length:Int)).toNat (Token.mk 0 zero32 [] [] 0 0)).height (([]++l).getD ((↑a.toNat:Int) % (↑([]++l).length:Int)).toNat (Token.mk 0 zero32 [] [] 0 0)).size)=([]++l).set ((↑a.toNat:Int) % (↑([]++l).length:Int)).toNat (Token.mk (([]++l).getD ((↑a.toNat:Int) % (↑([]++l).length:Int)).toNat (Token.mk 0 zero32 [] [] 0 0)).kind (mk32 (([]++l).getD ((↑a.toNat:Int) % (↑([]++l).length:Int)).toNat (Token.mk 0 zero32 [] [] 0 0)).hash.l) (([]++l).getD ((↑a.toNat:Int) % (↑([]++l).length:Int)).toNat (Token.mk 0 zero32 [] [] 0 0)).key b (([]++l).getD ((↑a.toNat:Int) % (↑([]++l).length:Int)).toNat (Token.mk 0 zero32 [] [] 0 0)).height (([]++l).getD ((↑a.toNat:Int) % (↑([]++l).length:Int)).toNat (Token.mk 0 zero32 [] [] 0 0)).size))) ⟨rfl,rfl,rfl⟩ (by(have hq:=tc2 (a:=a) (n:=(([]:List Token)++l).length) ‹_›;simp only[List.length_append,List.length_set,List.length_take,List.length_drop,List.length_cons,List.length_nil] at *;omega))
     ·have h5:=of_decide_eq_false h5
      refine v_if (decide (wh % 9=4)) True trivial (fun h6=>?_) (fun h6=>?_)
      ·have h6:=of_decide_eq_true h6
       refine v_stop 7 ((0≤(↑a.toNat:Int) % (↑([]++l).length:Int)∧(↑a.toNat:Int) % (↑([]++l).length:Int)<(↑([]++l).length:Int))∧(((↑a.toNat:Int) % (↑([]++l).length:Int)).toNat<([]++l).length)∧(((↑a.toNat:Int) % (↑([]++l).length:Int)).toNat<([]++l).length)) ⟨(by exact tc1 ‹_›),(by exact tc2 ‹_›),(by exact tc2 ‹_›)⟩ ?_
       exact v_ret (([]++l).set ((↑a.toNat:Int) % (↑([]++l).length:Int)).toNat (Token.mk (([]++l).getD ((↑a.toNat:Int) % (↑([]++l).length:Int)).toNat (Token.mk 0 zero32 [] [] 0 0)).kind (mk32 (([]++l).getD ((↑a.toNat:Int) % (↑([]++l).length:Int)).toNat (Token.mk 0 zero32 [] [] 0 0)).hash.l) (([]++l).getD ((↑a.toNat:Int) % (↑([]++l).length:Int)).toNat (Token.mk 0 zero32 [] [] 0 0)).key (([]++l).getD ((↑a.toNat:Int) % (↑([]++l).length:Int)).toNat (Token.mk 0 zero32 [] [] 0 0)).value n (([]++l).getD ((↑a.toNat:Int) % (↑([]++l).length:Int)).toNat (Token.mk 0 zero32 [] [] 0 0)).size)) [7] ((l=l)∧(b=b)∧(([]++l).set ((↑a.toNat:Int) % (↑([]++l).length:Int)).toNat (Token.mk (([]++l).getD ((↑a.toNat:Int) % (↑([]++l).length:Int)).toNat (Token.mk 0 zero32 [] [] 0 0)).kind (mk32 (([]++l).getD ((↑a.toNat:Int) % (↑([]++l).length:Int)).toNat (Token.mk 0 zero32 [] [] 0 0)).hash.l) (([]++l).getD ((↑a.toNat:Int) % (↑([]++l).length:Int)).toNat (Token.mk 0 zero32 [] [] 0 0)).key (([]++l).getD ((↑a.toNat:Int) % (↑([]++l).length:Int)).toNat (Token.mk 0 zero32 [] [] 0 0)).value n (([]++l).getD ((↑a.toNat:Int) % (↑([]++l).length:Int)).toNat (Token.mk 0 zero32 [] [] 0 0)).size)=([]++l).set ((↑a.toNat:Int) % (↑([]++l).length:Int)).toNat (Token.mk (([]++l).getD ((↑a.toNat:Int) % (↑([]++l).length:Int)).toNat (Token.mk 0 zero32 [] [] 0 0)).kind (mk32 (([]++l).getD ((↑a.toNat:Int) % (↑([]++l).length:Int)).toNat (Token.mk 0 zero32 [] [] 0 0)).hash.l) (([]++l).getD ((↑a.toNat:Int) % (↑([]++l).length:Int)).toNat (Token.mk 0 zero32 [] [] 0 0)).key (([]++l).getD ((↑a.toNat:Int) % (↑([]++l).length:Int)).toNat (Token.mk 0 zero32 [] [] 0 0)).value n (([]++l).getD ((↑a.toNat:Int) % (↑([]++l).length:Int)).toNat (Token.mk 0 zero32 [] [] 0 0)).size))) ⟨rfl,rfl,rfl⟩ (by(have hq:=tc2 (a:=a) (n:=(([]:List Token)++l).length) ‹_›;simp only[List.length_append,List.length_set,List.length_take,List.length_drop,List.length_cons,List.length_nil] at *;omega))
      ·have h6:=of_decide_eq_false h6
       refine v_if (decide (wh % 9=5)) True trivial (fun h7=>?_) (fun h7=>?_)
       ·have h7:=of_decide_eq_true h7
        refine v_stop 7 ((0≤(↑a.toNat:Int) % (↑([]++l).length:Int)∧(↑a.toNat:Int) % (↑([]++l).length:Int)<(↑([]++l).length:Int))∧(((↑a.toNat:Int) % (↑([]++l).length:Int)).toNat<([]++l).length)∧(((↑a.toNat:Int) % (↑([]++l).length:Int)).toNat<([]++l).length)) ⟨(by exact tc1 ‹_›),(by exact tc2 ‹_›),(by exact tc2 ‹_›)⟩ ?_
        exact v_ret (([]++l).set ((↑a.toNat:Int) % (↑([]++l).length:Int)).toNat (Token.mk (([]++l).getD ((↑a.toNat:Int) % (↑([]++l).length:Int)).toNat (Token.mk 0 zero32 [] [] 0 0)).kind (mk32 (([]++l).getD ((↑a.toNat:Int) % (↑([]++l).length:Int)).toNat (Token.mk 0 zero32 [] [] 0 0)).hash.l) (([]++l).getD ((↑a.toNat:Int) % (↑([]++l).length:Int)).toNat (Token.mk 0 zero32 [] [] 0 0)).key (([]++l).getD ((↑a.toNat:Int) % (↑([]++l).length:Int)).toNat (Token.mk 0 zero32 [] [] 0 0)).value (([]++l).getD ((↑a.toNat:Int) % (↑([]++l).length:Int)).toNat (Token.mk 0 zero32 [] [] 0 0)).height (ofI n))) [7] ((l=l)∧(b=b)∧(([]++l).set ((↑a.toNat:Int) % (↑([]++l).length:Int)).toNat (Token.mk (([]++l).getD ((↑a.toNat:Int) % (↑([]++l).length:Int)).toNat (Token.mk 0 zero32 [] [] 0 0)).kind (mk32 (([]++l).getD ((↑a.toNat:Int) % (↑([]++l).length:Int)).toNat (Token.mk 0 zero32 [] [] 0 0)).hash.l) (([]++l).getD ((↑a.toNat:Int) % (↑([]++l).length:Int)).toNat (Token.mk 0 zero32 [] [] 0 0)).key (([]++l).getD ((↑a.toNat:Int) % (↑([]++l).length:Int)).toNat (Token.mk 0 zero32 [] [] 0 0)).value (([]++l).getD ((↑a.toNat:Int) % (↑([]++l).length:Int)).toNat (Token.mk 0 zero32 [] [] 0 0)).height (ofI n))=([]++l).set ((↑a.toNat:Int) % (↑([]++l).length:Int)).toNat (Token.mk (([]++l).getD ((↑a.toNat:Int) % (↑([]++l).length:Int)).toNat (Token.mk 0 zero32 [] [] 0 0)).kind (mk32 (([]++l).getD ((↑a.toNat:Int) % (↑([]++l).length:Int)).toNat (Token.mk 0 zero32 [] [] 0 0)).hash.l) (([]++l).getD ((↑a.toNat:Int) % (↑([]++l).length:Int)).toNat (Token.mk 0 zero32 [] [] 0 0)).key (([]++l).getD ((↑a.toNat:Int) % (↑([]++l).length:Int)).toNat (Token.mk 0 zero32 [] [] 0 0)).value (([]++l).getD ((↑a.toNat:Int) % (↑([]++l).length:Int)).toNat (Token.mk 0 zero32 [] [] 0 0)).height (ofI n)))) ⟨rfl,rfl,rfl⟩ (by(have hq:=tc2 (a:=a) (n:=(([]:List Token)++l).length) ‹_›;simp only[List.length_append,List.length_set,List.length_take,List.length_drop,List.length_cons,List.length_nil] at *;omega))
       ·have h7:=of_decide_eq_false h7
        refine v_if (decide (wh % 9=6)) True trivial (fun h8=>?_) (fun h8=>?_)
        ·have h8:=of_decide_eq_true h8
         refine v_plan (.fs [0,1,2,3,4,5,6,7] (.o 8 (.fs [9] .e))) [] True trivial ?_
         refine v_stop 8 ((0≤(↑a.toNat:Int) % (↑([]++l).length:Int)∧(↑a.toNat:Int) % (↑([]++l).length:Int)≤(↑a.toNat:Int) % (↑([]++l).length:Int)∧(↑a.toNat:Int) % (↑([]++l).length:Int)≤(↑([]++l).length:Int)∧0<([]++l).length)∧(I64 (↑a.toNat % ↑([]++l).length+1))∧(0≤(↑a.toNat:Int) % (↑([]++l).length:Int)+1∧(↑a.toNat:Int) % (↑([]++l).length:Int)+1≤(↑([]++l).length:Int)∧0<([]++l).length)∧(0=0∧((↑a.toNat:Int) % (↑([]++l).length:Int)).toNat=((↑a.toNat:Int) % (↑([]++l).length:Int)).toNat∧([]++l).length=([]++l).length∧((↑a.toNat:Int) % (↑([]++l).length:Int)).toNat≤([]++l).length∧((↑a.toNat:Int) % (↑([]++l).length:Int)+1).toNat≤([]++l).length∧0<([]++l).length∧((↑a.toNat:Int) % (↑([]++l).length:Int)).toNat+(([]++l).length - ((↑a.toNat:Int) % (↑([]++l).length:Int)+1).toNat)≤1000000)) ⟨(by exact tc3 ‹_›),(by exact tc4 ‹_›),(by exact tc5 ‹_›),(by exact tc6 ‹_› (tc0 hl))⟩ ?_
         exact v_ret (List.take ((↑a.toNat:Int) % (↑([]++l).length:Int)).toNat ([]++l)++List.drop ((↑a.toNat:Int) % (↑([]++l).length:Int)+1).toNat ([]++l)) [8] ((l=l)∧(b=b)∧(List.take ((↑a.toNat:Int) % (↑([]++l).length:Int)).toNat ([]++l)++List.drop ((↑a.toNat:Int) % (↑([]++l).length:Int)+1).toNat ([]++l)=List.take ((↑a.toNat:Int) % (↑([]++l).length:Int)).toNat ([]++l)++List.drop ((↑a.toNat:Int) % (↑([]++l).length:Int)+1).toNat ([]++l))) ⟨rfl,rfl,rfl⟩ (by(simp;omega))
        ·have h8:=of_decide_eq_false h8
         refine v_if (decide (wh % 9=7)) True trivial (fun h9=>?_) (fun h9=>?_)
         ·have h9:=of_decide_eq_true h9
          refine v_stop 10 ((0≤(↑a.toNat:Int) % (↑([]++l).length:Int)∧(↑a.toNat:Int) % (↑([]++l).length:Int)<(↑([]++l).length:Int))∧(((↑a.toNat:Int) % (↑([]++l).length:Int)).toNat<([]++l).length)) ⟨(by exact tc1 ‹_›),(by exact tc2 ‹_›)⟩ ?_
          refine v_stop 11 ((([]++l).length+1≤1000000)) (by(simp;omega)) ?_
          exact v_ret ([]++l++[Token.mk (([]++l).getD ((↑a.toNat:Int) % (↑([]++l).length:Int)).toNat (Token.mk 0 zero32 [] [] 0 0)).kind (mk32 (([]++l).getD ((↑a.toNat:Int) % (↑([]++l).length:Int)).toNat (Token.mk 0 zero32 [] [] 0 0)).hash.l) (([]++l).getD ((↑a.toNat:Int) % (↑([]++l).length:Int)).toNat (Token.mk 0 zero32 [] [] 0 0)).key (([]++l).getD ((↑a.toNat:Int) % (↑([]++l).length:Int)).toNat (Token.mk 0 zero32 [] [] 0 0)).value (([]++l).getD ((↑a.toNat:Int) % (↑([]++l).length:Int)).toNat (Token.mk 0 zero32 [] [] 0 0)).height (([]++l).getD ((↑a.toNat:Int) % (↑([]++l).length:Int)).toNat (Token.mk 0 zero32 [] [] 0 0)).size]) [11] ((l=l)∧(b=b)∧([]++l++[Token.mk (([]++l).getD ((↑a.toNat:Int) % (↑([]++l).length:Int)).toNat (Token.mk 0 zero32 [] [] 0 0)).kind (mk32 (([]++l).getD ((↑a.toNat:Int) % (↑([]++l).length:Int)).toNat (Token.mk 0 zero32 [] [] 0 0)).hash.l) (([]++l).getD ((↑a.toNat:Int) % (↑([]++l).length:Int)).toNat (Token.mk 0 zero32 [] [] 0 0)).key (([]++l).getD ((↑a.toNat:Int) % (↑([]++l).length:Int)).toNat (Token.mk 0 zero32 [] [] 0 0)).value (([]++l).getD ((↑a.toNat:Int) % (↑([]++l).length:Int)).toNat (Token.mk 0 zero32 [] [] 0 0)).height (([]++l).getD ((↑a.toNat:Int) % (↑([]++l).length:Int)).toNat (Token.mk 0 zero32 [] [] 0 0)).size]=[]++l++[Token.mk (([]++l).getD ((↑a.toNat:Int) % (↑([]++l).length:Int)).toNat (Token.mk 0 zero32 [] [] 0 0)).kind (mk32 (([]++l).getD ((↑a.toNat:Int) % (↑([]++l).length:Int)).toNat (Token.mk 0 zero32 [] [] 0 0)).hash.l) (([]++l).getD ((↑a.toNat:Int) % (↑([]++l).length:Int)).toNat (Token.mk 0 zero32 [] [] 0 0)).key (([]++l).getD ((↑a.toNat:Int) % (↑([]++l).length:Int)).toNat (Token.mk 0 zero32 [] [] 0 0)).value (([]++l).getD ((↑a.toNat:Int) % (↑([]++l).length:Int)).toNat (Token.mk 0 zero32 [] [] 0 0)).height (([]++l).getD ((↑a.toNat:Int) % (↑([]++l).length:Int)).toNat (Token.mk 0 zero32 [] [] 0 0)).size])) ⟨rfl,rfl,rfl⟩ (by(have hq:=tc2 (a:=a) (n:=(([]:List Token)++l).length) ‹_›;simp only[List.length_append,List.length_set,List.length_take,List.length_drop,List.length_cons,List.length_nil] at *;omega))
         ·have h9:=of_decide_eq_false h9
          refine v_join [42,43,44,45,46,47,48,49,50,51,52,53,54,55,37,30,19,13,18] [7] (fun _:Unit=>([(13,SV.n 8)],[Ent.mu 100 ((([]++l).set ((↑a.toNat:Int) % (↑([]++l).length:Int)).toNat (Token.mk (([]++l).getD (↑(ofI n % ofI (↑([]++l).length:Int)).toNat:Int).toNat (Token.mk 0 zero32 [] [] 0 0)).kind (mk32 (([]++l).getD (↑(ofI n % ofI (↑([]++l).length:Int)).toNat:Int).toNat (Token.mk 0 zero32 [] [] 0 0)).hash.l) (([]++l).getD (↑(ofI n % ofI (↑([]++l).length:Int)).toNat:Int).toNat (Token.mk 0 zero32 [] [] 0 0)).key (([]++l).getD (↑(ofI n % ofI (↑([]++l).length:Int)).toNat:Int).toNat (Token.mk 0 zero32 [] [] 0 0)).value (([]++l).getD (↑(ofI n % ofI (↑([]++l).length:Int)).toNat:Int).toNat (Token.mk 0 zero32 [] [] 0 0)).height (([]++l).getD (↑(ofI n % ofI (↑([]++l).length:Int)).toNat:Int).toNat (Token.mk 0 zero32 [] [] 0 0)).size)).set (↑(ofI n % ofI (↑([]++l).length:Int)).toNat:Int).toNat (Token.mk (([]++l).getD ((↑a.toNat:Int) % (↑([]++l).length:Int)).toNat (Token.mk 0 zero32 [] [] 0 0)).kind (mk32 (([]++l).getD ((↑a.toNat:Int) % (↑([]++l).length:Int)).toNat (Token.mk 0 zero32 [] [] 0 0)).hash.l) (([]++l).getD ((↑a.toNat:Int) % (↑([]++l).length:Int)).toNat (Token.mk 0 zero32 [] [] 0 0)).key (([]++l).getD ((↑a.toNat:Int) % (↑([]++l).length:Int)).toNat (Token.mk 0 zero32 [] [] 0 0)).value (([]++l).getD ((↑a.toNat:Int) % (↑([]++l).length:Int)).toNat (Token.mk 0 zero32 [] [] 0 0)).height (([]++l).getD ((↑a.toNat:Int) % (↑([]++l).length:Int)).toNat (Token.mk 0 zero32 [] [] 0 0)).size))])) (fun _=>True) ?_ (fun _ _=>?_) ((ofI ↑([]++l).length≠0)∧(ofI n % ofI ↑([]++l).length<9223372036854775808)) ⟨(by exact tc7 ‹_› (tc0 hl)),(by exact tc8 ‹_› (tc0 hl))⟩
          ·skip
           refine v_plan (.fs [0,1,2,3,4,5,6,8,9,10] (.c 7 (.o 11 (.fs [12] (.o 13 (.fs [14] (.o 15 .e))))) (.o 11 (.o 7 (.fs [12] (.o 13 (.fs [14] (.o 15 .e)))))))) [3,5] True trivial ?_
           refine v_pick ((0≤(↑(ofI n % ofI (↑([]++l).length:Int)).toNat:Int)∧(↑(ofI n % ofI (↑([]++l).length:Int)).toNat:Int)<(↑([]++l).length:Int))∧(0≤(↑a.toNat:Int) % (↑([]++l).length:Int)∧(↑a.toNat:Int) % (↑([]++l).length:Int)<(↑([]++l).length:Int))) ⟨(by exact tc9 ‹_› (tc0 hl) (by first | rfl | exact List.length_set)),(by exact tc1 ‹_›)⟩ ?_ ?_
           ·skip
            exact v_back (()) [7] (((↑(ofI n % ofI (↑([]++l).length:Int)).toNat:Int).toNat<([]++l).length)∧(((↑a.toNat:Int) % (↑([]++l).length:Int)).toNat<([]++l).length)∧(0≤(↑a.toNat:Int) % (↑([]++l).length:Int)∧(↑a.toNat:Int) % (↑([]++l).length:Int)<(↑([]++l).length:Int))∧(((↑a.toNat:Int) % (↑([]++l).length:Int)).toNat<([]++l).length)∧(0≤(↑(ofI n % ofI (↑([]++l).length:Int)).toNat:Int)∧(↑(ofI n % ofI (↑([]++l).length:Int)).toNat:Int)<(↑(([]++l).set ((↑a.toNat:Int) % (↑([]++l).length:Int)).toNat (Token.mk (([]++l).getD (↑(ofI n % ofI (↑([]++l).length:Int)).toNat:Int).toNat (Token.mk 0 zero32 [] [] 0 0)).kind (mk32 (([]++l).getD (↑(ofI n % ofI (↑([]++l).length:Int)).toNat:Int).toNat (Token.mk 0 zero32 [] [] 0 0)).hash.l) (([]++l).getD (↑(ofI n % ofI (↑([]++l).length:Int)).toNat:Int).toNat (Token.mk 0 zero32 [] [] 0 0)).key (([]++l).getD (↑(ofI n % ofI (↑([]++l).length:Int)).toNat:Int).toNat (Token.mk 0 zero32 [] [] 0 0)).value (([]++l).getD (↑(ofI n % ofI (↑([]++l).length:Int)).toNat:Int).toNat (Token.mk 0 zero32 [] [] 0 0)).height (([]++l).getD (↑(ofI n % ofI (↑([]++l).length:Int)).toNat:Int).toNat (Token.mk 0 zero32 [] [] 0 0)).size)).length:Int))∧((↑(ofI n % ofI (↑([]++l).length:Int)).toNat:Int).toNat<(([]++l).set ((↑a.toNat:Int) % (↑([]++l).length:Int)).toNat (Token.mk (([]++l).getD (↑(ofI n % ofI (↑([]++l).length:Int)).toNat:Int).toNat (Token.mk 0 zero32 [] [] 0 0)).kind (mk32 (([]++l).getD (↑(ofI n % ofI (↑([]++l).length:Int)).toNat:Int).toNat (Token.mk 0 zero32 [] [] 0 0)).hash.l) (([]++l).getD (↑(ofI n % ofI (↑([]++l).length:Int)).toNat:Int).toNat (Token.mk 0 zero32 [] [] 0 0)).key (([]++l).getD (↑(ofI n % ofI (↑([]++l).length:Int)).toNat:Int).toNat (Token.mk 0 zero32 [] [] 0 0)).value (([]++l).getD (↑(ofI n % ofI (↑([]++l).length:Int)).toNat:Int).toNat (Token.mk 0 zero32 [] [] 0 0)).height (([]++l).getD (↑(ofI n % ofI (↑([]++l).length:Int)).toNat:Int).toNat (Token.mk 0 zero32 [] [] 0 0)).size)).length)∧((([]++l).set ((↑a.toNat:Int) % (↑([]++l).length:Int)).toNat (Token.mk (([]++l).getD (↑(ofI n % ofI (↑([]++l).length:Int)).toNat:Int).toNat (Token.mk 0 zero32 [] [] 0 0)).kind (mk32 (([]++l).getD (↑(ofI n % ofI (↑([]++l).length:Int)).toNat:Int).toNat (Token.mk 0 zero32 [] [] 0 0)).hash.l) (([]++l).getD (↑(ofI n % ofI (↑([]++l).length:Int)).toNat:Int).toNat (Token.mk 0 zero32 [] [] 0 0)).key (([]++l).getD (↑(ofI n % ofI (↑([]++l).length:Int)).toNat:Int).toNat (Token.mk 0 zero32 [] [] 0 0)).value (([]++l).getD (↑(ofI n % ofI (↑([]++l).length:Int)).toNat:Int).toNat (Token.mk 0 zero32 [] [] 0 0)).height (([]++l).getD (↑(ofI n % ofI (↑([]++l).length:Int)).toNat:Int).toNat (Token.mk 0 zero32 [] [] 0 0)).size)).set (↑(ofI n % ofI (↑([]++l).length:Int)).toNat:Int).toNat (Token.mk (([]++l).getD ((↑a.toNat:Int) % (↑([]++l).length:Int)).toNat (Token.mk 0 zero32 [] [] 0 0)).kind (mk32 (([]++l).getD ((↑a.toNat:Int) % (↑([]++l).length:Int)).toNat (Token.mk 0 zero32 [] [] 0 0)).hash.l) (([]++l).getD ((↑a.toNat:Int) % (↑([]++l).length:Int)).toNat (Token.mk 0 zero32 [] [] 0 0)).key (([]++l).getD ((↑a.toNat:Int) % (↑([]++l).length:Int)).toNat (Token.mk 0 zero32 [] [] 0 0)).value (([]++l).getD ((↑a.toNat:Int) % (↑([]++l).length:Int)).toNat (Token.mk 0 zero32 [] [] 0 0)).height (([]++l).getD ((↑a.toNat:Int) % (↑([]++l).length:Int)).toNat (Token.mk 0 zero32 [] [] 0 0)).size)=(([]++l).set ((↑a.toNat:Int) % (↑([]++l).length:Int)).toNat (Token.mk (([]++l).getD (↑(ofI n % ofI (↑([]++l).length:Int)).toNat:Int).toNat (Token.mk 0 zero32 [] [] 0 0)).kind (mk32 (([]++l).getD (↑(ofI n % ofI (↑([]++l).length:Int)).toNat:Int).toNat (Token.mk 0 zero32 [] [] 0 0)).hash.l) (([]++l).getD (↑(ofI n % ofI (↑([]++l).length:Int)).toNat:Int).toNat (Token.mk 0 zero32 [] [] 0 0)).key (([]++l).getD (↑(ofI n % ofI (↑([]++l).length:Int)).toNat:Int).toNat (Token.mk 0 zero32 [] [] 0 0)).value (([]++l).getD (↑(ofI n % ofI (↑([]++l).length:Int)).toNat:Int).toNat (Token.mk 0 zero32 [] [] 0 0)).height (([]++l).getD (↑(ofI n % ofI (↑([]++l).length:Int)).toNat:Int).toNat (Token.mk 0 zero32 [] [] 0 0)).size)).set (↑(ofI n % ofI (↑([]++l).length:Int)).toNat:Int).toNat (Token.mk (([]++l).getD ((↑a.toNat:Int) % (↑([]++l).length:Int)).toNat (Token.mk 0 zero32 [] [] 0 0)).kind (mk32 (([]++l).getD ((↑a.toNat:Int) % (↑([]++l).length:Int)).toNat (Token.mk 0 zero32 [] [] 0 0)).hash.l) (([]++l).getD ((↑a.toNat:Int) % (↑([]++l).length:Int)).toNat (Token.mk 0 zero32 [] [] 0 0)).key (([]++l).getD ((↑a.toNat:Int) % (↑([]++l).length:Int)).toNat (Token.mk 0 zero32 [] [] 0 0)).value (([]++l).getD ((↑a.toNat:Int) % (↑([]++l).length:Int)).toNat (Token.mk 0 zero32 [] [] 0 0)).height (([]++l).getD ((↑a.toNat:Int) % (↑([]++l).length:Int)).toNat (Token.mk 0 zero32 [] [] 0 0)).size))) ⟨(by exact tc10 ‹_› (tc0 hl) (by first | rfl | exact List.length_set)),(by exact tc2 ‹_›),(by exact tc1 ‹_›),(by exact tc2 ‹_›),(by exact tc9 ‹_› (tc0 hl) (by first | rfl | exact List.length_set)),(by exact tc10 ‹_› (tc0 hl) (by first | rfl | exact List.length_set)),rfl⟩ (show True from trivial)
           ·skip
            exact v_back (()) [7] ((((↑a.toNat:Int) % (↑([]++l).length:Int)).toNat<([]++l).length)∧((↑(ofI n % ofI (↑([]++l).length:Int)).toNat:Int).toNat<([]++l).length)∧(0≤(↑a.toNat:Int) % (↑([]++l).length:Int)∧(↑a.toNat:Int) % (↑([]++l).length:Int)<(↑([]++l).length:Int))∧(((↑a.toNat:Int) % (↑([]++l).length:Int)).toNat<([]++l).length)∧(0≤(↑(ofI n % ofI (↑([]++l).length:Int)).toNat:Int)∧(↑(ofI n % ofI (↑([]++l).length:Int)).toNat:Int)<(↑(([]++l).set ((↑a.toNat:Int) % (↑([]++l).length:Int)).toNat (Token.mk (([]++l).getD (↑(ofI n % ofI (↑([]++l).length:Int)).toNat:Int).toNat (Token.mk 0 zero32 [] [] 0 0)).kind (mk32 (([]++l).getD (↑(ofI n % ofI (↑([]++l).length:Int)).toNat:Int).toNat (Token.mk 0 zero32 [] [] 0 0)).hash.l) (([]++l).getD (↑(ofI n % ofI (↑([]++l).length:Int)).toNat:Int).toNat (Token.mk 0 zero32 [] [] 0 0)).key (([]++l).getD (↑(ofI n % ofI (↑([]++l).length:Int)).toNat:Int).toNat (Token.mk 0 zero32 [] [] 0 0)).value (([]++l).getD (↑(ofI n % ofI (↑([]++l).length:Int)).toNat:Int).toNat (Token.mk 0 zero32 [] [] 0 0)).height (([]++l).getD (↑(ofI n % ofI (↑([]++l).length:Int)).toNat:Int).toNat (Token.mk 0 zero32 [] [] 0 0)).size)).length:Int))∧((↑(ofI n % ofI (↑([]++l).length:Int)).toNat:Int).toNat<(([]++l).set ((↑a.toNat:Int) % (↑([]++l).length:Int)).toNat (Token.mk (([]++l).getD (↑(ofI n % ofI (↑([]++l).length:Int)).toNat:Int).toNat (Token.mk 0 zero32 [] [] 0 0)).kind (mk32 (([]++l).getD (↑(ofI n % ofI (↑([]++l).length:Int)).toNat:Int).toNat (Token.mk 0 zero32 [] [] 0 0)).hash.l) (([]++l).getD (↑(ofI n % ofI (↑([]++l).length:Int)).toNat:Int).toNat (Token.mk 0 zero32 [] [] 0 0)).key (([]++l).getD (↑(ofI n % ofI (↑([]++l).length:Int)).toNat:Int).toNat (Token.mk 0 zero32 [] [] 0 0)).value (([]++l).getD (↑(ofI n % ofI (↑([]++l).length:Int)).toNat:Int).toNat (Token.mk 0 zero32 [] [] 0 0)).height (([]++l).getD (↑(ofI n % ofI (↑([]++l).length:Int)).toNat:Int).toNat (Token.mk 0 zero32 [] [] 0 0)).size)).length)∧((([]++l).set ((↑a.toNat:Int) % (↑([]++l).length:Int)).toNat (Token.mk (([]++l).getD (↑(ofI n % ofI (↑([]++l).length:Int)).toNat:Int).toNat (Token.mk 0 zero32 [] [] 0 0)).kind (mk32 (([]++l).getD (↑(ofI n % ofI (↑([]++l).length:Int)).toNat:Int).toNat (Token.mk 0 zero32 [] [] 0 0)).hash.l) (([]++l).getD (↑(ofI n % ofI (↑([]++l).length:Int)).toNat:Int).toNat (Token.mk 0 zero32 [] [] 0 0)).key (([]++l).getD (↑(ofI n % ofI (↑([]++l).length:Int)).toNat:Int).toNat (Token.mk 0 zero32 [] [] 0 0)).value (([]++l).getD (↑(ofI n % ofI (↑([]++l).length:Int)).toNat:Int).toNat (Token.mk 0 zero32 [] [] 0 0)).height (([]++l).getD (↑(ofI n % ofI (↑([]++l).length:Int)).toNat:Int).toNat (Token.mk 0 zero32 [] [] 0 0)).size)).set (↑(ofI n % ofI (↑([]++l).length:Int)).toNat:Int).toNat (Token.mk (([]++l).getD ((↑a.toNat:Int) % (↑([]++l).length:Int)).toNat (Token.mk 0 zero32 [] [] 0 0)).kind (mk32 (([]++l).getD ((↑a.toNat:Int) % (↑([]++l).length:Int)).toNat (Token.mk 0 zero32 [] [] 0 0)).hash.l) (([]++l).getD ((↑a.toNat:Int) % (↑([]++l).length:Int)).toNat (Token.mk 0 zero32 [] [] 0 0)).key (([]++l).getD ((↑a.toNat:Int) % (↑([]++l).length:Int)).toNat (Token.mk 0 zero32 [] [] 0 0)).value (([]++l).getD ((↑a.toNat:Int) % (↑([]++l).length:Int)).toNat (Token.mk 0 zero32 [] [] 0 0)).height (([]++l).getD ((↑a.toNat:Int) % (↑([]++l).length:Int)).toNat (Token.mk 0 zero32 [] [] 0 0)).size)=(([]++l).set ((↑a.toNat:Int) % (↑([]++l).length:Int)).toNat (Token.mk (([]++l).getD (↑(ofI n % ofI (↑([]++l).length:Int)).toNat:Int).toNat (Token.mk 0 zero32 [] [] 0 0)).kind (mk32 (([]++l).getD (↑(ofI n % ofI (↑([]++l).length:Int)).toNat:Int).toNat (Token.mk 0 zero32 [] [] 0 0)).hash.l) (([]++l).getD (↑(ofI n % ofI (↑([]++l).length:Int)).toNat:Int).toNat (Token.mk 0 zero32 [] [] 0 0)).key (([]++l).getD (↑(ofI n % ofI (↑([]++l).length:Int)).toNat:Int).toNat (Token.mk 0 zero32 [] [] 0 0)).value (([]++l).getD (↑(ofI n % ofI (↑([]++l).length:Int)).toNat:Int).toNat (Token.mk 0 zero32 [] [] 0 0)).height (([]++l).getD (↑(ofI n % ofI (↑([]++l).length:Int)).toNat:Int).toNat (Token.mk 0 zero32 [] [] 0 0)).size)).set (↑(ofI n % ofI (↑([]++l).length:Int)).toNat:Int).toNat (Token.mk (([]++l).getD ((↑a.toNat:Int) % (↑([]++l).length:Int)).toNat (Token.mk 0 zero32 [] [] 0 0)).kind (mk32 (([]++l).getD ((↑a.toNat:Int) % (↑([]++l).length:Int)).toNat (Token.mk 0 zero32 [] [] 0 0)).hash.l) (([]++l).getD ((↑a.toNat:Int) % (↑([]++l).length:Int)).toNat (Token.mk 0 zero32 [] [] 0 0)).key (([]++l).getD ((↑a.toNat:Int) % (↑([]++l).length:Int)).toNat (Token.mk 0 zero32 [] [] 0 0)).value (([]++l).getD ((↑a.toNat:Int) % (↑([]++l).length:Int)).toNat (Token.mk 0 zero32 [] [] 0 0)).height (([]++l).getD ((↑a.toNat:Int) % (↑([]++l).length:Int)).toNat (Token.mk 0 zero32 [] [] 0 0)).size))) ⟨(by exact tc2 ‹_›),(by exact tc10 ‹_› (tc0 hl) (by first | rfl | exact List.length_set)),(by exact tc1 ‹_›),(by exact tc2 ‹_›),(by exact tc9 ‹_› (tc0 hl) (by first | rfl | exact List.length_set)),(by exact tc10 ‹_› (tc0 hl) (by first | rfl | exact List.length_set)),rfl⟩ (show True from trivial)
          ·skip
           refine v_stop 8 True trivial ?_
           exact v_ret ((([]++l).set ((↑a.toNat:Int) % (↑([]++l).length:Int)).toNat (Token.mk (([]++l).getD (↑(ofI n % ofI (↑([]++l).length:Int)).toNat:Int).toNat (Token.mk 0 zero32 [] [] 0 0)).kind (mk32 (([]++l).getD (↑(ofI n % ofI (↑([]++l).length:Int)).toNat:Int).toNat (Token.mk 0 zero32 [] [] 0 0)).hash.l) (([]++l).getD (↑(ofI n % ofI (↑([]++l).length:Int)).toNat:Int).toNat (Token.mk 0 zero32 [] [] 0 0)).key (([]++l).getD (↑(ofI n % ofI (↑([]++l).length:Int)).toNat:Int).toNat (Token.mk 0 zero32 [] [] 0 0)).value (([]++l).getD (↑(ofI n % ofI (↑([]++l).length:Int)).toNat:Int).toNat (Token.mk 0 zero32 [] [] 0 0)).height (([]++l).getD (↑(ofI n % ofI (↑([]++l).length:Int)).toNat:Int).toNat (Token.mk 0 zero32 [] [] 0 0)).size)).set (↑(ofI n % ofI (↑([]++l).length:Int)).toNat:Int).toNat (Token.mk (([]++l).getD ((↑a.toNat:Int) % (↑([]++l).length:Int)).toNat (Token.mk 0 zero32 [] [] 0 0)).kind (mk32 (([]++l).getD ((↑a.toNat:Int) % (↑([]++l).length:Int)).toNat (Token.mk 0 zero32 [] [] 0 0)).hash.l) (([]++l).getD ((↑a.toNat:Int) % (↑([]++l).length:Int)).toNat (Token.mk 0 zero32 [] [] 0 0)).key (([]++l).getD ((↑a.toNat:Int) % (↑([]++l).length:Int)).toNat (Token.mk 0 zero32 [] [] 0 0)).value (([]++l).getD ((↑a.toNat:Int) % (↑([]++l).length:Int)).toNat (Token.mk 0 zero32 [] [] 0 0)).height (([]++l).getD ((↑a.toNat:Int) % (↑([]++l).length:Int)).toNat (Token.mk 0 zero32 [] [] 0 0)).size)) [8] ((l=l)∧(b=b)∧((([]++l).set ((↑a.toNat:Int) % (↑([]++l).length:Int)).toNat (Token.mk (([]++l).getD (↑(ofI n % ofI (↑([]++l).length:Int)).toNat:Int).toNat (Token.mk 0 zero32 [] [] 0 0)).kind (mk32 (([]++l).getD (↑(ofI n % ofI (↑([]++l).length:Int)).toNat:Int).toNat (Token.mk 0 zero32 [] [] 0 0)).hash.l) (([]++l).getD (↑(ofI n % ofI (↑([]++l).length:Int)).toNat:Int).toNat (Token.mk 0 zero32 [] [] 0 0)).key (([]++l).getD (↑(ofI n % ofI (↑([]++l).length:Int)).toNat:Int).toNat (Token.mk 0 zero32 [] [] 0 0)).value (([]++l).getD (↑(ofI n % ofI (↑([]++l).length:Int)).toNat:Int).toNat (Token.mk 0 zero32 [] [] 0 0)).height (([]++l).getD (↑(ofI n % ofI (↑([]++l).length:Int)).toNat:Int).toNat (Token.mk 0 zero32 [] [] 0 0)).size)).set (↑(ofI n % ofI (↑([]++l).length:Int)).toNat:Int).toNat (Token.mk (([]++l).getD ((↑a.toNat:Int) % (↑([]++l).length:Int)).toNat (Token.mk 0 zero32 [] [] 0 0)).kind (mk32 (([]++l).getD ((↑a.toNat:Int) % (↑([]++l).length:Int)).toNat (Token.mk 0 zero32 [] [] 0 0)).hash.l) (([]++l).getD ((↑a.toNat:Int) % (↑([]++l).length:Int)).toNat (Token.mk 0 zero32 [] [] 0 0)).key (([]++l).getD ((↑a.toNat:Int) % (↑([]++l).length:Int)).toNat (Token.mk 0 zero32 [] [] 0 0)).value (([]++l).getD ((↑a.toNat:Int) % (↑([]++l).length:Int)).toNat (Token.mk 0 zero32 [] [] 0 0)).height (([]++l).getD ((↑a.toNat:Int) % (↑([]++l).length:Int)).toNat (Token.mk 0 zero32 [] [] 0 0)).size)=(([]++l).set ((↑a.toNat:Int) % (↑([]++l).length:Int)).toNat (Token.mk (([]++l).getD (↑(ofI n % ofI (↑([]++l).length:Int)).toNat:Int).toNat (Token.mk 0 zero32 [] [] 0 0)).kind (mk32 (([]++l).getD (↑(ofI n % ofI (↑([]++l).length:Int)).toNat:Int).toNat (Token.mk 0 zero32 [] [] 0 0)).hash.l) (([]++l).getD (↑(ofI n % ofI (↑([]++l).length:Int)).toNat:Int).toNat (Token.mk 0 zero32 [] [] 0 0)).key (([]++l).getD (↑(ofI n % ofI (↑([]++l).length:Int)).toNat:Int).toNat (Token.mk 0 zero32 [] [] 0 0)).value (([]++l).getD (↑(ofI n % ofI (↑([]++l).length:Int)).toNat:Int).toNat (Token.mk 0 zero32 [] [] 0 0)).height (([]++l).getD (↑(ofI n % ofI (↑([]++l).length:Int)).toNat:Int).toNat (Token.mk 0 zero32 [] [] 0 0)).size)).set (↑(ofI n % ofI (↑([]++l).length:Int)).toNat:Int).toNat (Token.mk (([]++l).getD ((↑a.toNat:Int) % (↑([]++l).length:Int)).toNat (Token.mk 0 zero32 [] [] 0 0)).kind (mk32 (([]++l).getD ((↑a.toNat:Int) % (↑([]++l).length:Int)).toNat (Token.mk 0 zero32 [] [] 0 0)).hash.l) (([]++l).getD ((↑a.toNat:Int) % (↑([]++l).length:Int)).toNat (Token.mk 0 zero32 [] [] 0 0)).key (([]++l).getD ((↑a.toNat:Int) % (↑([]++l).length:Int)).toNat (Token.mk 0 zero32 [] [] 0 0)).value (([]++l).getD ((↑a.toNat:Int) % (↑([]++l).length:Int)).toNat (Token.mk 0 zero32 [] [] 0 0)).height (([]++l).getD ((↑a.toNat:Int) % (↑([]++l).length:Int)).toNat (Token.mk 0 zero32 [] [] 0 0)).size))) ⟨rfl,rfl,rfl⟩ (by(have hq:=tc2 (a:=a) (n:=(([]:List Token)++l).length) ‹_›;simp only[List.length_append,List.length_set,List.length_take,List.length_drop,List.length_cons,List.length_nil] at *;omega))
def tgB (o:Option Tr) (k:List UInt8):Bool:=match o with | none=>false | some t=>decide ((t.fin k).key=k)
def tgV (o:Option Tr) (k:List UInt8):List UInt8:=match o with | none=>[] | some t=>if(t.fin k).key=k then(t.fin k).value else[]
def TgI (k:List UInt8) (t s:Tr):Prop:=s.fin k=t.fin k∧s.Ks
section
variable {k a b:List UInt8} {t l r:Tr}
theorem TgI.start (h:t.Ks):TgI k t t:=⟨rfl,h⟩
theorem TgI.next {s:Tr} (h:TgI k t s) (h0:¬ s.height=0):TgI k t (s.child (s.rt k))∧(s.child (s.rt k)).depth<s.depth:=by
  obtain⟨b1,b2,b3,b4⟩:=Tr.turns_in k h0
  exact⟨⟨b2.symm.trans h.1,b4 h.2⟩,b3⟩
theorem TgI.e1 (h:TgI k t (.leaf a b)) (he:¬ a=k):[]=tgV (some t) k:=by
  have e:t.fin k=.leaf a b:=h.1.symm
  unfold tgV;dsimp only;rw[e,if_neg (show ¬ (Tr.leaf a b).key=k from he)]
theorem TgI.e2 (h:TgI k t (.leaf a b)) (he:¬ a=k):false=tgB (some t) k:=by
  have e:t.fin k=.leaf a b:=h.1.symm
  unfold tgB;dsimp only;rw[e];exact(decide_eq_false (show ¬ (Tr.leaf a b).key=k from he)).symm
theorem TgI.e3 (h:TgI k t (.leaf a b)) (he:a=k):b=tgV (some t) k:=by
  have e:t.fin k=.leaf a b:=h.1.symm
  unfold tgV;dsimp only;rw[e,if_pos (show(Tr.leaf a b).key=k from he)];rfl
theorem TgI.e4 (h:TgI k t (.leaf a b)) (he:a=k):true=tgB (some t) k:=by
  have e:t.fin k=.leaf a b:=h.1.symm
  unfold tgB;dsimp only;rw[e];exact(decide_eq_true (show(Tr.leaf a b).key=k from he)).symm
theorem TgI.len (h:TgI k t (.leaf a b)):b.length≤1000000:=Nat.le_trans h.2.2 (by decide)
end
end Go.Proofs.YtnicmjipbnhciaaDoor.X
