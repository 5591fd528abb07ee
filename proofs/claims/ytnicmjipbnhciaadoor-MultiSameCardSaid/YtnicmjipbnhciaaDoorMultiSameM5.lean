/- What the law MultiSame needs: the engine, the walks of what it reaches, plain laws; part 5. -/
import Derived.Test.YtnicmjipbnhciaaDoorMultiSameM4
import Derived.OpenShut
set_option linter.unnecessarySimpa false
set_option linter.deprecated false
set_option linter.unusedVariables false
set_option linter.unusedSimpArgs false
set_option maxRecDepth 100000
namespace Go.Proofs.YtnicmjipbnhciaaDoor.X
open Go Go.RowKit Go.Proofs Go.Proofs.YtnicmjipbnhciaaDoor.E
def awK:List (List UInt8):=[[97],[98],[99],[100]]
def awN:Nat→Option Tr
  | 0=>none
  | n+1=>putO (awK.getD n []) (awK.getD n []) (awN n)
theorem awL:∀ {i:Nat},(i:Int)<4→1≤(awK.getD (i:Int).toNat []).length∧(awK.getD (i:Int).toNat []).length≤96
  | 0,_=>by decide
  | 1,_=>by decide
  | 2,_=>by decide
  | 3,_=>by decide
  | _+4,h=>by omega
theorem awL0:∀ i:Nat,(awK.getD i []).length≤1
  | 0=>by decide
  | 1=>by decide
  | 2=>by decide
  | 3=>by decide
  | i+4=>by simp[awK]
theorem awOk:∀ i:Nat,okN i (awN i)
  | 0=>fun t e=>by simp[awN] at e
  | i+1=>okN.put (awOk i) (Nat.le_trans (awL0 i) (by decide)) (Nat.le_trans (awL0 i) (by decide))
theorem awO {i:Nat} (h:i≤4):okO (awN i):=(awOk i).O (by omega)
abbrev awC:Option Er × List Item:=chkR (hashO (awN 4)) (mkT (awN 4) [[98]])
abbrev awI:List Item:=[⟨true,[],[]⟩,⟨false,[98],[98]⟩,⟨true,[],[]⟩]
noncomputable def ccM9_42:Code:=(Tryd.f42.body).getD .skip
theorem Awake10_aux (hs:Srt (leavesO (awN 4))) (hl:(leavesO (awN 4)).length≤900000) (c1:awC.1.isNone=true) (g1:getF (fo awC) [98]=([98],true,true)) (g2:getF (fo awC) [98,98]=([],false,false)) (m1:(mkT (awN 4) [[98]]).length=5) (f1:fo awC=some awI):FOk EN 42 ⟨[.pr wordsP],[],Unit,fun _=>([.pr wordsP],.b true),fun _=>True⟩:=by
 refine v_fun Tryd.f42 ccM9_42 MX (fun ν F σ w=>?_) Tryd.func42
 refine v_nl ?_
 refine v_call _ [0] (new_ok) ((wordsP=wordsP)) rfl (fun g1 p2=>?_)
 have p2:True:=p2
 refine v_loop (fun i:Nat=>([(16,.i i),(1,.p 4 0)],[.pn (PTO (awN i)) false false])) (fun i=>i≤4) (fun i=>4 - i) 0 [2] (((0:Int)=(↑(0:Nat):Int))∧(PTO none=PTO (awN 0))∧(false=false)) ⟨rfl,rfl,rfl⟩ (by decide) (fun i hk3=>?_)
 refine v_if (decide ((↑i:Int)<(↑(4:Nat):Int))) True trivial (fun h4=>?_) (fun h4=>?_)
 ·have h4:=of_decide_eq_true h4
  refine v_call _ [0,6,7,4] (Put_ok (awN i) ([#[97].toList,#[98].toList,#[99].toList,#[100].toList].getD (↑i:Int).toNat []) ([#[97].toList,#[98].toList,#[99].toList,#[100].toList].getD (↑i:Int).toNat []) (by exact awO (by omega)) (by exact awL ‹_›) (by exact Nat.le_trans (awL0 _) (by decide))) (((0:Int)≤(↑i:Int)∧(↑i:Int)<(↑(4:Nat):Int))∧(([#[(97:UInt8)].toList,#[(98:UInt8)].toList,#[(99:UInt8)].toList,#[(100:UInt8)].toList].getD (↑i:Int).toNat []).length≤(1000000:Nat))∧(([#[(97:UInt8)].toList,#[(98:UInt8)].toList,#[(99:UInt8)].toList,#[(100:UInt8)].toList].getD (↑i:Int).toNat []).length≤(1000000:Nat))∧(wordsP=wordsP)∧([#[(97:UInt8)].toList,#[(98:UInt8)].toList,#[(99:UInt8)].toList,#[(100:UInt8)].toList].getD (↑i:Int).toNat []=[#[(97:UInt8)].toList,#[(98:UInt8)].toList,#[(99:UInt8)].toList,#[(100:UInt8)].toList].getD (↑i:Int).toNat [])∧([#[(97:UInt8)].toList,#[(98:UInt8)].toList,#[(99:UInt8)].toList,#[(100:UInt8)].toList].getD (↑i:Int).toNat []=[#[(97:UInt8)].toList,#[(98:UInt8)].toList,#[(99:UInt8)].toList,#[(100:UInt8)].toList].getD (↑i:Int).toNat [])∧(PTO (awN i)=PTO (awN i))∧(false=false)) ⟨(by omega),(by exact Nat.le_trans (awL0 _) (by decide)),(by exact Nat.le_trans (awL0 _) (by decide)),rfl,rfl,rfl,rfl,rfl⟩ (fun g5 p6=>?_)
  have p6:True:=p6
  exact v_back (i+1) [8] ((I64 (↑i+1))∧((↑i:Int)+1=(↑(i+1):Int))∧(PTO (putO ([#[97].toList,#[98].toList,#[99].toList,#[100].toList].getD (↑i:Int).toNat []) ([#[97].toList,#[98].toList,#[99].toList,#[100].toList].getD (↑i:Int).toNat []) (awN i))=PTO (awN (i+1)))∧(false=false)) ⟨(by(unfold I64;omega)),rfl,rfl,rfl⟩ (show i+1≤4∧4 - (i+1)<4 - i from(by omega))
 ·have h4:=of_decide_eq_false h4
  refine v_leave (.ex 0) True trivial ?_
  refine v_call _ [0,4,6] (MakeT_ok (awN i) ([[98]]) (by exact awO (by omega)) (by(cases(show i=4 by omega);exact hs)) (by(cases(show i=4 by omega);exact hl)) (by decide)) ((0<1)∧(wordsP=wordsP)∧(PTO (awN i)=PTO (awN i))∧(false=false)∧([[(98:UInt8)]]=[[(98:UInt8)]])) ⟨(by decide),rfl,rfl,rfl,rfl⟩ (fun g7 p8=>?_)
  have p8:True:=p8
  refine v_call _ [0,4] (Root_ok (awN i)) ((wordsP=wordsP)∧(PTO (awN i)=PTO (awN i))∧(false=false)) ⟨rfl,rfl,rfl⟩ (fun g9 p10=>?_)
  have p10:True:=p10
  refine v_call _ [0,7] (Check_ok (hashO (awN i)) (mkT (awN i) [[98]]) (by exact hashO_len _) (by(cases(show i=4 by omega);rw[m1];decide))) ((hashO (awN i)=hashO (awN i))∧(wordsP=wordsP)∧(mkT (awN i) [[98]]=mkT (awN i) [[98]])) ⟨rfl,rfl,rfl⟩ (fun g11 p12=>?_)
  have p12:True:=p12
  refine v_call _ [8,10] (Get_ok (fo (chkR (hashO (awN i)) (mkT (awN i) [[98]]))) ([98]) (by(cases(show i=4 by omega);rw[f1];decide)) (by(cases(show i=4 by omega);rw[f1];decide))) ((0<1)∧(PF (fo (chkR (hashO (awN i)) (mkT (awN i) [[98]])))=PF (fo (chkR (hashO (awN i)) (mkT (awN i) [[98]]))))∧((fo (chkR (hashO (awN i)) (mkT (awN i) [[98]]))).isNone=(fo (chkR (hashO (awN i)) (mkT (awN i) [[98]]))).isNone)∧([(98:UInt8)]=[(98:UInt8)])) ⟨(by decide),rfl,rfl,rfl⟩ (fun g13 p14=>?_)
  have p14:True:=p14
  refine v_call _ [8,12] (Get_ok (fo (chkR (hashO (awN i)) (mkT (awN i) [[98]]))) ([98,98]) (by(cases(show i=4 by omega);rw[f1];decide)) (by(cases(show i=4 by omega);rw[f1];decide))) ((0<2)∧(PF (fo (chkR (hashO (awN i)) (mkT (awN i) [[98]])))=PF (fo (chkR (hashO (awN i)) (mkT (awN i) [[98]]))))∧((fo (chkR (hashO (awN i)) (mkT (awN i) [[98]]))).isNone=(fo (chkR (hashO (awN i)) (mkT (awN i) [[98]]))).isNone)∧([(98:UInt8),(98:UInt8)]=[(98:UInt8),(98:UInt8)])) ⟨(by decide),rfl,rfl,rfl⟩ (fun g15 p16=>?_)
  have p16:True:=p16
  refine v_guard 60 ((chkR (hashO (awN i)) (mkT (awN i) [[98]])).fst.isNone) True trivial (fun h17=>?_) (fun h17=>?_)
  ·skip
   refine v_guard 65 (decide ((↑(mkT (awN i) [[98]]).length:Int)=5)) True trivial (fun h18=>?_) (fun h18=>?_)
   ·have h18:=of_decide_eq_true h18
    refine v_guard 68 ((getF (fo (chkR (hashO (awN i)) (mkT (awN i) [[98]]))) [98]).snd.fst) True trivial (fun h19=>?_) (fun h19=>?_)
    ·skip
     refine v_guard 71 ((getF (fo (chkR (hashO (awN i)) (mkT (awN i) [[98]]))) [98]).snd.snd) True trivial (fun h20=>?_) (fun h20=>?_)
     ·skip
      refine v_guard 76 (decide ((getF (fo (chkR (hashO (awN i)) (mkT (awN i) [[98]]))) [98]).fst=#[98].toList)) True trivial (fun h21=>?_) (fun h21=>?_)
      ·have h21:=of_decide_eq_true h21
       refine v_guard 80 (!(getF (fo (chkR (hashO (awN i)) (mkT (awN i) [[98]]))) [98,98]).snd.fst) True trivial (fun h22=>?_) (fun h22=>?_)
       ·have h22:=(nt h22)
        exact v_ret () [] (((!(getF (fo (chkR (hashO (awN i)) (mkT (awN i) [[98]]))) [98,98]).snd.snd)=true)∧(wordsP=wordsP)) ⟨(by(cases(show i=4 by omega);rw[f1];decide)),rfl⟩ trivial
       ·have h22:=(nf h22)
        exfalso;(cases(show i=4 by omega);rw[c1] at *;simp_all;done)
      ·have h21:=of_decide_eq_false h21
       exfalso;(cases(show i=4 by omega);rw[c1] at *;simp_all;done)
     ·skip
      exfalso;(cases(show i=4 by omega);rw[c1] at *;simp_all;done)
    ·skip
     exfalso;(cases(show i=4 by omega);rw[c1] at *;simp_all;done)
   ·have h18:=of_decide_eq_false h18
    exfalso;(cases(show i=4 by omega);rw[c1] at *;simp_all;done)
  ·skip
   exfalso;(cases(show i=4 by omega);rw[c1] at *;simp_all;done)
theorem aw4_leaves:leavesO (awN 4)=[⟨[97],[97]⟩,⟨[98],[98]⟩,⟨[99],[99]⟩,⟨[100],[100]⟩]:=by decide
theorem aw4_srt:Srt (leavesO (awN 4)):=by rw[aw4_leaves];unfold Srt;decide
theorem aw4_lv:lvOk (leavesO (awN 4)):=by rw[aw4_leaves];unfold lvOk;decide
theorem aw4_C:awC=(none,awI):=by
  have hn:(awN 4).isNone=false:=by decide
  have hh:(gt (awN 4)).height<65:=by decide
  have hp:(mkT (awN 4) [[98]]).length≤2048:=by decide
  have hi:(gt (awN 4)).its (wanL (leavesO (awN 4)) [[98]])=awI:=by decide
  unfold awC
  cases e:awN 4 with
  | none=>rw[e] at hn;cases hn
  | some t =>
    have h1:=aw4_srt;have h2:=aw4_lv
    rw[e] at h1 h2 hh hp hi
    rw[← hi];exact chk_make h1 h2 hh _ hp
theorem Awake10_ok:FOk EN 42 ⟨[.pr wordsP],[],Unit,fun _=>([.pr wordsP],.b true),fun _=>True⟩:=by
  have hf:fo awC=some awI:=by rw[aw4_C];rfl
  exact Awake10_aux aw4_srt (by rw[aw4_leaves];decide) (by rw[aw4_C];rfl) (by rw[hf];decide) (by rw[hf];decide) (by decide) hf
theorem rd_bb_len {σ:Nat→Nat} {w:World} {v:Value} {xs:List (List UInt8)} (h:Rd (tSl tU8) σ w v xs):xs.length≤140737488355328:=by
  have h1:xs.length*24≤140737488355328:=h.bd
  omega
section
variable {acts:List Act} {m:Nat} {ks:List (List UInt8)}
abbrev gO1 (acts:List Act) (m:Nat):Option Tr:=(growT acts m).1
abbrev gL1 (acts:List Act) (m:Nat):List Pair:=(growT acts m).2
theorem mm_eq:gL1 acts m=leavesO (gO1 acts m):=(growT_ok acts m).2
theorem mm_len (hm:m≤64):(gL1 acts m).length≤64:=by rw[mm_eq];exact Nat.le_trans (growT_okN acts m).leaves hm
theorem mm_key (hm:m≤64):∀ p∈gL1 acts m,p.key.length≤1000:=fun p hp=>by
  have:=(growT_fine acts m hm).2.1 p (by rw[← mm_eq];exact hp);have:=this.1.2;omega
theorem mm_srt:Srt (leavesO (gO1 acts m)):=(growT_ok acts m).1
theorem mm_lv (hm:m≤64):(leavesO (gO1 acts m)).length≤64:=Nat.le_trans (growT_okN acts m).leaves hm
theorem mm_gt (hm:m≤64):(gt (gO1 acts m)).Ks∧(gt (gO1 acts m)).height<900∧(gt (gO1 acts m)).leaves.length≤64∧(gt (gO1 acts m)).depth≤64:=by
  have h:=growT_okN acts m
  have hl:=mm_lv (acts:=acts) hm
  cases e:gO1 acts m with
  | none=>exact⟨⟨Nat.zero_le _,Nat.zero_le _⟩,by decide,by decide,by decide⟩
  | some t =>
    have h1:=h t e;have q:=t.height_depth
    rw[e] at hl
    refine⟨h1.1,?_,hl,?_⟩ <;> (show(_:_)) <;> simp only[gt,Option.getD_some] <;> omega
theorem mm_mk (hm:m≤64):(mkT (gO1 acts m) ks).length≤200:=by
  have h:=(mm_gt (acts:=acts) hm).2.2.2
  cases e:gO1 acts m with
  | none=>exact Nat.zero_le _
  | some t=>rw[e] at h;have h:t.depth≤64:=h;have:=t.pcs_len (wanL t.leaves ks);show(t.pcs _).length≤200;omega
end
def lfN (l:List Token):Nat:=(l.filter fun x=>decide (x.kind=2)).length
theorem lf_at {l:List Token} {i:Nat} (hi:(i:Int)<l.length):lfN (l.take (i+1))=lfN (l.take i)+(if(l.getD (i:Int).toNat kT0).kind=2 then 1 else 0):=by
  rw[Int.toNat_natCast];unfold lfN;rw[take_tok (by omega),List.filter_append,List.length_append]
  congr 1;rw[List.filter_cons];by_cases h:(l.getD i kT0).kind=2
  · rw[if_pos h,if_pos (decide_eq_true h)];rfl
  · rw[if_neg h,if_neg (by rw[decide_eq_false h];decide)];rfl
theorem lf_le {l:List Token} {i:Nat}:lfN (l.take i)≤i:=by unfold lfN;exact Nat.le_trans (List.length_filter_le ..) (by rw[List.length_take];omega)
theorem lfI {l:List Token} {i:Nat} (hi:(i:Int)<l.length) (hl:l.length≤900000):I64 ((lfN (l.take i):Int)+1):=by have:=lf_le (l:=l) (i:=i);unfold I64;omega
theorem lf1 {l:List Token} {i:Nat} (hi:(i:Int)<l.length) (h:(l.getD (i:Int).toNat kT0).kind=2):(lfN (l.take i):Int)+1=(lfN (l.take (i+1)):Int):=by rw[lf_at hi,if_pos h];rfl
theorem lf2 {l:List Token} {i:Nat} (hi:(i:Int)<l.length) (h:¬ (l.getD (i:Int).toNat kT0).kind=2):(lfN (l.take i):Int)=(lfN (l.take (i+1)):Int):=by rw[lf_at hi,if_neg h];rfl
theorem lf3 {l:List Token} {i:Nat} (hi:¬ (i:Int)<l.length):(lfN (l.take i):Int)=(lfN l:Int):=by rw[List.take_of_length_le (by omega)]
noncomputable def ccN4_49:Code:=(Tryd.f49.body).getD .skip
theorem leaves_ok (l:List Token) (hl:l.length≤900000):FOk EN 49 ⟨[.rd 100 l],[.n 0],Unit,fun _=>([.rd 100 l],.i (lfN l)),fun _=>True⟩:=by
 refine v_fun Tryd.f49 ccN4_49 MX (fun ν F σ w=>?_) Tryd.func49
 refine v_nl ?_
 refine v_loop (fun i:Nat=>([(8,.i i),(3,.i (lfN (l.take i)))],[])) (fun i=>i≤l.length) (fun i=>l.length - i) 0 [] (((0:Int)=(↑(0:Nat):Int))∧(0=(↑(lfN (List.take 0 l)):Int))) ⟨rfl,rfl⟩ (by omega) (fun i hk1=>?_)
 refine v_if (decide ((↑i:Int)<(↑l.length:Int))) True trivial (fun h2=>?_) (fun h2=>?_)
 ·have h2:=of_decide_eq_true h2
  refine v_if (decide ((l.getD (↑i:Int).toNat (Token.mk 0 zero32 [] [] 0 0)).kind=2)) ((0≤(↑i:Int)∧(↑i:Int)<(↑l.length:Int))) (by omega) (fun h3=>?_) (fun h3=>?_)
  ·have h3:=of_decide_eq_true h3
   exact v_back (i+1) [] ((I64 (↑(lfN (List.take i l))+1))∧(I64 (↑i+1))∧((↑i:Int)+1=(↑(i+1):Int))∧((↑(lfN (List.take i l)):Int)+1=(↑(lfN (List.take (i+1) l)):Int))) ⟨(by exact lfI ‹_› hl),(by(unfold I64;omega)),rfl,(by exact lf1 ‹_› ‹_›)⟩ (show i+1≤l.length∧l.length - (i+1)<l.length - i from(by omega))
  ·have h3:=of_decide_eq_false h3
   exact v_back (i+1) [] ((I64 (↑i+1))∧((↑i:Int)+1=(↑(i+1):Int))∧((↑(lfN (List.take i l)):Int)=(↑(lfN (List.take (i+1) l)):Int))) ⟨(by(unfold I64;omega)),rfl,(by exact lf2 ‹_› ‹_›)⟩ (show i+1≤l.length∧l.length - (i+1)<l.length - i from(by omega))
 ·have h2:=of_decide_eq_false h2
  refine v_leave (.ex 0) True trivial ?_
  exact v_ret () [] (((↑(lfN (List.take i l)):Int)=(↑(lfN l):Int))∧(l=l)) ⟨(by exact lf3 ‹_›),rfl⟩ trivial
/-- the keys in another order, each twice -/
def othK (ks:List (List UInt8)) (tn:UInt8) (i:Nat):List UInt8:=ks.getD (((i:Int)+(tn.toNat:Int)) % (ks.length:Int)).toNat []
def oth (ks:List (List UInt8)) (tn:UInt8):Nat→List (List UInt8)
  | 0=>[]
  | n+1=>oth ks tn n++[othK ks tn n,othK ks tn n]
theorem oth_len (ks:List (List UInt8)) (tn:UInt8):∀ n,(oth ks tn n).length=2*n
  | 0=>rfl
  | n+1=>by unfold oth;rw[List.length_append,oth_len ks tn n];simp;omega
theorem oth_mem {ks:List (List UInt8)} {tn:UInt8} {x:List UInt8}:∀ {n:Nat},x∈oth ks tn n↔∃ i,i<n∧othK ks tn i=x
  | 0=>by simp[oth]
  | n + 1 => by
    unfold oth;rw[List.mem_append,oth_mem]
    constructor
    · rintro (⟨i, a, b⟩ | h)
      · exact⟨i,by omega,b⟩
      · simp at h;exact⟨n,by omega,h.symm⟩
    · rintro ⟨i, a, b⟩
      by_cases e:i=n
      · subst e;exact .inr (by simp[b])
      · exact .inl ⟨i,by omega,b⟩
theorem oth_all {ks:List (List UInt8)} {tn:UInt8} {x:List UInt8}:x∈oth ks tn ks.length↔x∈ks:=by
  rw[oth_mem]
  constructor
  · rintro ⟨i, hi, rfl⟩
    have h:(((i:Int)+(tn.toNat:Int)) % (ks.length:Int)).toNat<ks.length:=by
      have h1:=Int.emod_nonneg ((i:Int)+(tn.toNat:Int)) (show(ks.length:Int)≠0 by omega)
      have h2:=Int.emod_lt_of_pos ((i:Int)+(tn.toNat:Int)) (show(0:Int)<ks.length by omega)
      omega
    unfold othK;rw[List.getD_eq_getElem?_getD,List.getElem?_eq_getElem h];exact List.getElem_mem h
  · intro hx
    obtain⟨j,hj,rfl⟩:=List.mem_iff_getElem.1 hx
    have hp:(0:Int)<(ks.length:Int):=by omega
    have h1:=Int.emod_nonneg ((j:Int) - (tn.toNat:Int)) (show(ks.length:Int)≠0 by omega)
    have h2:=Int.emod_lt_of_pos ((j:Int) - (tn.toNat:Int)) hp
    refine⟨(((j:Int) - (tn.toNat:Int)) % (ks.length:Int)).toNat,by omega,?_⟩
    unfold othK
    have e:((((((j:Int) - (tn.toNat:Int)) % (ks.length:Int)).toNat:Nat):Int)+(tn.toNat:Int)) % (ks.length:Int)=(j:Int):=by
      rw[Int.toNat_of_nonneg h1,Int.emod_add_emod,Int.sub_add_cancel]
      exact Int.emod_eq_of_lt (by omega) (by omega)
    rw[e,Int.toNat_natCast,List.getD_eq_getElem?_getD,List.getElem?_eq_getElem hj];rfl
theorem wan_same {l:List Pair} {a b:List (List UInt8)} (h:∀ x,x∈a↔x∈b):wanL l a=wanL l b :=
  ded_eq (wanL_srt l a) (wanL_srt l b) fun x=>by
    rw[wanL_mem,wanL_mem]
    exact⟨fun⟨k,hk,q⟩=>⟨k,(h k).1 hk,q⟩,fun⟨k,hk,q⟩=>⟨k,(h k).2 hk,q⟩⟩
theorem len_sub:∀ {W W':List (List UInt8)},W.Pairwise klt→W'.Pairwise klt→(∀ x∈W',x∈W)→W'.length≤W.length
  | _,[],_,_,_=>Nat.zero_le _
  | [],z::zs,_,_,h=>by have:=h z (List.mem_cons_self ..);simp at this
  | y :: ys, z :: zs, h1, h2, h => by
    obtain⟨a1,a2⟩:=List.pairwise_cons.1 h1
    obtain⟨b1,b2⟩:=List.pairwise_cons.1 h2
    by_cases e:z=y
    · subst e
      have:=len_sub (W:=ys) (W':=zs) a2 b2 fun x hx=>by
        rcases List.mem_cons.1 (h x (List.mem_cons_of_mem _ hx)) with rfl | q
        · exact absurd (b1 _ hx) (klt_irr _)
        · exact q
      simpa using this
    · have hz:z∈ys:=by
        rcases List.mem_cons.1 (h z (List.mem_cons_self ..)) with q | q
        · exact absurd q e
        · exact q
      have hlt:=a1 z hz
      have:=len_sub (W:=ys) (W':=z::zs) a2 h2 fun x hx=>by
        rcases List.mem_cons.1 (h x hx) with rfl | q
        · rcases List.mem_cons.1 hx with q2 | q2
          · exact absurd q2.symm e
          · exact absurd (klt_trans hlt (b1 _ q2)) (klt_irr _)
        · exact q
      exact Nat.le_succ_of_le this
theorem lfN_app (a b:List Token):lfN (a++b)=lfN a+lfN b:=by unfold lfN;rw[List.filter_append,List.length_append]
theorem lf_pcs:∀(t:Tr) (W:List (List UInt8)),Srt t.leaves→W.Pairwise klt→(∀ x∈W,∃ p∈t.leaves,p.key=x)→lfN (t.pcs W)=W.length
  | .leaf k v, W, hs, hW, hm => by
    unfold Tr.pcs
    match W,hW,hm with
    | [],_,_=>rfl
    | [y],_,_=>rfl
    | y :: z :: r, hW, hm =>
      obtain⟨p,hp,rfl⟩:=hm y (List.mem_cons_self ..)
      obtain⟨q,hq,rfl⟩:=hm z (List.mem_cons_of_mem _ (List.mem_cons_self ..))
      rw[List.mem_singleton.1 hp,List.mem_singleton.1 hq] at hW
      exact absurd ((List.pairwise_cons.1 hW).1 _ (List.mem_cons_self ..)) (klt_irr _)
  | .node l r, W, hs, hW, hm => by
    have ll:(Tr.node l r).leaves=l.leaves++r.leaves:=rfl
    have hsl:Srt l.leaves:=(List.pairwise_append.1 (ll ▸ hs)).1
    have hsr:Srt r.leaves:=(List.pairwise_append.1 (ll ▸ hs)).2.1
    unfold Tr.pcs;split
    · rename_i he; have : W = [] := List.isEmpty_iff.1 he
      subst this;rfl
    · have h1:=lf_pcs l (W.take (cntB r.least W)) hsl (hW.sublist (List.take_sublist ..)) fun x hx=>by
        obtain⟨hx1,hx2⟩:=(take_cnt hW).1 hx
        obtain⟨p,hp,rfl⟩:=hm x hx1
        rcases List.mem_append.1 hp with q | q
        · exact⟨p,q,rfl⟩
        · exact absurd hx2 (Tr.right_of hsr q)
      have h2:=lf_pcs r (W.drop (cntB r.least W)) hsr (hW.sublist (List.drop_sublist ..)) fun x hx=>by
        obtain⟨hx1,hx2⟩:=(drop_cnt hW).1 hx
        obtain⟨p,hp,rfl⟩:=hm x hx1
        rcases List.mem_append.1 hp with q | q
        · exact absurd (Tr.left_of hs q) hx2
        · exact⟨p,q,rfl⟩
      rw[show ∀(x:Token) (y:List Token),x::y=[x]++y from fun _ _=>rfl,lfN_app,lfN_app,h1,h2]
      show 0+_=_
      rw[Nat.zero_add,List.length_take,List.length_drop]
      have:=cntB_le r.least W;omega
theorem lf_wan {t:Tr} (hs:Srt t.leaves) (ks:List (List UInt8)):lfN (t.pcs (wanL t.leaves ks))=(wanL t.leaves ks).length :=
  lf_pcs t _ hs (wanL_srt _ _) fun x hx=>by obtain⟨k,_,h⟩:=wanL_mem.1 hx;exact wan1_mem h
section
variable {acts:List Act} {m i:Nat} {ks:List (List UInt8)} {tn:UInt8}
theorem ms_same (hi:i≤ks.length) (h:¬ (i:Int)<ks.length):mkT (gO1 acts m) ks=mkT (gO1 acts m) (oth ks tn i):=by
  rw[show i=ks.length by omega]
  cases e:gO1 acts m with
  | none=>rfl
  | some t=>show t.pcs _=t.pcs _;rw[wan_same (fun x=>oth_all (tn:=tn))]
theorem ms_few {n:Nat}:(lfN (mkT (gO1 acts m) (ks.take n)):Int)≤(lfN (mkT (gO1 acts m) ks):Int):=by
  have hs:=mm_srt (acts:=acts) (m:=m)
  cases e:gO1 acts m with
  | none=>exact Int.le_refl _
  | some t =>
    rw[e] at hs
    show(lfN (t.pcs _):Int)≤(lfN (t.pcs _):Int)
    rw[lf_wan hs,lf_wan hs]
    have:=len_sub (wanL_srt t.leaves ks) (wanL_srt t.leaves (ks.take n)) fun x hx=>by
      obtain⟨k,hk,q⟩:=wanL_mem.1 hx
      exact wanL_mem.2 ⟨k,(List.take_sublist ..).subset hk,q⟩
    omega
theorem ms_m (h:(i:Int)<ks.length) {x:Int}:(0:Int)≤x % (ks.length:Int)∧x % (ks.length:Int)<(ks.length:Int):=⟨Int.emod_nonneg _ (by omega),Int.emod_lt_of_pos _ (by omega)⟩
theorem ms_b {n:Nat} (h:(i:Int)<(n:Int)):i+1≤n∧n - (i+1)<n - i:=by omega
theorem ms_o (hi:i≤ks.length) (h:ks.length≤20):(oth ks tn i).length≤100:=by rw[oth_len];omega
theorem ms_t (h:ks.length≤20) {n:Nat}:(ks.take n).length≤100000:=by rw[List.length_take];omega
end
noncomputable def ccN4_11:Code:=(Tryd.f11.body).getD .skip
theorem MultiSame_ok (acts:List Act) (keys:List (List UInt8)) (wh:List UInt8) (tn:UInt8) (hkl:keys.length≤140737488355328) (hwl:wh.length≤140737488355328):FOk EN 11 ⟨[.pr wordsP,.rd 133 acts,.rd 22 keys,.rd 5 (wh)],[.n 1,.n 2,.n 3,.c tn],Unit,fun _=>([.pr wordsP,.rd 133 acts,.rd 22 keys,.rd 5 (wh)],.b true),fun _=>True⟩:=by
 refine v_fun Tryd.f11 ccN4_11 MX (fun ν F σ w=>?_) Tryd.func11
 refine v_nl ?_
 refine v_call _ [0] (Awake10_ok) ((wordsP=wordsP)) rfl (fun g1 p2=>?_)
 have p2:True:=p2
 refine v_if (!true) True trivial (fun h3=>?_) (fun h3=>?_)
 ·have h3:=(nt h3)
  contradiction
 ·have h3:=(nf h3)
  refine v_call _ [0,1] (Grow_ok (acts) (nat_lit 40) (by decide)) (((40:Int)=(↑(nat_lit 40):Int))∧(wordsP=wordsP)∧(acts=acts)) ⟨rfl,rfl,rfl⟩ (fun g4 p5=>?_)
  have p5:True:=p5
  refine v_call _ [6,2,3] (some10_ok ((growT acts (nat_lit 40)).snd) (keys) (wh) (by exact Nat.le_trans (mm_len (m:=40) (by decide)) (by decide)) (by exact mm_key (m:=40) (by decide)) ‹_› ‹_›) (((growT acts (nat_lit 40)).snd=(growT acts (nat_lit 40)).snd)∧(keys=keys)∧(wh=wh)) ⟨rfl,rfl,rfl⟩ (fun g6 p7=>?_)
  have p7:True:=p7
  refine v_loop (fun i:Nat=>([(31,.i i),(12,.n 8)],[.ow 22 (oth (smP (growT acts 40).2 keys wh) tn i)])) (fun i=>i≤(smP (growT acts 40).2 keys wh).length) (fun i=>(smP (growT acts 40).2 keys wh).length - i) 0 [4] (((0:Int)=(↑(0:Nat):Int))∧([]=oth (smP (growT acts 40).snd keys wh) tn 0)) ⟨rfl,rfl⟩ (by omega) (fun i hk8=>?_)
  refine v_if (decide ((↑i:Int)<(↑(smP (growT acts (nat_lit 40)).snd keys wh).length:Int))) True trivial (fun h9=>?_) (fun h9=>?_)
  ·have h9:=of_decide_eq_true h9
   exact v_back (i+1) [12] ((I64 (↑i + ↑tn.toNat))∧((0:Int)≤(↑i:Int)+(↑tn.toNat:Int)∧(0:Int)<(↑(smP (growT acts (nat_lit 40)).snd keys wh).length:Int))∧((0:Int)≤((↑i:Int)+(↑tn.toNat:Int)) % (↑(smP (growT acts (nat_lit 40)).snd keys wh).length:Int)∧((↑i:Int)+(↑tn.toNat:Int)) % (↑(smP (growT acts (nat_lit 40)).snd keys wh).length:Int)<(↑(smP (growT acts (nat_lit 40)).snd keys wh).length:Int))∧((oth (smP (growT acts 40).snd keys wh) tn i).length+2≤1000000)∧(I64 (↑i+1))∧((↑i:Int)+1=(↑(i+1):Int))∧(oth (smP (growT acts (40:Nat)).snd keys wh) tn i++[(smP (growT acts (nat_lit 40)).snd keys wh).getD (((↑i:Int)+(↑tn.toNat:Int)) % (↑(smP (growT acts (nat_lit 40)).snd keys wh).length:Int)).toNat [],(smP (growT acts (nat_lit 40)).snd keys wh).getD (((↑i:Int)+(↑tn.toNat:Int)) % (↑(smP (growT acts (nat_lit 40)).snd keys wh).length:Int)).toNat []]=oth (smP (growT acts (40:Nat)).snd keys wh) tn (i+(1:Nat)))) ⟨(by(have hq:=smP_len (growT acts 40).2 keys wh;have hr:=oth_len (smP (growT acts 40).2 keys wh) tn i;have ht:=tn.toNat_lt;first | omega | (unfold I64;omega))),(by omega),(by exact ms_m ‹_›),(by(have hq:=smP_len (growT acts 40).2 keys wh;have hr:=oth_len (smP (growT acts 40).2 keys wh) tn i;have ht:=tn.toNat_lt;first | omega | (unfold I64;omega))),(by(have hq:=smP_len (growT acts 40).2 keys wh;have hr:=oth_len (smP (growT acts 40).2 keys wh) tn i;have ht:=tn.toNat_lt;first | omega | (unfold I64;omega))),rfl,rfl⟩ (show i+1≤(smP (growT acts 40).snd keys wh).length∧(smP (growT acts 40).snd keys wh).length - (i+1)<(smP (growT acts 40).snd keys wh).length - i from(by exact ms_b ‹_›))
  ·have h9:=of_decide_eq_false h9
   refine v_leave (.ex 0) True trivial ?_
   refine v_call _ [0,5,7] (MakeT_ok ((growT acts (nat_lit 40)).fst) (smP (growT acts (nat_lit 40)).snd keys wh) (by exact(growT_fine acts 40 (by decide)).O) (by exact mm_srt) (by exact Nat.le_trans (mm_lv (m:=40) (by decide)) (by decide)) (by exact Nat.le_trans (smP_len _ _ _) (by decide))) ((wordsP=wordsP)∧(PTO (growT acts (nat_lit 40)).fst=PTO (growT acts (nat_lit 40)).fst)∧(false=false)∧(smP (growT acts (nat_lit 40)).snd keys wh=smP (growT acts (nat_lit 40)).snd keys wh)) ⟨rfl,rfl,rfl,rfl⟩ (fun g10 p11=>?_)
   have p11:True:=p11
   refine v_call _ [0,5,10] (MakeT_ok ((growT acts (nat_lit 40)).fst) (List.take ((↑(smP (growT acts (nat_lit 40)).snd keys wh).length:Int) / (2:Int)).toNat (smP (growT acts (nat_lit 40)).snd keys wh)) (by exact(growT_fine acts 40 (by decide)).O) (by exact mm_srt) (by exact Nat.le_trans (mm_lv (m:=40) (by decide)) (by decide)) (by exact ms_t (smP_len _ _ _))) (((0:Int)≤(↑(smP (growT acts (nat_lit 40)).snd keys wh).length:Int)∧(↑(smP (growT acts (nat_lit 40)).snd keys wh).length:Int)<(9223372036854775808:Int)∧(0:Int)<(2:Int))∧((0:Int)≤(↑(smP (growT acts (nat_lit 40)).snd keys wh).length:Int) / (2:Int)∧(↑(smP (growT acts (nat_lit 40)).snd keys wh).length:Int) / (2:Int)≤(↑(smP (growT acts (nat_lit 40)).snd keys wh).length:Int))∧(wordsP=wordsP)∧(PTO (growT acts (nat_lit 40)).fst=PTO (growT acts (nat_lit 40)).fst)∧(false=false)∧(List.take ((↑(smP (growT acts (nat_lit 40)).snd keys wh).length:Int) / (2:Int)).toNat (smP (growT acts (nat_lit 40)).snd keys wh)=List.take ((↑(smP (growT acts (nat_lit 40)).snd keys wh).length:Int) / (2:Int)).toNat (smP (growT acts (nat_lit 40)).snd keys wh))) ⟨(by(have hq:=smP_len (growT acts 40).2 keys wh;have hr:=oth_len (smP (growT acts 40).2 keys wh) tn i;have ht:=tn.toNat_lt;first | omega | (unfold I64;omega))),(by omega),rfl,rfl,rfl,rfl⟩ (fun g12 p13=>?_)
   have p13:True:=p13
   refine v_call _ [0,5,8] (MakeT_ok ((growT acts (nat_lit 40)).fst) (oth (smP (growT acts 40).snd keys wh) tn i) (by exact(growT_fine acts 40 (by decide)).O) (by exact mm_srt) (by exact Nat.le_trans (mm_lv (m:=40) (by decide)) (by decide)) (by exact Nat.le_trans (ms_o ‹_› (smP_len _ _ _)) (by decide))) ((wordsP=wordsP)∧(PTO (growT acts (nat_lit 40)).fst=PTO (growT acts (nat_lit 40)).fst)∧(false=false)∧(oth (smP (growT acts 40).snd keys wh) tn i=oth (smP (growT acts 40).snd keys wh) tn i)) ⟨rfl,rfl,rfl,rfl⟩ (fun g14 p15=>?_)
   have p15:True:=p15
   refine v_call _ [9,12] (SameTokens_ok (mkT (growT acts (nat_lit 40)).fst (smP (growT acts (nat_lit 40)).snd keys wh)) (mkT (growT acts (nat_lit 40)).fst (oth (smP (growT acts (40:Nat)).snd keys wh) tn i)) (by exact Nat.le_trans (mm_mk (m:=40) (by decide)) (by decide)) (by exact Nat.le_trans (mm_mk (m:=40) (by decide)) (by decide))) ((mkT (growT acts (nat_lit 40)).fst (smP (growT acts (nat_lit 40)).snd keys wh)=mkT (growT acts (nat_lit 40)).fst (smP (growT acts (nat_lit 40)).snd keys wh))∧(mkT (growT acts (nat_lit 40)).fst (oth (smP (growT acts (40:Nat)).snd keys wh) tn i)=mkT (growT acts (nat_lit 40)).fst (oth (smP (growT acts (40:Nat)).snd keys wh) tn i))) ⟨rfl,rfl⟩ (fun g16 p17=>?_)
   have p17:True:=p17
   refine v_guard 65 (decide (mkT (growT acts (nat_lit 40)).fst (smP (growT acts (nat_lit 40)).snd keys wh)=mkT (growT acts (nat_lit 40)).fst (oth (smP (growT acts (40:Nat)).snd keys wh) tn i))) True trivial (fun h18=>?_) (fun h18=>?_)
   ·have h18:=of_decide_eq_true h18
    refine v_call _ [11] (leaves_ok (mkT (growT acts (nat_lit 40)).fst (List.take ((↑(smP (growT acts (nat_lit 40)).snd keys wh).length:Int) / (2:Int)).toNat (smP (growT acts (nat_lit 40)).snd keys wh))) (by exact Nat.le_trans (mm_mk (m:=40) (by decide)) (by decide))) ((mkT (growT acts (nat_lit 40)).fst (List.take ((↑(smP (growT acts (nat_lit 40)).snd keys wh).length:Int) / (2:Int)).toNat (smP (growT acts (nat_lit 40)).snd keys wh))=mkT (growT acts (nat_lit 40)).fst (List.take ((↑(smP (growT acts (nat_lit 40)).snd keys wh).length:Int) / (2:Int)).toNat (smP (growT acts (nat_lit 40)).snd keys wh)))) rfl (fun g19 p20=>?_)
    have p20:True:=p20
    refine v_call _ [9] (leaves_ok (mkT (growT acts (nat_lit 40)).fst (smP (growT acts (nat_lit 40)).snd keys wh)) (by exact Nat.le_trans (mm_mk (m:=40) (by decide)) (by decide))) ((mkT (growT acts (nat_lit 40)).fst (smP (growT acts (nat_lit 40)).snd keys wh)=mkT (growT acts (nat_lit 40)).fst (smP (growT acts (nat_lit 40)).snd keys wh))) rfl (fun g21 p22=>?_)
    have p22:True:=p22
    exact v_ret () [] ((decide ((↑(lfN (mkT (growT acts (nat_lit 40)).fst (List.take ((↑(smP (growT acts (nat_lit 40)).snd keys wh).length:Int) / (2:Int)).toNat (smP (growT acts (nat_lit 40)).snd keys wh)))):Int)≤(↑(lfN (mkT (growT acts (nat_lit 40)).fst (smP (growT acts (nat_lit 40)).snd keys wh))):Int))=true)∧(wordsP=wordsP)∧(acts=acts)∧(keys=keys)∧(wh=wh)) ⟨(by exact decide_eq_true (ms_few (m:=40))),rfl,rfl,rfl,rfl⟩ trivial
   ·have h18:=of_decide_eq_false h18
    exfalso;exact absurd (decide_eq_true (ms_same (acts:=acts) (m:=40) (tn:=tn) ‹_› ‹_›)) (by simp_all)
end Go.Proofs.YtnicmjipbnhciaaDoor.X
set_option linter.unusedVariables false
set_option linter.unusedSimpArgs false
namespace Go.Proofs.YtnicmjipbnhciaaDoor.X
open Go Go.RowKit Go.Proofs.YtnicmjipbnhciaaDoor.E
def OpF {α:Type} (P:Program) (t:TypeId) (fs:Array Go.Field) (off:Nat) (T:Ty α):Prop :=
  ∀(w:World) (cs:List Value),cs.length=P.cellsOf t→(∀(i:Nat) (f:Go.Field),fs[i]? = some f→∀ {β:Type} {U:Ty β},E.Opens P f.type U→∀ o sz,f.offset=o→P.cellsOf f.type=sz→∃ a,U.rep (sig0 w) w a ((cs.drop o).take sz))→∃ a,T.rep (sig0 w) w a (cs.drop off)
section
variable {α β:Type} {P:Program} {t:TypeId} {fs:Array Go.Field} {off n:Nat} {A:Ty α} {B:Ty β} {f:Go.Field}
theorem opF_cons (i:Nat) (hf:fs[i]? = some f) (ho:f.offset=off) (O:E.Opens P f.type A) (hs:P.cellsOf f.type=n) (hB:OpF P t fs (off+n) B):OpF P t fs off (tProd A B):=by
  intro w cs hl h
  obtain⟨a,ha⟩:=h i f hf O off n ho hs
  obtain⟨b,hb⟩:=hB w cs hl h
  exact⟨(a,b),_,_,by rw[← List.drop_drop];exact(List.take_append_drop n _).symm,ha,hb⟩
theorem opF_last (i:Nat) (hf:fs[i]? = some f) (ho:f.offset=off) (O:E.Opens P f.type A) (hs:P.cellsOf f.type=n) (tot:P.cellsOf t=off+n):OpF P t fs off A:=by
  intro w cs hl h
  obtain⟨a,ha⟩:=h i f hf O off n ho hs
  rw[List.take_of_length_le (by rw[List.length_drop];omega)] at ha
  exact⟨a,ha⟩
theorem opens_rec (ht:P.underlying t=some (.struct fs)) (h:OpF P t fs 0 A):E.Opens P t A:=by
  intro H enc w sp held fuel cs x hx hw
  obtain⟨hl,hf⟩:=opens_field ht hx hw
  obtain⟨a,ha⟩:=h w cs hl (fun i f hi β U O o sz ho hs=>hf i f hi O o sz ho hs)
  exact⟨a,by simpa using ha⟩
theorem opens_by (n:Nat) (h:E.Opens P t A):E.Opens P t (tBy A n):=h
theorem opens_iso {g:β→α} (k:α→β) (hg:∀ b,g (k b)=b) (h:E.Opens P t A):E.Opens P t (tIso g A):=by
  intro H enc w sp held fuel cs x hx hw
  obtain⟨b,hb⟩:=h hx hw
  exact⟨k b,by show A.rep _ _ (g (k b)) _;rw[hg];exact hb⟩
end
theorem rd_u8_len {σ:Nat→Nat} {w:World} {v:Value} {xs:List UInt8} (h:Rd tU8 σ w v xs):xs.length≤140737488355328:=by
  have:=h.bd;rwa [show tU8.by_=1 from rfl,Nat.mul_one] at this
end Go.Proofs.YtnicmjipbnhciaaDoor.X
set_option linter.unusedVariables false
set_option maxRecDepth 100000
namespace Go.Proofs.YtnicmjipbnhciaaDoor.X
open Go Go.RowKit Go.Proofs.YtnicmjipbnhciaaDoor.E
theorem opAct:E.Opens Tryd.prog 133 tAct:=opens_by 56 (opens_iso (fun p=>⟨p.1,p.2.1,p.2.2.1,p.2.2.2⟩) (fun _=>rfl) (opens_rec Tryd.underlying133 (opF_cons (n:=1) 0 rfl rfl (opens_u8 Tryd.underlying5) (by kernel_rfl) (opF_cons (n:=1) 1 rfl rfl (opens_u8 Tryd.underlying5) (by kernel_rfl) (opF_cons (n:=1) 2 rfl rfl (opens_slice (T:=tU8) Tryd.underlying22 (by kernel_rfl) (by kernel_rfl) (by decide) (opens_u8 Tryd.underlying5)) (by kernel_rfl) (opF_last (n:=1) 3 rfl rfl (opens_slice (T:=tU8) Tryd.underlying22 (by kernel_rfl) (by kernel_rfl) (by decide) (opens_u8 Tryd.underlying5)) (by kernel_rfl) (by kernel_rfl)))))))
end Go.Proofs.YtnicmjipbnhciaaDoor.X
