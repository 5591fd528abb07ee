/- What the law RelayProofs needs: the engine, the walks of what it reaches, plain laws; part 5. -/
import Derived.Test.YtkpnjjacbhicgaaDoorRelayProofsM4
import Derived.OpenShut
set_option linter.unnecessarySimpa false
set_option linter.deprecated false
set_option linter.unusedVariables false
set_option linter.unusedSimpArgs false
set_option maxRecDepth 100000
namespace Go.Proofs.YtkpnjjacbhicgaaDoor.X
open Go Go.RowKit Go.Proofs Go.Proofs.YtkpnjjacbhicgaaDoor.E
theorem wanU_at {l:List Pair} {ks:List (List UInt8)} {i:Nat} (hi:(i:Int)<ks.length):wanU l (ks.take (i+1))=wanU l (ks.take i)++wan1 l (ks.getD i []):=by
  unfold wanU;rw[take_succ_getD (by omega),List.flatMap_append];simp
theorem wanT {l:List Pair} {ks:List (List UInt8)} {i:Nat} (h:ks.length≤100000):(wanU l (ks.take i)).length≤900000:=by
  have h1:=wanU_len l (ks.take i);have:(ks.take i).length≤ks.length:=by rw[List.length_take];omega
  omega
theorem wanS {l:List Pair} {ks:List (List UInt8)} {i:Nat} (h:ks.length≤100000):(srtB (wanU l (ks.take i))).length≤1000000:=by
  rw[srtB_len];have:=wanT (l:=l) (i:=i) h;omega
theorem wanZ {l:List Pair} {ks:List (List UInt8)} {i:Nat} (hk:i≤ks.length) (h:¬ (i:Int)<ks.length):dedB (srtB (wanU l (ks.take i)))=wanL l ks:=by
  rw[List.take_of_length_le (by omega)];rfl
section
variable {l:List Pair} {ks:List (List UInt8)} {i:Nat} {x:List UInt8}
theorem wcA (h:fndP l x=true):(0:Int)≤(cntB x (ksP l):Int)∧(cntB x (ksP l):Int)<(l.length:Int):=by
  unfold fndP at h;rw[Bool.and_eq_true,decide_eq_true_eq] at h;have:=h.1;omega
theorem wcL:cntB x (ksP l)≤l.length:=by have:=cntB_le x (ksP l);rwa [ksP_len] at this
theorem wcB (hl:l.length≤900000):I64 ((cntB x (ksP l):Int) - 1):=by have:=wcL (l:=l) (x:=x);unfold I64;omega
theorem wcC (h:(0:Int)<(cntB x (ksP l):Int)):(0:Int)≤(cntB x (ksP l):Int) - 1∧(cntB x (ksP l):Int) - 1<(l.length:Int):=by have:=wcL (l:=l) (x:=x);omega
theorem wcD {y:List UInt8} (h:ks.length≤100000):(wanU l (ks.take i)++[y]).length+1≤1000000:=by have:=wanT (l:=l) (i:=i) h;rw[List.length_append];show _+1+1≤_;omega
theorem wcE (h:ks.length≤100000):(wanU l (ks.take i)).length+1≤1000000:=by have:=wanT (l:=l) (i:=i) h;omega
theorem wcT (hi:(i:Int)<ks.length):wanU l (ks.take (i+1))=wanU l (ks.take i)++wan1 l (ks.getD (i:Int).toNat []):=wanU_at hi
theorem wcm:((cntB x (ksP l):Int) - 1).toNat=cntB x (ksP l) - 1:=by omega
theorem wc1 (hi:(i:Int)<ks.length) (hf:fndP l (ks.getD (i:Int).toNat [])=true):wanU l (ks.take i)++[(l.getD (cntB (ks.getD (i:Int).toNat []) (ksP l):Int).toNat dP).key]=wanU l (ks.take (i+1)):=by
  rw[wcT hi];unfold wan1;rw[if_pos hf];rfl
theorem wc2 (hi:(i:Int)<ks.length) (hf:fndP l (ks.getD (i:Int).toNat [])=false) (h0:(0:Int)<(cntB (ks.getD (i:Int).toNat []) (ksP l):Int)) (h1:(cntB (ks.getD (i:Int).toNat []) (ksP l):Int)<(l.length:Int)):wanU l (ks.take i)++[(l.getD ((cntB (ks.getD (i:Int).toNat []) (ksP l):Int) - 1).toNat dP).key]++[(l.getD (cntB (ks.getD (i:Int).toNat []) (ksP l):Int).toNat dP).key]=wanU l (ks.take (i+1)):=by
  rw[wcT hi];unfold wan1;rw[if_neg (by rw[hf];decide),if_pos (by omega),if_pos (by omega),wcm,List.append_assoc];rfl
theorem wc3 (hi:(i:Int)<ks.length) (hf:fndP l (ks.getD (i:Int).toNat [])=false) (h0:(0:Int)<(cntB (ks.getD (i:Int).toNat []) (ksP l):Int)) (h1:¬ (cntB (ks.getD (i:Int).toNat []) (ksP l):Int)<(l.length:Int)):wanU l (ks.take i)++[(l.getD ((cntB (ks.getD (i:Int).toNat []) (ksP l):Int) - 1).toNat dP).key]=wanU l (ks.take (i+1)):=by
  rw[wcT hi];unfold wan1;rw[if_neg (by rw[hf];decide),if_pos (by omega),if_neg (by omega),wcm,List.append_nil]
theorem wc4 (hi:(i:Int)<ks.length) (hf:fndP l (ks.getD (i:Int).toNat [])=false) (h0:¬ (0:Int)<(cntB (ks.getD (i:Int).toNat []) (ksP l):Int)) (h1:(cntB (ks.getD (i:Int).toNat []) (ksP l):Int)<(l.length:Int)):wanU l (ks.take i)++[(l.getD (cntB (ks.getD (i:Int).toNat []) (ksP l):Int).toNat dP).key]=wanU l (ks.take (i+1)):=by
  rw[wcT hi];unfold wan1;rw[if_neg (by rw[hf];decide),if_neg (by omega),if_pos (by omega)];rfl
theorem wc5 (hi:(i:Int)<ks.length) (hf:fndP l (ks.getD (i:Int).toNat [])=false) (h0:¬ (0:Int)<(cntB (ks.getD (i:Int).toNat []) (ksP l):Int)) (h1:¬ (cntB (ks.getD (i:Int).toNat []) (ksP l):Int)<(l.length:Int)):wanU l (ks.take i)=wanU l (ks.take (i+1)):=by
  rw[wcT hi];unfold wan1;rw[if_neg (by rw[hf];decide),if_neg (by omega),if_neg (by omega)];simp
end
noncomputable def ccM3_35:Code:=(Tryd.f35.body).getD .skip
theorem wanted_ok (o:Option Tr) (ks:List (List UInt8)) (ho:okO o) (hs:Srt (leavesO o)) (hl:(leavesO o).length≤900000) (hk:ks.length≤100000):FOk EN 35 ⟨[.pn (PTO o) false false,.rd 23 ks],[.p 0 0,.n 1],Unit,fun _=>([.pn (PTO o) false false,.rd 23 ks,.rd 23 (wanL (leavesO o) ks)],.n 2),fun _=>True⟩:=by
 refine v_fun Tryd.f35 ccM3_35 MX (fun ν F σ w=>?_) Tryd.func35
 refine v_nl ?_
 refine v_mark 23 ?_
 refine v_call _ [0] (All_ok (o) ‹_› ‹_›) ((PTO o=PTO o)∧(false=false)) ⟨rfl,rfl⟩ (fun g1 p2=>?_)
 have p2:True:=p2
 refine v_loop (fun i:Nat=>([(15,.i i),(5,.n 5)],[.mu 23 (wanU (leavesO o) (ks.take i))])) (fun i=>i≤ks.length) (fun i=>ks.length - i) 0 [2] (((0:Int)=(↑(0:Nat):Int))∧([]=wanU (leavesO o) (List.take 0 ks))) ⟨rfl,rfl⟩ (by omega) (fun i hk3=>?_)
 refine v_if (decide ((↑i:Int)<(↑ks.length:Int))) True trivial (fun h4=>?_) (fun h4=>?_)
 ·have h4:=of_decide_eq_true h4
  refine v_call _ [4,6] (BSP_ok (leavesO o) (ks.getD (↑i:Int).toNat []) ‹_› (by omega)) ((0≤(↑i:Int)∧(↑i:Int)<(↑ks.length:Int))∧(50=50)∧(leavesO o=leavesO o)∧(ks.getD (↑i:Int).toNat []=ks.getD (↑i:Int).toNat [])) ⟨(by omega),rfl,rfl,rfl⟩ (fun g5 p6=>?_)
  have p6:True:=p6
  refine v_if (fndP (leavesO o) (ks.getD (↑i:Int).toNat [])) True trivial (fun h7=>?_) (fun h7=>?_)
  ·skip
   refine v_stop 11 ((0≤(↑(cntB (ks.getD (↑i:Int).toNat []) (ksP (leavesO o))):Int)∧(↑(cntB (ks.getD (↑i:Int).toNat []) (ksP (leavesO o))):Int)<(↑(leavesO o).length:Int))) (by exact wcA ‹_›) ?_
   exact v_back (i+1) [12] (((wanU (leavesO o) (List.take i ks)).length+1≤1000000)∧(I64 (↑i+1))∧((↑i:Int)+1=(↑(i+1):Int))∧(wanU (leavesO o) (List.take i ks)++[((leavesO o).getD (↑(cntB (ks.getD (↑i:Int).toNat []) (ksP (leavesO o))):Int).toNat (Pair.mk [] [])).key]=wanU (leavesO o) (List.take (i+1) ks))) ⟨(by exact wcE hk),(by(unfold I64;omega)),rfl,(by exact wc1 ‹_› ‹_›)⟩ (show i+1≤ks.length∧ks.length - (i+1)<ks.length - i from(by omega))
  ·skip
   refine v_if (decide (0<(↑(cntB (ks.getD (↑i:Int).toNat []) (ksP (leavesO o))):Int))) True trivial (fun h8=>?_) (fun h8=>?_)
   ·have h8:=of_decide_eq_true h8
    refine v_stop 11 ((I64 ((↑(cntB (ks.getD (↑i:Int).toNat []) (ksP (leavesO o))):Int) - 1))∧(0≤(↑(cntB (ks.getD (↑i:Int).toNat []) (ksP (leavesO o))):Int) - 1∧(↑(cntB (ks.getD (↑i:Int).toNat []) (ksP (leavesO o))):Int) - 1<(↑(leavesO o).length:Int))) ⟨(by exact wcB hl),(by exact wcC ‹_›)⟩ ?_
    refine v_if (decide ((↑(cntB (ks.getD (↑i:Int).toNat []) (ksP (leavesO o))):Int)<(↑(leavesO o).length:Int))) (((wanU (leavesO o) (List.take i ks)).length+1≤1000000)) (by exact wcE hk) (fun h9=>?_) (fun h9=>?_)
    ·have h9:=of_decide_eq_true h9
     refine v_stop 16 ((0≤(↑(cntB (ks.getD (↑i:Int).toNat []) (ksP (leavesO o))):Int)∧(↑(cntB (ks.getD (↑i:Int).toNat []) (ksP (leavesO o))):Int)<(↑(leavesO o).length:Int))) (by omega) ?_
     exact v_back (i+1) [17] (((wanU (leavesO o) (List.take i ks)++[((leavesO o).getD ((↑(cntB (ks.getD (↑i:Int).toNat []) (ksP (leavesO o))):Int) - 1).toNat (Pair.mk [] [])).key]).length+1≤1000000)∧(I64 (↑i+1))∧((↑i:Int)+1=(↑(i+1):Int))∧(wanU (leavesO o) (List.take i ks)++[((leavesO o).getD ((↑(cntB (ks.getD (↑i:Int).toNat []) (ksP (leavesO o))):Int) - 1).toNat (Pair.mk [] [])).key]++[((leavesO o).getD (↑(cntB (ks.getD (↑i:Int).toNat []) (ksP (leavesO o))):Int).toNat (Pair.mk [] [])).key]=wanU (leavesO o) (List.take (i+1) ks))) ⟨(by exact wcD hk),(by(unfold I64;omega)),rfl,(by exact wc2 ‹_› ‹_› ‹_› ‹_›)⟩ (show i+1≤ks.length∧ks.length - (i+1)<ks.length - i from(by omega))
    ·have h9:=of_decide_eq_false h9
     exact v_back (i+1) [12] ((I64 (↑i+1))∧((↑i:Int)+1=(↑(i+1):Int))∧(wanU (leavesO o) (List.take i ks)++[((leavesO o).getD ((↑(cntB (ks.getD (↑i:Int).toNat []) (ksP (leavesO o))):Int) - 1).toNat (Pair.mk [] [])).key]=wanU (leavesO o) (List.take (i+1) ks))) ⟨(by(unfold I64;omega)),rfl,(by exact wc3 ‹_› ‹_› ‹_› ‹_›)⟩ (show i+1≤ks.length∧ks.length - (i+1)<ks.length - i from(by omega))
   ·have h8:=of_decide_eq_false h8
    refine v_if (decide ((↑(cntB (ks.getD (↑i:Int).toNat []) (ksP (leavesO o))):Int)<(↑(leavesO o).length:Int))) True trivial (fun h10=>?_) (fun h10=>?_)
    ·have h10:=of_decide_eq_true h10
     refine v_stop 11 ((0≤(↑(cntB (ks.getD (↑i:Int).toNat []) (ksP (leavesO o))):Int)∧(↑(cntB (ks.getD (↑i:Int).toNat []) (ksP (leavesO o))):Int)<(↑(leavesO o).length:Int))) (by omega) ?_
     exact v_back (i+1) [12] (((wanU (leavesO o) (List.take i ks)).length+1≤1000000)∧(I64 (↑i+1))∧((↑i:Int)+1=(↑(i+1):Int))∧(wanU (leavesO o) (List.take i ks)++[((leavesO o).getD (↑(cntB (ks.getD (↑i:Int).toNat []) (ksP (leavesO o))):Int).toNat (Pair.mk [] [])).key]=wanU (leavesO o) (List.take (i+1) ks))) ⟨(by exact wcE hk),(by(unfold I64;omega)),rfl,(by exact wc4 ‹_› ‹_› ‹_› ‹_›)⟩ (show i+1≤ks.length∧ks.length - (i+1)<ks.length - i from(by omega))
    ·have h10:=of_decide_eq_false h10
     exact v_back (i+1) [5] ((I64 (↑i+1))∧((↑i:Int)+1=(↑(i+1):Int))∧(wanU (leavesO o) (List.take i ks)=wanU (leavesO o) (List.take (i+1) ks))) ⟨(by(unfold I64;omega)),rfl,(by exact wc5 ‹_› ‹_› ‹_› ‹_›)⟩ (show i+1≤ks.length∧ks.length - (i+1)<ks.length - i from(by omega))
 ·have h4:=of_decide_eq_false h4
  refine v_leave (.ex 0) True trivial ?_
  refine v_call _ [5] (sort_ok (wanU (leavesO o) (List.take i ks)) (by exact Nat.le_trans (wanT hk) (by decide))) ((27=27)∧(wanU (leavesO o) (List.take i ks)=wanU (leavesO o) (List.take i ks))) ⟨rfl,rfl⟩ (fun g11 p12=>?_)
  have p12:True:=p12
  refine v_call _ [5] (Compact_ok (srtB (wanU (leavesO o) (List.take i ks))) (by exact wanS hk)) ((28=28)∧(srtB (wanU (leavesO o) (List.take i ks))=srtB (wanU (leavesO o) (List.take i ks)))) ⟨rfl,rfl⟩ (fun g13 p14=>?_)
  have p14:True:=p14
  exact v_ret () [6] ((PTO o=PTO o)∧(false=false)∧(ks=ks)∧(dedB (srtB (wanU (leavesO o) (List.take i ks)))=wanL (leavesO o) ks)) ⟨rfl,rfl,rfl,(by exact wanZ ‹_› ‹_›)⟩ trivial
noncomputable def ccM4_48:Code:=(Tryd.f48.body).getD .skip
theorem cloneB_ok (ws:List Bool) (hl:ws.length≤900000) (h0:0<ws.length):FOk EN 48 ⟨[.rd 4 ws],[.n 0],Unit,fun _=>([.rd 4 ws,.ow 4 ws],.n 1),fun _=>True⟩:=by
 refine v_fun Tryd.f48 ccM4_48 MX (fun ν F σ w=>?_) Tryd.func48
 refine v_nl ?_
 exact v_ret () [3] ((0<ws.length)∧(0+ws.length≤1000000)∧(ws=ws)∧([]++ws=ws)) ⟨‹_›,(by omega),rfl,rfl⟩ trivial
theorem cloneBn_ok:FOk EN 48 ⟨[],[.v (.slice none 0 0)],Unit,fun _=>([],.v (.slice none 0 0)),fun _=>True⟩:=by
 refine v_fun Tryd.f48 ccM4_48 MX (fun ν F σ w=>?_) Tryd.func48
 refine v_nl ?_
 exact v_ret () [] ((Value.slice none 0 0=Value.slice none 0 0)) rfl trivial
def kHid (h:List UInt8):Token:=⟨1,mk32 h,[],[],0,0⟩
def kLeaf (k v:List UInt8):Token:=⟨2,zero32,k,v,0,0⟩
def kInn (h:Int) (s:UInt64):Token:=⟨3,zero32,[],[],h,s⟩
namespace Tr
def pcs:Tr→List (List UInt8)→List Token
  | leaf k v,w=>if w.isEmpty then[kHid (leaf k v).hash] else[kLeaf k v]
  | node l r,w=>if w.isEmpty then[kHid (node l r).hash] else kInn (node l r).height (node l r).size::(l.pcs (w.take (cntB r.least w))++r.pcs (w.drop (cntB r.least w)))
theorem pcs_len:∀(t:Tr) (w:List (List UInt8)),(t.pcs w).length≤2*t.depth+1
  | leaf k v,w=>by unfold pcs;split <;> exact Nat.le_add_left ..
  | node l r, w => by
    have h1:=pcs_len l (w.take (cntB r.least w));have h2:=pcs_len r (w.drop (cntB r.least w))
    unfold pcs;split
    · exact Nat.le_add_left ..
    · simp only[List.length_cons,List.length_append,depth];omega
theorem hash_n (s:Tr):nsum s.height s.size s.key s.value s.lh s.rh=s.hash:=by cases s <;> rfl
theorem nil_of {w:List (List UInt8)} (h:(w.length:Int)=0):w=[]:=List.eq_nil_of_length_eq_zero (by omega)
theorem pcsH (s:Tr) {w:List (List UInt8)} (h:(w.length:Int)=0):s.pcs w=[kHid (nsum s.height s.size s.key s.value s.lh s.rh)]:=by
  rw[nil_of h,hash_n];cases s <;> rfl
theorem ne_of {w:List (List UInt8)} (h:¬ (w.length:Int)=0):w.isEmpty=false:=by cases w with | nil=>simp at h | cons=>rfl
theorem pcsL {s:Tr} {w:List (List UInt8)} (h:¬ (w.length:Int)=0) (h0:s.height=0):s.pcs w=[kLeaf s.key s.value]:=by
  obtain⟨a,b,rfl⟩:=leaf_of h0
  unfold pcs;rw[ne_of h];rfl
theorem pcsN {s:Tr} {w:List (List UInt8)} (h:¬ (w.length:Int)=0) (h0:¬ s.height=0):s.pcs w=kInn s.height s.size::(s.lo.pcs (w.take (cntB s.key w))++s.ro.pcs (w.drop (cntB s.key w))):=by
  cases s with
  | leaf a b=>exact absurd rfl h0
  | node l r=>simp[pcs,lo,ro,key,ne_of h]
end Tr
theorem cntI {x:List UInt8} {w:List (List UInt8)}:(0:Int)≤(cntB x w:Int)∧(cntB x w:Int)≤(w.length:Int):=by have:=cntB_le x w;omega
namespace Tr
theorem lh_l (t:Tr):t.lh.length=32∧t.rh.length=32:=by
  cases t with
  | leaf k v=>exact⟨rfl,rfl⟩
  | node l r=>exact⟨l.hash_len,r.hash_len⟩
theorem pcsC {s:Tr} {w:List (List UInt8)} (h:¬ (w.length:Int)=0) (h0:¬ s.height=0):s.pcs w=kInn s.height s.size::((s.child false).pcs (w.take (cntB s.key w:Int).toNat)++(s.child true).pcs (w.drop (cntB s.key w:Int).toNat)):=pcsN h h0
end Tr
section
variable {s:Tr} {w:List (List UInt8)} {out:List Token}
theorem pceE (h:¬ (w.length:Int)=0) (h0:¬ s.height=0):out++[kInn s.height s.size]++(s.child false).pcs (w.take (cntB s.key w:Int).toNat)++(s.child true).pcs (w.drop (cntB s.key w:Int).toNat)=out++s.pcs w:=by
  rw[Tr.pcsC h h0];simp
theorem pcB1 (h:¬ (w.length:Int)=0) (h0:¬ s.height=0) (ho:out.length+(s.pcs w).length≤900000):(out++[kInn s.height s.size]).length+((s.child false).pcs (w.take (cntB s.key w:Int).toNat)).length≤900000:=by
  rw[Tr.pcsC h h0] at ho;simp only[List.length_append,List.length_cons,List.length_nil] at *;omega
theorem pcB2 (h:¬ (w.length:Int)=0) (h0:¬ s.height=0) (ho:out.length+(s.pcs w).length≤900000):(out++[kInn s.height s.size]++(s.child false).pcs (w.take (cntB s.key w:Int).toNat)).length+((s.child true).pcs (w.drop (cntB s.key w:Int).toNat)).length≤900000:=by
  rw[Tr.pcsC h h0] at ho;simp only[List.length_append,List.length_cons,List.length_nil] at *;omega
theorem pwT (h:w.Pairwise kle) (i:Nat):(w.take i).Pairwise kle:=h.sublist (List.take_sublist ..)
theorem pwD (h:w.Pairwise kle) (i:Nat):(w.drop i).Pairwise kle:=h.sublist (List.drop_sublist ..)
theorem lenD (i:Nat):(w.drop i).length≤w.length:=by rw[List.length_drop];omega
end
noncomputable def ccM4_34:Code:=(Tryd.f34.body).getD .skip
theorem pcs_aux (T s:Tr) (ws:List Bool) (want:List (List UInt8)) (out:List Token) (hs:T.at' ws=some s) (h0:0<ws.length) (hl:ws.length≤800000) (hk:s.Ks) (hh:s.height<900) (hw:want.Pairwise kle) (hwl:want.length≤900000) (ho:out.length+(s.pcs want).length≤900000)
  (ih:∀(b:Bool) (w':List (List UInt8)) (out':List Token),¬ s.height=0→w'.Pairwise kle→w'.length≤want.length→out'.length+((s.child b).pcs w').length≤900000→FOk EN 34 ⟨[.pr wordsP,.pn (PTO (some T)) false false,.rd 4 (ws++[b]),.rd 23 w',.ow 95 out'],[.p 1 0,.n 2,.n 3,.n 4],Unit,fun _=>([.pr wordsP,.pn (PTO (some T)) false false,.no,.no,.no,.ow 95 (out'++(s.child b).pcs w')],.n 5),fun _=>True⟩) :
  FOk EN 34 ⟨[.pr wordsP,.pn (PTO (some T)) false false,.rd 4 ws,.rd 23 want,.ow 95 out],[.p 1 0,.n 2,.n 3,.n 4],Unit,fun _=>([.pr wordsP,.pn (PTO (some T)) false false,.no,.no,.no,.ow 95 (out++s.pcs want)],.n 5),fun _=>True⟩:=by
 refine v_fun Tryd.f34 ccM4_34 MX (fun ν F σ w=>?_) Tryd.func34
 refine v_nl ?_
 refine v_call _ [2,1] (Node_ok (T) (s) (ws) (by omega) (hs) (by exact Tr.key_le hk) (by exact Tr.value_le hk)) ((ws=ws)∧(PTO (some T)=PTO (some T))∧(false=false)) ⟨rfl,rfl,rfl⟩ (fun g1 p2=>?_)
 have p2:True:=p2
 refine v_if (decide ((↑want.length:Int)=0)) True trivial (fun h3=>?_) (fun h3=>?_)
 ·have h3:=of_decide_eq_true h3
  refine v_call _ [0,6,7] (thash_ok (s.height) (s.size) (s.key) (s.value) (s.lh) (s.rh) (by exact⟨s.height_nn,by omega⟩) (by exact Tr.key_le hk) (by exact Tr.value_le hk) (by exact s.lh_l.1) (by exact s.lh_l.2)) ((s.height=s.height)∧(s.size=s.size)∧(s.lh=s.lh)∧(s.rh=s.rh)∧(wordsP=wordsP)∧(s.key=s.key)∧(s.value=s.value)) ⟨rfl,rfl,rfl,rfl,rfl,rfl,rfl⟩ (fun g4 p5=>?_)
  have p5:True:=p5
  exact v_ret () [10] ((out.length+1≤1000000)∧(wordsP=wordsP)∧(PTO (some T)=PTO (some T))∧(false=false)∧(out++[Token.mk 1 (mk32 (nsum s.height s.size s.key s.value s.lh s.rh)) [] [] 0 0]=out++s.pcs want)) ⟨(by omega),rfl,rfl,rfl,(by(rw[s.pcsH ‹_›];rfl))⟩ trivial
 ·have h3:=of_decide_eq_false h3
  refine v_if (decide (s.height=0)) True trivial (fun h6=>?_) (fun h6=>?_)
  ·have h6:=of_decide_eq_true h6
   exact v_ret () [10] ((out.length+1≤1000000)∧(wordsP=wordsP)∧(PTO (some T)=PTO (some T))∧(false=false)∧(out++[Token.mk 2 (mk32 (List.replicate 32 0)) s.key s.value 0 0]=out++s.pcs want)) ⟨(by omega),rfl,rfl,rfl,(by(rw[s.pcsL ‹_› ‹_›];rfl))⟩ trivial
  ·have h6:=of_decide_eq_false h6
   refine v_call _ [3,6] (BSB_ok (want) (s.key) ‹_› (by omega)) ((27=27)∧(want=want)∧(s.key=s.key)) ⟨rfl,rfl,rfl⟩ (fun g7 p8=>?_)
   have p8:True:=p8
   refine v_join [56,57,58,59,60,61,62,63,64,65,3,55] [10] (fun _:Unit=>([(3,SV.n 11)],[Ent.ow 95 (out++[Token.mk 3 (mk32 (List.replicate 32 0)) [] [] s.height s.size]++(s.child false).pcs (List.take (↑(cntB s.key want):Int).toNat want))])) (fun _=>True) ?_ (fun _ _=>?_) ((out.length+1≤1000000)) (by omega)
   ·skip
    refine v_plan (.fs [0,1,5,6,7,8] (.c 2 (.o 3 (.o 4 (.o 9 (.fs [10] .e)))) (.o 3 (.o 2 (.o 4 (.o 9 (.fs [10] .e))))))) [8,9] True trivial ?_
    refine v_pick ((0≤(↑(cntB s.key want):Int)∧(↑(cntB s.key want):Int)≤(↑want.length:Int))) (by exact cntI) ?_ ?_
    ·skip
     refine v_call _ [2] (cloneB_ok (ws) (by omega) ‹_›) ((ws=ws)) rfl (fun g9 p10=>?_)
     have p10:True:=p10
     refine v_call _ [0,1,14,11,10] (ih (false) (List.take (↑(cntB s.key want):Int).toNat want) (out++[Token.mk 3 (mk32 (List.replicate 32 0)) [] [] s.height s.size]) ‹_› (by exact pwT hw _) (by(simp;omega)) (by exact pcB1 ‹_› ‹_› ho)) ((ws.length+1≤1000000)∧(wordsP=wordsP)∧(PTO (some T)=PTO (some T))∧(false=false)∧(ws++[false]=ws++[false])∧(List.take (↑(cntB s.key want):Int).toNat want=List.take (↑(cntB s.key want):Int).toNat want)∧(out++[Token.mk 3 (mk32 (List.replicate 32 0)) [] [] s.height s.size]=out++[Token.mk 3 (mk32 (List.replicate 32 0)) [] [] s.height s.size])) ⟨(by omega),rfl,rfl,rfl,rfl,rfl,rfl⟩ (fun g11 p12=>?_)
     have p12:True:=p12
     exact v_back (()) [15] ((out++[Token.mk 3 (mk32 (List.replicate 32 0)) [] [] s.height s.size]++(s.child false).pcs (List.take (↑(cntB s.key want):Int).toNat want)=out++[Token.mk 3 (mk32 (List.replicate 32 0)) [] [] s.height s.size]++(s.child false).pcs (List.take (↑(cntB s.key want):Int).toNat want))) rfl (show True from trivial)
    ·skip
     refine v_call _ [2] (cloneB_ok (ws) (by omega) ‹_›) ((ws=ws)) rfl (fun g13 p14=>?_)
     have p14:True:=p14
     refine v_call _ [0,1,14,11,10] (ih (false) (List.take (↑(cntB s.key want):Int).toNat want) (out++[Token.mk 3 (mk32 (List.replicate 32 0)) [] [] s.height s.size]) ‹_› (by exact pwT hw _) (by(simp;omega)) (by exact pcB1 ‹_› ‹_› ho)) ((ws.length+1≤1000000)∧(wordsP=wordsP)∧(PTO (some T)=PTO (some T))∧(false=false)∧(ws++[false]=ws++[false])∧(List.take (↑(cntB s.key want):Int).toNat want=List.take (↑(cntB s.key want):Int).toNat want)∧(out++[Token.mk 3 (mk32 (List.replicate 32 0)) [] [] s.height s.size]=out++[Token.mk 3 (mk32 (List.replicate 32 0)) [] [] s.height s.size])) ⟨(by omega),rfl,rfl,rfl,rfl,rfl,rfl⟩ (fun g15 p16=>?_)
     have p16:True:=p16
     exact v_back (()) [15] ((out++[Token.mk 3 (mk32 (List.replicate 32 0)) [] [] s.height s.size]++(s.child false).pcs (List.take (↑(cntB s.key want):Int).toNat want)=out++[Token.mk 3 (mk32 (List.replicate 32 0)) [] [] s.height s.size]++(s.child false).pcs (List.take (↑(cntB s.key want):Int).toNat want))) rfl (show True from trivial)
   ·skip
    refine v_join [66,67,68,69,70,71,72,73,74,75,8,3] [11] (fun _:Unit=>([(8,SV.n 12)],[Ent.ow 95 (out++[Token.mk 3 (mk32 (List.replicate 32 0)) [] [] s.height s.size]++(s.child false).pcs (List.take (↑(cntB s.key want):Int).toNat want)++(s.child true).pcs (List.drop (↑(cntB s.key want):Int).toNat want))])) (fun _=>True) ?_ (fun _ _=>?_) True trivial
    ·skip
     refine v_plan (.fs [0,1,5,6,7,8] (.c 2 (.o 3 (.o 4 (.o 9 (.fs [10] .e)))) (.o 3 (.o 2 (.o 4 (.o 9 (.fs [10] .e))))))) [8,9] True trivial ?_
     refine v_pick ((0≤(↑(cntB s.key want):Int)∧(↑(cntB s.key want):Int)≤(↑want.length:Int))) (by exact cntI) ?_ ?_
     ·skip
      refine v_call _ [2] (cloneB_ok (ws) (by omega) ‹_›) ((ws=ws)) rfl (fun g17 p18=>?_)
      have p18:True:=p18
      refine v_call _ [0,1,15,12,11] (ih (true) (List.drop (↑(cntB s.key want):Int).toNat want) (out++[Token.mk 3 (mk32 (List.replicate 32 0)) [] [] s.height s.size]++(s.child false).pcs (List.take (↑(cntB s.key want):Int).toNat want)) ‹_› (by exact pwD hw _) (by exact lenD _) (by exact pcB2 ‹_› ‹_› ho)) ((ws.length+1≤1000000)∧(wordsP=wordsP)∧(PTO (some T)=PTO (some T))∧(false=false)∧(ws++[true]=ws++[true])∧(List.drop (↑(cntB s.key want):Int).toNat want=List.drop (↑(cntB s.key want):Int).toNat want)∧(out++[Token.mk 3 (mk32 (List.replicate 32 0)) [] [] s.height s.size]++(s.child false).pcs (List.take (↑(cntB s.key want):Int).toNat want)=out++[Token.mk 3 (mk32 (List.replicate 32 0)) [] [] s.height s.size]++(s.child false).pcs (List.take (↑(cntB s.key want):Int).toNat want))) ⟨(by omega),rfl,rfl,rfl,rfl,rfl,rfl⟩ (fun g19 p20=>?_)
      have p20:True:=p20
      exact v_back (()) [16] ((out++[Token.mk 3 (mk32 (List.replicate 32 0)) [] [] s.height s.size]++(s.child false).pcs (List.take (↑(cntB s.key want):Int).toNat want)++(s.child true).pcs (List.drop (↑(cntB s.key want):Int).toNat want)=out++[Token.mk 3 (mk32 (List.replicate 32 0)) [] [] s.height s.size]++(s.child false).pcs (List.take (↑(cntB s.key want):Int).toNat want)++(s.child true).pcs (List.drop (↑(cntB s.key want):Int).toNat want))) rfl (show True from trivial)
     ·skip
      refine v_call _ [2] (cloneB_ok (ws) (by omega) ‹_›) ((ws=ws)) rfl (fun g21 p22=>?_)
      have p22:True:=p22
      refine v_call _ [0,1,15,12,11] (ih (true) (List.drop (↑(cntB s.key want):Int).toNat want) (out++[Token.mk 3 (mk32 (List.replicate 32 0)) [] [] s.height s.size]++(s.child false).pcs (List.take (↑(cntB s.key want):Int).toNat want)) ‹_› (by exact pwD hw _) (by exact lenD _) (by exact pcB2 ‹_› ‹_› ho)) ((ws.length+1≤1000000)∧(wordsP=wordsP)∧(PTO (some T)=PTO (some T))∧(false=false)∧(ws++[true]=ws++[true])∧(List.drop (↑(cntB s.key want):Int).toNat want=List.drop (↑(cntB s.key want):Int).toNat want)∧(out++[Token.mk 3 (mk32 (List.replicate 32 0)) [] [] s.height s.size]++(s.child false).pcs (List.take (↑(cntB s.key want):Int).toNat want)=out++[Token.mk 3 (mk32 (List.replicate 32 0)) [] [] s.height s.size]++(s.child false).pcs (List.take (↑(cntB s.key want):Int).toNat want))) ⟨(by omega),rfl,rfl,rfl,rfl,rfl,rfl⟩ (fun g23 p24=>?_)
      have p24:True:=p24
      exact v_back (()) [16] ((out++[Token.mk 3 (mk32 (List.replicate 32 0)) [] [] s.height s.size]++(s.child false).pcs (List.take (↑(cntB s.key want):Int).toNat want)++(s.child true).pcs (List.drop (↑(cntB s.key want):Int).toNat want)=out++[Token.mk 3 (mk32 (List.replicate 32 0)) [] [] s.height s.size]++(s.child false).pcs (List.take (↑(cntB s.key want):Int).toNat want)++(s.child true).pcs (List.drop (↑(cntB s.key want):Int).toNat want))) rfl (show True from trivial)
    ·skip
     exact v_ret () [12] ((wordsP=wordsP)∧(PTO (some T)=PTO (some T))∧(false=false)∧(out++[Token.mk 3 (mk32 (List.replicate 32 0)) [] [] s.height s.size]++(s.child false).pcs (List.take (↑(cntB s.key want):Int).toNat want)++(s.child true).pcs (List.drop (↑(cntB s.key want):Int).toNat want)=out++s.pcs want)) ⟨rfl,rfl,rfl,(by exact pceE ‹_› ‹_›)⟩ trivial
theorem pcs0_aux (T:Tr) (want:List (List UInt8)) (hc:FOk EN 48 ⟨[],[.v (.slice none 0 0)],Unit,fun _=>([],.v (.slice none 0 0)),fun _=>True⟩) (hs:T.at' []=some T) (hk:T.Ks) (hh:T.height<900) (hw:want.Pairwise kle) (hwl:want.length≤900000) (ho:(T.pcs want).length≤800000)
  (ih:∀(b:Bool) (w':List (List UInt8)) (out':List Token),¬ T.height=0→w'.Pairwise kle→w'.length≤want.length→out'.length+((T.child b).pcs w').length≤900000→FOk EN 34 ⟨[.pr wordsP,.pn (PTO (some T)) false false,.rd 4 ([]++[b]),.rd 23 w',.ow 95 out'],[.p 1 0,.n 2,.n 3,.n 4],Unit,fun _=>([.pr wordsP,.pn (PTO (some T)) false false,.no,.no,.no,.ow 95 (out'++(T.child b).pcs w')],.n 5),fun _=>True⟩) :
  FOk EN 34 ⟨[.pr wordsP,.pn (PTO (some T)) false false,.rd 23 want],[.p 1 0,.v (.slice none 0 0),.n 2,.v (.slice none 0 0)],Unit,fun _=>([.pr wordsP,.pn (PTO (some T)) false false,.rd 23 want,.ow 95 (T.pcs want)],.n 3),fun _=>True⟩:=by
 refine v_fun Tryd.f34 ccM4_34 MX (fun ν F σ w=>?_) Tryd.func34
 refine v_nl ?_
 refine v_call _ [3,1] (Node_ok (T) (T) ([]) (by decide) (hs) (by exact Tr.key_le hk) (by exact Tr.value_le hk)) ((Eq (α:=List Bool) [] [])∧(PTO (some T)=PTO (some T))∧(false=false)) ⟨rfl,rfl,rfl⟩ (fun g1 p2=>?_)
 have p2:True:=p2
 refine v_if (decide ((↑want.length:Int)=0)) True trivial (fun h3=>?_) (fun h3=>?_)
 ·have h3:=of_decide_eq_true h3
  refine v_call _ [0,4,5] (thash_ok (T.height) (T.size) (T.key) (T.value) (T.lh) (T.rh) (by exact⟨T.height_nn,by omega⟩) (by exact Tr.key_le hk) (by exact Tr.value_le hk) (by exact T.lh_l.1) (by exact T.lh_l.2)) ((T.height=T.height)∧(T.size=T.size)∧(T.lh=T.lh)∧(T.rh=T.rh)∧(wordsP=wordsP)∧(T.key=T.key)∧(T.value=T.value)) ⟨rfl,rfl,rfl,rfl,rfl,rfl,rfl⟩ (fun g4 p5=>?_)
  have p5:True:=p5
  exact v_ret () [8] ((0+1≤1000000)∧(wordsP=wordsP)∧(PTO (some T)=PTO (some T))∧(false=false)∧(want=want)∧([]++[Token.mk 1 (mk32 (nsum T.height T.size T.key T.value T.lh T.rh)) [] [] 0 0]=T.pcs want)) ⟨(by decide),rfl,rfl,rfl,rfl,(by(rw[T.pcsH ‹_›];rfl))⟩ trivial
 ·have h3:=of_decide_eq_false h3
  refine v_if (decide (T.height=0)) True trivial (fun h6=>?_) (fun h6=>?_)
  ·have h6:=of_decide_eq_true h6
   exact v_ret () [8] ((0+1≤1000000)∧(wordsP=wordsP)∧(PTO (some T)=PTO (some T))∧(false=false)∧(want=want)∧([]++[Token.mk 2 (mk32 (List.replicate 32 0)) T.key T.value 0 0]=T.pcs want)) ⟨(by decide),rfl,rfl,rfl,rfl,(by(rw[T.pcsL ‹_› ‹_›];rfl))⟩ trivial
  ·have h6:=of_decide_eq_false h6
   refine v_call _ [2,4] (BSB_ok (want) (T.key) ‹_› (by omega)) ((27=27)∧(want=want)∧(T.key=T.key)) ⟨rfl,rfl,rfl⟩ (fun g7 p8=>?_)
   have p8:True:=p8
   refine v_join [56,57,58,59,60,61,62,63,64,65,3,55] [8] (fun _:Unit=>([(3,SV.n 9)],[Ent.ow (95:Nat) ([]++[Token.mk (3:UInt8) (mk32 (List.replicate (32:Nat) (0:UInt8))) [] [] T.height T.size]++(T.child false).pcs (List.take (↑(cntB T.key want):Int).toNat want))])) (fun _=>True) ?_ (fun _ _=>?_) ((0+1≤1000000)) (by decide)
   ·skip
    refine v_plan (.fs [0,1,5,6,7,8] (.c 2 (.o 3 (.o 4 (.o 9 (.fs [10] .e)))) (.o 3 (.o 2 (.o 4 (.o 9 (.fs [10] .e))))))) [6,7] True trivial ?_
    refine v_pick ((0≤(↑(cntB T.key want):Int)∧(↑(cntB T.key want):Int)≤(↑want.length:Int))) (by exact cntI) ?_ ?_
    ·skip
     refine v_call _ [] (hc) ((Value.slice none 0 0=Value.slice none 0 0)) rfl (fun g9 p10=>?_)
     have p10:True:=p10
     refine v_call _ [0,1,11,9,8] (ih (false) (List.take (↑(cntB T.key want):Int).toNat want) ([]++[Token.mk 3 (mk32 (List.replicate 32 0)) [] [] T.height T.size]) ‹_› (by exact pwT hw _) (by(simp;omega)) (by exact pcB1 ‹_› ‹_› (out:=[]) (by simp;omega))) ((0+1≤1000000)∧(wordsP=wordsP)∧(PTO (some T)=PTO (some T))∧(false=false)∧([]++[false]=[]++[false])∧(List.take (↑(cntB T.key want):Int).toNat want=List.take (↑(cntB T.key want):Int).toNat want)∧([]++[Token.mk 3 (mk32 (List.replicate 32 0)) [] [] T.height T.size]=[]++[Token.mk 3 (mk32 (List.replicate 32 0)) [] [] T.height T.size])) ⟨(by decide),rfl,rfl,rfl,rfl,rfl,rfl⟩ (fun g11 p12=>?_)
     have p12:True:=p12
     exact v_back (()) [12] (([]++[Token.mk 3 (mk32 (List.replicate 32 0)) [] [] T.height T.size]++(T.child false).pcs (List.take (↑(cntB T.key want):Int).toNat want)=[]++[Token.mk 3 (mk32 (List.replicate 32 0)) [] [] T.height T.size]++(T.child false).pcs (List.take (↑(cntB T.key want):Int).toNat want))) rfl (show True from trivial)
    ·skip
     refine v_call _ [] (hc) ((Value.slice none 0 0=Value.slice none 0 0)) rfl (fun g13 p14=>?_)
     have p14:True:=p14
     refine v_call _ [0,1,11,9,8] (ih (false) (List.take (↑(cntB T.key want):Int).toNat want) ([]++[Token.mk 3 (mk32 (List.replicate 32 0)) [] [] T.height T.size]) ‹_› (by exact pwT hw _) (by(simp;omega)) (by exact pcB1 ‹_› ‹_› (out:=[]) (by simp;omega))) ((0+1≤1000000)∧(wordsP=wordsP)∧(PTO (some T)=PTO (some T))∧(false=false)∧([]++[false]=[]++[false])∧(List.take (↑(cntB T.key want):Int).toNat want=List.take (↑(cntB T.key want):Int).toNat want)∧([]++[Token.mk 3 (mk32 (List.replicate 32 0)) [] [] T.height T.size]=[]++[Token.mk 3 (mk32 (List.replicate 32 0)) [] [] T.height T.size])) ⟨(by decide),rfl,rfl,rfl,rfl,rfl,rfl⟩ (fun g15 p16=>?_)
     have p16:True:=p16
     exact v_back (()) [12] (([]++[Token.mk 3 (mk32 (List.replicate 32 0)) [] [] T.height T.size]++(T.child false).pcs (List.take (↑(cntB T.key want):Int).toNat want)=[]++[Token.mk 3 (mk32 (List.replicate 32 0)) [] [] T.height T.size]++(T.child false).pcs (List.take (↑(cntB T.key want):Int).toNat want))) rfl (show True from trivial)
   ·skip
    refine v_join [66,67,68,69,70,71,72,73,74,75,8,3] [9] (fun _:Unit=>([(8,SV.n 10)],[Ent.ow (95:Nat) ([]++[Token.mk (3:UInt8) (mk32 (List.replicate (32:Nat) (0:UInt8))) [] [] T.height T.size]++(T.child false).pcs (List.take (↑(cntB T.key want):Int).toNat want)++(T.child true).pcs (List.drop (↑(cntB T.key want):Int).toNat want))])) (fun _=>True) ?_ (fun _ _=>?_) True trivial
    ·skip
     refine v_plan (.fs [0,1,5,6,7,8] (.c 2 (.o 3 (.o 4 (.o 9 (.fs [10] .e)))) (.o 3 (.o 2 (.o 4 (.o 9 (.fs [10] .e))))))) [6,7] True trivial ?_
     refine v_pick ((0≤(↑(cntB T.key want):Int)∧(↑(cntB T.key want):Int)≤(↑want.length:Int))) (by exact cntI) ?_ ?_
     ·skip
      refine v_call _ [] (hc) ((Value.slice none 0 0=Value.slice none 0 0)) rfl (fun g17 p18=>?_)
      have p18:True:=p18
      refine v_call _ [0,1,12,10,9] (ih (true) (List.drop (↑(cntB T.key want):Int).toNat want) ([]++[Token.mk 3 (mk32 (List.replicate 32 0)) [] [] T.height T.size]++(T.child false).pcs (List.take (↑(cntB T.key want):Int).toNat want)) ‹_› (by exact pwD hw _) (by exact lenD _) (by exact pcB2 ‹_› ‹_› (out:=[]) (by simp;omega))) ((0+1≤1000000)∧(wordsP=wordsP)∧(PTO (some T)=PTO (some T))∧(false=false)∧([]++[true]=[]++[true])∧(List.drop (↑(cntB T.key want):Int).toNat want=List.drop (↑(cntB T.key want):Int).toNat want)∧([]++[Token.mk 3 (mk32 (List.replicate 32 0)) [] [] T.height T.size]++(T.child false).pcs (List.take (↑(cntB T.key want):Int).toNat want)=[]++[Token.mk 3 (mk32 (List.replicate 32 0)) [] [] T.height T.size]++(T.child false).pcs (List.take (↑(cntB T.key want):Int).toNat want))) ⟨(by decide),rfl,rfl,rfl,rfl,rfl,rfl⟩ (fun g19 p20=>?_)
      have p20:True:=p20
      exact v_back (()) [13] (([]++[Token.mk 3 (mk32 (List.replicate 32 0)) [] [] T.height T.size]++(T.child false).pcs (List.take (↑(cntB T.key want):Int).toNat want)++(T.child true).pcs (List.drop (↑(cntB T.key want):Int).toNat want)=[]++[Token.mk 3 (mk32 (List.replicate 32 0)) [] [] T.height T.size]++(T.child false).pcs (List.take (↑(cntB T.key want):Int).toNat want)++(T.child true).pcs (List.drop (↑(cntB T.key want):Int).toNat want))) rfl (show True from trivial)
     ·skip
      refine v_call _ [] (hc) ((Value.slice none 0 0=Value.slice none 0 0)) rfl (fun g21 p22=>?_)
      have p22:True:=p22
      refine v_call _ [0,1,12,10,9] (ih (true) (List.drop (↑(cntB T.key want):Int).toNat want) ([]++[Token.mk 3 (mk32 (List.replicate 32 0)) [] [] T.height T.size]++(T.child false).pcs (List.take (↑(cntB T.key want):Int).toNat want)) ‹_› (by exact pwD hw _) (by exact lenD _) (by exact pcB2 ‹_› ‹_› (out:=[]) (by simp;omega))) ((0+1≤1000000)∧(wordsP=wordsP)∧(PTO (some T)=PTO (some T))∧(false=false)∧([]++[true]=[]++[true])∧(List.drop (↑(cntB T.key want):Int).toNat want=List.drop (↑(cntB T.key want):Int).toNat want)∧([]++[Token.mk 3 (mk32 (List.replicate 32 0)) [] [] T.height T.size]++(T.child false).pcs (List.take (↑(cntB T.key want):Int).toNat want)=[]++[Token.mk 3 (mk32 (List.replicate 32 0)) [] [] T.height T.size]++(T.child false).pcs (List.take (↑(cntB T.key want):Int).toNat want))) ⟨(by decide),rfl,rfl,rfl,rfl,rfl,rfl⟩ (fun g23 p24=>?_)
      have p24:True:=p24
      exact v_back (()) [13] (([]++[Token.mk 3 (mk32 (List.replicate 32 0)) [] [] T.height T.size]++(T.child false).pcs (List.take (↑(cntB T.key want):Int).toNat want)++(T.child true).pcs (List.drop (↑(cntB T.key want):Int).toNat want)=[]++[Token.mk 3 (mk32 (List.replicate 32 0)) [] [] T.height T.size]++(T.child false).pcs (List.take (↑(cntB T.key want):Int).toNat want)++(T.child true).pcs (List.drop (↑(cntB T.key want):Int).toNat want))) rfl (show True from trivial)
    ·skip
     exact v_ret () [10] ((wordsP=wordsP)∧(PTO (some T)=PTO (some T))∧(false=false)∧(want=want)∧([]++[Token.mk 3 (mk32 (List.replicate 32 0)) [] [] T.height T.size]++(T.child false).pcs (List.take (↑(cntB T.key want):Int).toNat want)++(T.child true).pcs (List.drop (↑(cntB T.key want):Int).toNat want)=T.pcs want)) ⟨rfl,rfl,rfl,rfl,(by exact pceE ‹_› ‹_›)⟩ trivial
namespace Tr
theorem child_of {s:Tr} (h:¬ s.height=0) (b:Bool) (hk:s.Ks):(s.child b).depth<s.depth∧(s.child b).Ks∧(s.child b).height<s.height:=by
  cases s with
  | leaf a c=>exact absurd rfl h
  | node l r =>
    have h1:=l.height_nn;have h2:=r.height_nn
    cases b
    · exact⟨by show l.depth<(node l r).depth;simp only[depth];omega,hk.1,by show l.height<1+max l.height r.height;omega⟩
    · exact⟨by show r.depth<(node l r).depth;simp only[depth];omega,hk.2,by show r.height<1+max l.height r.height;omega⟩
end Tr
theorem pieces_t:∀(n:Nat) (T s:Tr) (ws:List Bool) (want:List (List UInt8)) (out:List Token),s.depth≤n→T.at' ws=some s→0<ws.length→ws.length+s.depth≤800000→s.Ks→s.height<900→want.Pairwise kle→want.length≤900000→out.length+(s.pcs want).length≤900000 →
    FOk EN 34 ⟨[.pr wordsP,.pn (PTO (some T)) false false,.rd 4 ws,.rd 23 want,.ow 95 out],[.p 1 0,.n 2,.n 3,.n 4],Unit,fun _=>([.pr wordsP,.pn (PTO (some T)) false false,.no,.no,.no,.ow 95 (out++s.pcs want)],.n 5),fun _=>True⟩
  | 0, T, s, ws, want, out, hn, hs, h0, hl, hk, hh, hw, hwl, ho => by
    refine pcs_aux T s ws want out hs h0 (by omega) hk hh hw hwl ho fun b w' out' hp=>?_
    cases s with
    | leaf a b=>exact absurd rfl hp
    | node l r=>simp[Tr.depth] at hn
  | n + 1, T, s, ws, want, out, hn, hs, h0, hl, hk, hh, hw, hwl, ho => by
    refine pcs_aux T s ws want out hs h0 (by omega) hk hh hw hwl ho fun b w' out' hp hw' hwl' ho'=>?_
    have hpos:0<s.height:=by have:=s.height_nn;omega
    have hc:=Tr.child_of hp b hk
    exact pieces_t n T (s.child b) (ws++[b]) w' out' (by omega) (Tr.at_snoc hs hpos) (by simp) (by simp;omega) hc.2.1 (by omega) hw' (by omega) ho'
theorem pieces0_ok (T:Tr) (want:List (List UInt8)) (hk:T.Ks) (hh:T.height<900) (hd:T.depth≤100000) (hw:want.Pairwise kle) (hwl:want.length≤900000) :
    FOk EN 34 ⟨[.pr wordsP,.pn (PTO (some T)) false false,.rd 23 want],[.p 1 0,.v (.slice none 0 0),.n 2,.v (.slice none 0 0)],Unit,fun _=>([.pr wordsP,.pn (PTO (some T)) false false,.rd 23 want,.ow 95 (T.pcs want)],.n 3),fun _=>True⟩:=by
  have h0:T.at' []=some T:=by cases T <;> rfl
  have hp:=T.pcs_len want
  refine pcs0_aux T want cloneBn_ok h0 hk hh hw hwl (by omega) fun b w' out' hz hw' hwl' ho'=>?_
  have hpos:0<T.height:=by have:=T.height_nn;omega
  have hc:=Tr.child_of hz b hk
  exact pieces_t (T.child b).depth T (T.child b) ([]++[b]) w' out' (Nat.le_refl _) (Tr.at_snoc h0 hpos) (by simp) (by simp;omega) hc.2.1 (by omega) hw' (by omega) ho'
noncomputable def ccM5_33:Code:=(Tryd.f33.body).getD .skip
theorem Len1_ok:FOk EN 33 ⟨[.pn (PTO none) false false],[.p 0 0],Unit,fun _=>([.pn (PTO none) false false],.i 0),fun _=>True⟩:=by
 refine v_fun Tryd.f33 ccM5_33 MX (fun ν F σ w=>?_) Tryd.func33
 refine v_nl ?_
 refine v_guard 5 (false) True trivial (fun h1=>?_) (fun h1=>?_)
 ·skip
  contradiction
 ·skip
  refine v_open 0 (open_tn) ((false=false)∧(PTO none=PTO none)) ⟨rfl,rfl⟩ ?_
  exact v_ret () [] (((0:Int)=(0:Int))∧(PLe (PTO none) (PTO none))∧(false=false)) ⟨rfl,fun _ _ _ h=>h,rfl⟩ trivial
theorem Len2_ok (t:Tr) (h:t.size<9223372036854775808):FOk EN 33 ⟨[.pn (PTO (some t)) false false],[.p 0 0],Unit,fun _=>([.pn (PTO (some t)) false false],.i t.size.toNat),fun _=>True⟩:=by
 refine v_fun Tryd.f33 ccM5_33 MX (fun ν F σ w=>?_) Tryd.func33
 refine v_nl ?_
 refine v_guard 5 (false) True trivial (fun h1=>?_) (fun h1=>?_)
 ·skip
  contradiction
 ·skip
  refine v_open 0 (open_ts (t)) ((false=false)∧(PTO (some t)=PTO (some t))) ⟨rfl,rfl⟩ ?_
  refine v_if (false) True trivial (fun h2=>?_) (fun h2=>?_)
  ·skip
   contradiction
  ·skip
   refine v_open 2 (open_any (t)) ((false=false)∧(PT t=PT t)) ⟨rfl,rfl⟩ ?_
   exact v_ret () [] ((t.size<9223372036854775808)∧((↑t.size.toNat:Int)=(↑t.size.toNat:Int))∧(PLe (PTO (some t)) (PTO (some t)))∧(false=false)) ⟨‹_›,rfl,fun _ _ _ h=>h,rfl⟩ trivial
namespace Tr
theorem size_leaves:∀ t:Tr,t.size=UInt64.ofNat t.leaves.length
  | leaf _ _=>rfl
  | node l r=>by show l.size+r.size=_;rw[size_leaves l,size_leaves r];simp[leaves]
theorem size_nat {t:Tr} (h:t.leaves.length≤900000):t.size.toNat=t.leaves.length:=by
  rw[size_leaves,UInt64.toNat_ofNat_of_lt' (by show _<18446744073709551616;omega)]
theorem leaves_pos (t:Tr):0<t.leaves.length:=by obtain⟨v,l,e⟩:=leaves_ne t;rw[e];simp
end Tr
def mkT (o:Option Tr) (ks:List (List UInt8)):List Token:=match o with | none=>[] | some t=>t.pcs (wanL t.leaves ks)
theorem szA {t:Tr} (h:t.leaves.length≤900000):t.size<9223372036854775808:=by
  apply UInt64.lt_iff_toNat_lt.2;rw[Tr.size_nat h];show _<9223372036854775808;omega
theorem szB {t:Tr} (h:t.leaves.length≤900000):¬ (t.size.toNat:Int)=0:=by rw[Tr.size_nat h];have:=t.leaves_pos;omega
theorem wan_le {l:List Pair} {ks:List (List UInt8)} (h:ks.length≤100000):(wanL l ks).length≤900000:=by have:=wanL_len l ks;omega
theorem wan_kle (l:List Pair) (ks:List (List UInt8)):(wanL l ks).Pairwise kle:=(wanL_srt l ks).imp klt_le
noncomputable def ccM5_14:Code:=(Tryd.f14.body).getD .skip
theorem MakeT1_aux (ks:List (List UInt8)):FOk EN 14 ⟨[.pr wordsP,.pn (PTO none) false false,.rd 23 ks],[.p 1 0,.n 2],Unit,fun _=>([.pr wordsP,.pn (PTO none) false false,.rd 23 ks,.ow 95 []],.n 3),fun _=>True⟩:=by
 refine v_fun Tryd.f14 ccM5_14 MX (fun ν F σ w=>?_) Tryd.func14
 refine v_nl ?_
 refine v_guard 7 (false) True trivial (fun h1=>?_) (fun h1=>?_)
 ·skip
  contradiction
 ·skip
  refine v_call _ [1] (Len1_ok) ((PTO none=PTO none)∧(false=false)) ⟨rfl,rfl⟩ (fun g2 p3=>?_)
  have p3:True:=p3
  refine v_if (decide ((0:Int)=(0:Int))) True trivial (fun h4=>?_) (fun h4=>?_)
  ·have h4:=of_decide_eq_true h4
   exact v_ret () [3] ((wordsP=wordsP)∧(PTO none=PTO none)∧(false=false)∧(ks=ks)∧(Eq (α:=List Token) [] [])) ⟨rfl,rfl,rfl,rfl,rfl⟩ trivial
  ·have h4:=of_decide_eq_false h4
   omega
theorem MakeT2_aux (t:Tr) (ks:List (List UInt8)) (hk:t.Ks) (hh:t.height<700) (hd:t.depth≤100000) (hs:Srt t.leaves) (hl:t.leaves.length≤900000) (hn:ks.length≤100000) (ho:okO (some t)):FOk EN 14 ⟨[.pr wordsP,.pn (PTO (some t)) false false,.rd 23 ks],[.p 1 0,.n 2],Unit,fun _=>([.pr wordsP,.pn (PTO (some t)) false false,.rd 23 ks,.ow 95 (t.pcs (wanL t.leaves ks))],.n 3),fun _=>True⟩:=by
 refine v_fun Tryd.f14 ccM5_14 MX (fun ν F σ w=>?_) Tryd.func14
 refine v_nl ?_
 refine v_guard 7 (false) True trivial (fun h1=>?_) (fun h1=>?_)
 ·skip
  contradiction
 ·skip
  refine v_call _ [1] (Len2_ok (t) (by exact szA hl)) ((PTO (some t)=PTO (some t))∧(false=false)) ⟨rfl,rfl⟩ (fun g2 p3=>?_)
  have p3:True:=p3
  refine v_if (decide ((↑t.size.toNat:Int)=0)) True trivial (fun h4=>?_) (fun h4=>?_)
  ·have h4:=of_decide_eq_true h4
   exfalso;exact absurd ‹_› (szB hl)
  ·have h4:=of_decide_eq_false h4
   refine v_call _ [1,2] (wanted_ok (some t) (ks) ‹_› ‹_› ‹_› ‹_›) ((PTO (some t)=PTO (some t))∧(false=false)∧(ks=ks)) ⟨rfl,rfl,rfl⟩ (fun g5 p6=>?_)
   have p6:True:=p6
   refine v_call _ [0,1,4] (pieces0_ok (t) (wanL (leavesO (some t)) ks) ‹_› (by omega) ‹_› (by exact wan_kle _ _) (by exact wan_le hn)) ((Value.slice none 0 0=Value.slice none 0 0)∧(Value.slice none 0 0=Value.slice none 0 0)∧(wordsP=wordsP)∧(PTO (some t)=PTO (some t))∧(false=false)∧(wanL (leavesO (some t)) ks=wanL (leavesO (some t)) ks)) ⟨rfl,rfl,rfl,rfl,rfl,rfl⟩ (fun g7 p8=>?_)
   have p8:True:=p8
   exact v_ret () [5] ((wordsP=wordsP)∧(PTO (some t)=PTO (some t))∧(false=false)∧(ks=ks)∧(t.pcs (wanL (leavesO (some t)) ks)=t.pcs (wanL t.leaves ks))) ⟨rfl,rfl,rfl,rfl,rfl⟩ trivial
theorem MakeT_ok (o:Option Tr) (ks:List (List UInt8)) (ho:okO o) (hs:Srt (leavesO o)) (hl:(leavesO o).length≤900000) (hn:ks.length≤100000):FOk EN 14 ⟨[.pr wordsP,.pn (PTO o) false false,.rd 23 ks],[.p 1 0,.n 2],Unit,fun _=>([.pr wordsP,.pn (PTO o) false false,.rd 23 ks,.ow 95 (mkT o ks)],.n 3),fun _=>True⟩:=by
  cases o with
  | none=>exact MakeT1_aux ks
  | some t=>obtain⟨h1,h2,h3⟩:=ho t rfl;exact MakeT2_aux t ks h1 h2 h3 hs hl hn ho
abbrev kT0:Token:=⟨0,zero32,[],[],0,0⟩
section
variable {ts:List Token} {f:Nat} {ab:Int} {a:Nat} {fs:List Item}
end
abbrev tcK (t:Token):List UInt8:=putF [] 1 (numTo t.kind.toUInt64 8)
def tcB (t:Token):List UInt8:=if t.kind=1 then putF (tcK t) 2 t.hash.l else if t.kind=2 then putF (putF (tcK t) 3 t.key) 4 t.value else putF (putF (tcK t) 5 (numTo (ofI t.height) 8)) 6 (numTo t.size 8)
def tcE (t:Token):Int:=if t.kind=1 then 0 else if t.kind=2 then(if putE t.key≠0 then 3 else if putE t.value≠0 then 3 else 0) else if t.kind=3 then(if t.height<1∨64<t.height then 12 else 0) else 61
def tcF:List Token→Int
  | []=>0
  | t::l=>if tcE t≠0 then tcE t else tcF l
def teE (l:List Token):Int:=if 2048<l.length then 3 else if tcF l≠0 then tcF l else if packL (l.map tcB)=true then 3 else if 65536<(packTo (l.map tcB) l.length).length then 3 else 0
def teB (l:List Token):List UInt8:=if teE l≠0 then[] else packTo (l.map tcB) l.length
def tcS (l:List Token):Nat:=(l.map fun t=>t.key.length+t.value.length).sum
theorem tcB_len (t:Token):(tcB t).length≤t.key.length+t.value.length+46:=by
  have h0:(tcK t).length≤11:=q1
  unfold tcB
  split
  · have:=putF_len (tcK t) 2 t.hash.l;have:=t.hash.h;omega
  · split
    · have:=putF_len (tcK t) 3 t.key;have:=putF_len (putF (tcK t) 3 t.key) 4 t.value;omega
    · have := putF_len (tcK t) 5 (numTo (ofI t.height) 8); have := putF_len (putF (tcK t) 5 (numTo (ofI t.height) 8)) 6 (numTo t.size 8)
      have:=numTo_len (ofI t.height) 8;have:=numTo_len t.size 8;omega
theorem tcS_take (l:List Token) {k:Nat} (h:k<l.length):tcS (l.take (k+1))=tcS (l.take k)+(l[k].key.length+l[k].value.length):=by
  unfold tcS;rw[List.take_add_one,List.getElem?_eq_getElem h]
  simp only[Option.toList,List.map_append,List.map_cons,List.map_nil,List.sum_append,List.sum_cons,List.sum_nil,Nat.add_zero]
theorem tcS_le (l:List Token):∀ k,tcS (l.take k)≤tcS l:=fun k=>by
  have:tcS l=tcS (l.take k)+tcS (l.drop k):=by unfold tcS;rw[← List.sum_append,← List.map_append,List.take_append_drop]
  omega
theorem packTo_tc (l:List Token):∀ k,k≤l.length→(packTo (l.map tcB) k).length≤tcS (l.take k)+48*k
  | 0,_=>Nat.zero_le _
  | k + 1, h => by
    have:=packTo_tc l k (by omega)
    rw[packTo_succ (by rw[List.length_map];omega),tcS_take l (by omega)]
    have e:(l.map tcB).getD k []=tcB (l[k]'(by omega)):=by rw[List.getD_eq_getElem?_getD,List.getElem?_map,List.getElem?_eq_getElem (by omega)];rfl
    have:=tcB_len (l[k]'(by omega))
    simp only[encV,List.length_append,List.length_cons,List.length_nil,e] at *;omega
def EJ (l:List Token) (k:Nat):Prop:=l.length≤2048∧k≤l.length∧tcF l=tcF (l.drop k)
section
variable {l:List Token} {k:Nat} {n m q:UInt64} {o:Sum32} {e:Int}
theorem EJ.start (h:¬ (2048:Int)<l.length):EJ l 0:=⟨by omega,Nat.zero_le _,rfl⟩
theorem EJ.at (h:EJ l k) (hk:(k:Int)<l.length):tcF l=if tcE (l.getD (k:Int).toNat kT0)≠0 then tcE (l.getD (k:Int).toNat kT0) else tcF (l.drop (k+1)):=by
  rw[h.2.2,List.drop_eq_getElem_cons (by omega),tcF,Int.toNat_natCast,List.getD_eq_getElem?_getD,List.getElem?_eq_getElem (by omega)];rfl
theorem EJ.next (h:EJ l k) (hk:(k:Int)<l.length) (he:tcE (l.getD (k:Int).toNat kT0)=0):EJ l (k+1)∧l.length - (k+1)<l.length - k :=
  ⟨⟨h.1,by omega,by rw[h.at hk,if_neg (fun z=>z he)]⟩,by omega⟩
theorem EJ.hit (h:EJ l k) (hk:(k:Int)<l.length) (he:tcE (l.getD (k:Int).toNat kT0)=e) (h0:e≠0):[]=teB l∧e=teE l:=by
  have h1:tcF l=e:=by rw[h.at hk,if_pos (by rw[he];exact h0),he]
  have h2:teE l=e:=by unfold teE;rw[if_neg (by have:=h.1;omega),if_pos (by rw[h1];exact h0),h1]
  exact⟨by unfold teB;rw[if_pos (by rw[h2];exact h0)],h2.symm⟩
theorem EJ.stop (h:EJ l k) (hk:¬ (k:Int)<l.length):tcF l=0:=by rw[h.2.2,List.drop_of_length_le (by omega)];rfl
theorem EJ.all (h:EJ l k) (hk:¬ (k:Int)<l.length):(l.take k).map tcB=l.map tcB:=by rw[List.take_of_length_le (by omega)]
theorem te0 (h:(2048:Int)<l.length):[]=teB l∧3=teE l:=by
  have h2:teE l=3:=by unfold teE;rw[if_pos (by omega)]
  exact⟨by unfold teB;rw[if_pos (by rw[h2];decide)],h2.symm⟩
theorem teZ (h:EJ l k) (hk:¬ (k:Int)<l.length):teE l=if packL (l.map tcB)=true then 3 else if 65536<(packTo (l.map tcB) l.length).length then 3 else 0:=by
  unfold teE;rw[if_neg (by have:=h.1;omega),if_neg (fun z=>z (h.stop hk))]
theorem te1 (h:EJ l k) (hk:¬ (k:Int)<l.length) (hp:¬ packE ((l.take k).map tcB)=0):packR ((l.take k).map tcB)=teB l∧packE ((l.take k).map tcB)=teE l:=by
  rw[h.all hk] at hp ⊢
  have hL:packL (l.map tcB)=true:=by unfold packE at hp;split at hp;assumption;exact absurd rfl hp
  have h2:teE l=3:=by rw[teZ h hk,if_pos hL]
  unfold packR packE teB;rw[if_pos hL,if_pos hL,h2];exact⟨rfl,rfl⟩
theorem packE0 {x:List (List UInt8)} (hp:packE x=0):packL x=false:=by unfold packE at hp;split at hp;cases hp;rename_i z;simpa using z
theorem te2 (h:EJ l k) (hk:¬ (k:Int)<l.length) (hp:packE ((l.take k).map tcB)=0) (hb:(65536:Int)<(packR ((l.take k).map tcB)).length):[]=teB l∧3=teE l:=by
  rw[h.all hk] at hp hb
  have hL:=packE0 hp
  unfold packR at hb;rw[if_neg (by rw[hL];decide),List.length_map] at hb
  have h2:teE l=3:=by rw[teZ h hk,if_neg (by rw[hL];decide),if_pos (by omega)]
  unfold teB;rw[h2];exact⟨rfl,rfl⟩
theorem te3 (h:EJ l k) (hk:¬ (k:Int)<l.length) (hp:packE ((l.take k).map tcB)=0) (hb:¬ (65536:Int)<(packR ((l.take k).map tcB)).length):packR ((l.take k).map tcB)=teB l∧packE ((l.take k).map tcB)=teE l:=by
  rw[h.all hk] at hp hb ⊢
  have hL:=packE0 hp
  unfold packR at hb ⊢;rw[if_neg (by rw[hL];decide),List.length_map] at hb ⊢
  have h2:teE l=0:=by rw[teZ h hk,if_neg (by rw[hL];decide),if_neg (by omega)]
  unfold teB;rw[h2,hp];exact⟨rfl,rfl⟩
theorem tk_len (hk:(k:Int)<l.length) (hs:tcS l≤200000):(l.getD (k:Int).toNat kT0).key.length+(l.getD (k:Int).toNat kT0).value.length≤200000:=by
  have hk':k<l.length:=by omega
  rw[Int.toNat_natCast,List.getD_eq_getElem?_getD,List.getElem?_eq_getElem hk']
  have h1:=tcS_take l hk';have h2:=tcS_le l (k+1)
  show l[k].key.length+l[k].value.length≤_
  omega
theorem c2:(putF [] 1 (numTo n 8)).length+o.l.length≤900000:=by have:=q1 (n:=n);have:=o.h;omega
theorem c3 (hk:(k:Int)<l.length) (hs:tcS l≤200000):(putF [] 1 (numTo n 8)).length+(l.getD (k:Int).toNat kT0).key.length≤900000:=by have:=q1 (n:=n);have:=tk_len hk hs;omega
theorem c4 (hk:(k:Int)<l.length) (hs:tcS l≤200000):(putF (putF [] 1 (numTo n 8)) 3 (l.getD (k:Int).toNat kT0).key).length+(l.getD (k:Int).toNat kT0).value.length≤900000:=by
  have:=q1 (n:=n);have:=tk_len hk hs;have:=putF_len (putF [] 1 (numTo n 8)) 3 (l.getD (k:Int).toNat kT0).key;omega
theorem c6:(putF (putF [] 1 (numTo n 8)) 5 (numTo m 8)).length+(numTo q 8).length≤900000:=by
  have:=q1 (n:=n);have:=numTo_len m 8;have:=numTo_len q 8;have:=putF_len (putF [] 1 (numTo n 8)) 5 (numTo m 8);omega
theorem pE_h:putE o.l=0:=by unfold putE;rw[if_neg (by have:=o.h;omega)]
theorem pE_n:putE (numTo n 8)=0:=by unfold putE;rw[if_neg (by have:=numTo_len n 8;omega)]
theorem tc_step (hk:(k:Int)<l.length) {x:List UInt8} (hx:x=tcB (l.getD (k:Int).toNat kT0)):(l.take k).map tcB++[x]=(l.take (k+1)).map tcB:=by
  rw[hx,Int.toNat_natCast,List.take_add_one,List.getD_eq_getElem?_getD,List.getElem?_eq_getElem (by omega)];simp only[Option.toList,List.map_append,List.map_cons,List.map_nil,Option.getD_some]
theorem tb1 {t:Token} (h:t.kind=1):putF (tcK t) 2 t.hash.l=tcB t:=by unfold tcB;rw[if_pos h]
theorem k12 {x:UInt8} (h:x=2):¬ x=1:=by rw[h];decide
theorem k13 {x:UInt8} (h:x=3):¬ x=1:=by rw[h];decide
theorem k23 {x:UInt8} (h:x=3):¬ x=2:=by rw[h];decide
theorem tb2 {t:Token} (h:t.kind=2):putF (putF (tcK t) 3 t.key) 4 t.value=tcB t:=by unfold tcB;rw[if_neg (k12 h),if_pos h]
theorem tb3 {t:Token} (h:t.kind=3):putF (putF (tcK t) 5 (numTo (ofI t.height) 8)) 6 (numTo t.size 8)=tcB t:=by unfold tcB;rw[if_neg (k13 h),if_neg (k23 h)]
theorem tz1 {t:Token} (h:t.kind=1):tcE t=0:=by unfold tcE;rw[if_pos h]
theorem tz2 {t:Token} (h:t.kind=2) (h1:putE t.key=0) (h2:putE t.value=0):tcE t=0:=by unfold tcE;rw[if_neg (k12 h),if_pos h,if_neg (fun z=>z h1),if_neg (fun z=>z h2)]
theorem tz3 {t:Token} (h:t.kind=3) (h1:¬ t.height<1) (h2:¬ 64<t.height):tcE t=0:=by unfold tcE;rw[if_neg (k13 h),if_neg (k23 h),if_pos h,if_neg (by omega)]
theorem ty2 {t:Token} (h:t.kind=2) (h1:¬ putE t.key=0):tcE t=putE t.key:=by unfold tcE;rw[if_neg (k12 h),if_pos h,if_pos h1,putE_3 h1]
theorem ty3 {t:Token} (h:t.kind=2) (h1:putE t.key=0) (h2:¬ putE t.value=0):tcE t=putE t.value:=by unfold tcE;rw[if_neg (k12 h),if_pos h,if_neg (fun z=>z h1),if_pos h2,putE_3 h2]
theorem ty4 {t:Token} (h:t.kind=3) (h1:t.height<1):tcE t=12:=by unfold tcE;rw[if_neg (k13 h),if_neg (k23 h),if_pos h,if_pos (.inl h1)]
theorem ty5 {t:Token} (h:t.kind=3) (h1:64<t.height):tcE t=12:=by unfold tcE;rw[if_neg (k13 h),if_neg (k23 h),if_pos h,if_pos (.inr h1)]
theorem ty6 {t:Token} (h1:¬ t.kind=1) (h2:¬ t.kind=2) (h3:¬ t.kind=3):tcE t=61:=by unfold tcE;rw[if_neg h1,if_neg h2,if_neg h3]
theorem EJ.pk (h:EJ l k) (hk:¬ (k:Int)<l.length) (hs:tcS l≤200000):(packTo ((l.take k).map tcB) ((l.take k).map tcB).length).length≤900000:=by
  rw[h.all hk,List.length_map];have:=packTo_tc l l.length (Nat.le_refl _);have:=tcS_le l l.length;have:=h.1;omega
theorem EJ.i (h:EJ l k) (hk:(k:Int)<l.length):I64 ((k:Int)+1):=by have:=h.1;unfold I64;omega
theorem EJ.a (h:EJ l k):((l.take k).map tcB).length+1≤1000000:=by have:=h.1;rw[List.length_map,List.length_take];omega
end
noncomputable def ccTK1_13:Code:=(Tryd.f13.body).getD .skip
theorem TEncode_ok (l:List Token) (hs:tcS l≤200000) (hl:l.length≤1000000):FOk EN 13 ⟨[.rd 95 l],[.n 0],Unit,fun _=>([.rd 95 l,.ow 5 (teB l)],.t [.n 1,.i (teE l)]),fun _=>True⟩:=by
 refine v_fun Tryd.f13 ccTK1_13 MX (fun ν F σ w=>?_) Tryd.func13
 refine v_nl ?_
 refine v_if (decide (2048<(↑l.length:Int))) True trivial (fun h1=>?_) (fun h1=>?_)
 ·have h1:=of_decide_eq_true h1
  exact v_ret () [1] ((3=teE l)∧(l=l)∧([]=teB l)) ⟨(by exact(te0 ‹_›).2),rfl,(by exact(te0 ‹_›).1)⟩ trivial
 ·have h1:=of_decide_eq_false h1
  refine v_loop (fun k:Nat=>([(16,.i k),(4,.n 2)],[.ow 23 ((l.take k).map tcB)])) (fun k=>EJ l k) (fun k=>l.length - k) 0 [1] (((0:Int)=(↑(0:Nat):Int))∧([]=List.map tcB (List.take 0 l))) ⟨rfl,rfl⟩ (by exact EJ.start ‹_›) (fun k hk2=>?_)
  refine v_if (decide ((↑k:Int)<(↑l.length:Int))) True trivial (fun h3=>?_) (fun h3=>?_)
  ·have h3:=of_decide_eq_true h3
   refine v_call _ [] (num_ok ((l.getD (↑k:Int).toNat (Token.mk 0 zero32 [] [] 0 0)).kind.toUInt64)) ((0≤(↑k:Int)∧(↑k:Int)<(↑l.length:Int))∧((l.getD (↑k:Int).toNat (Token.mk 0 zero32 [] [] 0 0)).kind.toUInt64=(l.getD (↑k:Int).toNat (Token.mk 0 zero32 [] [] 0 0)).kind.toUInt64)) ⟨(by omega),rfl⟩ (fun g4 p5=>?_)
   have p5:True:=p5
   refine v_call _ [1,7] (put_ok ([]) (1) (numTo (l.getD (↑k:Int).toNat (Token.mk 0 zero32 [] [] 0 0)).kind.toUInt64 8) (by exact f1)) (((1:UInt8)=(1:UInt8))∧(Eq (α:=List UInt8) [] [])∧(numTo (l.getD (↑k:Int).toNat (Token.mk 0 zero32 [] [] 0 0)).kind.toUInt64 8=numTo (l.getD (↑k:Int).toNat (Token.mk 0 zero32 [] [] 0 0)).kind.toUInt64 8)) ⟨rfl,rfl,rfl⟩ (fun g6 p7=>?_)
   have p7:True:=p7
   refine v_if (decide ((l.getD (↑k:Int).toNat (Token.mk 0 zero32 [] [] 0 0)).kind=1)) True trivial (fun h8=>?_) (fun h8=>?_)
   ·have h8:=of_decide_eq_true h8
    refine v_call _ [8,9] (put_ok (putF [] 1 (numTo (l.getD (↑k:Int).toNat (Token.mk 0 zero32 [] [] 0 0)).kind.toUInt64 8)) (2) ((l.getD (↑k:Int).toNat (Token.mk 0 zero32 [] [] 0 0)).hash.l) (by exact c2)) (((l.getD (↑k:Int).toNat (Token.mk 0 zero32 [] [] 0 0)).hash.l.length=32∧32≤1000000)∧((2:UInt8)=(2:UInt8))∧(putF [] 1 (numTo (l.getD (↑k:Int).toNat (Token.mk 0 zero32 [] [] 0 0)).kind.toUInt64 8)=putF [] 1 (numTo (l.getD (↑k:Int).toNat (Token.mk 0 zero32 [] [] 0 0)).kind.toUInt64 8))∧((l.getD (↑k:Int).toNat (Token.mk 0 zero32 [] [] 0 0)).hash.l=(l.getD (↑k:Int).toNat (Token.mk 0 zero32 [] [] 0 0)).hash.l)) ⟨(by exact⟨Sum32.h _,by decide⟩),rfl,rfl,rfl⟩ (fun g9 p10=>?_)
    have p10:True:=p10
    refine v_if (decide (putE (l.getD (↑k:Int).toNat (Token.mk 0 zero32 [] [] 0 0)).hash.l≠0)) True trivial (fun h11=>?_) (fun h11=>?_)
    ·have h11:=of_decide_eq_true h11
     exfalso;exact absurd pE_h ‹_›
    ·have h11:=of_decide_eq_false h11
     exact v_back (k+1) [12] (((List.map tcB (List.take k l)).length+1≤1000000)∧(I64 (↑k+1))∧((↑k:Int)+1=(↑(k+1):Int))∧(List.map tcB (List.take k l)++[putF (putF [] 1 (numTo (l.getD (↑k:Int).toNat (Token.mk 0 zero32 [] [] 0 0)).kind.toUInt64 8)) 2 (l.getD (↑k:Int).toNat (Token.mk 0 zero32 [] [] 0 0)).hash.l]=List.map tcB (List.take (k+1) l))) ⟨(by(simp;omega)),(by(unfold I64;omega)),rfl,(by exact tc_step ‹_› (tb1 ‹_›))⟩ (show EJ l (k+1)∧l.length - (k+1)<l.length - k from(by exact EJ.next ‹_› ‹_› (tz1 ‹_›)))
   ·have h8:=of_decide_eq_false h8
    refine v_if (decide ((l.getD (↑k:Int).toNat (Token.mk 0 zero32 [] [] 0 0)).kind=2)) True trivial (fun h12=>?_) (fun h12=>?_)
    ·have h12:=of_decide_eq_true h12
     refine v_call _ [8,3] (put_ok (putF [] 1 (numTo (l.getD (↑k:Int).toNat (Token.mk 0 zero32 [] [] 0 0)).kind.toUInt64 8)) (3) ((l.getD (↑k:Int).toNat (Token.mk 0 zero32 [] [] 0 0)).key) (by exact c3 ‹_› hs)) (((3:UInt8)=(3:UInt8))∧(putF [] 1 (numTo (l.getD (↑k:Int).toNat (Token.mk 0 zero32 [] [] 0 0)).kind.toUInt64 8)=putF [] 1 (numTo (l.getD (↑k:Int).toNat (Token.mk 0 zero32 [] [] 0 0)).kind.toUInt64 8))∧((l.getD (↑k:Int).toNat (Token.mk 0 zero32 [] [] 0 0)).key=(l.getD (↑k:Int).toNat (Token.mk 0 zero32 [] [] 0 0)).key)) ⟨rfl,rfl,rfl⟩ (fun g13 p14=>?_)
     have p14:True:=p14
     refine v_if (decide (putE (l.getD (↑k:Int).toNat (Token.mk 0 zero32 [] [] 0 0)).key=0)) True trivial (fun h15=>?_) (fun h15=>?_)
     ·have h15:=of_decide_eq_true h15
      refine v_call _ [9,4] (put_ok (putF (putF [] 1 (numTo (l.getD (↑k:Int).toNat (Token.mk 0 zero32 [] [] 0 0)).kind.toUInt64 8)) 3 (l.getD (↑k:Int).toNat (Token.mk 0 zero32 [] [] 0 0)).key) (4) ((l.getD (↑k:Int).toNat (Token.mk 0 zero32 [] [] 0 0)).value) (by exact c4 ‹_› hs)) (((4:UInt8)=(4:UInt8))∧(putF (putF [] 1 (numTo (l.getD (↑k:Int).toNat (Token.mk 0 zero32 [] [] 0 0)).kind.toUInt64 8)) 3 (l.getD (↑k:Int).toNat (Token.mk 0 zero32 [] [] 0 0)).key=putF (putF [] 1 (numTo (l.getD (↑k:Int).toNat (Token.mk 0 zero32 [] [] 0 0)).kind.toUInt64 8)) 3 (l.getD (↑k:Int).toNat (Token.mk 0 zero32 [] [] 0 0)).key)∧((l.getD (↑k:Int).toNat (Token.mk 0 zero32 [] [] 0 0)).value=(l.getD (↑k:Int).toNat (Token.mk 0 zero32 [] [] 0 0)).value)) ⟨rfl,rfl,rfl⟩ (fun g16 p17=>?_)
      have p17:True:=p17
      refine v_if (decide (putE (l.getD (↑k:Int).toNat (Token.mk 0 zero32 [] [] 0 0)).value≠0)) True trivial (fun h18=>?_) (fun h18=>?_)
      ·have h18:=of_decide_eq_true h18
       refine v_leave .rt True trivial ?_
       exact v_ret () [1] ((putE (l.getD (↑k:Int).toNat (Token.mk 0 zero32 [] [] 0 0)).value=teE l)∧(l=l)∧([]=teB l)) ⟨(by exact(EJ.hit ‹_› ‹_› (ty3 ‹_› ‹_› ‹_›) ‹_›).2),rfl,(by exact(EJ.hit ‹_› ‹_› (ty3 ‹_› ‹_› ‹_›) ‹_›).1)⟩ trivial
      ·have h18:=of_decide_eq_false h18
       exact v_back (k+1) [12] (((List.map tcB (List.take k l)).length+1≤1000000)∧(I64 (↑k+1))∧((↑k:Int)+1=(↑(k+1):Int))∧(List.map tcB (List.take k l)++[putF (putF (putF [] 1 (numTo (l.getD (↑k:Int).toNat (Token.mk 0 zero32 [] [] 0 0)).kind.toUInt64 8)) 3 (l.getD (↑k:Int).toNat (Token.mk 0 zero32 [] [] 0 0)).key) 4 (l.getD (↑k:Int).toNat (Token.mk 0 zero32 [] [] 0 0)).value]=List.map tcB (List.take (k+1) l))) ⟨(by(simp;omega)),(by(unfold I64;omega)),rfl,(by exact tc_step ‹_› (tb2 ‹_›))⟩ (show EJ l (k+1)∧l.length - (k+1)<l.length - k from(by exact EJ.next ‹_› ‹_› (tz2 ‹_› ‹_› (Decidable.not_not.1 ‹_›))))
     ·have h15:=of_decide_eq_false h15
      refine v_if (decide (putE (l.getD (↑k:Int).toNat (Token.mk 0 zero32 [] [] 0 0)).key≠0)) True trivial (fun h19=>?_) (fun h19=>?_)
      ·have h19:=of_decide_eq_true h19
       refine v_leave .rt True trivial ?_
       exact v_ret () [1] ((putE (l.getD (↑k:Int).toNat (Token.mk 0 zero32 [] [] 0 0)).key=teE l)∧(l=l)∧([]=teB l)) ⟨(by exact(EJ.hit ‹_› ‹_› (ty2 ‹_› ‹_›) ‹_›).2),rfl,(by exact(EJ.hit ‹_› ‹_› (ty2 ‹_› ‹_›) ‹_›).1)⟩ trivial
      ·have h19:=of_decide_eq_false h19
       omega
    ·have h12:=of_decide_eq_false h12
     refine v_if (decide ((l.getD (↑k:Int).toNat (Token.mk 0 zero32 [] [] 0 0)).kind=3)) True trivial (fun h20=>?_) (fun h20=>?_)
     ·have h20:=of_decide_eq_true h20
      refine v_guard 62 (decide ((l.getD (↑k:Int).toNat (Token.mk 0 zero32 [] [] 0 0)).height<1)) True trivial (fun h21=>?_) (fun h21=>?_)
      ·have h21:=of_decide_eq_true h21
       refine v_leave .rt True trivial ?_
       exact v_ret () [1] ((12=teE l)∧(l=l)∧([]=teB l)) ⟨(by exact(EJ.hit ‹_› ‹_› (ty4 ‹_› ‹_›) (by decide)).2),rfl,(by exact(EJ.hit ‹_› ‹_› (ty4 ‹_› ‹_›) (by decide)).1)⟩ trivial
      ·have h21:=of_decide_eq_false h21
       refine v_if (decide (64<(l.getD (↑k:Int).toNat (Token.mk 0 zero32 [] [] 0 0)).height)) True trivial (fun h22=>?_) (fun h22=>?_)
       ·have h22:=of_decide_eq_true h22
        refine v_leave .rt True trivial ?_
        exact v_ret () [1] ((12=teE l)∧(l=l)∧([]=teB l)) ⟨(by exact(EJ.hit ‹_› ‹_› (ty5 ‹_› ‹_›) (by decide)).2),rfl,(by exact(EJ.hit ‹_› ‹_› (ty5 ‹_› ‹_›) (by decide)).1)⟩ trivial
       ·have h22:=of_decide_eq_false h22
        refine v_call _ [] (num_ok (ofI (l.getD (↑k:Int).toNat (Token.mk 0 zero32 [] [] 0 0)).height)) ((ofI (l.getD (↑k:Int).toNat (Token.mk 0 zero32 [] [] 0 0)).height=ofI (l.getD (↑k:Int).toNat (Token.mk 0 zero32 [] [] 0 0)).height)) rfl (fun g23 p24=>?_)
        have p24:True:=p24
        refine v_call _ [8,9] (put_ok (putF [] 1 (numTo (l.getD (↑k:Int).toNat (Token.mk 0 zero32 [] [] 0 0)).kind.toUInt64 8)) (5) (numTo (ofI (l.getD (↑k:Int).toNat (Token.mk 0 zero32 [] [] 0 0)).height) 8) (by exact f2)) (((5:UInt8)=(5:UInt8))∧(putF [] 1 (numTo (l.getD (↑k:Int).toNat (Token.mk 0 zero32 [] [] 0 0)).kind.toUInt64 8)=putF [] 1 (numTo (l.getD (↑k:Int).toNat (Token.mk 0 zero32 [] [] 0 0)).kind.toUInt64 8))∧(numTo (ofI (l.getD (↑k:Int).toNat (Token.mk 0 zero32 [] [] 0 0)).height) 8=numTo (ofI (l.getD (↑k:Int).toNat (Token.mk 0 zero32 [] [] 0 0)).height) 8)) ⟨rfl,rfl,rfl⟩ (fun g25 p26=>?_)
        have p26:True:=p26
        refine v_call _ [] (num_ok ((l.getD (↑k:Int).toNat (Token.mk 0 zero32 [] [] 0 0)).size)) (((l.getD (↑k:Int).toNat (Token.mk 0 zero32 [] [] 0 0)).size=(l.getD (↑k:Int).toNat (Token.mk 0 zero32 [] [] 0 0)).size)) rfl (fun g27 p28=>?_)
        have p28:True:=p28
        refine v_call _ [10,11] (put_ok (putF (putF [] 1 (numTo (l.getD (↑k:Int).toNat (Token.mk 0 zero32 [] [] 0 0)).kind.toUInt64 8)) 5 (numTo (ofI (l.getD (↑k:Int).toNat (Token.mk 0 zero32 [] [] 0 0)).height) 8)) (6) (numTo (l.getD (↑k:Int).toNat (Token.mk 0 zero32 [] [] 0 0)).size 8) (by exact c6)) (((6:UInt8)=(6:UInt8))∧(putF (putF [] 1 (numTo (l.getD (↑k:Int).toNat (Token.mk 0 zero32 [] [] 0 0)).kind.toUInt64 8)) 5 (numTo (ofI (l.getD (↑k:Int).toNat (Token.mk 0 zero32 [] [] 0 0)).height) 8)=putF (putF [] 1 (numTo (l.getD (↑k:Int).toNat (Token.mk 0 zero32 [] [] 0 0)).kind.toUInt64 8)) 5 (numTo (ofI (l.getD (↑k:Int).toNat (Token.mk 0 zero32 [] [] 0 0)).height) 8))∧(numTo (l.getD (↑k:Int).toNat (Token.mk 0 zero32 [] [] 0 0)).size 8=numTo (l.getD (↑k:Int).toNat (Token.mk 0 zero32 [] [] 0 0)).size 8)) ⟨rfl,rfl,rfl⟩ (fun g29 p30=>?_)
        have p30:True:=p30
        refine v_if (decide (putE (numTo (l.getD (↑k:Int).toNat (Token.mk 0 zero32 [] [] 0 0)).size 8)≠0)) True trivial (fun h31=>?_) (fun h31=>?_)
        ·have h31:=of_decide_eq_true h31
         exfalso;exact absurd pE_n ‹_›
        ·have h31:=of_decide_eq_false h31
         exact v_back (k+1) [14] (((List.map tcB (List.take k l)).length+1≤1000000)∧(I64 (↑k+1))∧((↑k:Int)+1=(↑(k+1):Int))∧(List.map tcB (List.take k l)++[putF (putF (putF [] 1 (numTo (l.getD (↑k:Int).toNat (Token.mk 0 zero32 [] [] 0 0)).kind.toUInt64 8)) 5 (numTo (ofI (l.getD (↑k:Int).toNat (Token.mk 0 zero32 [] [] 0 0)).height) 8)) 6 (numTo (l.getD (↑k:Int).toNat (Token.mk 0 zero32 [] [] 0 0)).size 8)]=List.map tcB (List.take (k+1) l))) ⟨(by(simp;omega)),(by(unfold I64;omega)),rfl,(by exact tc_step ‹_› (tb3 ‹_›))⟩ (show EJ l (k+1)∧l.length - (k+1)<l.length - k from(by exact EJ.next ‹_› ‹_› (tz3 ‹_› ‹_› ‹_›)))
     ·have h20:=of_decide_eq_false h20
      refine v_leave .rt True trivial ?_
      exact v_ret () [1] ((61=teE l)∧(l=l)∧([]=teB l)) ⟨(by exact(EJ.hit ‹_› ‹_› (ty6 ‹_› ‹_› ‹_›) (by decide)).2),rfl,(by exact(EJ.hit ‹_› ‹_› (ty6 ‹_› ‹_› ‹_›) (by decide)).1)⟩ trivial
  ·have h3:=of_decide_eq_false h3
   refine v_leave (.ex 0) True trivial ?_
   refine v_call _ [2] (pack_ok (List.map tcB (List.take k l)) (by exact EJ.pk ‹_› ‹_› hs)) ((List.map tcB (List.take k l)=List.map tcB (List.take k l))) rfl (fun g32 p33=>?_)
   have p33:True:=p33
   refine v_guard 99 (decide (packE (List.map tcB (List.take k l))=0)) True trivial (fun h34=>?_) (fun h34=>?_)
   ·have h34:=of_decide_eq_true h34
    refine v_if (decide (65536<(↑(packR (List.map tcB (List.take k l))).length:Int))) True trivial (fun h35=>?_) (fun h35=>?_)
    ·have h35:=of_decide_eq_true h35
     exact v_ret () [1] ((3=teE l)∧(l=l)∧([]=teB l)) ⟨(by exact(te2 ‹_› ‹_› ‹_› ‹_›).2),rfl,(by exact(te2 ‹_› ‹_› ‹_› ‹_›).1)⟩ trivial
    ·have h35:=of_decide_eq_false h35
     exact v_ret () [3] ((packE (List.map tcB (List.take k l))=teE l)∧(l=l)∧(packR (List.map tcB (List.take k l))=teB l)) ⟨(by exact(te3 ‹_› ‹_› ‹_› ‹_›).2),rfl,(by exact(te3 ‹_› ‹_› ‹_› ‹_›).1)⟩ trivial
   ·have h34:=of_decide_eq_false h34
    exact v_ret () [3] ((packE (List.map tcB (List.take k l))=teE l)∧(l=l)∧(packR (List.map tcB (List.take k l))=teB l)) ⟨(by exact(te1 ‹_› ‹_› ‹_›).2),rfl,(by exact(te1 ‹_› ‹_› ‹_›).1)⟩ trivial
theorem findG_ge {k:List UInt8}:∀ {l:List Pair} {i:Nat},0≤findG k l i↔∃ p∈l,p.key=k
  | [],i=>by simp[findG]
  | x :: xs, i => by
    unfold findG
    split
    · rename_i h;exact⟨fun _=>⟨x,List.mem_cons_self ..,h⟩,fun _=>by omega⟩
    · rename_i h
      rw[findG_ge (l:=xs)]
      exact⟨fun⟨p,a,b⟩=>⟨p,List.mem_cons_of_mem _ a,b⟩,fun⟨p,a,b⟩=>by rcases List.mem_cons.1 a with rfl | a;exact absurd b h;exact⟨p,a,b⟩⟩
theorem find_ge {k:List UInt8} {l:List Pair}:0≤findP l k↔∃ p∈l,p.key=k:=findG_ge
theorem cut_there {k:List UInt8} {o:Option Tr} (h:Srt (leavesO o)) (hf:0≤findP (leavesO o) k):o.isNone=false∧((gt o).cut k).isSome=true∧cutR k (gt o)=cutO k o:=by
  obtain⟨p,hp,hk⟩:=find_ge.1 hf
  cases o with
  | none=>simp[leavesO] at hp
  | some t =>
    rcases Tr.cut_leaves k t h with⟨e,hn⟩ | ⟨r,e,e2,_⟩
    · exact absurd hk (hn p hp)
    · exact⟨rfl,by show(t.cut k).isSome=true;rw[e];rfl,by show(t.cut k).getD none=_;rw[e,show cutO k (some t)=r by simp[cutO,e]];rfl⟩
theorem cut_not {k:List UInt8} {o:Option Tr} (h:Srt (leavesO o)) (hf:¬ 0≤findP (leavesO o) k):cutO k o=o:=by
  cases o with
  | none=>rfl
  | some t =>
    rcases Tr.cut_leaves k t h with⟨e,hn⟩ | ⟨r,e,e2,p,hp,hk⟩
    · simp[cutO,e]
    · exact absurd (find_ge.2 ⟨p,hp,hk⟩) hf
def GrN (acts:List Act) (m:Nat) (q:Nat × Option Tr):Prop:=GrI acts m (q.1,q.2,leavesO q.2)∧Srt (leavesO q.2)
section
variable {acts:List Act} {m i:Nat} {o:Option Tr}
theorem GrN.start:GrN acts m (0,none):=⟨GrI.start,List.Pairwise.nil⟩
theorem GrN.put (h:GrN acts m (i,o)) (hi:(i:Int)<acts.length) (hm:¬ (m:Int)≤i) (hk:¬ 90<((keyA (acts.getD i dA)).length:Int)) (h6:(acts.getD i dA).kind % 6<4):GrN acts m (i+1,putO (keyA (acts.getD i dA)) (valA (acts.getD i dA)) o)∧acts.length - (i+1)<acts.length - i:=by
  have g:=h.1.put hi hm hk h6
  have e:leavesO (putO (keyA (acts.getD i dA)) (valA (acts.getD i dA)) o)=putPair (keyA (acts.getD i dA)) (valA (acts.getD i dA)) (leavesO o):=putO_leaves h.2
  refine⟨⟨by show GrI acts m (i+1,_,leavesO (putO _ _ o));rw[e];exact g.1,by show Srt (leavesO (putO _ _ o));rw[e];exact h.2.put⟩,by omega⟩
theorem GrN.cutO (h:GrN acts m (i,o)) (hi:(i:Int)<acts.length) (hm:¬ (m:Int)≤i) (hk:¬ 90<((keyA (acts.getD i dA)).length:Int)) (h6:¬ (acts.getD i dA).kind % 6<4):GrN acts m (i+1,X.cutO (keyA (acts.getD i dA)) o)∧acts.length - (i+1)<acts.length - i:=by
  have g:=h.1.cut hi hm hk h6
  have e:leavesO (X.cutO (keyA (acts.getD i dA)) o)=cutPair (keyA (acts.getD i dA)) (leavesO o):=cutO_leaves h.2
  refine⟨⟨by show GrI acts m (i+1,_,leavesO (X.cutO _ o));rw[e];exact g.1,by show Srt (leavesO (X.cutO _ o));rw[e];exact h.2.cut⟩,by omega⟩
theorem GrN.cut (h:GrN acts m (i,o)) (hi:(i:Int)<acts.length) (hm:¬ (m:Int)≤i) (hk:¬ 90<((keyA (acts.getD i dA)).length:Int)) (h6:¬ (acts.getD i dA).kind % 6<4) (hf:0≤findP (leavesO o) (keyA (acts.getD i dA))):GrN acts m (i+1,cutR (keyA (acts.getD i dA)) (gt o))∧acts.length - (i+1)<acts.length - i:=by
  rw[(cut_there h.2 hf).2.2];exact h.cutO hi hm hk h6
theorem GrN.skip (h:GrN acts m (i,o)) (hi:(i:Int)<acts.length) (hm:¬ (m:Int)≤i) (hk:¬ 90<((keyA (acts.getD i dA)).length:Int)) (h6:¬ (acts.getD i dA).kind % 6<4) (hf:¬ 0≤findP (leavesO o) (keyA (acts.getD i dA))):GrN acts m (i+1,o)∧acts.length - (i+1)<acts.length - i:=by
  have:=h.cutO hi hm hk h6;rwa [cut_not h.2 hf] at this
theorem GrN.hh (h:GrN acts m (i,o)) (hm:m≤100):(gt o).height<700∧(leavesO o).length≤100000:=by
  obtain⟨⟨_,a2,_,a4,_⟩,_⟩:=h
  have a2:i≤m:=a2
  have l:=a4.leaves
  have l:(leavesO o).length≤i:=l
  refine⟨?_,by omega⟩
  cases o with
  | none=>decide
  | some t=>have:=(a4 t rfl).2;have:=t.height_depth;show t.height<700;have q:t.depth+1≤i:=(a4 t rfl).2;omega
end
section
variable {acts:List Act} {m i:Nat} {o:Option Tr}
theorem GrN.s1 (h:GrN acts m (i,o)) (hi:¬ (i:Int)<acts.length):(growT acts m).1=o:=by rw[h.1.stop1 hi]
theorem GrN.s2 (h:GrN acts m (i,o)) (hi:(m:Int)≤i):(growT acts m).1=o:=by rw[h.1.stop2 hi]
end
namespace Tr
theorem fin_mem (k:List UInt8):∀ t:Tr,(⟨(t.fin k).key,(t.fin k).value⟩:Pair)∈t.leaves
  | leaf a b=>List.mem_singleton_self _
  | node l r => by
    unfold fin;split
    · exact List.mem_append_right _ (fin_mem k r)
    · exact List.mem_append_left _ (fin_mem k l)
theorem fin_pair:∀ {t:Tr},Srt t.leaves→∀ {p:Pair},p∈t.leaves→(⟨(t.fin p.key).key,(t.fin p.key).value⟩:Pair)=p
  | leaf a b,_,p,hp=>(List.mem_singleton.1 hp).symm
  | node l r, h, p, hp => by
    have hl:Srt l.leaves:=(List.pairwise_append.1 h).1
    have hr:Srt r.leaves:=(List.pairwise_append.1 h).2.1
    unfold fin rt
    rcases List.mem_append.1 hp with hp | hp
    · have : klt p.key r.least := left_of h hp
      rw[if_neg (by show ¬ (decide (0≤Lib.compareBytes p.key r.least)=true);rw[decide_eq_true_eq];unfold klt at this;omega)];exact fin_pair hl hp
    · have : ¬ klt p.key r.least := right_of hr hp
      rw[if_pos (by show decide (0≤Lib.compareBytes p.key r.least)=true;rw[decide_eq_true_eq];unfold klt at this;omega)];exact fin_pair hr hp
theorem fin_key_iff {t:Tr} {k:List UInt8} (h:Srt t.leaves):(t.fin k).key=k↔∃ p∈t.leaves,p.key=k:=by
  constructor
  · intro e;exact⟨_,fin_mem k t,e⟩
  · rintro ⟨p,hp,rfl⟩;have:=fin_pair h hp;exact congrArg Pair.key this
end Tr
namespace Tr
theorem turns_len (k:List UInt8):∀ t:Tr,((t.turns k).length:Int)≤t.height
  | leaf a b=>Int.le_refl _
  | node l r => by
    have h1:=turns_len k l;have h2:=turns_len k r
    have hh:(node l r).height=1+max l.height r.height:=rfl
    unfold turns;rw[List.length_cons];split <;> omega
end Tr
/-- Leaves as they come from calls. -/
def lvOk (l:List Pair):Prop:=∀ p∈l,(1≤p.key.length∧p.key.length≤90)∧p.value.length≤100
theorem growG_lv:∀(n:Nat) (acts:List Act) (s:Option Tr × List Pair),lvOk s.2→lvOk (growG n acts s).2
  | 0,acts,s,h=>by unfold growG;exact h
  | n+1,[],s,h=>by unfold growG;exact h
  | n + 1, a :: l, s, h => by
    unfold growG
    split
    · exact h
    · rename_i hk
      refine growG_lv n l _ ?_
      unfold stepA;split
      · intro p hp
        rcases mem_putPair hp with rfl | hp
        · exact⟨⟨keyA_pos a,by show(keyA a).length≤90;omega⟩,valA_len a⟩
        · exact h p hp
      · intro p hp;exact h p (List.mem_filter.1 hp).1
theorem growT_lv (acts:List Act) (m:Nat):lvOk (leavesO (growT acts m).1):=by rw[← (growT_ok acts m).2];exact growG_lv m acts _ (fun p hp=>by simp at hp)
theorem growG_okN:∀(n i:Nat) (acts:List Act) (s:Option Tr × List Pair),okN i s.1→okN (n+i) (growG n acts s).1
  | 0,i,acts,s,h=>by unfold growG;rw[Nat.zero_add];exact h
  | n+1,i,[],s,h=>by unfold growG;exact fun t e=>⟨(h t e).1,by have:=(h t e).2;omega⟩
  | n + 1, i, a :: l, s, h => by
    unfold growG
    split
    · exact fun t e=>⟨(h t e).1,by have:=(h t e).2;omega⟩
    · rename_i hk
      rw[show n+1+i=n+(i+1) by omega]
      refine growG_okN n (i+1) l _ ?_
      unfold stepA;split
      · exact okN.put h (by omega) (by have:=valA_len a;omega)
      · exact okN.cut h
theorem growT_okN (acts:List Act) (m:Nat):okN m (growT acts m).1:=by have:=growG_okN m 0 acts (none,[]) (fun t e=>by simp at e);exact this
/-- A tree as calls make it: sorted, small. -/
def fine (o:Option Tr):Prop:=Srt (leavesO o)∧lvOk (leavesO o)∧okN 64 o
theorem growT_fine (acts:List Act) (m:Nat) (hm:m≤64):fine (growT acts m).1:=⟨(growT_ok acts m).1,growT_lv acts m,fun t e=>⟨(growT_okN acts m t e).1,by have:=(growT_okN acts m t e).2;omega⟩⟩
theorem fine.O {o:Option Tr} (h:fine o):okO o:=h.2.2.O (by decide)
theorem mkB_iff {o:Option Tr} {k:List UInt8} (h:fine o):mkB k o=true↔∃ p∈leavesO o,p.key=k:=by
  cases o with
  | none=>simp[mkB,leavesO]
  | some t=>simp only[mkB,decide_eq_true_eq];exact Tr.fin_key_iff h.1
theorem cmp_self (a:List UInt8):Lib.compareBytes a a=0:=by have:=cmp_anti a a;omega
theorem cmp_pos {a b:List UInt8} (h:klt a b):¬ Lib.compareBytes b a=0∧¬ Lib.compareBytes b a<0:=by have:=cmp_anti a b;unfold klt at h;omega
/-- The gap of a key that isn't there, of sorted leaves. -/
theorem noneG_below (k:List UInt8) (o:Option Tr):∀(A B:List Pair) (g:Option Proof × Option Proof),(∀ p∈A,klt p.key k)→noneG k o (A++B) g=noneG k o B ((A.getLast?.map fun p=>mkP p.key o).or g.1,g.2)
  | [],B,g,_=>rfl
  | x :: A, B, g, h => by
    have hx:=h x (List.mem_cons_self ..)
    unfold klt at hx
    rw[List.cons_append,noneG,if_neg (by omega),if_pos hx,noneG_below k o A B _ (fun p hp=>h p (List.mem_cons_of_mem _ hp))]
    cases A with
    | nil=>rfl
    | cons y A => rw [List.getLast?_cons_cons]; cases e : (y :: A).getLast? with
      | none=>simp at e
      | some z=>rfl
theorem noneG_above (k:List UInt8) (o:Option Tr):∀(B:List Pair) (g:Option Proof × Option Proof),(∀ p∈B,klt k p.key)→noneG k o B g=some (g.1,g.2.or (B.head?.map fun p=>mkP p.key o))
  | [],g,_=>by simp[noneG]
  | x :: B, g, h => by
    have hx:=cmp_pos (h x (List.mem_cons_self ..))
    rw[noneG,if_neg hx.1,if_neg hx.2]
    split
    · rename_i hn
      rw[noneG_above k o B _ (fun p hp=>h p (List.mem_cons_of_mem _ hp))]
      cases e:g.2 with
      | none=>rfl
      | some _=>rw[e] at hn;simp at hn
    · rename_i hn
      rw[noneG_above k o B _ (fun p hp=>h p (List.mem_cons_of_mem _ hp))]
      cases e:g.2 with
      | none=>rw[e] at hn;simp at hn
      | some _=>rfl
theorem noneG_hit (k:List UInt8) (o:Option Tr):∀(l:List Pair) (g:Option Proof × Option Proof),(∃ p∈l,p.key=k)→noneG k o l g=none
  | [],g,⟨p,h,_⟩=>by simp at h
  | x :: l, g, ⟨p, h, e⟩ => by
    rcases List.mem_cons.1 h with rfl | h
    · rw[noneG,if_pos (by rw[e];exact cmp_self k)]
    · rw [noneG]
      split
      · rfl
      · split
        · exact noneG_hit k o l _ ⟨p,h,e⟩
        · split <;> exact noneG_hit k o l _ ⟨p,h,e⟩
theorem srt_split (k:List UInt8):∀(l:List Pair),Srt l→(∀ p∈l,p.key≠k)→∃ A B,l=A++B∧(∀ p∈A,klt p.key k)∧(∀ p∈B,klt k p.key)
  | [],_,_=>⟨[],[],rfl,fun p h=>by simp at h,fun p h=>by simp at h⟩
  | x :: l, h, hn => by
    obtain⟨hx,hl⟩:=List.pairwise_cons.1 h
    by_cases c:klt x.key k
    · obtain ⟨A, B, e, a, b⟩ := srt_split k l hl (fun p hp => hn p (List.mem_cons_of_mem _ hp))
      exact⟨x::A,B,by rw[e];rfl,fun p hp=>by rcases List.mem_cons.1 hp with rfl | hp;exact c;exact a p hp,b⟩
    · refine ⟨[], x :: l, rfl, fun p hp => by simp at hp, fun p hp => ?_⟩
      have c':klt k x.key:=(kge c).resolve_left (hn x (List.mem_cons_self ..))
      rcases List.mem_cons.1 hp with rfl | hp
      · exact c'
      · exact klt_trans c' (hx p hp)
theorem gap_of {k:List UInt8} {o:Option Tr} {A B:List Pair} (e:leavesO o=A++B) (ha:∀ p∈A,klt p.key k) (hb:∀ p∈B,klt k p.key):noneR k o=some (A.getLast?.map (fun p=>mkP p.key o),B.head?.map fun p=>mkP p.key o):=by
  unfold noneR;rw[e,noneG_below k o A B _ ha,noneG_above k o B _ hb];simp
theorem none_there {k:List UInt8} {o:Option Tr} (h:∃ p∈leavesO o,p.key=k):noneR k o=none:=noneG_hit k o _ _ h
def goodP (o:Option Tr) (q:Option Proof):Prop:=q=none∨∃ x,q=some (mkP x o)
theorem noneG_good (k:List UInt8) (o:Option Tr):∀(xs:List Pair) (g g':Option Proof × Option Proof),goodP o g.1∧goodP o g.2→noneG k o xs g=some g'→goodP o g'.1∧goodP o g'.2
  | [],g,g',h,e=>by injection e with e;rw[← e];exact h
  | x :: xs, g, g', h, e => by
    unfold noneG at e
    split at e
    · cases e
    · split at e
      · exact noneG_good k o xs (some (mkP x.key o),g.2) g' ⟨.inr ⟨x.key,rfl⟩,h.2⟩ e
      · split at e
        · exact noneG_good k o xs (g.1,some (mkP x.key o)) g' ⟨h.1,.inr ⟨x.key,rfl⟩⟩ e
        · exact noneG_good k o xs g g' h e
theorem gapL_good (k:List UInt8) (o:Option Tr):goodP o (gapL k o).1∧goodP o (gapL k o).2:=by
  unfold gapL
  cases e:noneR k o with
  | none=>exact⟨.inl rfl,.inl rfl⟩
  | some q=>exact noneG_good k o _ _ q ⟨.inl rfl,.inl rfl⟩ e
def szP (o:Option Tr):Prop:=∀ k,(mkP k o).key.length≤1000∧(mkP k o).value.length≤1000∧(mkP k o).turns.length≤100
theorem good_sz {o:Option Tr} {q:Option Proof} (h:szP o) (hq:goodP o q):((gp q).key.length≤100000∧(gp q).value.length≤100000)∧(gp q).turns.length≤1000000:=by
  rcases hq with rfl | ⟨x,rfl⟩
  · exact⟨⟨Nat.zero_le _,Nat.zero_le _⟩,Nat.zero_le _⟩
  · have := h x
    show((mkP x o).key.length≤100000∧(mkP x o).value.length≤100000)∧(mkP x o).turns.length≤1000000
    omega
section
variable {o:Option Tr} {k:List UInt8}
theorem sz1 (h:szP o):(mkP k o).key.length≤200000:=Nat.le_trans (h k).1 (by decide)
theorem sz2 (h:szP o):(mkP k o).value.length≤200000:=Nat.le_trans (h k).2.1 (by decide)
theorem sz3 (h:szP o):(mkP k o).turns.length≤1000000:=Nat.le_trans (h k).2.2 (by decide)
theorem sz4 (h:szP o):(gp (gapL k o).1).key.length≤100000∧(gp (gapL k o).1).value.length≤100000:=(good_sz h (gapL_good k o).1).1
theorem sz5 (h:szP o):(gp (gapL k o).2).key.length≤100000∧(gp (gapL k o).2).value.length≤100000:=(good_sz h (gapL_good k o).2).1
theorem sz6 (h:szP o):(gp (gapL k o).1).turns.length≤1000000:=(good_sz h (gapL_good k o).1).2
theorem sz7 (h:szP o):(gp (gapL k o).2).turns.length≤1000000:=(good_sz h (gapL_good k o).2).2
end
def oneB (k:List UInt8) (o:Option Tr):List UInt8:=if mkB k o=true then encB (mkP k o) else[]
def gapB (k:List UInt8) (o:Option Tr):List UInt8:=if(noneR k o).isSome=true then egB (gapL k o).1 (gapL k o).2 else[]
section
variable {o:Option Tr} {k:List UInt8}
theorem on0 (h:mkB k o=false):[]=oneB k o:=by unfold oneB;rw[h];rfl
theorem on1 (h:mkB k o=true):encB (mkP k o)=oneB k o:=by unfold oneB;rw[h];rfl
theorem ga0 (h:(noneR k o).isSome=false):[]=gapB k o:=by unfold gapB;rw[h];rfl
theorem ga1 (h:(noneR k o).isSome=true):egB (gapL k o).1 (gapL k o).2=gapB k o:=by unfold gapB;rw[h];rfl
end
noncomputable def ccRP1_6:Code:=(Tryd.f6.body).getD .skip
theorem One_ok (o:Option Tr) (k:List UInt8) (ho:okO o) (hs:szP o):FOk EN 6 ⟨[.rd 5 (k),.pn (PTO o) false false],[.p 1 0,.n 0],Unit,fun _=>([.rd 5 (k),.pn (PTO o) false false,.ow 5 (oneB k o)],.n 2),fun _=>True⟩:=by
 refine v_fun Tryd.f6 ccRP1_6 MX (fun ν F σ w=>?_) Tryd.func6
 refine v_nl ?_
 refine v_call _ [0,1] (Make_ok (o) (k) ‹_›) ((k=k)∧(PTO o=PTO o)∧(false=false)) ⟨rfl,rfl,rfl⟩ (fun g1 p2=>?_)
 have p2:True:=p2
 refine v_if (!mkB k o) True trivial (fun h3=>?_) (fun h3=>?_)
 ·have h3:=(nt h3)
  exact v_ret () [2] ((k=k)∧(PTO o=PTO o)∧(false=false)∧([]=oneB k o)) ⟨rfl,rfl,rfl,(by exact on0 ‹_›)⟩ trivial
 ·have h3:=(nf h3)
  refine v_call _ [3,4,5] (Encode_ok (mkP k o) (by exact sz1 hs) (by exact sz2 hs) (by exact sz3 hs)) (((mkP k o).key=(mkP k o).key)∧((mkP k o).value=(mkP k o).value)∧((mkP k o).turns=(mkP k o).turns)) ⟨rfl,rfl,rfl⟩ (fun g4 p5=>?_)
  have p5:True:=p5
  exact v_ret () [7] ((k=k)∧(PTO o=PTO o)∧(false=false)∧(encB (mkP k o)=oneB k o)) ⟨rfl,rfl,rfl,(by exact on1 ‹_›)⟩ trivial
noncomputable def ccRP1_7:Code:=(Tryd.f7.body).getD .skip
theorem RGap_ok (o:Option Tr) (k:List UInt8) (ho:okO o) (hl:(leavesO o).length≤900000) (hs:szP o):FOk EN 7 ⟨[.rd 5 (k),.pn (PTO o) false false],[.p 1 0,.n 0],Unit,fun _=>([.rd 5 (k),.pn (PTO o) false false,.ow 5 (gapB k o)],.n 2),fun _=>True⟩:=by
 refine v_fun Tryd.f7 ccRP1_7 MX (fun ν F σ w=>?_) Tryd.func7
 refine v_nl ?_
 refine v_call _ [0,1] (None_ok (o) (k) ‹_› ‹_›) ((k=k)∧(PTO o=PTO o)∧(false=false)) ⟨rfl,rfl,rfl⟩ (fun g1 p2=>?_)
 have p2:True:=p2
 refine v_if (!(noneR k o).isSome) True trivial (fun h3=>?_) (fun h3=>?_)
 ·have h3:=(nt h3)
  exact v_ret () [2] ((k=k)∧(PTO o=PTO o)∧(false=false)∧([]=gapB k o)) ⟨rfl,rfl,rfl,(by exact ga0 ‹_›)⟩ trivial
 ·have h3:=(nf h3)
  refine v_call _ [3,4] (EncodeGap_ok ((gapL k o).fst) ((gapL k o).snd) (by exact sz4 hs) (by exact sz5 hs) (by exact sz6 hs) (by exact sz7 hs)) (((gapL k o).fst=(gapL k o).fst)∧((gapL k o).snd=(gapL k o).snd)) ⟨rfl,rfl⟩ (fun g4 p5=>?_)
  have p5:True:=p5
  exact v_ret () [6] ((k=k)∧(PTO o=PTO o)∧(false=false)∧(egB (gapL k o).fst (gapL k o).snd=gapB k o)) ⟨rfl,rfl,rfl,(by exact ga1 ‹_›)⟩ trivial
noncomputable def ccRP1_15:Code:=(Tryd.f15.body).getD .skip
theorem Many_ok (o:Option Tr) (ks:List (List UInt8)) (ho:okO o) (hs:Srt (leavesO o)) (hl:(leavesO o).length≤900000) (hn:ks.length≤100000) (ht:tcS (mkT o ks)≤200000) (ht2:(mkT o ks).length≤1000000):FOk EN 15 ⟨[.pr wordsP,.pn (PTO o) false false,.rd 23 ks],[.p 1 0,.n 2],Unit,fun _=>([.pr wordsP,.pn (PTO o) false false,.rd 23 ks,.ow 5 (teB (mkT o ks))],.n 3),fun _=>True⟩:=by
 refine v_fun Tryd.f15 ccRP1_15 MX (fun ν F σ w=>?_) Tryd.func15
 refine v_nl ?_
 refine v_call _ [0,1,2] (MakeT_ok (o) (ks) ‹_› ‹_› ‹_› ‹_›) ((wordsP=wordsP)∧(PTO o=PTO o)∧(false=false)∧(ks=ks)) ⟨rfl,rfl,rfl,rfl⟩ (fun g1 p2=>?_)
 have p2:True:=p2
 refine v_call _ [4] (TEncode_ok (mkT o ks) ‹_› ‹_›) ((mkT o ks=mkT o ks)) rfl (fun g3 p4=>?_)
 have p4:True:=p4
 exact v_ret () [5] ((wordsP=wordsP)∧(PTO o=PTO o)∧(false=false)∧(ks=ks)∧(teB (mkT o ks)=teB (mkT o ks))) ⟨rfl,rfl,rfl,rfl,rfl⟩ trivial
abbrev gO (acts:List Act):Option Tr:=(growT acts 30).1
abbrev gP (acts:List Act):List Pair:=(growT acts 30).2
theorem tcS_app (a b:List Token):tcS (a++b)=tcS a+tcS b:=by unfold tcS;rw[List.map_append,List.sum_append]
theorem pcs_tcS:∀(t:Tr) (w:List (List UInt8)),t.Ks→tcS (t.pcs w)≤2000*t.leaves.length
  | .leaf k v, w, h => by
    have h1:k.length≤1000:=h.1
    have h2:v.length≤1000:=h.2
    have e:(Tr.leaf k v).leaves.length=1:=rfl
    unfold Tr.pcs;split
    · exact Nat.zero_le _
    · rw[e];show(k.length+v.length)+0≤2000*1;omega
  | .node l r, w, h => by
    have e:(Tr.node l r).leaves.length=l.leaves.length+r.leaves.length:=List.length_append
    unfold Tr.pcs;split
    · exact Nat.zero_le _
    · have h1 := pcs_tcS l (w.take (cntB r.least w)) h.1; have h2 := pcs_tcS r (w.drop (cntB r.least w)) h.2
      have e2:=tcS_app (l.pcs (w.take (cntB r.least w))) (r.pcs (w.drop (cntB r.least w)))
      have e3:∀ x:List Token,tcS (kInn (Tr.node l r).height (Tr.node l r).size::x)=0+tcS x:=fun x=>rfl
      rw[e3,e2,e];omega
theorem Tr.fin_le {k:List UInt8}:∀ {t:Tr},t.Ks→(t.fin k).key.length≤1000∧(t.fin k).value.length≤1000
  | .leaf _ _,h=>h
  | .node l r,h=>by unfold Tr.fin;split <;> first | exact Tr.fin_le (t:=l) h.1 | exact Tr.fin_le (t:=r) h.2
section
variable {acts:List Act} {k:List UInt8} {ks:List (List UInt8)} {wh:List UInt8} {i j:Nat}
theorem gP_eq:gP acts=leavesO (gO acts):=(growT_ok acts 30).2
theorem gP_len:(gP acts).length≤64:=by rw[gP_eq];exact Nat.le_trans (growT_okN acts 30).leaves (by decide)
theorem gO_ok:okO (gO acts):=(growT_fine acts 30 (by decide)).O
theorem gO_srt:Srt (leavesO (gO acts)):=(growT_ok acts 30).1
theorem gO_lv:(leavesO (gO acts)).length≤900000:=Nat.le_trans (growT_okN acts 30).leaves (by decide)
theorem gO_sz:szP (gO acts):=fun k=>by
  unfold gO
  cases e:(growT acts 30).1 with
  | none=>exact⟨Nat.zero_le _,Nat.zero_le _,Nat.zero_le _⟩
  | some t =>
    have h:=(growT_okN acts 30) t e
    simp only[mkP];split
    · have := t.turns_len k; have := t.height_depth; have := Tr.fin_le (k := k) h.1
      exact⟨this.1,this.2,by show(t.turns k).length≤100;omega⟩
    · exact⟨Nat.zero_le _,Nat.zero_le _,Nat.zero_le _⟩
theorem gO_tc:tcS (mkT (gO acts) ks)≤200000∧(mkT (gO acts) ks).length≤1000000:=by
  unfold gO
  have h:=growT_okN acts 30
  have hl:=h.leaves
  cases e:(growT acts 30).1 with
  | none=>exact⟨Nat.zero_le _,Nat.zero_le _⟩
  | some t =>
    have h1:=h t e
    rw[e] at hl
    have hl:t.leaves.length≤30:=hl
    have h2:=pcs_tcS t (wanL t.leaves ks) h1.1
    have h3:=t.pcs_len (wanL t.leaves ks)
    exact⟨by show tcS (t.pcs _)≤200000;omega,by show(t.pcs _).length≤1000000;omega⟩
theorem rp_find:mkB k (gO acts)=decide (0≤findP (gP acts) k):=by
  rw[Bool.eq_iff_iff,decide_eq_true_eq,mkB_iff (growT_fine acts 30 (by decide)),find_ge,gP_eq]
theorem rp_none:(noneR k (gO acts)).isSome = !mkB k (gO acts):=by
  cases e:mkB k (gO acts) with
  | true=>rw[none_there ((mkB_iff (growT_fine acts 30 (by decide))).1 e)];rfl
  | false =>
    have hn:∀ p∈leavesO (gO acts),p.key≠k:=fun p hp q=>by
      have:=(mkB_iff (growT_fine acts 30 (by decide))).2 ⟨p,hp,q⟩
      rw[e] at this;cases this
    obtain⟨A,B,e1,a,b⟩:=srt_split k _ gO_srt hn
    rw[gap_of e1 a b];rfl
theorem k_a (h:(mkB k (gO acts) != decide (0≤findP (gP acts) k))=true):False:=by rw[rp_find,bne_self_eq_false] at h;cases h
theorem k_b (h:((noneR k (gO acts)).isSome == mkB k (gO acts))=true):False:=by rw[rp_none] at h;cases e:mkB k (gO acts) <;> rw[e] at h <;> cases h
theorem k_c (h:mkB k (gO acts)=true) (h2:¬ oneB k (gO acts)=encB (mkP k (gO acts))):False:=h2 (on1 h).symm
theorem k_d (h:mkB k (gO acts)=true) (h2:0<((gapB k (gO acts)).length:Int)):False:=by
  rw[← ga0 (by rw[rp_none,h];rfl)] at h2;cases h2
theorem k_e (h:(noneR k (gO acts)).isSome=true) (h2:¬ gapB k (gO acts)=egB (gapL k (gO acts)).1 (gapL k (gO acts)).2):False:=h2 (ga1 h).symm
theorem k_f (h:(noneR k (gO acts)).isSome=true) (h2:0<((oneB k (gO acts)).length:Int)):False:=by
  rw[rp_none] at h
  rw[← on0 (by simpa using h)] at h2;cases h2
def rkW (l:List Pair) (wh:List UInt8):Nat→List (List UInt8)
  | 0=>[]
  | n+1=>rkW l wh n++(if n<5∧0<l.length then[(l.getD (((wh.getD n 0).toNat:Int) % (l.length:Int)).toNat dP).key] else[])
theorem rkW_len (l:List Pair) (wh:List UInt8):∀ n,(rkW l wh n).length≤5∧(rkW l wh n).length≤n
  | 0=>⟨Nat.zero_le _,Nat.zero_le _⟩
  | n + 1 => by
    have:=rkW_len l wh n
    unfold rkW;split
    · rename_i h;simp only[List.length_append,List.length_cons,List.length_nil];omega
    · rw[List.append_nil];omega
theorem rk1 {l:List Pair} (h5:(i:Int)<5) (h0:(0:Int)<(l.length:Int)):([k]++rkW l wh i)++[(l.getD (((wh.getD (i:Int).toNat 0).toNat:Int) % (l.length:Int)).toNat dP).key]=[k]++rkW l wh (i+1):=by
  rw[rkW,if_pos ⟨by omega,by omega⟩,Int.toNat_natCast,List.append_assoc]
theorem rk2 {l:List Pair} (h5:¬ (i:Int)<5):[k]++rkW l wh i=[k]++rkW l wh (i+1):=by rw[rkW,if_neg (fun z=>h5 (by omega)),List.append_nil]
theorem rk3 {l:List Pair} (h0:¬ (0:Int)<(l.length:Int)):[k]++rkW l wh i=[k]++rkW l wh (i+1):=by rw[rkW,if_neg (fun z=>h0 (by omega)),List.append_nil]
theorem rk4 {l:List Pair}:([k]++rkW l wh i).length+1≤1000000:=by have:=(rkW_len l wh i).1;simp only[List.length_append,List.length_cons,List.length_nil];omega
theorem rk5 {l:List Pair}:([k]++rkW l wh i).length≤100000:=by have:=(rkW_len l wh i).1;simp only[List.length_append,List.length_cons,List.length_nil];omega
theorem rk6 {l:List Pair} {x:UInt8} (h:(0:Int)<(l.length:Int)):(0:Int)≤(x.toNat:Int) % (l.length:Int)∧(x.toNat:Int) % (l.length:Int)<(l.length:Int):=⟨Int.emod_nonneg _ (by omega),Int.emod_lt_of_pos _ h⟩
theorem rk7 {l:List Pair} (hj:(j:Int)<(([k]++rkW l wh i).length:Int)):I64 ((j:Int)+1):=by have:=rk5 (k:=k) (l:=l) (wh:=wh) (i:=i);unfold I64;omega
end
noncomputable def ccRP2_3:Code:=(Tryd.f3.body).getD .skip
theorem RelayProofs_ok (acts:List Act) (key wh:List UInt8) (hk:key.length≤140737488355328) (hwl:wh.length≤140737488355328):FOk EN 3 ⟨[.pr wordsP,.rd 70 acts,.rd 5 (key),.rd 5 (wh)],[.n 1,.n 2,.n 3],Unit,fun _=>([.pr wordsP,.rd 70 acts,.rd 5 (key),.rd 5 (wh)],.b true),fun _=>True⟩:=by
 refine v_fun Tryd.f3 ccRP2_3 MX (fun ν F σ w=>?_) Tryd.func3
 refine v_nl ?_
 refine v_call _ [] (Awake21_ok) True trivial (fun g1 p2=>?_)
 have p2:True:=p2
 refine v_if (!true) True trivial (fun h3=>?_) (fun h3=>?_)
 ·have h3:=(nt h3)
  contradiction
 ·have h3:=(nf h3)
  refine v_if (decide (96<(↑key.length:Int))) True trivial (fun h4=>?_) (fun h4=>?_)
  ·have h4:=of_decide_eq_true h4
   exact v_ret () [] ((true=true)∧(wordsP=wordsP)∧(acts=acts)∧(key=key)∧(wh=wh)) ⟨rfl,rfl,rfl,rfl,rfl⟩ trivial
  ·have h4:=of_decide_eq_false h4
   refine v_call _ [0,1] (Grow_ok (acts) (nat_lit 30) (by decide)) (((30:Int)=(↑(nat_lit 30):Int))∧(wordsP=wordsP)∧(acts=acts)) ⟨rfl,rfl,rfl⟩ (fun g5 p6=>?_)
   have p6:True:=p6
   refine v_loop (fun i:Nat=>([(40,.i i),(9,.n 8)],[.ow 23 ([key]++rkW (growT acts 30).2 wh i)])) (fun i=>i≤wh.length) (fun i=>wh.length - i) 0 [7] (((0:Int)=(↑(0:Nat):Int))∧([key]=[key]++rkW (growT acts 30).snd wh 0)) ⟨rfl,rfl⟩ (by omega) (fun i hk7=>?_)
   refine v_if (decide ((↑i:Int)<(↑wh.length:Int))) True trivial (fun h8=>?_) (fun h8=>?_)
   ·have h8:=of_decide_eq_true h8
    refine v_guard 47 (decide ((↑i:Int)<5)) ((0≤(↑i:Int)∧(↑i:Int)<(↑wh.length:Int))) (by omega) (fun h9=>?_) (fun h9=>?_)
    ·have h9:=of_decide_eq_true h9
     refine v_if (decide ((0:Int)<(↑(growT acts 30).snd.length:Int))) True trivial (fun h10=>?_) (fun h10=>?_)
     ·have h10:=of_decide_eq_true h10
      exact v_back (i+1) [14] (((0:Int)≤(↑(wh.getD (↑i:Int).toNat (0:UInt8)).toNat:Int)∧(0:Int)<(↑(growT acts 30).snd.length:Int))∧((0:Int)≤(↑(wh.getD (↑i:Int).toNat (0:UInt8)).toNat:Int) % (↑(growT acts 30).snd.length:Int)∧(↑(wh.getD (↑i:Int).toNat (0:UInt8)).toNat:Int) % (↑(growT acts 30).snd.length:Int)<(↑(growT acts 30).snd.length:Int))∧(([key]++rkW (growT acts 30).snd wh i).length+1≤1000000)∧(I64 (↑i+1))∧((↑i:Int)+1=(↑(i+1):Int))∧([key]++rkW (growT acts (30:Nat)).snd wh i++[((growT acts 30).snd.getD ((↑(wh.getD (↑i:Int).toNat (0:UInt8)).toNat:Int) % (↑(growT acts 30).snd.length:Int)).toNat (Pair.mk [] [])).key]=[key]++rkW (growT acts (30:Nat)).snd wh (i+(1:Nat)))) ⟨(by omega),(by exact rk6 ‹_›),(by exact rk4),(by(unfold I64;omega)),rfl,(by exact rk1 ‹_› ‹_›)⟩ (show i+1≤wh.length∧wh.length - (i+1)<wh.length - i from(by omega))
     ·have h10:=of_decide_eq_false h10
      exact v_back (i+1) [8] ((I64 (↑i+1))∧((↑i:Int)+1=(↑(i+1):Int))∧([key]++rkW (growT acts 30).snd wh i=[key]++rkW (growT acts 30).snd wh (i+1))) ⟨(by(unfold I64;omega)),rfl,(by exact rk3 ‹_›)⟩ (show i+1≤wh.length∧wh.length - (i+1)<wh.length - i from(by omega))
    ·have h9:=of_decide_eq_false h9
     exact v_back (i+1) [8] ((I64 (↑i+1))∧((↑i:Int)+1=(↑(i+1):Int))∧([key]++rkW (growT acts 30).snd wh i=[key]++rkW (growT acts 30).snd wh (i+1))) ⟨(by(unfold I64;omega)),rfl,(by exact rk2 ‹_›)⟩ (show i+1≤wh.length∧wh.length - (i+1)<wh.length - i from(by omega))
   ·have h8:=of_decide_eq_false h8
    refine v_leave (.ex 0) True trivial ?_
    refine v_loop (fun j:Nat=>([(67,.i j)],[])) (fun j=>j≤([key]++rkW (growT acts 30).2 wh i).length) (fun j=>([key]++rkW (growT acts 30).2 wh i).length - j) 0 [] (((0:Int)=(↑(0:Nat):Int))) rfl (by omega) (fun j hk11=>?_)
    refine v_if (decide ((↑j:Int)<(↑([key]++rkW (growT acts 30).snd wh i).length:Int))) True trivial (fun h12=>?_) (fun h12=>?_)
    ·have h12:=of_decide_eq_true h12
     refine v_call _ [9,5] (One_ok ((growT acts 30).fst) (([key]++rkW (growT acts 30).snd wh i).getD (↑j:Int).toNat []) (by exact gO_ok) (by exact gO_sz)) ((0≤(↑j:Int)∧(↑j:Int)<(↑([key]++rkW (growT acts 30).snd wh i).length:Int))∧(([key]++rkW (growT acts 30).snd wh i).getD (↑j:Int).toNat []=([key]++rkW (growT acts 30).snd wh i).getD (↑j:Int).toNat [])∧(PTO (growT acts 30).fst=PTO (growT acts 30).fst)∧(false=false)) ⟨(by omega),rfl,rfl,rfl⟩ (fun g13 p14=>?_)
     have p14:True:=p14
     refine v_call _ [9,5] (RGap_ok ((growT acts 30).fst) (([key]++rkW (growT acts 30).snd wh i).getD (↑j:Int).toNat []) (by exact gO_ok) (by exact gO_lv) (by exact gO_sz)) ((([key]++rkW (growT acts 30).snd wh i).getD (↑j:Int).toNat []=([key]++rkW (growT acts 30).snd wh i).getD (↑j:Int).toNat [])∧(PTO (growT acts 30).fst=PTO (growT acts 30).fst)∧(false=false)) ⟨rfl,rfl,rfl⟩ (fun g15 p16=>?_)
     have p16:True:=p16
     refine v_call _ [9,5] (Make_ok ((growT acts 30).fst) (([key]++rkW (growT acts 30).snd wh i).getD (↑j:Int).toNat []) (by exact gO_ok)) ((([key]++rkW (growT acts 30).snd wh i).getD (↑j:Int).toNat []=([key]++rkW (growT acts 30).snd wh i).getD (↑j:Int).toNat [])∧(PTO (growT acts 30).fst=PTO (growT acts 30).fst)∧(false=false)) ⟨rfl,rfl,rfl⟩ (fun g17 p18=>?_)
     have p18:True:=p18
     refine v_call _ [9,5] (None_ok ((growT acts 30).fst) (([key]++rkW (growT acts 30).snd wh i).getD (↑j:Int).toNat []) (by exact gO_ok) (by exact gO_lv)) ((([key]++rkW (growT acts 30).snd wh i).getD (↑j:Int).toNat []=([key]++rkW (growT acts 30).snd wh i).getD (↑j:Int).toNat [])∧(PTO (growT acts 30).fst=PTO (growT acts 30).fst)∧(false=false)) ⟨rfl,rfl,rfl⟩ (fun g19 p20=>?_)
     have p20:True:=p20
     refine v_call _ [13,14,15] (Encode_ok (mkP (([key]++rkW (growT acts (30:Nat)).snd wh i).getD (↑j:Int).toNat []) (growT acts 30).fst) (by exact sz1 gO_sz) (by exact sz2 gO_sz) (by exact sz3 gO_sz)) (((mkP (([key]++rkW (growT acts (30:Nat)).snd wh i).getD (↑j:Int).toNat []) (growT acts 30).fst).key=(mkP (([key]++rkW (growT acts (30:Nat)).snd wh i).getD (↑j:Int).toNat []) (growT acts 30).fst).key)∧((mkP (([key]++rkW (growT acts (30:Nat)).snd wh i).getD (↑j:Int).toNat []) (growT acts 30).fst).value=(mkP (([key]++rkW (growT acts (30:Nat)).snd wh i).getD (↑j:Int).toNat []) (growT acts 30).fst).value)∧((mkP (([key]++rkW (growT acts (30:Nat)).snd wh i).getD (↑j:Int).toNat []) (growT acts 30).fst).turns=(mkP (([key]++rkW (growT acts (30:Nat)).snd wh i).getD (↑j:Int).toNat []) (growT acts 30).fst).turns)) ⟨rfl,rfl,rfl⟩ (fun g21 p22=>?_)
     have p22:True:=p22
     refine v_call _ [17,18] (EncodeGap_ok ((gapL (([key]++rkW (growT acts (30:Nat)).snd wh i).getD (↑j:Int).toNat []) (growT acts 30).fst).fst) ((gapL (([key]++rkW (growT acts (30:Nat)).snd wh i).getD (↑j:Int).toNat []) (growT acts 30).fst).snd) (by exact sz4 gO_sz) (by exact sz5 gO_sz) (by exact sz6 gO_sz) (by exact sz7 gO_sz)) (((gapL (([key]++rkW (growT acts (30:Nat)).snd wh i).getD (↑j:Int).toNat []) (growT acts 30).fst).fst=(gapL (([key]++rkW (growT acts (30:Nat)).snd wh i).getD (↑j:Int).toNat []) (growT acts 30).fst).fst)∧((gapL (([key]++rkW (growT acts (30:Nat)).snd wh i).getD (↑j:Int).toNat []) (growT acts 30).fst).snd=(gapL (([key]++rkW (growT acts (30:Nat)).snd wh i).getD (↑j:Int).toNat []) (growT acts 30).fst).snd)) ⟨rfl,rfl⟩ (fun g23 p24=>?_)
     have p24:True:=p24
     refine v_call _ [6,9] (Find_ok ((growT acts 30).snd) (([key]++rkW (growT acts 30).snd wh i).getD (↑j:Int).toNat []) (by exact Nat.le_trans gP_len (by decide))) (((growT acts 30).snd=(growT acts 30).snd)∧(([key]++rkW (growT acts 30).snd wh i).getD (↑j:Int).toNat []=([key]++rkW (growT acts 30).snd wh i).getD (↑j:Int).toNat [])) ⟨rfl,rfl⟩ (fun g25 p26=>?_)
     have p26:True:=p26
     refine v_guard 105 (mkB (([key]++rkW (growT acts (30:Nat)).snd wh i).getD (↑j:Int).toNat []) (growT acts 30).fst != decide ((0:Int)≤findP (growT acts 30).snd (([key]++rkW (growT acts (30:Nat)).snd wh i).getD (↑j:Int).toNat []))) True trivial (fun h27=>?_) (fun h27=>?_)
     ·skip
      exfalso;exact(k_a ‹_›).elim
     ·skip
      refine v_guard 110 ((noneR (([key]++rkW (growT acts (30:Nat)).snd wh i).getD (↑j:Int).toNat []) (growT acts 30).fst).isSome == mkB (([key]++rkW (growT acts (30:Nat)).snd wh i).getD (↑j:Int).toNat []) (growT acts 30).fst) True trivial (fun h28=>?_) (fun h28=>?_)
      ·skip
       exfalso;exact(k_b ‹_›).elim
      ·skip
       refine v_guard 112 (mkB (([key]++rkW (growT acts (30:Nat)).snd wh i).getD (↑j:Int).toNat []) (growT acts 30).fst) True trivial (fun h29=>?_) (fun h29=>?_)
       ·skip
        refine v_guard 118 (decide (oneB (([key]++rkW (growT acts (30:Nat)).snd wh i).getD (↑j:Int).toNat []) (growT acts 30).fst≠encB (mkP (([key]++rkW (growT acts (30:Nat)).snd wh i).getD (↑j:Int).toNat []) (growT acts 30).fst))) True trivial (fun h30=>?_) (fun h30=>?_)
        ·have h30:=of_decide_eq_true h30
         exfalso;exact(k_c ‹_› ‹_›).elim
        ·have h30:=of_decide_eq_false h30
         refine v_guard 125 (decide ((0:Int)<(↑(gapB (([key]++rkW (growT acts (30:Nat)).snd wh i).getD (↑j:Int).toNat []) (growT acts 30).fst).length:Int))) True trivial (fun h31=>?_) (fun h31=>?_)
         ·have h31:=of_decide_eq_true h31
          exfalso;exact(k_d ‹_› ‹_›).elim
         ·have h31:=of_decide_eq_false h31
          refine v_guard 127 ((noneR (([key]++rkW (growT acts (30:Nat)).snd wh i).getD (↑j:Int).toNat []) (growT acts 30).fst).isSome) True trivial (fun h32=>?_) (fun h32=>?_)
          ·skip
           refine v_guard 133 (decide (gapB (([key]++rkW (growT acts (30:Nat)).snd wh i).getD (↑j:Int).toNat []) (growT acts 30).fst≠egB (gapL (([key]++rkW (growT acts (30:Nat)).snd wh i).getD (↑j:Int).toNat []) (growT acts 30).fst).fst (gapL (([key]++rkW (growT acts (30:Nat)).snd wh i).getD (↑j:Int).toNat []) (growT acts 30).fst).snd)) True trivial (fun h33=>?_) (fun h33=>?_)
           ·have h33:=of_decide_eq_true h33
            exfalso;exact(k_e ‹_› ‹_›).elim
           ·have h33:=of_decide_eq_false h33
            refine v_if (decide ((0:Int)<(↑(oneB (([key]++rkW (growT acts (30:Nat)).snd wh i).getD (↑j:Int).toNat []) (growT acts 30).fst).length:Int))) True trivial (fun h34=>?_) (fun h34=>?_)
            ·have h34:=of_decide_eq_true h34
             exfalso;exact(k_f ‹_› ‹_›).elim
            ·have h34:=of_decide_eq_false h34
             exact v_back (j+1) [] ((I64 (↑j+1))∧((↑j:Int)+1=(↑(j+1):Int))) ⟨(by exact rk7 ‹_›),rfl⟩ (show j+1≤([key]++rkW (growT acts 30).snd wh i).length∧([key]++rkW (growT acts 30).snd wh i).length - (j+1)<([key]++rkW (growT acts 30).snd wh i).length - j from(by omega))
          ·skip
           exact v_back (j+1) [] ((I64 (↑j+1))∧((↑j:Int)+1=(↑(j+1):Int))) ⟨(by exact rk7 ‹_›),rfl⟩ (show j+1≤([key]++rkW (growT acts 30).snd wh i).length∧([key]++rkW (growT acts 30).snd wh i).length - (j+1)<([key]++rkW (growT acts 30).snd wh i).length - j from(by omega))
       ·skip
        refine v_guard 127 ((noneR (([key]++rkW (growT acts (30:Nat)).snd wh i).getD (↑j:Int).toNat []) (growT acts 30).fst).isSome) True trivial (fun h35=>?_) (fun h35=>?_)
        ·skip
         refine v_guard 133 (decide (gapB (([key]++rkW (growT acts (30:Nat)).snd wh i).getD (↑j:Int).toNat []) (growT acts 30).fst≠egB (gapL (([key]++rkW (growT acts (30:Nat)).snd wh i).getD (↑j:Int).toNat []) (growT acts 30).fst).fst (gapL (([key]++rkW (growT acts (30:Nat)).snd wh i).getD (↑j:Int).toNat []) (growT acts 30).fst).snd)) True trivial (fun h36=>?_) (fun h36=>?_)
         ·have h36:=of_decide_eq_true h36
          exfalso;exact(k_e ‹_› ‹_›).elim
         ·have h36:=of_decide_eq_false h36
          refine v_if (decide ((0:Int)<(↑(oneB (([key]++rkW (growT acts (30:Nat)).snd wh i).getD (↑j:Int).toNat []) (growT acts 30).fst).length:Int))) True trivial (fun h37=>?_) (fun h37=>?_)
          ·have h37:=of_decide_eq_true h37
           exfalso;exact(k_f ‹_› ‹_›).elim
          ·have h37:=of_decide_eq_false h37
           exact v_back (j+1) [] ((I64 (↑j+1))∧((↑j:Int)+1=(↑(j+1):Int))) ⟨(by exact rk7 ‹_›),rfl⟩ (show j+1≤([key]++rkW (growT acts 30).snd wh i).length∧([key]++rkW (growT acts 30).snd wh i).length - (j+1)<([key]++rkW (growT acts 30).snd wh i).length - j from(by omega))
        ·skip
         exact v_back (j+1) [] ((I64 (↑j+1))∧((↑j:Int)+1=(↑(j+1):Int))) ⟨(by exact rk7 ‹_›),rfl⟩ (show j+1≤([key]++rkW (growT acts 30).snd wh i).length∧([key]++rkW (growT acts 30).snd wh i).length - (j+1)<([key]++rkW (growT acts 30).snd wh i).length - j from(by omega))
    ·have h12:=of_decide_eq_false h12
     refine v_leave (.ex 2) True trivial ?_
     refine v_call _ [0,5,8] (MakeT_ok ((growT acts 30).fst) ([key]++rkW (growT acts 30).snd wh i) (by exact gO_ok) (by exact gO_srt) (by exact gO_lv) (by exact rk5)) ((wordsP=wordsP)∧(PTO (growT acts 30).fst=PTO (growT acts 30).fst)∧(false=false)∧([key]++rkW (growT acts 30).snd wh i=[key]++rkW (growT acts 30).snd wh i)) ⟨rfl,rfl,rfl,rfl⟩ (fun g38 p39=>?_)
     have p39:True:=p39
     refine v_call _ [9] (TEncode_ok (mkT (growT acts 30).fst ([key]++rkW (growT acts (30:Nat)).snd wh i)) (by exact gO_tc.1) (by exact gO_tc.2)) ((mkT (growT acts 30).fst ([key]++rkW (growT acts (30:Nat)).snd wh i)=mkT (growT acts 30).fst ([key]++rkW (growT acts (30:Nat)).snd wh i))) rfl (fun g40 p41=>?_)
     have p41:True:=p41
     refine v_plan (.fs [0,1,4,5] (.o 2 (.fs [3,6,7] .e))) [6,8,9,10] True trivial ?_
     refine v_call _ [0,5,8] (Many_ok ((growT acts 30).fst) ([key]++rkW (growT acts 30).snd wh i) (by exact gO_ok) (by exact gO_srt) (by exact gO_lv) (by exact rk5) (by exact gO_tc.1) (by exact gO_tc.2)) ((wordsP=wordsP)∧(PTO (growT acts 30).fst=PTO (growT acts 30).fst)∧(false=false)∧([key]++rkW (growT acts 30).snd wh i=[key]++rkW (growT acts 30).snd wh i)) ⟨rfl,rfl,rfl,rfl⟩ (fun g42 p43=>?_)
     have p43:True:=p43
     exact v_ret () [] ((decide (teB (mkT (growT acts 30).fst ([key]++rkW (growT acts (30:Nat)).snd wh i))=teB (mkT (growT acts 30).fst ([key]++rkW (growT acts (30:Nat)).snd wh i)))=true)∧(wordsP=wordsP)∧(acts=acts)∧(key=key)∧(wh=wh)) ⟨(by exact decide_eq_true rfl),rfl,rfl,rfl,rfl⟩ trivial
end Go.Proofs.YtkpnjjacbhicgaaDoor.X
set_option linter.unusedVariables false
set_option linter.unusedSimpArgs false
namespace Go.Proofs.YtkpnjjacbhicgaaDoor.X
open Go Go.RowKit Go.Proofs.YtkpnjjacbhicgaaDoor.E
def OpF {α:Type} (P:Program) (t:TypeId) (fs:Array Go.Field) (off:Nat) (T:Ty α):Prop :=
  ∀(w:World) (cs:List Value),cs.length=P.cellsOf t→(∀(i:Nat) (f:Go.Field),fs[i]? = some f→∀ {β:Type} {U:Ty β},E.Opens P f.type U→∀ o sz,f.offset=o→P.cellsOf f.type=sz→∃ a,U.rep (sig0 w) w a ((cs.drop o).take sz))→∃ a,T.rep (sig0 w) w a (cs.drop off)
section
variable {α β:Type} {P:Program} {t:TypeId} {fs:Array Go.Field} {off n:Nat} {A:Ty α} {B:Ty β} {f:Go.Field}
theorem opF_cons (i:Nat) (hf:fs[i]? = some f) (ho:f.offset=off) (O:E.Opens P f.type A) (hs:P.cellsOf f.type=n) (hB:OpF P t fs (off+n) B):OpF P t fs off (tProd A B):=by
  intro w cs hl h
  obtain⟨a,ha⟩:=h i f hf O off n ho hs
  obtain⟨b,hb⟩:=hB w cs hl h
  exact⟨(a,b),_,_,by rw[← List.drop_drop];exact(List.take_append_drop n _).symm,ha,hb⟩
theorem opF_last (i:Nat) (hf:fs[i]? = some f) (ho:f.offset=off) (O:E.Opens P f.type A) (hs:P.cellsOf f.type=n) (tot:P.cellsOf t=off+n):OpF P t fs off A:=by
  intro w cs hl h
  obtain⟨a,ha⟩:=h i f hf O off n ho hs
  rw[List.take_of_length_le (by rw[List.length_drop];omega)] at ha
  exact⟨a,ha⟩
theorem opens_rec (ht:P.underlying t=some (.struct fs)) (h:OpF P t fs 0 A):E.Opens P t A:=by
  intro H enc w sp held fuel cs x hx hw
  obtain⟨hl,hf⟩:=opens_field ht hx hw
  obtain⟨a,ha⟩:=h w cs hl (fun i f hi β U O o sz ho hs=>hf i f hi O o sz ho hs)
  exact⟨a,by simpa using ha⟩
theorem opens_by (n:Nat) (h:E.Opens P t A):E.Opens P t (tBy A n):=h
theorem opens_iso {g:β→α} (k:α→β) (hg:∀ b,g (k b)=b) (h:E.Opens P t A):E.Opens P t (tIso g A):=by
  intro H enc w sp held fuel cs x hx hw
  obtain⟨b,hb⟩:=h hx hw
  exact⟨k b,by show A.rep _ _ (g (k b)) _;rw[hg];exact hb⟩
end
theorem rd_u8_len {σ:Nat→Nat} {w:World} {v:Value} {xs:List UInt8} (h:Rd tU8 σ w v xs):xs.length≤140737488355328:=by
  have:=h.bd;rwa [show tU8.by_=1 from rfl,Nat.mul_one] at this
end Go.Proofs.YtkpnjjacbhicgaaDoor.X
set_option linter.unusedVariables false
set_option maxRecDepth 100000
namespace Go.Proofs.YtkpnjjacbhicgaaDoor.X
open Go Go.RowKit Go.Proofs.YtkpnjjacbhicgaaDoor.E
theorem opAct:E.Opens Tryd.prog 70 tAct:=opens_by 56 (opens_iso (fun p=>⟨p.1,p.2.1,p.2.2.1,p.2.2.2⟩) (fun _=>rfl) (opens_rec Tryd.underlying70 (opF_cons (n:=1) 0 rfl rfl (opens_u8 Tryd.underlying5) (by kernel_rfl) (opF_cons (n:=1) 1 rfl rfl (opens_u8 Tryd.underlying5) (by kernel_rfl) (opF_cons (n:=1) 2 rfl rfl (opens_slice (T:=tU8) Tryd.underlying23 (by kernel_rfl) (by kernel_rfl) (by decide) (opens_u8 Tryd.underlying5)) (by kernel_rfl) (opF_last (n:=1) 3 rfl rfl (opens_slice (T:=tU8) Tryd.underlying23 (by kernel_rfl) (by kernel_rfl) (by decide) (opens_u8 Tryd.underlying5)) (by kernel_rfl) (by kernel_rfl)))))))
end Go.Proofs.YtkpnjjacbhicgaaDoor.X
