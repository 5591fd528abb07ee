/- What the law MultiMany needs: the engine, the walks of what it reaches, plain laws; part 5. -/
import Derived.Test.YtnicmjipbnhciaaDoorMultiManyM4
import Derived.OpenShut
set_option linter.unnecessarySimpa false
set_option linter.deprecated false
set_option linter.unusedVariables false
set_option linter.unusedSimpArgs false
set_option maxRecDepth 100000
namespace Go.Proofs.YtnicmjipbnhciaaDoor.X
open Go Go.RowKit Go.Proofs Go.Proofs.YtnicmjipbnhciaaDoor.E
def itL (l:List Pair):List Item:=l.map fun p=>⟨false,p.key,p.value⟩
def lkP (k:List UInt8):List Pair→List UInt8 × Bool
  | []=>([],false)
  | x::r=>if x.key=k then(x.value,true) else lkP k r
theorem lkP_none {k:List UInt8}:∀ {l:List Pair},(∀ p∈l,p.key≠k)→lkP k l=([],false)
  | [],_=>rfl
  | x::r,h=>by unfold lkP;rw[if_neg (h x (List.mem_cons_self ..))];exact lkP_none fun p hp=>h p (List.mem_cons_of_mem _ hp)
theorem getI_all {k:List UInt8}:∀ {l:List Pair},Srt l→getI k true (itL l)=((lkP k l).1,(lkP k l).2,true)
  | [],_=>rfl
  | x :: r, h => by
    obtain⟨h1,h2⟩:=List.pairwise_cons.1 h
    have ih:=getI_all (k:=k) h2
    show getI k true (⟨false,x.key,x.value⟩::itL r)=_
    unfold getI;rw[if_neg (by simp)]
    dsimp only
    by_cases c:x.key=k
    · rw[if_pos (cmp_zero.2 c)];unfold lkP;rw[if_pos c]
    · rw [if_neg (fun e => c (cmp_zero.1 e))]
      by_cases c2:0<Lib.compareBytes x.key k
      · rw [if_pos c2]
        have hk:klt k x.key:=by unfold klt;have:=cmp_anti k x.key;omega
        have hn:=lkP_none (k:=k) (l:=x::r) fun p hp=>by
          rcases List.mem_cons.1 hp with rfl | hp
          · exact c
          · exact fun e=>klt_ne (klt_trans hk (h1 p hp)) e.symm
        rw[hn]
      · rw [if_neg c2, ih]
        show _=((if x.key=k then(x.value,true) else lkP k r).1,(if x.key=k then(x.value,true) else lkP k r).2,true)
        rw[if_neg c]
theorem lkP_mem {k:List UInt8}:∀ {l:List Pair},Srt l→∀ p∈l,p.key=k→lkP k l=(p.value,true)
  | x :: r, h, p, hp, hk => by
    obtain⟨h1,h2⟩:=List.pairwise_cons.1 h
    unfold lkP
    rcases List.mem_cons.1 hp with rfl | hp
    · rw[if_pos hk]
    · rw[if_neg (fun e=>klt_ne (h1 p hp) (e.trans hk.symm))];exact lkP_mem h2 p hp hk
theorem tg_lk {t:Tr} (hs:Srt t.leaves) (k:List UInt8):(tgV (some t) k,tgB (some t) k)=lkP k t.leaves:=by
  unfold tgV tgB;dsimp only
  by_cases c:(t.fin k).key=k
  · rw[if_pos c,decide_eq_true c,lkP_mem hs _ (Tr.fin_mem k t) c]
  · rw[if_neg c,decide_eq_false c,lkP_none fun p hp e=>c ((Tr.fin_key_iff hs).2 ⟨p,hp,e⟩)]
theorem wan_all {l:List Pair} (hs:Srt l):wanL l (ksP l)=ksP l:=by
  have hsk:(ksP l).Pairwise klt:=by unfold ksP;rw[List.pairwise_map];exact hs
  refine ded_eq (wanL_srt _ _) hsk fun x=>?_
  rw[wanL_mem]
  have hw:∀ i,i<l.length→wan1 l (l.getD i dP).key=[(l.getD i dP).key]:=fun i hi=>by
    have hc:=cnt_at hs hi rfl
    have hf:fndP l (l.getD i dP).key=true:=by unfold fndP;rw[hc,decide_eq_true hi];simp
    unfold wan1;rw[if_pos hf,hc]
  constructor
  · rintro ⟨k, hk, hx⟩
    obtain⟨p,hp,rfl⟩:=List.mem_map.1 hk
    obtain⟨i,hi,rfl⟩:=List.mem_iff_getElem.1 hp
    have:=hw i hi;rw[getD_eq hi] at this
    rw[this,List.mem_singleton] at hx;subst hx;exact hk
  · intro hx
    obtain⟨p,hp,rfl⟩:=List.mem_map.1 hx
    obtain⟨i,hi,rfl⟩:=List.mem_iff_getElem.1 hp
    have:=hw i hi;rw[getD_eq hi] at this
    exact⟨_,hx,by rw[this];exact List.mem_singleton_self _⟩
theorem its_all:∀ t:Tr,Srt t.leaves→t.its (ksP t.leaves)=itL t.leaves
  | .leaf k v,_=>rfl
  | .node l r, hs => by
    have ll:(Tr.node l r).leaves=l.leaves++r.leaves:=rfl
    have hsl:Srt l.leaves:=(List.pairwise_append.1 (ll ▸ hs)).1
    have hsr:Srt r.leaves:=(List.pairwise_append.1 (ll ▸ hs)).2.1
    have hk:ksP (Tr.node l r).leaves=ksP l.leaves++ksP r.leaves:=by unfold ksP;rw[ll,List.map_append]
    have hc:cntB r.least (ksP (Tr.node l r).leaves)=(ksP l.leaves).length:=by
      rw[hk]
      refine cnt_of (by rw[List.length_append];omega) (fun a ha=>?_) fun hn=>?_
      · rw [List.getD_eq_getElem?_getD, List.getElem?_append_left ha, ← List.getD_eq_getElem?_getD, ksP_get]
        rw[ksP_len] at ha
        exact Tr.left_of hs (by rw[getD_eq ha];exact List.getElem_mem ha)
      · rw [List.getD_eq_getElem?_getD, List.getElem?_append_right (Nat.le_refl _), ← List.getD_eq_getElem?_getD, Nat.sub_self, ksP_get]
        exact Tr.right_of hsr (by rw[getD_eq r.leaves_pos];exact List.getElem_mem _)
    have hne:(ksP (Tr.node l r).leaves).isEmpty=false:=by
      have:=(Tr.node l r).leaves_pos;rw[← ksP_len] at this
      cases h:ksP (Tr.node l r).leaves with
      | nil=>rw[h] at this;simp at this
      | cons=>rfl
    unfold Tr.its;rw[hne,if_neg (by decide),hc,hk,List.take_left,List.drop_left,its_all l hsl,its_all r hsr,ll]
    unfold itL;rw[List.map_append]
theorem pcs_nil (t:Tr) (l:List Pair):t.pcs (wanL l [])=[kHid t.hash]:=by cases t <;> rfl
section
variable {acts:List Act} {m:Nat} {k:List UInt8}
abbrev myC (acts:List Act) (m:Nat):Option Er × List Item:=chkR (hashO (gO1 acts m)) (mkT (gO1 acts m) (ksP (gL1 acts m)))
theorem my_C (hm:m≤64):myC acts m=(none,itL (gL1 acts m)):=by
  have hs:=mm_srt (acts:=acts) (m:=m);have hf:=(growT_fine acts m hm).2.1;have hg:=mm_gt (acts:=acts) hm
  have hmk:=mm_mk (acts:=acts) (ks:=ksP (gL1 acts m)) hm
  unfold myC;rw[mm_eq];rw[mm_eq] at hmk
  cases e:gO1 acts m with
  | none=>exact(by unfold chkR;rw[if_neg (by decide),if_pos ⟨rfl,rfl⟩]:chkR (sum256 []) []=(none,[]))
  | some t =>
    rw[e] at hs hg hmk
    have hf':lvOk t.leaves:=by rw[show(growT acts m).1=some t from e] at hf;exact hf
    have hd:=t.height_depth;have hg2:t.depth≤64:=hg.2.2.2
    show chkR t.hash (t.pcs (wanL t.leaves (ksP t.leaves)))=(none,itL t.leaves)
    rw[chk_make hs hf' (by omega) _ (by have:(t.pcs (wanL t.leaves (ksP t.leaves))).length≤200:=hmk;omega),wan_all (l:=t.leaves) hs,its_all t hs]
theorem my_fo (hm:m≤64):fo (myC acts m)=some (itL (gL1 acts m)):=by rw[my_C hm];rfl
theorem my_len (hm:m≤64):((fo (myC acts m)).getD []).length≤100000:=by
  rw[my_fo hm];show(itL _).length≤_;unfold itL;rw[List.length_map];exact Nat.le_trans (mm_len hm) (by decide)
theorem my_val (hm:m≤64):∀ x∈(fo (myC acts m)).getD [],x.value.length≤1000:=by
  rw[my_fo hm];intro x hx
  obtain⟨p,hp,rfl⟩:=List.mem_map.1 (show x∈itL _ from hx)
  have:=((growT_fine acts m hm).2.1 p (by rw[← mm_eq];exact hp)).2
  show p.value.length≤1000;omega
theorem my_get (hm:m≤64) (h96:¬ 96<(k.length:Int)):getF (fo (myC acts m)) k=(tgV (gO1 acts m) k,tgB (gO1 acts m) k,decide (0<(k.length:Int))):=by
  rw[my_fo hm]
  have hs:=mm_srt (acts:=acts) (m:=m);have hlv:=(growT_fine acts m hm).2.1
  by_cases h0:(k.length:Int)=0
  · rw [gf1 (.inl h0), decide_eq_false (by omega)]
    have hk:k=[]:=List.eq_nil_of_length_eq_zero (by omega)
    subst hk
    cases e:gO1 acts m with
    | none=>rfl
    | some t =>
      rw[e] at hs
      have hf':lvOk t.leaves:=by rw[show(growT acts m).1=some t from e] at hlv;exact hlv
      have:=tg_lk hs []
      rw[lkP_none fun p hp e=>by have:=(hf' p hp).1.1;rw[e] at this;simp at this] at this
      injection this with a b;rw[a,b]
  · rw [gf2 h0 h96, decide_eq_true (by omega), mm_eq]
    cases e:gO1 acts m with
    | none=>rfl
    | some t =>
      rw[e] at hs
      have:=tg_lk hs k
      rw[show leavesO (some t)=t.leaves from rfl,getI_all (l:=t.leaves) hs,← this]
variable {i:Nat}
theorem my_ti (h:¬ (i:Int)<((gL1 acts m).length:Int)):(ksP (gL1 acts m)).take i=ksP (gL1 acts m):=List.take_of_length_le (by rw[ksP_len];omega)
abbrev myD (acts:List Act) (m i:Nat):Option Er × List Item:=chkR (hashO (gO1 acts m)) (mkT (gO1 acts m) ((ksP (gL1 acts m)).take i))
theorem my_D (h:¬ (i:Int)<((gL1 acts m).length:Int)):myD acts m i=myC acts m:=by unfold myD;rw[my_ti h]
theorem my_1 (hm:m≤64) (h:¬ (i:Int)<((gL1 acts m).length:Int)):(myD acts m i).1.isNone=true:=by rw[my_D h,my_C hm];rfl
theorem my_2 (hm:m≤64) (h:¬ (i:Int)<((gL1 acts m).length:Int)):((fo (myD acts m i)).getD []).length≤100000:=by rw[my_D h];exact my_len hm
theorem my_3 (hm:m≤64) (h:¬ (i:Int)<((gL1 acts m).length:Int)):∀ x∈(fo (myD acts m i)).getD [],x.value.length≤1000:=by rw[my_D h];exact my_val hm
theorem my_4 (hm:m≤64) (h:¬ (i:Int)<((gL1 acts m).length:Int)) (h96:¬ 96<(k.length:Int)):((getF (fo (myD acts m i)) k).2.2 == decide (0<(k.length:Int)))=true:=by rw[my_D h,my_get hm h96];exact beq_self_eq_true _
theorem my_5 (hm:m≤64) (h:¬ (i:Int)<((gL1 acts m).length:Int)) (h96:¬ 96<(k.length:Int)):((getF (fo (myD acts m i)) k).2.1 == tgB (gO1 acts m) k)=true:=by rw[my_D h,my_get hm h96];exact beq_self_eq_true _
theorem my_6 (hm:m≤64) (h:¬ (i:Int)<((gL1 acts m).length:Int)) (h96:¬ 96<(k.length:Int)):decide ((getF (fo (myD acts m i)) k).1=tgV (gO1 acts m) k)=true:=by rw[my_D h,my_get hm h96];exact decide_eq_true rfl
theorem my_7 (h:0<((gL1 acts m).length:Int)):mkT (gO1 acts m) []=[kHid (hashO (gO1 acts m))]:=by
  have he:=mm_eq (acts:=acts) (m:=m)
  cases e:gO1 acts m with
  | none=>rw[e] at he;rw[he] at h;simp[leavesO] at h
  | some t=>exact pcs_nil t t.leaves
theorem my_8 (h:0<((gL1 acts m).length:Int)):((mkT (gO1 acts m) []).length:Int)=1:=by rw[my_7 h];rfl
theorem my_9 (h:0<((gL1 acts m).length:Int)):((mkT (gO1 acts m) []).getD 0 kT0).kind=1:=by rw[my_7 h];rfl
theorem my_10 (h:0<((gL1 acts m).length:Int)):((mkT (gO1 acts m) []).getD 0 kT0).hash.l=hashO (gO1 acts m):=by rw[my_7 h];exact mk32_of (hashO_len _)
theorem my_11 (hm:m≤64):((ksP (gL1 acts m)).take i).length+1≤100000:=by rw[List.length_take,ksP_len];have:=mm_len (acts:=acts) hm;omega
theorem my_12 (h:(i:Int)<((gL1 acts m).length:Int)):(ksP (gL1 acts m)).take i++[((gL1 acts m).getD (i:Int).toNat dP).key]=(ksP (gL1 acts m)).take (i+1):=by
  rw[take_succ_getD (by rw[ksP_len];omega),ksP_get];rfl
theorem my_13 (hm:m≤64) (h:(i:Int)<((gL1 acts m).length:Int)):I64 ((i:Int)+1):=by have:=mm_len (acts:=acts) hm;unfold I64;omega
end
noncomputable def ccN6_12:Code:=(Tryd.f12.body).getD .skip
theorem MultiMany_ok (acts:List Act) (k:List UInt8):FOk EN 12 ⟨[.pr wordsP,.rd 133 acts,.rd 5 (k)],[.n 1,.n 2],Unit,fun _=>([.pr wordsP,.rd 133 acts,.rd 5 (k)],.b true),fun _=>True⟩:=by
 refine v_fun Tryd.f12 ccN6_12 MX (fun ν F σ w=>?_) Tryd.func12
 refine v_nl ?_
 refine v_call _ [0] (Awake10_ok) ((wordsP=wordsP)) rfl (fun g1 p2=>?_)
 have p2:True:=p2
 refine v_if (!true) True trivial (fun h3=>?_) (fun h3=>?_)
 ·have h3:=(nt h3)
  contradiction
 ·have h3:=(nf h3)
  refine v_call _ [0,1] (Grow_ok (acts) (nat_lit 50) (by decide)) (((50:Int)=(↑(nat_lit 50):Int))∧(wordsP=wordsP)∧(acts=acts)) ⟨rfl,rfl,rfl⟩ (fun g4 p5=>?_)
  have p5:True:=p5
  refine v_loop (fun i:Nat=>([(27,.i i),(7,.n 6)],[.ow 22 ((ksP (growT acts 50).2).take i)])) (fun i=>i≤(growT acts 50).2.length) (fun i=>(growT acts 50).2.length - i) 0 [3] (((0:Int)=(↑(0:Nat):Int))∧([]=List.take 0 (ksP (growT acts 50).snd))) ⟨rfl,rfl⟩ (by omega) (fun i hk6=>?_)
  refine v_if (decide ((↑i:Int)<(↑(growT acts (nat_lit 50)).snd.length:Int))) True trivial (fun h7=>?_) (fun h7=>?_)
  ·have h7:=of_decide_eq_true h7
   exact v_back (i+1) [12] (((0:Int)≤(↑i:Int)∧(↑i:Int)<(↑(growT acts (nat_lit 50)).snd.length:Int))∧((List.take i (ksP (growT acts 50).snd)).length+1≤1000000)∧(I64 (↑i+1))∧((↑i:Int)+1=(↑(i+1):Int))∧(List.take i (ksP (growT acts (50:Nat)).snd)++[((growT acts (nat_lit 50)).snd.getD (↑i:Int).toNat (Pair.mk [] [])).key]=List.take (i+(1:Nat)) (ksP (growT acts (50:Nat)).snd))) ⟨(by omega),(by exact Nat.le_trans (my_11 (m:=50) (by decide)) (by decide)),(by exact my_13 (m:=50) (by decide) ‹_›),rfl,(by exact my_12 (m:=50) ‹_›)⟩ (show i+1≤(growT acts 50).snd.length∧(growT acts 50).snd.length - (i+1)<(growT acts 50).snd.length - i from(by exact ms_b ‹_›))
  ·have h7:=of_decide_eq_false h7
   refine v_leave (.ex 0) True trivial ?_
   refine v_call _ [0,4] (Root_ok ((growT acts (nat_lit 50)).fst)) ((wordsP=wordsP)∧(PTO (growT acts (nat_lit 50)).fst=PTO (growT acts (nat_lit 50)).fst)∧(false=false)) ⟨rfl,rfl,rfl⟩ (fun g8 p9=>?_)
   have p9:True:=p9
   refine v_call _ [0,4,6] (MakeT_ok ((growT acts (nat_lit 50)).fst) (List.take i (ksP (growT acts 50).snd)) (by exact(growT_fine acts 50 (by decide)).O) (by exact mm_srt) (by exact Nat.le_trans (mm_lv (m:=50) (by decide)) (by decide)) (by exact Nat.le_trans (Nat.le_succ _) (my_11 (m:=50) (by decide)))) ((wordsP=wordsP)∧(PTO (growT acts (nat_lit 50)).fst=PTO (growT acts (nat_lit 50)).fst)∧(false=false)∧(List.take i (ksP (growT acts 50).snd)=List.take i (ksP (growT acts 50).snd))) ⟨rfl,rfl,rfl,rfl⟩ (fun g10 p11=>?_)
   have p11:True:=p11
   refine v_call _ [0,7] (Check_ok (hashO (growT acts (nat_lit 50)).fst) (mkT (growT acts (nat_lit 50)).fst (List.take i (ksP (growT acts (50:Nat)).snd))) (by exact hashO_len _) (by exact Nat.le_trans (mm_mk (m:=50) (by decide)) (by decide))) ((hashO (growT acts (nat_lit 50)).fst=hashO (growT acts (nat_lit 50)).fst)∧(wordsP=wordsP)∧(mkT (growT acts (nat_lit 50)).fst (List.take i (ksP (growT acts (50:Nat)).snd))=mkT (growT acts (nat_lit 50)).fst (List.take i (ksP (growT acts (50:Nat)).snd)))) ⟨rfl,rfl,rfl⟩ (fun g12 p13=>?_)
   have p13:True:=p13
   refine v_guard 48 (!(chkR (hashO (growT acts (nat_lit 50)).fst) (mkT (growT acts (nat_lit 50)).fst (List.take i (ksP (growT acts (50:Nat)).snd)))).fst.isNone) True trivial (fun h14=>?_) (fun h14=>?_)
   ·have h14:=(nt h14)
    exfalso;exact Bool.noConfusion ((my_1 (m:=50) (i:=i) (by decide) ‹_›).symm.trans ‹_›)
   ·have h14:=(nf h14)
    refine v_if (decide (96<(↑k.length:Int))) True trivial (fun h15=>?_) (fun h15=>?_)
    ·have h15:=of_decide_eq_true h15
     exact v_ret () [] (((chkR (hashO (growT acts (nat_lit 50)).fst) (mkT (growT acts (nat_lit 50)).fst (List.take i (ksP (growT acts (50:Nat)).snd)))).fst.isNone=true)∧(wordsP=wordsP)∧(acts=acts)∧(k=k)) ⟨‹_›,rfl,rfl,rfl⟩ trivial
    ·have h15:=of_decide_eq_false h15
     refine v_call _ [8,2] (Get_ok (fo (chkR (hashO (growT acts (nat_lit 50)).fst) (mkT (growT acts (nat_lit 50)).fst (List.take i (ksP (growT acts (50:Nat)).snd))))) (k) (by exact my_2 (m:=50) (i:=i) (by decide) ‹_›) (by exact my_3 (m:=50) (i:=i) (by decide) ‹_›)) ((PF (fo (chkR (hashO (growT acts (nat_lit 50)).fst) (mkT (growT acts (nat_lit 50)).fst (List.take i (ksP (growT acts (50:Nat)).snd)))))=PF (fo (chkR (hashO (growT acts (nat_lit 50)).fst) (mkT (growT acts (nat_lit 50)).fst (List.take i (ksP (growT acts (50:Nat)).snd))))))∧((fo (chkR (hashO (growT acts (nat_lit 50)).fst) (mkT (growT acts (nat_lit 50)).fst (List.take i (ksP (growT acts (50:Nat)).snd))))).isNone=(fo (chkR (hashO (growT acts (nat_lit 50)).fst) (mkT (growT acts (nat_lit 50)).fst (List.take i (ksP (growT acts (50:Nat)).snd))))).isNone)∧(k=k)) ⟨rfl,rfl,rfl⟩ (fun g16 p17=>?_)
     have p17:True:=p17
     refine v_call _ [4,2] (tGet_ok ((growT acts (nat_lit 50)).fst) (k) (by exact(growT_fine acts 50 (by decide)).O)) ((PTO (growT acts (nat_lit 50)).fst=PTO (growT acts (nat_lit 50)).fst)∧(false=false)∧(k=k)) ⟨rfl,rfl,rfl⟩ (fun g18 p19=>?_)
     have p19:True:=p19
     refine v_call _ [0,4,3] (MakeT_ok ((growT acts (nat_lit 50)).fst) ([]) (by exact(growT_fine acts 50 (by decide)).O) (by exact mm_srt) (by exact Nat.le_trans (mm_lv (m:=50) (by decide)) (by decide)) (by decide)) ((wordsP=wordsP)∧(PTO (growT acts (nat_lit 50)).fst=PTO (growT acts (nat_lit 50)).fst)∧(false=false)∧(Eq (α:=List (List UInt8)) [] [])) ⟨rfl,rfl,rfl,rfl⟩ (fun g20 p21=>?_)
     have p21:True:=p21
     refine v_plan (.fs [0,1,2,3,4,5,6,7,8,9,10,11,12,13,14,15,16,17,18,19] (.o 20 (.fs [21,22,23] .e))) [5,6,7,12] True trivial ?_
     refine v_guard 73 (decide ((0:Int)<(↑(growT acts (nat_lit 50)).snd.length:Int))) True trivial (fun h22=>?_) (fun h22=>?_)
     ·have h22:=of_decide_eq_true h22
      refine v_guard 77 (decide ((↑(mkT (growT acts (nat_lit 50)).fst []).length:Int)≠(1:Int))) True trivial (fun h23=>?_) (fun h23=>?_)
      ·have h23:=of_decide_eq_true h23
       exfalso;exact absurd (my_8 (m:=50) ‹_›) ‹_›
      ·have h23:=of_decide_eq_false h23
       refine v_guard 84 (decide (((mkT (growT acts (nat_lit 50)).fst []).getD (0:Nat) (Token.mk (0:UInt8) zero32 [] [] (0:Int) (0:UInt64))).kind≠(1:UInt8))) (((0:Int)≤(0:Int)∧(0:Int)<(↑(mkT (growT acts (nat_lit 50)).fst []).length:Int))) (by omega) (fun h24=>?_) (fun h24=>?_)
       ·have h24:=of_decide_eq_true h24
        exfalso;exact absurd (my_9 (m:=50) ‹_›) ‹_›
       ·have h24:=of_decide_eq_false h24
        refine v_call _ [0,4] (Root_ok ((growT acts (nat_lit 50)).fst)) (((0:Int)≤(0:Int)∧(0:Int)<(↑(mkT (growT acts (nat_lit 50)).fst []).length:Int))∧(wordsP=wordsP)∧(PTO (growT acts (nat_lit 50)).fst=PTO (growT acts (nat_lit 50)).fst)∧(false=false)) ⟨(by omega),rfl,rfl,rfl⟩ (fun g25 p26=>?_)
        have p26:True:=p26
        refine v_if (!decide (((mkT (growT acts (nat_lit 50)).fst []).getD (0:Nat) (Token.mk (0:UInt8) zero32 [] [] (0:Int) (0:UInt64))).hash.l=hashO (growT acts (nat_lit 50)).fst)) ((EN.P.eqGuardType EN.P.depth (52:Nat)=false)∧(((mkT (growT acts (nat_lit 50)).fst []).getD (0:Nat) (Token.mk (0:UInt8) zero32 [] [] (0:Int) (0:UInt64))).hash.l.length=(32:Nat))∧((hashO (growT acts (nat_lit 50)).fst).length=(32:Nat))) ⟨rfl,(by exact Sum32.h _),(by exact hashO_len _)⟩ (fun h27=>?_) (fun h27=>?_)
        ·have h27:=of_decide_eq_false (nt h27)
         exfalso;exact absurd (my_10 (m:=50) ‹_›) ‹_›
        ·have h27:=of_decide_eq_true (nf h27)
         refine v_guard 99 ((getF (fo (chkR (hashO (growT acts (nat_lit 50)).fst) (mkT (growT acts (nat_lit 50)).fst (List.take i (ksP (growT acts (50:Nat)).snd))))) k).snd.snd == decide ((0:Int)<(↑k.length:Int))) True trivial (fun h28=>?_) (fun h28=>?_)
         ·skip
          refine v_guard 104 ((getF (fo (chkR (hashO (growT acts (nat_lit 50)).fst) (mkT (growT acts (nat_lit 50)).fst (List.take i (ksP (growT acts (50:Nat)).snd))))) k).snd.fst == tgB (growT acts (nat_lit 50)).fst k) True trivial (fun h29=>?_) (fun h29=>?_)
          ·skip
           exact v_ret () [] ((decide ((getF (fo (chkR (hashO (growT acts (nat_lit 50)).fst) (mkT (growT acts (nat_lit 50)).fst (List.take i (ksP (growT acts (50:Nat)).snd))))) k).fst=tgV (growT acts (nat_lit 50)).fst k)=true)∧(wordsP=wordsP)∧(acts=acts)∧(k=k)) ⟨(by exact my_6 (m:=50) (i:=i) (by decide) ‹_› ‹_›),rfl,rfl,rfl⟩ trivial
          ·skip
           exfalso;exact Bool.noConfusion ((my_5 (m:=50) (i:=i) (by decide) ‹_› ‹_›).symm.trans ‹_›)
         ·skip
          exfalso;exact Bool.noConfusion ((my_4 (m:=50) (i:=i) (by decide) ‹_› ‹_›).symm.trans ‹_›)
     ·have h22:=of_decide_eq_false h22
      refine v_guard 99 ((getF (fo (chkR (hashO (growT acts (nat_lit 50)).fst) (mkT (growT acts (nat_lit 50)).fst (List.take i (ksP (growT acts (50:Nat)).snd))))) k).snd.snd == decide ((0:Int)<(↑k.length:Int))) True trivial (fun h30=>?_) (fun h30=>?_)
      ·skip
       refine v_guard 104 ((getF (fo (chkR (hashO (growT acts (nat_lit 50)).fst) (mkT (growT acts (nat_lit 50)).fst (List.take i (ksP (growT acts (50:Nat)).snd))))) k).snd.fst == tgB (growT acts (nat_lit 50)).fst k) True trivial (fun h31=>?_) (fun h31=>?_)
       ·skip
        exact v_ret () [] ((decide ((getF (fo (chkR (hashO (growT acts (nat_lit 50)).fst) (mkT (growT acts (nat_lit 50)).fst (List.take i (ksP (growT acts (50:Nat)).snd))))) k).fst=tgV (growT acts (nat_lit 50)).fst k)=true)∧(wordsP=wordsP)∧(acts=acts)∧(k=k)) ⟨(by exact my_6 (m:=50) (i:=i) (by decide) ‹_› ‹_›),rfl,rfl,rfl⟩ trivial
       ·skip
        exfalso;exact Bool.noConfusion ((my_5 (m:=50) (i:=i) (by decide) ‹_› ‹_›).symm.trans ‹_›)
      ·skip
       exfalso;exact Bool.noConfusion ((my_4 (m:=50) (i:=i) (by decide) ‹_› ‹_›).symm.trans ‹_›)
end Go.Proofs.YtnicmjipbnhciaaDoor.X
set_option linter.unusedVariables false
set_option linter.unusedSimpArgs false
namespace Go.Proofs.YtnicmjipbnhciaaDoor.X
open Go Go.RowKit Go.Proofs.YtnicmjipbnhciaaDoor.E
def OpF {α:Type} (P:Program) (t:TypeId) (fs:Array Go.Field) (off:Nat) (T:Ty α):Prop :=
  ∀(w:World) (cs:List Value),cs.length=P.cellsOf t→(∀(i:Nat) (f:Go.Field),fs[i]? = some f→∀ {β:Type} {U:Ty β},E.Opens P f.type U→∀ o sz,f.offset=o→P.cellsOf f.type=sz→∃ a,U.rep (sig0 w) w a ((cs.drop o).take sz))→∃ a,T.rep (sig0 w) w a (cs.drop off)
section
variable {α β:Type} {P:Program} {t:TypeId} {fs:Array Go.Field} {off n:Nat} {A:Ty α} {B:Ty β} {f:Go.Field}
theorem opF_cons (i:Nat) (hf:fs[i]? = some f) (ho:f.offset=off) (O:E.Opens P f.type A) (hs:P.cellsOf f.type=n) (hB:OpF P t fs (off+n) B):OpF P t fs off (tProd A B):=by
  intro w cs hl h
  obtain⟨a,ha⟩:=h i f hf O off n ho hs
  obtain⟨b,hb⟩:=hB w cs hl h
  exact⟨(a,b),_,_,by rw[← List.drop_drop];exact(List.take_append_drop n _).symm,ha,hb⟩
theorem opF_last (i:Nat) (hf:fs[i]? = some f) (ho:f.offset=off) (O:E.Opens P f.type A) (hs:P.cellsOf f.type=n) (tot:P.cellsOf t=off+n):OpF P t fs off A:=by
  intro w cs hl h
  obtain⟨a,ha⟩:=h i f hf O off n ho hs
  rw[List.take_of_length_le (by rw[List.length_drop];omega)] at ha
  exact⟨a,ha⟩
theorem opens_rec (ht:P.underlying t=some (.struct fs)) (h:OpF P t fs 0 A):E.Opens P t A:=by
  intro H enc w sp held fuel cs x hx hw
  obtain⟨hl,hf⟩:=opens_field ht hx hw
  obtain⟨a,ha⟩:=h w cs hl (fun i f hi β U O o sz ho hs=>hf i f hi O o sz ho hs)
  exact⟨a,by simpa using ha⟩
theorem opens_by (n:Nat) (h:E.Opens P t A):E.Opens P t (tBy A n):=h
theorem opens_iso {g:β→α} (k:α→β) (hg:∀ b,g (k b)=b) (h:E.Opens P t A):E.Opens P t (tIso g A):=by
  intro H enc w sp held fuel cs x hx hw
  obtain⟨b,hb⟩:=h hx hw
  exact⟨k b,by show A.rep _ _ (g (k b)) _;rw[hg];exact hb⟩
end
end Go.Proofs.YtnicmjipbnhciaaDoor.X
set_option linter.unusedVariables false
set_option maxRecDepth 100000
namespace Go.Proofs.YtnicmjipbnhciaaDoor.X
open Go Go.RowKit Go.Proofs.YtnicmjipbnhciaaDoor.E
theorem opAct:E.Opens Tryd.prog 133 tAct:=opens_by 56 (opens_iso (fun p=>⟨p.1,p.2.1,p.2.2.1,p.2.2.2⟩) (fun _=>rfl) (opens_rec Tryd.underlying133 (opF_cons (n:=1) 0 rfl rfl (opens_u8 Tryd.underlying5) (by kernel_rfl) (opF_cons (n:=1) 1 rfl rfl (opens_u8 Tryd.underlying5) (by kernel_rfl) (opF_cons (n:=1) 2 rfl rfl (opens_slice (T:=tU8) Tryd.underlying22 (by kernel_rfl) (by kernel_rfl) (by decide) (opens_u8 Tryd.underlying5)) (by kernel_rfl) (opF_last (n:=1) 3 rfl rfl (opens_slice (T:=tU8) Tryd.underlying22 (by kernel_rfl) (by kernel_rfl) (by decide) (opens_u8 Tryd.underlying5)) (by kernel_rfl) (by kernel_rfl)))))))
end Go.Proofs.YtnicmjipbnhciaaDoor.X
