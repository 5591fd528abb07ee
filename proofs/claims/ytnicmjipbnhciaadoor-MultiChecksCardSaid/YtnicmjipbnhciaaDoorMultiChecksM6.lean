/- What the law MultiChecks needs: the engine, the walks of what it reaches, plain laws; part 6. -/
import Derived.Test.YtnicmjipbnhciaaDoorMultiChecksM5
import Derived.OpenShut
set_option linter.unnecessarySimpa false
set_option linter.deprecated false
set_option linter.unusedVariables false
set_option linter.unusedSimpArgs false
set_option maxRecDepth 100000
namespace Go.Proofs.YtnicmjipbnhciaaDoor.X
open Go Go.RowKit Go.Proofs Go.Proofs.YtnicmjipbnhciaaDoor.E
theorem chk_e (root:List UInt8) (ts:List Token):(chkR root ts).1=none∨∃ s n c,(chkR root ts).1=some (.step s n (.num c))∧c≠0:=by
  unfold chkR
  split
  · exact .inr ⟨_,_,_,rfl,by decide⟩
  · split
    · exact .inl rfl
    · split
      · rcases wk_e ts 65 65 0 [] with h | ⟨n, c, h, hc, _⟩
        · exact .inl h
        · exact .inr ⟨_,_,_,h,hc⟩
      · split
        · exact .inr ⟨_,_,_,rfl,by decide⟩
        · split
          · exact .inr ⟨_,_,_,rfl,by decide⟩
          · split
            · exact .inr ⟨_,_,_,rfl,by decide⟩
            · exact .inl rfl
theorem wk_val (ts:List Token):∀(f:Nat) (ab:Int) (a:Nat) (fs:List Item),(∀ x∈fs,x.value.length≤1000)→∀ x∈(wkN ts f ab a fs).fs,x.value.length≤1000
  | 0,ab,a,fs,hf=>hf
  | f + 1, ab, a, fs, hf => by
    unfold wkN
    split
    · exact hf
    · split
      · intro x hx
        rcases List.mem_append.1 hx with h | h
        · exact hf x h
        · rw[List.mem_singleton.1 h];exact Nat.zero_le _
      · split
        · split
          · exact hf
          · rename_i h; intro x hx
            rcases List.mem_append.1 hx with q | q
            · exact hf x q
            · rw[List.mem_singleton.1 q];show(ts.getD a kT0).value.length≤1000;omega
        · split
          · split
            · exact hf
            · have hA := wk_val ts f (ts.getD a kT0).height (a + 1) fs hf
              have hB:=wk_val ts f (ts.getD a kT0).height (wkN ts f (ts.getD a kT0).height (a+1) fs).a _ hA
              split
              · exact hA
              · split
                · exact hB
                · exact hB
          · exact hf
theorem chk_f (root:List UInt8) (ts:List Token):ordI [] (chkR root ts).2=true∧(chkR root ts).2.length≤ts.length∧∀ x∈(chkR root ts).2,x.value.length≤1000:=by
  have hn:ordI [] ([]:List Item)=true∧([]:List Item).length≤ts.length∧∀ x∈([]:List Item),x.value.length≤1000:=⟨rfl,Nat.zero_le _,fun x h=>by cases h⟩
  unfold chkR
  split
  · exact hn
  · split
    · exact hn
    · split
      · exact hn
      · split
        · exact hn
        · split
          · exact hn
          · split
            · exact hn
            · rename_i h
              have hi:=wk_inv ts 65 65 0 [] (Nat.zero_le _) (Nat.le_refl _)
              exact⟨by simpa using h,Nat.le_trans hi.2.1 hi.1,wk_val ts 65 65 0 [] fun x h=>by cases h⟩
section
variable {l:List Token} {acts:List Act} {i:Nat}
abbrev mcK (l:List Token):Prop:=∀ x∈l,x.key.length≤140737488355328∧x.value.length≤140737488355328
theorem mc_1 (hx:mcK l) (h:(i:Int)<(l.length:Int)):I64 (((l.getD (i:Int).toNat kT0).key.length:Int)+((l.getD (i:Int).toNat kT0).value.length:Int)):=by
  have hi:i<l.length:=by omega
  have:=hx (l.getD (i:Int).toNat kT0) (by rw[Int.toNat_natCast,List.getD_eq_getElem?_getD,List.getElem?_eq_getElem hi];exact List.getElem_mem hi)
  unfold I64;omega
abbrev mcQ (acts:List Act) (q:Nat × List (List UInt8)):Prop:=q.1≤(growT acts 40).2.length∧q.2.length≤22+2*q.1
variable {q:Nat × List (List UInt8)}
abbrev mcP (acts:List Act) (q:Nat × List (List UInt8)):Pair:=(growT acts 40).2.getD (q.1:Int).toNat dP
theorem mc_k (h:(q.1:Int)<((growT acts 40).2.length:Int)):(mcP acts q).key.length≤1000:=by
  have hi:q.1<(growT acts 40).2.length:=by omega
  exact mm_key (acts:=acts) (m:=40) (by decide) _ (by show mcP acts q∈(growT acts 40).2;unfold mcP;rw[Int.toNat_natCast,getD_eq hi];exact List.getElem_mem hi)
theorem mc_2 (h:(q.1:Int)<((growT acts 40).2.length:Int)):0+(mcP acts q).key.length≤1000000:=by have:=mc_k h;omega
theorem mc_3 (h:(q.1:Int)<((growT acts 40).2.length:Int)):([]++(mcP acts q).key).length+1≤1000000:=by have:=mc_k h;show(mcP acts q).key.length+1≤_;omega
theorem mc_4 (h:mcQ acts q):q.2.length+2≤1000000:=by have:(growT acts 40).2.length≤64:=mm_len (acts:=acts) (m:=40) (by decide);have:=h.1;have:=h.2;omega
theorem mc_5 {x y:List UInt8} (h:mcQ acts q) (hi:(q.1:Int)<((growT acts 40).2.length:Int)):mcQ acts (q.1+1,q.2++[x,y])∧(growT acts 40).2.length - (q.1+1)<(growT acts 40).2.length - q.1:=by
  obtain⟨h1,h2⟩:=h;refine⟨⟨by show q.1+1≤_;omega,?_⟩,by omega⟩
  show(q.2++[x,y]).length≤22+2*(q.1+1);simp;omega
theorem mc_6 {x y:List UInt8} {k:List (List UInt8)} (h:k.length≤20):mcQ acts (0,[x,y]++k):=by
  refine⟨Nat.zero_le _,?_⟩;show([x,y]++k).length≤22+2*0;simp;omega
theorem mc_7 (h:mcQ acts q):I64 ((q.1:Int)+1):=by have:(growT acts 40).2.length≤64:=mm_len (acts:=acts) (m:=40) (by decide);have:=h.1;unfold I64;omega
theorem mc_8 {k:List (List UInt8)} (h:k.length≤20):2+k.length≤1000000:=by omega
variable {r:List UInt8} {ts:List Token} {j:Nat}
theorem mc_d:depO (chkR r ts).1≤3:=by
  rcases chk_e r ts with h | ⟨s,n,c,h,_⟩
  · rw[h];exact Nat.zero_le _
  · rw[h];show 1≤3;decide
theorem mc_n0 (h:codeO (chkR r ts).1=0):(fo (chkR r ts)).isNone=false:=by
  rcases chk_e r ts with q | ⟨s,n,c,q,hc⟩
  · unfold fo;rw[q];rfl
  · rw[q] at h;exact absurd (show c=0 from h) hc
theorem mc_n1 (h:¬ codeO (chkR r ts).1=0):(fo (chkR r ts)).isNone=true:=by
  rcases chk_e r ts with q | ⟨s,n,c,q,hc⟩
  · rw[q] at h;exact absurd rfl h
  · unfold fo;rw[q];rfl
theorem mc_o (h:(fo (chkR r ts)).isNone=false):fo (chkR r ts)=some (chkR r ts).2:=by
  unfold fo at *;split
  · rfl
  · rename_i q;rw[if_neg q] at h;exact absurd h (by decide)
abbrev mc4 (l m g:List Token) (j:Nat):List Token:=[l,l,m,g].getD (j:Int).toNat []
theorem mc_l {l m g:List Token} (h1:¬ 100<(l.length:Int)) (h2:m.length≤200) (h3:g.length≤m.length+1):(mc4 l m g j).length≤100000:=by
  unfold mc4;rw[Int.toNat_natCast]
  match j with
  | 0 | 1=>show l.length≤_;omega
  | 2=>show m.length≤_;omega
  | 3=>show g.length≤_;omega
  | _+4=>exact Nat.zero_le _
theorem mc_fl (h:ts.length≤100000):(chkR r ts).2.length≤100000:=Nat.le_trans (chk_f r ts).2.1 h
theorem mc_x:((fo (chkR r ts)).isNone != decide (codeO (chkR r ts).1≠(0:Int)))=false:=by
  by_cases h:codeO (chkR r ts).1=0
  · rw[mc_n0 h,decide_eq_false (fun q=>q h)];rfl
  · rw[mc_n1 h,decide_eq_true h];rfl
theorem mc_q (h:mcQ acts q):q.2.length≤140737488355328:=by have:=mc_4 h;omega
abbrev mcM (acts:List Act) (keys:List (List UInt8)) (wh:List UInt8):List Token:=mkT (growT acts 40).1 (smP (growT acts 40).2 keys wh)
end
noncomputable def ccN11_14:Code:=(Tryd.f14.body).getD .skip
theorem MultiChecks_ok (l:List Token) (root:List UInt8) (acts:List Act) (keys:List (List UInt8)) (wh:List UInt8) (what at_:UInt8) (n:Int) (h b:List UInt8) (hr:root.length=32) (hh:h.length=32) (hn:I64 n) (hx:mcK l) (hkl:keys.length≤140737488355328) (hwl:wh.length≤140737488355328):FOk EN 14 ⟨[.pr wordsP,.pr rootsP,.pr etP,.rd 100 l,.rd 133 acts,.rd 22 keys,.rd 5 (wh),.rd 5 (b)],[.n 3,.a [.h 32 root],.n 4,.n 5,.n 6,.c what,.c at_,.i n,.a [.h 32 h],.n 7],Unit,fun _=>([.pr wordsP,.pr rootsP,.pr etP,.rd 100 l,.rd 133 acts,.rd 22 keys,.rd 5 (wh),.rd 5 (b)],.b true),fun _=>True⟩:=by
 refine v_fun Tryd.f14 ccN11_14 MX (fun ν F σ w=>?_) Tryd.func14
 refine v_nl ?_
 refine v_call _ [0] (Awake10_ok) ((wordsP=wordsP)) rfl (fun g1 p2=>?_)
 have p2:True:=p2
 refine v_if (!true) True trivial (fun h3=>?_) (fun h3=>?_)
 ·have h3:=(nt h3)
  contradiction
 ·have h3:=(nf h3)
  refine v_guard 42 (decide (100<(↑l.length:Int))) True trivial (fun h4=>?_) (fun h4=>?_)
  ·have h4:=of_decide_eq_true h4
   exact v_ret () [] ((true=true)∧(wordsP=wordsP)∧(rootsP=rootsP)∧(etP=etP)∧(l=l)∧(acts=acts)∧(keys=keys)∧(wh=wh)∧(b=b)) ⟨rfl,rfl,rfl,rfl,rfl,rfl,rfl,rfl,rfl⟩ trivial
  ·have h4:=of_decide_eq_false h4
   refine v_if (decide (500<(↑b.length:Int))) True trivial (fun h5=>?_) (fun h5=>?_)
   ·have h5:=of_decide_eq_true h5
    exact v_ret () [] ((true=true)∧(wordsP=wordsP)∧(rootsP=rootsP)∧(etP=etP)∧(l=l)∧(acts=acts)∧(keys=keys)∧(wh=wh)∧(b=b)) ⟨rfl,rfl,rfl,rfl,rfl,rfl,rfl,rfl,rfl⟩ trivial
   ·have h5:=of_decide_eq_false h5
    refine v_loop (fun i:Nat=>([(49,.i i)],[])) (fun i=>i≤l.length) (fun i=>l.length - i) 0 [] (((0:Int)=(↑(0:Nat):Int))) rfl (by omega) (fun i hk6=>?_)
    refine v_if (decide ((↑i:Int)<(↑l.length:Int))) True trivial (fun h7=>?_) (fun h7=>?_)
    ·have h7:=of_decide_eq_true h7
     refine v_if (decide (500<(↑(l.getD (↑i:Int).toNat (Token.mk 0 zero32 [] [] 0 0)).key.length:Int)+(↑(l.getD (↑i:Int).toNat (Token.mk 0 zero32 [] [] 0 0)).value.length:Int))) ((0≤(↑i:Int)∧(↑i:Int)<(↑l.length:Int))∧(I64 ((↑(l.getD (↑i:Int).toNat (Token.mk 0 zero32 [] [] 0 0)).key.length:Int)+(↑(l.getD (↑i:Int).toNat (Token.mk 0 zero32 [] [] 0 0)).value.length:Int)))) ⟨(by omega),(by exact mc_1 ‹_› ‹_›)⟩ (fun h8=>?_) (fun h8=>?_)
     ·have h8:=of_decide_eq_true h8
      refine v_leave .rt True trivial ?_
      exact v_ret () [] ((true=true)∧(wordsP=wordsP)∧(rootsP=rootsP)∧(etP=etP)∧(l=l)∧(acts=acts)∧(keys=keys)∧(wh=wh)∧(b=b)) ⟨rfl,rfl,rfl,rfl,rfl,rfl,rfl,rfl,rfl⟩ trivial
     ·have h8:=of_decide_eq_false h8
      exact v_back (i+1) [] ((I64 (↑i+1))∧((↑i:Int)+1=(↑(i+1):Int))) ⟨(by(unfold I64;omega)),rfl⟩ (show i+1≤l.length∧l.length - (i+1)<l.length - i from(by omega))
    ·have h7:=of_decide_eq_false h7
     refine v_leave (.ex 0) True trivial ?_
     refine v_call _ [0,4] (Grow_ok (acts) (nat_lit 40) (by decide)) (((40:Int)=(↑(nat_lit 40):Int))∧(wordsP=wordsP)∧(acts=acts)) ⟨rfl,rfl,rfl⟩ (fun g9 p10=>?_)
     have p10:True:=p10
     refine v_call _ [12,5,6] (some10_ok ((growT acts (nat_lit 40)).snd) (keys) (wh) (by exact Nat.le_trans (mm_len (m:=40) (by decide)) (by decide)) (by exact mm_key (m:=40) (by decide)) ‹_› ‹_›) (((growT acts (nat_lit 40)).snd=(growT acts (nat_lit 40)).snd)∧(keys=keys)∧(wh=wh)) ⟨rfl,rfl,rfl⟩ (fun g11 p12=>?_)
     have p12:True:=p12
     refine v_call _ [0,11,13] (MakeT_ok ((growT acts (nat_lit 40)).fst) (smP (growT acts (nat_lit 40)).snd keys wh) (by exact(growT_fine acts 40 (by decide)).O) (by exact mm_srt) (by exact Nat.le_trans (mm_lv (m:=40) (by decide)) (by decide)) (by exact Nat.le_trans (smP_len _ _ _) (by decide))) ((wordsP=wordsP)∧(PTO (growT acts (nat_lit 40)).fst=PTO (growT acts (nat_lit 40)).fst)∧(false=false)∧(smP (growT acts (nat_lit 40)).snd keys wh=smP (growT acts (nat_lit 40)).snd keys wh)) ⟨rfl,rfl,rfl,rfl⟩ (fun g13 p14=>?_)
     have p14:True:=p14
     refine v_loop (fun q:Nat × List (List UInt8)=>([(80,.i q.1),(27,.n 17)],[.ow 22 q.2])) (fun q=>mcQ acts q) (fun q=>(growT acts 40).2.length - q.1) (0,[b,[]]++smP (growT acts 40).2 keys wh) [16] (((2:Nat)+(smP (growT acts (nat_lit 40)).snd keys wh).length≤(1000000:Nat))∧((0:Int)=(↑(0:Nat):Int))∧([b,[]]++smP (growT acts (nat_lit 40)).snd keys wh=[b,[]]++smP (growT acts (40:Nat)).snd keys wh)) ⟨(by exact mc_8 (smP_len _ _ _)),rfl,rfl⟩ (by exact mc_6 (smP_len _ _ _)) (fun q hk15=>?_)
     refine v_if (decide ((↑q.fst:Int)<(↑(growT acts (nat_lit 40)).snd.length:Int))) True trivial (fun h16=>?_) (fun h16=>?_)
     ·have h16:=of_decide_eq_true h16
      refine v_join [84,85,86,87,88,89,90,91,92,93,94,27] [17] (fun _:Unit=>([(27,SV.n 22)],[Ent.ow (22:Nat) (q.snd++[((growT acts (nat_lit 40)).snd.getD (↑q.fst:Int).toNat (Pair.mk [] [])).key,[]++((growT acts (nat_lit 40)).snd.getD (↑q.fst:Int).toNat (Pair.mk [] [])).key++[(0:UInt8)]])])) (fun _=>True) ?_ (fun _ _=>?_) (((0:Int)≤(↑q.fst:Int)∧(↑q.fst:Int)<(↑(growT acts (nat_lit 40)).snd.length:Int))) (by omega)
      ·skip
       refine v_plan (.fs [0,1,4] (.c 2 (.c 3 (.c 5 (.c 6 (.o 7 (.o 8 (.o 9 (.o 10 (.fs [11] .e))))) (.o 7 (.o 6 (.o 8 (.o 9 (.o 10 (.fs [11] .e))))))) (.o 7 (.o 5 (.o 6 (.o 8 (.o 9 (.o 10 (.fs [11] .e)))))))) (.c 5 (.c 3 (.c 6 (.o 7 (.o 8 (.o 9 (.o 10 (.fs [11] .e))))) (.o 7 (.o 6 (.o 8 (.o 9 (.o 10 (.fs [11] .e))))))) (.o 7 (.o 3 (.o 6 (.o 8 (.o 9 (.o 10 (.fs [11] .e)))))))) (.o 7 (.c 3 (.o 5 (.o 6 (.o 8 (.o 9 (.o 10 (.fs [11] .e)))))) (.o 5 (.o 3 (.o 6 (.o 8 (.o 9 (.o 10 (.fs [11] .e))))))))))) (.c 3 (.c 2 (.c 5 (.c 6 (.o 7 (.o 8 (.o 9 (.o 10 (.fs [11] .e))))) (.o 7 (.o 6 (.o 8 (.o 9 (.o 10 (.fs [11] .e))))))) (.o 7 (.o 5 (.o 6 (.o 8 (.o 9 (.o 10 (.fs [11] .e)))))))) (.c 5 (.c 2 (.c 6 (.o 7 (.o 8 (.o 9 (.o 10 (.fs [11] .e))))) (.o 7 (.o 6 (.o 8 (.o 9 (.o 10 (.fs [11] .e))))))) (.c 6 (.c 2 (.o 7 (.o 8 (.o 9 (.o 10 (.fs [11] .e))))) (.o 7 (.c 2 (.o 8 (.o 9 (.o 10 (.fs [11] .e)))) (.o 8 (.o 2 (.o 9 (.o 10 (.fs [11] .e)))))))) (.o 7 (.c 2 (.o 6 (.o 8 (.o 9 (.o 10 (.fs [11] .e))))) (.o 6 (.c 2 (.o 8 (.o 9 (.o 10 (.fs [11] .e)))) (.o 8 (.o 2 (.o 9 (.o 10 (.fs [11] .e))))))))))) (.o 7 (.c 2 (.o 5 (.o 6 (.o 8 (.o 9 (.o 10 (.fs [11] .e)))))) (.o 5 (.c 2 (.o 6 (.o 8 (.o 9 (.o 10 (.fs [11] .e))))) (.o 6 (.c 2 (.o 8 (.o 9 (.o 10 (.fs [11] .e)))) (.o 8 (.o 2 (.o 9 (.o 10 (.fs [11] .e))))))))))))) (.c 5 (.c 2 (.c 3 (.c 6 (.o 7 (.o 8 (.o 9 (.o 10 (.fs [11] .e))))) (.o 7 (.o 6 (.o 8 (.o 9 (.o 10 (.fs [11] .e))))))) (.o 7 (.o 3 (.o 6 (.o 8 (.o 9 (.o 10 (.fs [11] .e)))))))) (.c 3 (.c 2 (.c 6 (.o 7 (.o 8 (.o 9 (.o 10 (.fs [11] .e))))) (.o 7 (.o 6 (.o 8 (.o 9 (.o 10 (.fs [11] .e))))))) (.c 6 (.c 2 (.o 7 (.o 8 (.o 9 (.o 10 (.fs [11] .e))))) (.o 7 (.c 2 (.o 8 (.o 9 (.o 10 (.fs [11] .e)))) (.o 8 (.o 2 (.o 9 (.o 10 (.fs [11] .e)))))))) (.o 7 (.c 2 (.o 6 (.o 8 (.o 9 (.o 10 (.fs [11] .e))))) (.o 6 (.c 2 (.o 8 (.o 9 (.o 10 (.fs [11] .e)))) (.o 8 (.o 2 (.o 9 (.o 10 (.fs [11] .e))))))))))) (.o 7 (.c 2 (.o 3 (.o 6 (.o 8 (.o 9 (.o 10 (.fs [11] .e)))))) (.o 3 (.c 2 (.o 6 (.o 8 (.o 9 (.o 10 (.fs [11] .e))))) (.o 6 (.c 2 (.o 8 (.o 9 (.o 10 (.fs [11] .e)))) (.o 8 (.o 2 (.o 9 (.o 10 (.fs [11] .e))))))))))))) (.o 7 (.c 2 (.c 3 (.o 5 (.o 6 (.o 8 (.o 9 (.o 10 (.fs [11] .e)))))) (.o 5 (.o 3 (.o 6 (.o 8 (.o 9 (.o 10 (.fs [11] .e)))))))) (.c 3 (.c 2 (.o 5 (.o 6 (.o 8 (.o 9 (.o 10 (.fs [11] .e)))))) (.o 5 (.c 2 (.o 6 (.o 8 (.o 9 (.o 10 (.fs [11] .e))))) (.o 6 (.c 2 (.o 8 (.o 9 (.o 10 (.fs [11] .e)))) (.o 8 (.o 2 (.o 9 (.o 10 (.fs [11] .e)))))))))) (.o 5 (.c 2 (.o 3 (.o 6 (.o 8 (.o 9 (.o 10 (.fs [11] .e)))))) (.o 3 (.c 2 (.o 6 (.o 8 (.o 9 (.o 10 (.fs [11] .e))))) (.o 6 (.c 2 (.o 8 (.o 9 (.o 10 (.fs [11] .e)))) (.o 8 (.o 2 (.o 9 (.o 10 (.fs [11] .e)))))))))))))))))) [] True trivial ?_
       refine v_pick True trivial ?_ ?_
       ·skip
        refine v_pick True trivial ?_ ?_
        ·skip
         refine v_pick True trivial ?_ ?_
         ·skip
          refine v_pick True trivial ?_ ?_
          ·skip
           exact v_back (()) [27] (((0:Nat)+((growT acts (nat_lit 40)).snd.getD (↑q.fst:Int).toNat (Pair.mk [] [])).key.length≤(1000000:Nat))∧(([]++((growT acts (nat_lit 40)).snd.getD (↑q.fst:Int).toNat (Pair.mk [] [])).key).length+(1:Nat)≤(1000000:Nat))∧(q.snd.length+2≤1000000)∧(q.snd++[((growT acts (nat_lit 40)).snd.getD (↑q.fst:Int).toNat (Pair.mk [] [])).key,[]++((growT acts (nat_lit 40)).snd.getD (↑q.fst:Int).toNat (Pair.mk [] [])).key++[(0:UInt8)]]=q.snd++[((growT acts (nat_lit 40)).snd.getD (↑q.fst:Int).toNat (Pair.mk [] [])).key,[]++((growT acts (nat_lit 40)).snd.getD (↑q.fst:Int).toNat (Pair.mk [] [])).key++[(0:UInt8)]])) ⟨(by exact mc_2 ‹_›),(by exact mc_3 ‹_›),(by exact mc_4 ‹_›),rfl⟩ (show True from trivial)
          ·skip
           exact v_back (()) [27] (((0:Nat)+((growT acts (nat_lit 40)).snd.getD (↑q.fst:Int).toNat (Pair.mk [] [])).key.length≤(1000000:Nat))∧(([]++((growT acts (nat_lit 40)).snd.getD (↑q.fst:Int).toNat (Pair.mk [] [])).key).length+(1:Nat)≤(1000000:Nat))∧(q.snd.length+2≤1000000)∧(q.snd++[((growT acts (nat_lit 40)).snd.getD (↑q.fst:Int).toNat (Pair.mk [] [])).key,[]++((growT acts (nat_lit 40)).snd.getD (↑q.fst:Int).toNat (Pair.mk [] [])).key++[(0:UInt8)]]=q.snd++[((growT acts (nat_lit 40)).snd.getD (↑q.fst:Int).toNat (Pair.mk [] [])).key,[]++((growT acts (nat_lit 40)).snd.getD (↑q.fst:Int).toNat (Pair.mk [] [])).key++[(0:UInt8)]])) ⟨(by exact mc_2 ‹_›),(by exact mc_3 ‹_›),(by exact mc_4 ‹_›),rfl⟩ (show True from trivial)
         ·skip
          exact v_back (()) [27] (((0:Nat)+((growT acts (nat_lit 40)).snd.getD (↑q.fst:Int).toNat (Pair.mk [] [])).key.length≤(1000000:Nat))∧(([]++((growT acts (nat_lit 40)).snd.getD (↑q.fst:Int).toNat (Pair.mk [] [])).key).length+(1:Nat)≤(1000000:Nat))∧(q.snd.length+2≤1000000)∧(q.snd++[((growT acts (nat_lit 40)).snd.getD (↑q.fst:Int).toNat (Pair.mk [] [])).key,[]++((growT acts (nat_lit 40)).snd.getD (↑q.fst:Int).toNat (Pair.mk [] [])).key++[(0:UInt8)]]=q.snd++[((growT acts (nat_lit 40)).snd.getD (↑q.fst:Int).toNat (Pair.mk [] [])).key,[]++((growT acts (nat_lit 40)).snd.getD (↑q.fst:Int).toNat (Pair.mk [] [])).key++[(0:UInt8)]])) ⟨(by exact mc_2 ‹_›),(by exact mc_3 ‹_›),(by exact mc_4 ‹_›),rfl⟩ (show True from trivial)
        ·skip
         refine v_pick True trivial ?_ ?_
         ·skip
          refine v_pick True trivial ?_ ?_
          ·skip
           refine v_pick True trivial ?_ ?_
           ·skip
            exact v_back (()) [27] (((0:Nat)+((growT acts (nat_lit 40)).snd.getD (↑q.fst:Int).toNat (Pair.mk [] [])).key.length≤(1000000:Nat))∧(([]++((growT acts (nat_lit 40)).snd.getD (↑q.fst:Int).toNat (Pair.mk [] [])).key).length+(1:Nat)≤(1000000:Nat))∧(q.snd.length+2≤1000000)∧(q.snd++[((growT acts (nat_lit 40)).snd.getD (↑q.fst:Int).toNat (Pair.mk [] [])).key,[]++((growT acts (nat_lit 40)).snd.getD (↑q.fst:Int).toNat (Pair.mk [] [])).key++[(0:UInt8)]]=q.snd++[((growT acts (nat_lit 40)).snd.getD (↑q.fst:Int).toNat (Pair.mk [] [])).key,[]++((growT acts (nat_lit 40)).snd.getD (↑q.fst:Int).toNat (Pair.mk [] [])).key++[(0:UInt8)]])) ⟨(by exact mc_2 ‹_›),(by exact mc_3 ‹_›),(by exact mc_4 ‹_›),rfl⟩ (show True from trivial)
           ·skip
            exact v_back (()) [27] (((0:Nat)+((growT acts (nat_lit 40)).snd.getD (↑q.fst:Int).toNat (Pair.mk [] [])).key.length≤(1000000:Nat))∧(([]++((growT acts (nat_lit 40)).snd.getD (↑q.fst:Int).toNat (Pair.mk [] [])).key).length+(1:Nat)≤(1000000:Nat))∧(q.snd.length+2≤1000000)∧(q.snd++[((growT acts (nat_lit 40)).snd.getD (↑q.fst:Int).toNat (Pair.mk [] [])).key,[]++((growT acts (nat_lit 40)).snd.getD (↑q.fst:Int).toNat (Pair.mk [] [])).key++[(0:UInt8)]]=q.snd++[((growT acts (nat_lit 40)).snd.getD (↑q.fst:Int).toNat (Pair.mk [] [])).key,[]++((growT acts (nat_lit 40)).snd.getD (↑q.fst:Int).toNat (Pair.mk [] [])).key++[(0:UInt8)]])) ⟨(by exact mc_2 ‹_›),(by exact mc_3 ‹_›),(by exact mc_4 ‹_›),rfl⟩ (show True from trivial)
          ·skip
           exact v_back (()) [27] (((0:Nat)+((growT acts (nat_lit 40)).snd.getD (↑q.fst:Int).toNat (Pair.mk [] [])).key.length≤(1000000:Nat))∧(([]++((growT acts (nat_lit 40)).snd.getD (↑q.fst:Int).toNat (Pair.mk [] [])).key).length+(1:Nat)≤(1000000:Nat))∧(q.snd.length+2≤1000000)∧(q.snd++[((growT acts (nat_lit 40)).snd.getD (↑q.fst:Int).toNat (Pair.mk [] [])).key,[]++((growT acts (nat_lit 40)).snd.getD (↑q.fst:Int).toNat (Pair.mk [] [])).key++[(0:UInt8)]]=q.snd++[((growT acts (nat_lit 40)).snd.getD (↑q.fst:Int).toNat (Pair.mk [] [])).key,[]++((growT acts (nat_lit 40)).snd.getD (↑q.fst:Int).toNat (Pair.mk [] [])).key++[(0:UInt8)]])) ⟨(by exact mc_2 ‹_›),(by exact mc_3 ‹_›),(by exact mc_4 ‹_›),rfl⟩ (show True from trivial)
         ·skip
          refine v_pick True trivial ?_ ?_
          ·skip
           exact v_back (()) [27] (((0:Nat)+((growT acts (nat_lit 40)).snd.getD (↑q.fst:Int).toNat (Pair.mk [] [])).key.length≤(1000000:Nat))∧(([]++((growT acts (nat_lit 40)).snd.getD (↑q.fst:Int).toNat (Pair.mk [] [])).key).length+(1:Nat)≤(1000000:Nat))∧(q.snd.length+2≤1000000)∧(q.snd++[((growT acts (nat_lit 40)).snd.getD (↑q.fst:Int).toNat (Pair.mk [] [])).key,[]++((growT acts (nat_lit 40)).snd.getD (↑q.fst:Int).toNat (Pair.mk [] [])).key++[(0:UInt8)]]=q.snd++[((growT acts (nat_lit 40)).snd.getD (↑q.fst:Int).toNat (Pair.mk [] [])).key,[]++((growT acts (nat_lit 40)).snd.getD (↑q.fst:Int).toNat (Pair.mk [] [])).key++[(0:UInt8)]])) ⟨(by exact mc_2 ‹_›),(by exact mc_3 ‹_›),(by exact mc_4 ‹_›),rfl⟩ (show True from trivial)
          ·skip
           exact v_back (()) [27] (((0:Nat)+((growT acts (nat_lit 40)).snd.getD (↑q.fst:Int).toNat (Pair.mk [] [])).key.length≤(1000000:Nat))∧(([]++((growT acts (nat_lit 40)).snd.getD (↑q.fst:Int).toNat (Pair.mk [] [])).key).length+(1:Nat)≤(1000000:Nat))∧(q.snd.length+2≤1000000)∧(q.snd++[((growT acts (nat_lit 40)).snd.getD (↑q.fst:Int).toNat (Pair.mk [] [])).key,[]++((growT acts (nat_lit 40)).snd.getD (↑q.fst:Int).toNat (Pair.mk [] [])).key++[(0:UInt8)]]=q.snd++[((growT acts (nat_lit 40)).snd.getD (↑q.fst:Int).toNat (Pair.mk [] [])).key,[]++((growT acts (nat_lit 40)).snd.getD (↑q.fst:Int).toNat (Pair.mk [] [])).key++[(0:UInt8)]])) ⟨(by exact mc_2 ‹_›),(by exact mc_3 ‹_›),(by exact mc_4 ‹_›),rfl⟩ (show True from trivial)
       ·skip
        refine v_pick True trivial ?_ ?_
        ·skip
         refine v_pick True trivial ?_ ?_
         ·skip
          refine v_pick True trivial ?_ ?_
          ·skip
           refine v_pick True trivial ?_ ?_
           ·skip
            exact v_back (()) [27] (((0:Nat)+((growT acts (nat_lit 40)).snd.getD (↑q.fst:Int).toNat (Pair.mk [] [])).key.length≤(1000000:Nat))∧(([]++((growT acts (nat_lit 40)).snd.getD (↑q.fst:Int).toNat (Pair.mk [] [])).key).length+(1:Nat)≤(1000000:Nat))∧(q.snd.length+2≤1000000)∧(q.snd++[((growT acts (nat_lit 40)).snd.getD (↑q.fst:Int).toNat (Pair.mk [] [])).key,[]++((growT acts (nat_lit 40)).snd.getD (↑q.fst:Int).toNat (Pair.mk [] [])).key++[(0:UInt8)]]=q.snd++[((growT acts (nat_lit 40)).snd.getD (↑q.fst:Int).toNat (Pair.mk [] [])).key,[]++((growT acts (nat_lit 40)).snd.getD (↑q.fst:Int).toNat (Pair.mk [] [])).key++[(0:UInt8)]])) ⟨(by exact mc_2 ‹_›),(by exact mc_3 ‹_›),(by exact mc_4 ‹_›),rfl⟩ (show True from trivial)
           ·skip
            exact v_back (()) [27] (((0:Nat)+((growT acts (nat_lit 40)).snd.getD (↑q.fst:Int).toNat (Pair.mk [] [])).key.length≤(1000000:Nat))∧(([]++((growT acts (nat_lit 40)).snd.getD (↑q.fst:Int).toNat (Pair.mk [] [])).key).length+(1:Nat)≤(1000000:Nat))∧(q.snd.length+2≤1000000)∧(q.snd++[((growT acts (nat_lit 40)).snd.getD (↑q.fst:Int).toNat (Pair.mk [] [])).key,[]++((growT acts (nat_lit 40)).snd.getD (↑q.fst:Int).toNat (Pair.mk [] [])).key++[(0:UInt8)]]=q.snd++[((growT acts (nat_lit 40)).snd.getD (↑q.fst:Int).toNat (Pair.mk [] [])).key,[]++((growT acts (nat_lit 40)).snd.getD (↑q.fst:Int).toNat (Pair.mk [] [])).key++[(0:UInt8)]])) ⟨(by exact mc_2 ‹_›),(by exact mc_3 ‹_›),(by exact mc_4 ‹_›),rfl⟩ (show True from trivial)
          ·skip
           exact v_back (()) [27] (((0:Nat)+((growT acts (nat_lit 40)).snd.getD (↑q.fst:Int).toNat (Pair.mk [] [])).key.length≤(1000000:Nat))∧(([]++((growT acts (nat_lit 40)).snd.getD (↑q.fst:Int).toNat (Pair.mk [] [])).key).length+(1:Nat)≤(1000000:Nat))∧(q.snd.length+2≤1000000)∧(q.snd++[((growT acts (nat_lit 40)).snd.getD (↑q.fst:Int).toNat (Pair.mk [] [])).key,[]++((growT acts (nat_lit 40)).snd.getD (↑q.fst:Int).toNat (Pair.mk [] [])).key++[(0:UInt8)]]=q.snd++[((growT acts (nat_lit 40)).snd.getD (↑q.fst:Int).toNat (Pair.mk [] [])).key,[]++((growT acts (nat_lit 40)).snd.getD (↑q.fst:Int).toNat (Pair.mk [] [])).key++[(0:UInt8)]])) ⟨(by exact mc_2 ‹_›),(by exact mc_3 ‹_›),(by exact mc_4 ‹_›),rfl⟩ (show True from trivial)
         ·skip
          refine v_pick True trivial ?_ ?_
          ·skip
           refine v_pick True trivial ?_ ?_
           ·skip
            refine v_pick True trivial ?_ ?_
            ·skip
             exact v_back (()) [27] (((0:Nat)+((growT acts (nat_lit 40)).snd.getD (↑q.fst:Int).toNat (Pair.mk [] [])).key.length≤(1000000:Nat))∧(([]++((growT acts (nat_lit 40)).snd.getD (↑q.fst:Int).toNat (Pair.mk [] [])).key).length+(1:Nat)≤(1000000:Nat))∧(q.snd.length+2≤1000000)∧(q.snd++[((growT acts (nat_lit 40)).snd.getD (↑q.fst:Int).toNat (Pair.mk [] [])).key,[]++((growT acts (nat_lit 40)).snd.getD (↑q.fst:Int).toNat (Pair.mk [] [])).key++[(0:UInt8)]]=q.snd++[((growT acts (nat_lit 40)).snd.getD (↑q.fst:Int).toNat (Pair.mk [] [])).key,[]++((growT acts (nat_lit 40)).snd.getD (↑q.fst:Int).toNat (Pair.mk [] [])).key++[(0:UInt8)]])) ⟨(by exact mc_2 ‹_›),(by exact mc_3 ‹_›),(by exact mc_4 ‹_›),rfl⟩ (show True from trivial)
            ·skip
             exact v_back (()) [27] (((0:Nat)+((growT acts (nat_lit 40)).snd.getD (↑q.fst:Int).toNat (Pair.mk [] [])).key.length≤(1000000:Nat))∧(([]++((growT acts (nat_lit 40)).snd.getD (↑q.fst:Int).toNat (Pair.mk [] [])).key).length+(1:Nat)≤(1000000:Nat))∧(q.snd.length+2≤1000000)∧(q.snd++[((growT acts (nat_lit 40)).snd.getD (↑q.fst:Int).toNat (Pair.mk [] [])).key,[]++((growT acts (nat_lit 40)).snd.getD (↑q.fst:Int).toNat (Pair.mk [] [])).key++[(0:UInt8)]]=q.snd++[((growT acts (nat_lit 40)).snd.getD (↑q.fst:Int).toNat (Pair.mk [] [])).key,[]++((growT acts (nat_lit 40)).snd.getD (↑q.fst:Int).toNat (Pair.mk [] [])).key++[(0:UInt8)]])) ⟨(by exact mc_2 ‹_›),(by exact mc_3 ‹_›),(by exact mc_4 ‹_›),rfl⟩ (show True from trivial)
           ·skip
            refine v_pick True trivial ?_ ?_
            ·skip
             refine v_pick (((0:Nat)+((growT acts (nat_lit 40)).snd.getD (↑q.fst:Int).toNat (Pair.mk [] [])).key.length≤(1000000:Nat))) (by exact mc_2 ‹_›) ?_ ?_
             ·skip
              exact v_back (()) [27] ((([]++((growT acts (nat_lit 40)).snd.getD (↑q.fst:Int).toNat (Pair.mk [] [])).key).length+(1:Nat)≤(1000000:Nat))∧(q.snd.length+2≤1000000)∧(q.snd++[((growT acts (nat_lit 40)).snd.getD (↑q.fst:Int).toNat (Pair.mk [] [])).key,[]++((growT acts (nat_lit 40)).snd.getD (↑q.fst:Int).toNat (Pair.mk [] [])).key++[(0:UInt8)]]=q.snd++[((growT acts (nat_lit 40)).snd.getD (↑q.fst:Int).toNat (Pair.mk [] [])).key,[]++((growT acts (nat_lit 40)).snd.getD (↑q.fst:Int).toNat (Pair.mk [] [])).key++[(0:UInt8)]])) ⟨(by exact mc_3 ‹_›),(by exact mc_4 ‹_›),rfl⟩ (show True from trivial)
             ·skip
              refine v_pick True trivial ?_ ?_
              ·skip
               exact v_back (()) [27] ((([]++((growT acts (nat_lit 40)).snd.getD (↑q.fst:Int).toNat (Pair.mk [] [])).key).length+(1:Nat)≤(1000000:Nat))∧(q.snd.length+2≤1000000)∧(q.snd++[((growT acts (nat_lit 40)).snd.getD (↑q.fst:Int).toNat (Pair.mk [] [])).key,[]++((growT acts (nat_lit 40)).snd.getD (↑q.fst:Int).toNat (Pair.mk [] [])).key++[(0:UInt8)]]=q.snd++[((growT acts (nat_lit 40)).snd.getD (↑q.fst:Int).toNat (Pair.mk [] [])).key,[]++((growT acts (nat_lit 40)).snd.getD (↑q.fst:Int).toNat (Pair.mk [] [])).key++[(0:UInt8)]])) ⟨(by exact mc_3 ‹_›),(by exact mc_4 ‹_›),rfl⟩ (show True from trivial)
              ·skip
               exact v_back (()) [27] ((([]++((growT acts (nat_lit 40)).snd.getD (↑q.fst:Int).toNat (Pair.mk [] [])).key).length+(1:Nat)≤(1000000:Nat))∧(q.snd.length+2≤1000000)∧(q.snd++[((growT acts (nat_lit 40)).snd.getD (↑q.fst:Int).toNat (Pair.mk [] [])).key,[]++((growT acts (nat_lit 40)).snd.getD (↑q.fst:Int).toNat (Pair.mk [] [])).key++[(0:UInt8)]]=q.snd++[((growT acts (nat_lit 40)).snd.getD (↑q.fst:Int).toNat (Pair.mk [] [])).key,[]++((growT acts (nat_lit 40)).snd.getD (↑q.fst:Int).toNat (Pair.mk [] [])).key++[(0:UInt8)]])) ⟨(by exact mc_3 ‹_›),(by exact mc_4 ‹_›),rfl⟩ (show True from trivial)
            ·skip
             refine v_pick True trivial ?_ ?_
             ·skip
              exact v_back (()) [27] (((0:Nat)+((growT acts (nat_lit 40)).snd.getD (↑q.fst:Int).toNat (Pair.mk [] [])).key.length≤(1000000:Nat))∧(([]++((growT acts (nat_lit 40)).snd.getD (↑q.fst:Int).toNat (Pair.mk [] [])).key).length+(1:Nat)≤(1000000:Nat))∧(q.snd.length+2≤1000000)∧(q.snd++[((growT acts (nat_lit 40)).snd.getD (↑q.fst:Int).toNat (Pair.mk [] [])).key,[]++((growT acts (nat_lit 40)).snd.getD (↑q.fst:Int).toNat (Pair.mk [] [])).key++[(0:UInt8)]]=q.snd++[((growT acts (nat_lit 40)).snd.getD (↑q.fst:Int).toNat (Pair.mk [] [])).key,[]++((growT acts (nat_lit 40)).snd.getD (↑q.fst:Int).toNat (Pair.mk [] [])).key++[(0:UInt8)]])) ⟨(by exact mc_2 ‹_›),(by exact mc_3 ‹_›),(by exact mc_4 ‹_›),rfl⟩ (show True from trivial)
             ·skip
              refine v_pick (((0:Nat)+((growT acts (nat_lit 40)).snd.getD (↑q.fst:Int).toNat (Pair.mk [] [])).key.length≤(1000000:Nat))) (by exact mc_2 ‹_›) ?_ ?_
              ·skip
               exact v_back (()) [27] ((([]++((growT acts (nat_lit 40)).snd.getD (↑q.fst:Int).toNat (Pair.mk [] [])).key).length+(1:Nat)≤(1000000:Nat))∧(q.snd.length+2≤1000000)∧(q.snd++[((growT acts (nat_lit 40)).snd.getD (↑q.fst:Int).toNat (Pair.mk [] [])).key,[]++((growT acts (nat_lit 40)).snd.getD (↑q.fst:Int).toNat (Pair.mk [] [])).key++[(0:UInt8)]]=q.snd++[((growT acts (nat_lit 40)).snd.getD (↑q.fst:Int).toNat (Pair.mk [] [])).key,[]++((growT acts (nat_lit 40)).snd.getD (↑q.fst:Int).toNat (Pair.mk [] [])).key++[(0:UInt8)]])) ⟨(by exact mc_3 ‹_›),(by exact mc_4 ‹_›),rfl⟩ (show True from trivial)
              ·skip
               exact v_back (()) [27] ((([]++((growT acts (nat_lit 40)).snd.getD (↑q.fst:Int).toNat (Pair.mk [] [])).key).length+(1:Nat)≤(1000000:Nat))∧(q.snd.length+2≤1000000)∧(q.snd++[((growT acts (nat_lit 40)).snd.getD (↑q.fst:Int).toNat (Pair.mk [] [])).key,[]++((growT acts (nat_lit 40)).snd.getD (↑q.fst:Int).toNat (Pair.mk [] [])).key++[(0:UInt8)]]=q.snd++[((growT acts (nat_lit 40)).snd.getD (↑q.fst:Int).toNat (Pair.mk [] [])).key,[]++((growT acts (nat_lit 40)).snd.getD (↑q.fst:Int).toNat (Pair.mk [] [])).key++[(0:UInt8)]])) ⟨(by exact mc_3 ‹_›),(by exact mc_4 ‹_›),rfl⟩ (show True from trivial)
          ·skip
           refine v_pick True trivial ?_ ?_
           ·skip
            exact v_back (()) [27] (((0:Nat)+((growT acts (nat_lit 40)).snd.getD (↑q.fst:Int).toNat (Pair.mk [] [])).key.length≤(1000000:Nat))∧(([]++((growT acts (nat_lit 40)).snd.getD (↑q.fst:Int).toNat (Pair.mk [] [])).key).length+(1:Nat)≤(1000000:Nat))∧(q.snd.length+2≤1000000)∧(q.snd++[((growT acts (nat_lit 40)).snd.getD (↑q.fst:Int).toNat (Pair.mk [] [])).key,[]++((growT acts (nat_lit 40)).snd.getD (↑q.fst:Int).toNat (Pair.mk [] [])).key++[(0:UInt8)]]=q.snd++[((growT acts (nat_lit 40)).snd.getD (↑q.fst:Int).toNat (Pair.mk [] [])).key,[]++((growT acts (nat_lit 40)).snd.getD (↑q.fst:Int).toNat (Pair.mk [] [])).key++[(0:UInt8)]])) ⟨(by exact mc_2 ‹_›),(by exact mc_3 ‹_›),(by exact mc_4 ‹_›),rfl⟩ (show True from trivial)
           ·skip
            refine v_pick True trivial ?_ ?_
            ·skip
             exact v_back (()) [27] (((0:Nat)+((growT acts (nat_lit 40)).snd.getD (↑q.fst:Int).toNat (Pair.mk [] [])).key.length≤(1000000:Nat))∧(([]++((growT acts (nat_lit 40)).snd.getD (↑q.fst:Int).toNat (Pair.mk [] [])).key).length+(1:Nat)≤(1000000:Nat))∧(q.snd.length+2≤1000000)∧(q.snd++[((growT acts (nat_lit 40)).snd.getD (↑q.fst:Int).toNat (Pair.mk [] [])).key,[]++((growT acts (nat_lit 40)).snd.getD (↑q.fst:Int).toNat (Pair.mk [] [])).key++[(0:UInt8)]]=q.snd++[((growT acts (nat_lit 40)).snd.getD (↑q.fst:Int).toNat (Pair.mk [] [])).key,[]++((growT acts (nat_lit 40)).snd.getD (↑q.fst:Int).toNat (Pair.mk [] [])).key++[(0:UInt8)]])) ⟨(by exact mc_2 ‹_›),(by exact mc_3 ‹_›),(by exact mc_4 ‹_›),rfl⟩ (show True from trivial)
            ·skip
             refine v_pick (((0:Nat)+((growT acts (nat_lit 40)).snd.getD (↑q.fst:Int).toNat (Pair.mk [] [])).key.length≤(1000000:Nat))) (by exact mc_2 ‹_›) ?_ ?_
             ·skip
              exact v_back (()) [27] ((([]++((growT acts (nat_lit 40)).snd.getD (↑q.fst:Int).toNat (Pair.mk [] [])).key).length+(1:Nat)≤(1000000:Nat))∧(q.snd.length+2≤1000000)∧(q.snd++[((growT acts (nat_lit 40)).snd.getD (↑q.fst:Int).toNat (Pair.mk [] [])).key,[]++((growT acts (nat_lit 40)).snd.getD (↑q.fst:Int).toNat (Pair.mk [] [])).key++[(0:UInt8)]]=q.snd++[((growT acts (nat_lit 40)).snd.getD (↑q.fst:Int).toNat (Pair.mk [] [])).key,[]++((growT acts (nat_lit 40)).snd.getD (↑q.fst:Int).toNat (Pair.mk [] [])).key++[(0:UInt8)]])) ⟨(by exact mc_3 ‹_›),(by exact mc_4 ‹_›),rfl⟩ (show True from trivial)
             ·skip
              exact v_back (()) [27] ((([]++((growT acts (nat_lit 40)).snd.getD (↑q.fst:Int).toNat (Pair.mk [] [])).key).length+(1:Nat)≤(1000000:Nat))∧(q.snd.length+2≤1000000)∧(q.snd++[((growT acts (nat_lit 40)).snd.getD (↑q.fst:Int).toNat (Pair.mk [] [])).key,[]++((growT acts (nat_lit 40)).snd.getD (↑q.fst:Int).toNat (Pair.mk [] [])).key++[(0:UInt8)]]=q.snd++[((growT acts (nat_lit 40)).snd.getD (↑q.fst:Int).toNat (Pair.mk [] [])).key,[]++((growT acts (nat_lit 40)).snd.getD (↑q.fst:Int).toNat (Pair.mk [] [])).key++[(0:UInt8)]])) ⟨(by exact mc_3 ‹_›),(by exact mc_4 ‹_›),rfl⟩ (show True from trivial)
        ·skip
         refine v_pick True trivial ?_ ?_
         ·skip
          refine v_pick True trivial ?_ ?_
          ·skip
           refine v_pick True trivial ?_ ?_
           ·skip
            refine v_pick True trivial ?_ ?_
            ·skip
             exact v_back (()) [27] (((0:Nat)+((growT acts (nat_lit 40)).snd.getD (↑q.fst:Int).toNat (Pair.mk [] [])).key.length≤(1000000:Nat))∧(([]++((growT acts (nat_lit 40)).snd.getD (↑q.fst:Int).toNat (Pair.mk [] [])).key).length+(1:Nat)≤(1000000:Nat))∧(q.snd.length+2≤1000000)∧(q.snd++[((growT acts (nat_lit 40)).snd.getD (↑q.fst:Int).toNat (Pair.mk [] [])).key,[]++((growT acts (nat_lit 40)).snd.getD (↑q.fst:Int).toNat (Pair.mk [] [])).key++[(0:UInt8)]]=q.snd++[((growT acts (nat_lit 40)).snd.getD (↑q.fst:Int).toNat (Pair.mk [] [])).key,[]++((growT acts (nat_lit 40)).snd.getD (↑q.fst:Int).toNat (Pair.mk [] [])).key++[(0:UInt8)]])) ⟨(by exact mc_2 ‹_›),(by exact mc_3 ‹_›),(by exact mc_4 ‹_›),rfl⟩ (show True from trivial)
            ·skip
             exact v_back (()) [27] (((0:Nat)+((growT acts (nat_lit 40)).snd.getD (↑q.fst:Int).toNat (Pair.mk [] [])).key.length≤(1000000:Nat))∧(([]++((growT acts (nat_lit 40)).snd.getD (↑q.fst:Int).toNat (Pair.mk [] [])).key).length+(1:Nat)≤(1000000:Nat))∧(q.snd.length+2≤1000000)∧(q.snd++[((growT acts (nat_lit 40)).snd.getD (↑q.fst:Int).toNat (Pair.mk [] [])).key,[]++((growT acts (nat_lit 40)).snd.getD (↑q.fst:Int).toNat (Pair.mk [] [])).key++[(0:UInt8)]]=q.snd++[((growT acts (nat_lit 40)).snd.getD (↑q.fst:Int).toNat (Pair.mk [] [])).key,[]++((growT acts (nat_lit 40)).snd.getD (↑q.fst:Int).toNat (Pair.mk [] [])).key++[(0:UInt8)]])) ⟨(by exact mc_2 ‹_›),(by exact mc_3 ‹_›),(by exact mc_4 ‹_›),rfl⟩ (show True from trivial)
           ·skip
            exact v_back (()) [27] (((0:Nat)+((growT acts (nat_lit 40)).snd.getD (↑q.fst:Int).toNat (Pair.mk [] [])).key.length≤(1000000:Nat))∧(([]++((growT acts (nat_lit 40)).snd.getD (↑q.fst:Int).toNat (Pair.mk [] [])).key).length+(1:Nat)≤(1000000:Nat))∧(q.snd.length+2≤1000000)∧(q.snd++[((growT acts (nat_lit 40)).snd.getD (↑q.fst:Int).toNat (Pair.mk [] [])).key,[]++((growT acts (nat_lit 40)).snd.getD (↑q.fst:Int).toNat (Pair.mk [] [])).key++[(0:UInt8)]]=q.snd++[((growT acts (nat_lit 40)).snd.getD (↑q.fst:Int).toNat (Pair.mk [] [])).key,[]++((growT acts (nat_lit 40)).snd.getD (↑q.fst:Int).toNat (Pair.mk [] [])).key++[(0:UInt8)]])) ⟨(by exact mc_2 ‹_›),(by exact mc_3 ‹_›),(by exact mc_4 ‹_›),rfl⟩ (show True from trivial)
          ·skip
           refine v_pick True trivial ?_ ?_
           ·skip
            refine v_pick True trivial ?_ ?_
            ·skip
             refine v_pick True trivial ?_ ?_
             ·skip
              exact v_back (()) [27] (((0:Nat)+((growT acts (nat_lit 40)).snd.getD (↑q.fst:Int).toNat (Pair.mk [] [])).key.length≤(1000000:Nat))∧(([]++((growT acts (nat_lit 40)).snd.getD (↑q.fst:Int).toNat (Pair.mk [] [])).key).length+(1:Nat)≤(1000000:Nat))∧(q.snd.length+2≤1000000)∧(q.snd++[((growT acts (nat_lit 40)).snd.getD (↑q.fst:Int).toNat (Pair.mk [] [])).key,[]++((growT acts (nat_lit 40)).snd.getD (↑q.fst:Int).toNat (Pair.mk [] [])).key++[(0:UInt8)]]=q.snd++[((growT acts (nat_lit 40)).snd.getD (↑q.fst:Int).toNat (Pair.mk [] [])).key,[]++((growT acts (nat_lit 40)).snd.getD (↑q.fst:Int).toNat (Pair.mk [] [])).key++[(0:UInt8)]])) ⟨(by exact mc_2 ‹_›),(by exact mc_3 ‹_›),(by exact mc_4 ‹_›),rfl⟩ (show True from trivial)
             ·skip
              exact v_back (()) [27] (((0:Nat)+((growT acts (nat_lit 40)).snd.getD (↑q.fst:Int).toNat (Pair.mk [] [])).key.length≤(1000000:Nat))∧(([]++((growT acts (nat_lit 40)).snd.getD (↑q.fst:Int).toNat (Pair.mk [] [])).key).length+(1:Nat)≤(1000000:Nat))∧(q.snd.length+2≤1000000)∧(q.snd++[((growT acts (nat_lit 40)).snd.getD (↑q.fst:Int).toNat (Pair.mk [] [])).key,[]++((growT acts (nat_lit 40)).snd.getD (↑q.fst:Int).toNat (Pair.mk [] [])).key++[(0:UInt8)]]=q.snd++[((growT acts (nat_lit 40)).snd.getD (↑q.fst:Int).toNat (Pair.mk [] [])).key,[]++((growT acts (nat_lit 40)).snd.getD (↑q.fst:Int).toNat (Pair.mk [] [])).key++[(0:UInt8)]])) ⟨(by exact mc_2 ‹_›),(by exact mc_3 ‹_›),(by exact mc_4 ‹_›),rfl⟩ (show True from trivial)
            ·skip
             refine v_pick True trivial ?_ ?_
             ·skip
              refine v_pick (((0:Nat)+((growT acts (nat_lit 40)).snd.getD (↑q.fst:Int).toNat (Pair.mk [] [])).key.length≤(1000000:Nat))) (by exact mc_2 ‹_›) ?_ ?_
              ·skip
               exact v_back (()) [27] ((([]++((growT acts (nat_lit 40)).snd.getD (↑q.fst:Int).toNat (Pair.mk [] [])).key).length+(1:Nat)≤(1000000:Nat))∧(q.snd.length+2≤1000000)∧(q.snd++[((growT acts (nat_lit 40)).snd.getD (↑q.fst:Int).toNat (Pair.mk [] [])).key,[]++((growT acts (nat_lit 40)).snd.getD (↑q.fst:Int).toNat (Pair.mk [] [])).key++[(0:UInt8)]]=q.snd++[((growT acts (nat_lit 40)).snd.getD (↑q.fst:Int).toNat (Pair.mk [] [])).key,[]++((growT acts (nat_lit 40)).snd.getD (↑q.fst:Int).toNat (Pair.mk [] [])).key++[(0:UInt8)]])) ⟨(by exact mc_3 ‹_›),(by exact mc_4 ‹_›),rfl⟩ (show True from trivial)
              ·skip
               refine v_pick True trivial ?_ ?_
               ·skip
                exact v_back (()) [27] ((([]++((growT acts (nat_lit 40)).snd.getD (↑q.fst:Int).toNat (Pair.mk [] [])).key).length+(1:Nat)≤(1000000:Nat))∧(q.snd.length+2≤1000000)∧(q.snd++[((growT acts (nat_lit 40)).snd.getD (↑q.fst:Int).toNat (Pair.mk [] [])).key,[]++((growT acts (nat_lit 40)).snd.getD (↑q.fst:Int).toNat (Pair.mk [] [])).key++[(0:UInt8)]]=q.snd++[((growT acts (nat_lit 40)).snd.getD (↑q.fst:Int).toNat (Pair.mk [] [])).key,[]++((growT acts (nat_lit 40)).snd.getD (↑q.fst:Int).toNat (Pair.mk [] [])).key++[(0:UInt8)]])) ⟨(by exact mc_3 ‹_›),(by exact mc_4 ‹_›),rfl⟩ (show True from trivial)
               ·skip
                exact v_back (()) [27] ((([]++((growT acts (nat_lit 40)).snd.getD (↑q.fst:Int).toNat (Pair.mk [] [])).key).length+(1:Nat)≤(1000000:Nat))∧(q.snd.length+2≤1000000)∧(q.snd++[((growT acts (nat_lit 40)).snd.getD (↑q.fst:Int).toNat (Pair.mk [] [])).key,[]++((growT acts (nat_lit 40)).snd.getD (↑q.fst:Int).toNat (Pair.mk [] [])).key++[(0:UInt8)]]=q.snd++[((growT acts (nat_lit 40)).snd.getD (↑q.fst:Int).toNat (Pair.mk [] [])).key,[]++((growT acts (nat_lit 40)).snd.getD (↑q.fst:Int).toNat (Pair.mk [] [])).key++[(0:UInt8)]])) ⟨(by exact mc_3 ‹_›),(by exact mc_4 ‹_›),rfl⟩ (show True from trivial)
             ·skip
              refine v_pick True trivial ?_ ?_
              ·skip
               exact v_back (()) [27] (((0:Nat)+((growT acts (nat_lit 40)).snd.getD (↑q.fst:Int).toNat (Pair.mk [] [])).key.length≤(1000000:Nat))∧(([]++((growT acts (nat_lit 40)).snd.getD (↑q.fst:Int).toNat (Pair.mk [] [])).key).length+(1:Nat)≤(1000000:Nat))∧(q.snd.length+2≤1000000)∧(q.snd++[((growT acts (nat_lit 40)).snd.getD (↑q.fst:Int).toNat (Pair.mk [] [])).key,[]++((growT acts (nat_lit 40)).snd.getD (↑q.fst:Int).toNat (Pair.mk [] [])).key++[(0:UInt8)]]=q.snd++[((growT acts (nat_lit 40)).snd.getD (↑q.fst:Int).toNat (Pair.mk [] [])).key,[]++((growT acts (nat_lit 40)).snd.getD (↑q.fst:Int).toNat (Pair.mk [] [])).key++[(0:UInt8)]])) ⟨(by exact mc_2 ‹_›),(by exact mc_3 ‹_›),(by exact mc_4 ‹_›),rfl⟩ (show True from trivial)
              ·skip
               refine v_pick (((0:Nat)+((growT acts (nat_lit 40)).snd.getD (↑q.fst:Int).toNat (Pair.mk [] [])).key.length≤(1000000:Nat))) (by exact mc_2 ‹_›) ?_ ?_
               ·skip
                exact v_back (()) [27] ((([]++((growT acts (nat_lit 40)).snd.getD (↑q.fst:Int).toNat (Pair.mk [] [])).key).length+(1:Nat)≤(1000000:Nat))∧(q.snd.length+2≤1000000)∧(q.snd++[((growT acts (nat_lit 40)).snd.getD (↑q.fst:Int).toNat (Pair.mk [] [])).key,[]++((growT acts (nat_lit 40)).snd.getD (↑q.fst:Int).toNat (Pair.mk [] [])).key++[(0:UInt8)]]=q.snd++[((growT acts (nat_lit 40)).snd.getD (↑q.fst:Int).toNat (Pair.mk [] [])).key,[]++((growT acts (nat_lit 40)).snd.getD (↑q.fst:Int).toNat (Pair.mk [] [])).key++[(0:UInt8)]])) ⟨(by exact mc_3 ‹_›),(by exact mc_4 ‹_›),rfl⟩ (show True from trivial)
               ·skip
                exact v_back (()) [27] ((([]++((growT acts (nat_lit 40)).snd.getD (↑q.fst:Int).toNat (Pair.mk [] [])).key).length+(1:Nat)≤(1000000:Nat))∧(q.snd.length+2≤1000000)∧(q.snd++[((growT acts (nat_lit 40)).snd.getD (↑q.fst:Int).toNat (Pair.mk [] [])).key,[]++((growT acts (nat_lit 40)).snd.getD (↑q.fst:Int).toNat (Pair.mk [] [])).key++[(0:UInt8)]]=q.snd++[((growT acts (nat_lit 40)).snd.getD (↑q.fst:Int).toNat (Pair.mk [] [])).key,[]++((growT acts (nat_lit 40)).snd.getD (↑q.fst:Int).toNat (Pair.mk [] [])).key++[(0:UInt8)]])) ⟨(by exact mc_3 ‹_›),(by exact mc_4 ‹_›),rfl⟩ (show True from trivial)
           ·skip
            refine v_pick True trivial ?_ ?_
            ·skip
             exact v_back (()) [27] (((0:Nat)+((growT acts (nat_lit 40)).snd.getD (↑q.fst:Int).toNat (Pair.mk [] [])).key.length≤(1000000:Nat))∧(([]++((growT acts (nat_lit 40)).snd.getD (↑q.fst:Int).toNat (Pair.mk [] [])).key).length+(1:Nat)≤(1000000:Nat))∧(q.snd.length+2≤1000000)∧(q.snd++[((growT acts (nat_lit 40)).snd.getD (↑q.fst:Int).toNat (Pair.mk [] [])).key,[]++((growT acts (nat_lit 40)).snd.getD (↑q.fst:Int).toNat (Pair.mk [] [])).key++[(0:UInt8)]]=q.snd++[((growT acts (nat_lit 40)).snd.getD (↑q.fst:Int).toNat (Pair.mk [] [])).key,[]++((growT acts (nat_lit 40)).snd.getD (↑q.fst:Int).toNat (Pair.mk [] [])).key++[(0:UInt8)]])) ⟨(by exact mc_2 ‹_›),(by exact mc_3 ‹_›),(by exact mc_4 ‹_›),rfl⟩ (show True from trivial)
            ·skip
             refine v_pick True trivial ?_ ?_
             ·skip
              exact v_back (()) [27] (((0:Nat)+((growT acts (nat_lit 40)).snd.getD (↑q.fst:Int).toNat (Pair.mk [] [])).key.length≤(1000000:Nat))∧(([]++((growT acts (nat_lit 40)).snd.getD (↑q.fst:Int).toNat (Pair.mk [] [])).key).length+(1:Nat)≤(1000000:Nat))∧(q.snd.length+2≤1000000)∧(q.snd++[((growT acts (nat_lit 40)).snd.getD (↑q.fst:Int).toNat (Pair.mk [] [])).key,[]++((growT acts (nat_lit 40)).snd.getD (↑q.fst:Int).toNat (Pair.mk [] [])).key++[(0:UInt8)]]=q.snd++[((growT acts (nat_lit 40)).snd.getD (↑q.fst:Int).toNat (Pair.mk [] [])).key,[]++((growT acts (nat_lit 40)).snd.getD (↑q.fst:Int).toNat (Pair.mk [] [])).key++[(0:UInt8)]])) ⟨(by exact mc_2 ‹_›),(by exact mc_3 ‹_›),(by exact mc_4 ‹_›),rfl⟩ (show True from trivial)
             ·skip
              refine v_pick (((0:Nat)+((growT acts (nat_lit 40)).snd.getD (↑q.fst:Int).toNat (Pair.mk [] [])).key.length≤(1000000:Nat))) (by exact mc_2 ‹_›) ?_ ?_
              ·skip
               exact v_back (()) [27] ((([]++((growT acts (nat_lit 40)).snd.getD (↑q.fst:Int).toNat (Pair.mk [] [])).key).length+(1:Nat)≤(1000000:Nat))∧(q.snd.length+2≤1000000)∧(q.snd++[((growT acts (nat_lit 40)).snd.getD (↑q.fst:Int).toNat (Pair.mk [] [])).key,[]++((growT acts (nat_lit 40)).snd.getD (↑q.fst:Int).toNat (Pair.mk [] [])).key++[(0:UInt8)]]=q.snd++[((growT acts (nat_lit 40)).snd.getD (↑q.fst:Int).toNat (Pair.mk [] [])).key,[]++((growT acts (nat_lit 40)).snd.getD (↑q.fst:Int).toNat (Pair.mk [] [])).key++[(0:UInt8)]])) ⟨(by exact mc_3 ‹_›),(by exact mc_4 ‹_›),rfl⟩ (show True from trivial)
              ·skip
               exact v_back (()) [27] ((([]++((growT acts (nat_lit 40)).snd.getD (↑q.fst:Int).toNat (Pair.mk [] [])).key).length+(1:Nat)≤(1000000:Nat))∧(q.snd.length+2≤1000000)∧(q.snd++[((growT acts (nat_lit 40)).snd.getD (↑q.fst:Int).toNat (Pair.mk [] [])).key,[]++((growT acts (nat_lit 40)).snd.getD (↑q.fst:Int).toNat (Pair.mk [] [])).key++[(0:UInt8)]]=q.snd++[((growT acts (nat_lit 40)).snd.getD (↑q.fst:Int).toNat (Pair.mk [] [])).key,[]++((growT acts (nat_lit 40)).snd.getD (↑q.fst:Int).toNat (Pair.mk [] [])).key++[(0:UInt8)]])) ⟨(by exact mc_3 ‹_›),(by exact mc_4 ‹_›),rfl⟩ (show True from trivial)
         ·skip
          refine v_pick True trivial ?_ ?_
          ·skip
           refine v_pick True trivial ?_ ?_
           ·skip
            exact v_back (()) [27] (((0:Nat)+((growT acts (nat_lit 40)).snd.getD (↑q.fst:Int).toNat (Pair.mk [] [])).key.length≤(1000000:Nat))∧(([]++((growT acts (nat_lit 40)).snd.getD (↑q.fst:Int).toNat (Pair.mk [] [])).key).length+(1:Nat)≤(1000000:Nat))∧(q.snd.length+2≤1000000)∧(q.snd++[((growT acts (nat_lit 40)).snd.getD (↑q.fst:Int).toNat (Pair.mk [] [])).key,[]++((growT acts (nat_lit 40)).snd.getD (↑q.fst:Int).toNat (Pair.mk [] [])).key++[(0:UInt8)]]=q.snd++[((growT acts (nat_lit 40)).snd.getD (↑q.fst:Int).toNat (Pair.mk [] [])).key,[]++((growT acts (nat_lit 40)).snd.getD (↑q.fst:Int).toNat (Pair.mk [] [])).key++[(0:UInt8)]])) ⟨(by exact mc_2 ‹_›),(by exact mc_3 ‹_›),(by exact mc_4 ‹_›),rfl⟩ (show True from trivial)
           ·skip
            exact v_back (()) [27] (((0:Nat)+((growT acts (nat_lit 40)).snd.getD (↑q.fst:Int).toNat (Pair.mk [] [])).key.length≤(1000000:Nat))∧(([]++((growT acts (nat_lit 40)).snd.getD (↑q.fst:Int).toNat (Pair.mk [] [])).key).length+(1:Nat)≤(1000000:Nat))∧(q.snd.length+2≤1000000)∧(q.snd++[((growT acts (nat_lit 40)).snd.getD (↑q.fst:Int).toNat (Pair.mk [] [])).key,[]++((growT acts (nat_lit 40)).snd.getD (↑q.fst:Int).toNat (Pair.mk [] [])).key++[(0:UInt8)]]=q.snd++[((growT acts (nat_lit 40)).snd.getD (↑q.fst:Int).toNat (Pair.mk [] [])).key,[]++((growT acts (nat_lit 40)).snd.getD (↑q.fst:Int).toNat (Pair.mk [] [])).key++[(0:UInt8)]])) ⟨(by exact mc_2 ‹_›),(by exact mc_3 ‹_›),(by exact mc_4 ‹_›),rfl⟩ (show True from trivial)
          ·skip
           refine v_pick True trivial ?_ ?_
           ·skip
            refine v_pick True trivial ?_ ?_
            ·skip
             exact v_back (()) [27] (((0:Nat)+((growT acts (nat_lit 40)).snd.getD (↑q.fst:Int).toNat (Pair.mk [] [])).key.length≤(1000000:Nat))∧(([]++((growT acts (nat_lit 40)).snd.getD (↑q.fst:Int).toNat (Pair.mk [] [])).key).length+(1:Nat)≤(1000000:Nat))∧(q.snd.length+2≤1000000)∧(q.snd++[((growT acts (nat_lit 40)).snd.getD (↑q.fst:Int).toNat (Pair.mk [] [])).key,[]++((growT acts (nat_lit 40)).snd.getD (↑q.fst:Int).toNat (Pair.mk [] [])).key++[(0:UInt8)]]=q.snd++[((growT acts (nat_lit 40)).snd.getD (↑q.fst:Int).toNat (Pair.mk [] [])).key,[]++((growT acts (nat_lit 40)).snd.getD (↑q.fst:Int).toNat (Pair.mk [] [])).key++[(0:UInt8)]])) ⟨(by exact mc_2 ‹_›),(by exact mc_3 ‹_›),(by exact mc_4 ‹_›),rfl⟩ (show True from trivial)
            ·skip
             refine v_pick True trivial ?_ ?_
             ·skip
              exact v_back (()) [27] (((0:Nat)+((growT acts (nat_lit 40)).snd.getD (↑q.fst:Int).toNat (Pair.mk [] [])).key.length≤(1000000:Nat))∧(([]++((growT acts (nat_lit 40)).snd.getD (↑q.fst:Int).toNat (Pair.mk [] [])).key).length+(1:Nat)≤(1000000:Nat))∧(q.snd.length+2≤1000000)∧(q.snd++[((growT acts (nat_lit 40)).snd.getD (↑q.fst:Int).toNat (Pair.mk [] [])).key,[]++((growT acts (nat_lit 40)).snd.getD (↑q.fst:Int).toNat (Pair.mk [] [])).key++[(0:UInt8)]]=q.snd++[((growT acts (nat_lit 40)).snd.getD (↑q.fst:Int).toNat (Pair.mk [] [])).key,[]++((growT acts (nat_lit 40)).snd.getD (↑q.fst:Int).toNat (Pair.mk [] [])).key++[(0:UInt8)]])) ⟨(by exact mc_2 ‹_›),(by exact mc_3 ‹_›),(by exact mc_4 ‹_›),rfl⟩ (show True from trivial)
             ·skip
              refine v_pick (((0:Nat)+((growT acts (nat_lit 40)).snd.getD (↑q.fst:Int).toNat (Pair.mk [] [])).key.length≤(1000000:Nat))) (by exact mc_2 ‹_›) ?_ ?_
              ·skip
               exact v_back (()) [27] ((([]++((growT acts (nat_lit 40)).snd.getD (↑q.fst:Int).toNat (Pair.mk [] [])).key).length+(1:Nat)≤(1000000:Nat))∧(q.snd.length+2≤1000000)∧(q.snd++[((growT acts (nat_lit 40)).snd.getD (↑q.fst:Int).toNat (Pair.mk [] [])).key,[]++((growT acts (nat_lit 40)).snd.getD (↑q.fst:Int).toNat (Pair.mk [] [])).key++[(0:UInt8)]]=q.snd++[((growT acts (nat_lit 40)).snd.getD (↑q.fst:Int).toNat (Pair.mk [] [])).key,[]++((growT acts (nat_lit 40)).snd.getD (↑q.fst:Int).toNat (Pair.mk [] [])).key++[(0:UInt8)]])) ⟨(by exact mc_3 ‹_›),(by exact mc_4 ‹_›),rfl⟩ (show True from trivial)
              ·skip
               exact v_back (()) [27] ((([]++((growT acts (nat_lit 40)).snd.getD (↑q.fst:Int).toNat (Pair.mk [] [])).key).length+(1:Nat)≤(1000000:Nat))∧(q.snd.length+2≤1000000)∧(q.snd++[((growT acts (nat_lit 40)).snd.getD (↑q.fst:Int).toNat (Pair.mk [] [])).key,[]++((growT acts (nat_lit 40)).snd.getD (↑q.fst:Int).toNat (Pair.mk [] [])).key++[(0:UInt8)]]=q.snd++[((growT acts (nat_lit 40)).snd.getD (↑q.fst:Int).toNat (Pair.mk [] [])).key,[]++((growT acts (nat_lit 40)).snd.getD (↑q.fst:Int).toNat (Pair.mk [] [])).key++[(0:UInt8)]])) ⟨(by exact mc_3 ‹_›),(by exact mc_4 ‹_›),rfl⟩ (show True from trivial)
           ·skip
            refine v_pick True trivial ?_ ?_
            ·skip
             exact v_back (()) [27] (((0:Nat)+((growT acts (nat_lit 40)).snd.getD (↑q.fst:Int).toNat (Pair.mk [] [])).key.length≤(1000000:Nat))∧(([]++((growT acts (nat_lit 40)).snd.getD (↑q.fst:Int).toNat (Pair.mk [] [])).key).length+(1:Nat)≤(1000000:Nat))∧(q.snd.length+2≤1000000)∧(q.snd++[((growT acts (nat_lit 40)).snd.getD (↑q.fst:Int).toNat (Pair.mk [] [])).key,[]++((growT acts (nat_lit 40)).snd.getD (↑q.fst:Int).toNat (Pair.mk [] [])).key++[(0:UInt8)]]=q.snd++[((growT acts (nat_lit 40)).snd.getD (↑q.fst:Int).toNat (Pair.mk [] [])).key,[]++((growT acts (nat_lit 40)).snd.getD (↑q.fst:Int).toNat (Pair.mk [] [])).key++[(0:UInt8)]])) ⟨(by exact mc_2 ‹_›),(by exact mc_3 ‹_›),(by exact mc_4 ‹_›),rfl⟩ (show True from trivial)
            ·skip
             refine v_pick True trivial ?_ ?_
             ·skip
              exact v_back (()) [27] (((0:Nat)+((growT acts (nat_lit 40)).snd.getD (↑q.fst:Int).toNat (Pair.mk [] [])).key.length≤(1000000:Nat))∧(([]++((growT acts (nat_lit 40)).snd.getD (↑q.fst:Int).toNat (Pair.mk [] [])).key).length+(1:Nat)≤(1000000:Nat))∧(q.snd.length+2≤1000000)∧(q.snd++[((growT acts (nat_lit 40)).snd.getD (↑q.fst:Int).toNat (Pair.mk [] [])).key,[]++((growT acts (nat_lit 40)).snd.getD (↑q.fst:Int).toNat (Pair.mk [] [])).key++[(0:UInt8)]]=q.snd++[((growT acts (nat_lit 40)).snd.getD (↑q.fst:Int).toNat (Pair.mk [] [])).key,[]++((growT acts (nat_lit 40)).snd.getD (↑q.fst:Int).toNat (Pair.mk [] [])).key++[(0:UInt8)]])) ⟨(by exact mc_2 ‹_›),(by exact mc_3 ‹_›),(by exact mc_4 ‹_›),rfl⟩ (show True from trivial)
             ·skip
              refine v_pick (((0:Nat)+((growT acts (nat_lit 40)).snd.getD (↑q.fst:Int).toNat (Pair.mk [] [])).key.length≤(1000000:Nat))) (by exact mc_2 ‹_›) ?_ ?_
              ·skip
               exact v_back (()) [27] ((([]++((growT acts (nat_lit 40)).snd.getD (↑q.fst:Int).toNat (Pair.mk [] [])).key).length+(1:Nat)≤(1000000:Nat))∧(q.snd.length+2≤1000000)∧(q.snd++[((growT acts (nat_lit 40)).snd.getD (↑q.fst:Int).toNat (Pair.mk [] [])).key,[]++((growT acts (nat_lit 40)).snd.getD (↑q.fst:Int).toNat (Pair.mk [] [])).key++[(0:UInt8)]]=q.snd++[((growT acts (nat_lit 40)).snd.getD (↑q.fst:Int).toNat (Pair.mk [] [])).key,[]++((growT acts (nat_lit 40)).snd.getD (↑q.fst:Int).toNat (Pair.mk [] [])).key++[(0:UInt8)]])) ⟨(by exact mc_3 ‹_›),(by exact mc_4 ‹_›),rfl⟩ (show True from trivial)
              ·skip
               exact v_back (()) [27] ((([]++((growT acts (nat_lit 40)).snd.getD (↑q.fst:Int).toNat (Pair.mk [] [])).key).length+(1:Nat)≤(1000000:Nat))∧(q.snd.length+2≤1000000)∧(q.snd++[((growT acts (nat_lit 40)).snd.getD (↑q.fst:Int).toNat (Pair.mk [] [])).key,[]++((growT acts (nat_lit 40)).snd.getD (↑q.fst:Int).toNat (Pair.mk [] [])).key++[(0:UInt8)]]=q.snd++[((growT acts (nat_lit 40)).snd.getD (↑q.fst:Int).toNat (Pair.mk [] [])).key,[]++((growT acts (nat_lit 40)).snd.getD (↑q.fst:Int).toNat (Pair.mk [] [])).key++[(0:UInt8)]])) ⟨(by exact mc_3 ‹_›),(by exact mc_4 ‹_›),rfl⟩ (show True from trivial)
      ·skip
       exact v_back ((q.fst+(1:Nat),q.snd++[((growT acts (nat_lit 40)).snd.getD (↑q.fst:Int).toNat (Pair.mk [] [])).key,[]++((growT acts (nat_lit 40)).snd.getD (↑q.fst:Int).toNat (Pair.mk [] [])).key++[(0:UInt8)]])) [22] ((I64 (↑q.fst+1))∧((↑q.fst:Int)+1=(↑(q.fst+1):Int))∧(q.snd++[((growT acts (nat_lit 40)).snd.getD (↑q.fst:Int).toNat (Pair.mk [] [])).key,[]++((growT acts (nat_lit 40)).snd.getD (↑q.fst:Int).toNat (Pair.mk [] [])).key++[(0:UInt8)]]=q.snd++[((growT acts (nat_lit 40)).snd.getD (↑q.fst:Int).toNat (Pair.mk [] [])).key,[]++((growT acts (nat_lit 40)).snd.getD (↑q.fst:Int).toNat (Pair.mk [] [])).key++[(0:UInt8)]])) ⟨(by exact mc_7 ‹_›),rfl,rfl⟩ (show mcQ acts (q.fst+(1:Nat),q.snd++[((growT acts (nat_lit 40)).snd.getD (↑q.fst:Int).toNat (Pair.mk [] [])).key,[]++((growT acts (nat_lit 40)).snd.getD (↑q.fst:Int).toNat (Pair.mk [] [])).key++[(0:UInt8)]])∧(growT acts (40:Nat)).snd.length - (q.fst+(1:Nat))<(growT acts (40:Nat)).snd.length - q.fst from(by exact mc_5 ‹_› ‹_›))
     ·have h16:=of_decide_eq_false h16
      refine v_leave (.ex 2) True trivial ?_
      refine v_call _ [14,7] (Change10_ok (mkT (growT acts (nat_lit 40)).fst (smP (growT acts (nat_lit 40)).snd keys wh)) (what) (at_) (n) (h) (b) ‹_› ‹_› (by exact Nat.le_trans (mm_mk (m:=40) (by decide)) (by decide))) ((what=what)∧(at_=at_)∧(n=n)∧(h=h)∧(mkT (growT acts (nat_lit 40)).fst (smP (growT acts (nat_lit 40)).snd keys wh)=mkT (growT acts (nat_lit 40)).fst (smP (growT acts (nat_lit 40)).snd keys wh))∧(b=b)) ⟨rfl,rfl,rfl,rfl,rfl,rfl⟩ (fun g17 p18=>?_)
      have p18:g17.length≤(mkT (growT acts (nat_lit 40)).fst (smP (growT acts (nat_lit 40)).snd keys wh)).length+(1:Nat):=p18
      refine v_loop (fun j:Nat=>([(108,.i j)],[])) (fun j=>j≤4) (fun j=>4 - j) 0 [] (((0:Int)=(↑(0:Nat):Int))) rfl (by decide) (fun j hk19=>?_)
      refine v_if (decide ((↑j:Int)<(↑(4:Nat):Int))) True trivial (fun h20=>?_) (fun h20=>?_)
      ·have h20:=of_decide_eq_true h20
       refine v_call _ [0,11] (Root_ok ((growT acts (nat_lit 40)).fst)) (((0:Int)≤(↑j:Int)∧(↑j:Int)<(↑(4:Nat):Int))∧(wordsP=wordsP)∧(PTO (growT acts (nat_lit 40)).fst=PTO (growT acts (nat_lit 40)).fst)∧(false=false)) ⟨(by omega),rfl,rfl,rfl⟩ (fun g21 p22=>?_)
       have p22:True:=p22
       refine v_if (decide ((↑j:Int)=0)) True trivial (fun h23=>?_) (fun h23=>?_)
       ·have h23:=of_decide_eq_true h23
        refine v_call _ [0,20] (Check_ok (root) (mc4 l (mcM acts keys wh) g17 j) ‹_› (by exact mc_l ‹_› (mm_mk (m:=40) (by decide)) ‹_›)) ((root=root)∧(wordsP=wordsP)∧(mc4 l (mcM acts keys wh) g17 j=mc4 l (mcM acts keys wh) g17 j)) ⟨rfl,rfl,rfl⟩ (fun g24 p25=>?_)
        have p25:True:=p25
        refine v_call _ [1,20] (rChk_ok (root) (mc4 l (mcM acts keys wh) g17 j) ‹_› (by exact mc_l ‹_› (mm_mk (m:=40) (by decide)) ‹_›)) ((root=root)∧(rootsP=rootsP)∧(mc4 l (mcM acts keys wh) g17 j=mc4 l (mcM acts keys wh) g17 j)) ⟨rfl,rfl,rfl⟩ (fun g26 p27=>?_)
        have p27:True:=p27
        refine v_call _ [2,24] (Code_ok ((chkR root (mc4 l (mcM acts keys wh) g17 j)).fst) (by exact mc_d)) ((etP=etP)∧(PE (chkR root (mc4 l (mcM acts keys wh) g17 j)).fst=PE (chkR root (mc4 l (mcM acts keys wh) g17 j)).fst)∧((chkR root (mc4 l (mcM acts keys wh) g17 j)).fst.isNone=(chkR root (mc4 l (mcM acts keys wh) g17 j)).fst.isNone)) ⟨rfl,rfl,rfl⟩ (fun g28 p29=>?_)
        have p29:True:=p29
        refine v_guard 134 (decide (codeO (chkR root (mc4 l (mcM acts keys wh) g17 j)).fst≠codeO (chkR root (mc4 l (mcM acts keys wh) g17 j)).fst)) True trivial (fun h30=>?_) (fun h30=>?_)
        ·have h30:=of_decide_eq_true h30
         omega
        ·have h30:=of_decide_eq_false h30
         refine v_guard 141 ((fo (chkR root (mc4 l (mcM acts keys wh) g17 j))).isNone != decide (codeO (chkR root (mc4 l (mcM acts keys wh) g17 j)).fst≠(0:Int))) True trivial (fun h31=>?_) (fun h31=>?_)
         ·skip
          exfalso;exact Bool.noConfusion (mc_x.symm.trans ‹_›)
         ·skip
          refine v_guard 144 (!(fo (chkR root (mc4 l (mcM acts keys wh) g17 j))).isNone) True trivial (fun h32=>?_) (fun h32=>?_)
          ·have h32:=(nt h32)
           refine v_call _ [23,25,17] (same10_ok (fo (chkR root (mc4 l (mcM acts keys wh) g17 j))) ((chkR root (mc4 l (mcM acts keys wh) g17 j)).snd) (q.snd) (by exact mc_o ‹_›) (by exact(chk_f _ _).1) (by exact mc_fl (mc_l ‹_› (mm_mk (m:=40) (by decide)) ‹_›)) (by exact(chk_f _ _).2.2) (by exact mc_q ‹_›)) ((PF (fo (chkR root (mc4 l (mcM acts keys wh) g17 j)))=PF (fo (chkR root (mc4 l (mcM acts keys wh) g17 j))))∧((fo (chkR root (mc4 l (mcM acts keys wh) g17 j))).isNone=(fo (chkR root (mc4 l (mcM acts keys wh) g17 j))).isNone)∧((chkR root (mc4 l (mcM acts keys wh) g17 j)).snd=(chkR root (mc4 l (mcM acts keys wh) g17 j)).snd)∧(q.snd=q.snd)) ⟨rfl,rfl,rfl,rfl⟩ (fun g33 p34=>?_)
           have p34:True:=p34
           refine v_if (!true) True trivial (fun h35=>?_) (fun h35=>?_)
           ·have h35:=(nt h35)
            contradiction
           ·have h35:=(nf h35)
            exact v_back (j+1) [] ((I64 (↑j+1))∧((↑j:Int)+1=(↑(j+1):Int))) ⟨(by(unfold I64;omega)),rfl⟩ (show j+1≤4∧4 - (j+1)<4 - j from(by omega))
          ·have h32:=(nf h32)
           exact v_back (j+1) [] ((I64 (↑j+1))∧((↑j:Int)+1=(↑(j+1):Int))) ⟨(by(unfold I64;omega)),rfl⟩ (show j+1≤4∧4 - (j+1)<4 - j from(by omega))
       ·have h23:=of_decide_eq_false h23
        refine v_call _ [0,20] (Check_ok (hashO (growT acts (nat_lit 40)).fst) (mc4 l (mcM acts keys wh) g17 j) (by exact hashO_len _) (by exact mc_l ‹_› (mm_mk (m:=40) (by decide)) ‹_›)) ((hashO (growT acts (nat_lit 40)).fst=hashO (growT acts (nat_lit 40)).fst)∧(wordsP=wordsP)∧(mc4 l (mcM acts keys wh) g17 j=mc4 l (mcM acts keys wh) g17 j)) ⟨rfl,rfl,rfl⟩ (fun g36 p37=>?_)
        have p37:True:=p37
        refine v_call _ [1,20] (rChk_ok (hashO (growT acts (nat_lit 40)).fst) (mc4 l (mcM acts keys wh) g17 j) (by exact hashO_len _) (by exact mc_l ‹_› (mm_mk (m:=40) (by decide)) ‹_›)) ((hashO (growT acts (nat_lit 40)).fst=hashO (growT acts (nat_lit 40)).fst)∧(rootsP=rootsP)∧(mc4 l (mcM acts keys wh) g17 j=mc4 l (mcM acts keys wh) g17 j)) ⟨rfl,rfl,rfl⟩ (fun g38 p39=>?_)
        have p39:True:=p39
        refine v_call _ [2,24] (Code_ok ((chkR (hashO (growT acts (nat_lit 40)).fst) (mc4 l (mcM acts keys wh) g17 j)).fst) (by exact mc_d)) ((etP=etP)∧(PE (chkR (hashO (growT acts (nat_lit 40)).fst) (mc4 l (mcM acts keys wh) g17 j)).fst=PE (chkR (hashO (growT acts (nat_lit 40)).fst) (mc4 l (mcM acts keys wh) g17 j)).fst)∧((chkR (hashO (growT acts (nat_lit 40)).fst) (mc4 l (mcM acts keys wh) g17 j)).fst.isNone=(chkR (hashO (growT acts (nat_lit 40)).fst) (mc4 l (mcM acts keys wh) g17 j)).fst.isNone)) ⟨rfl,rfl,rfl⟩ (fun g40 p41=>?_)
        have p41:True:=p41
        refine v_guard 134 (decide (codeO (chkR (hashO (growT acts (nat_lit 40)).fst) (mc4 l (mcM acts keys wh) g17 j)).fst≠codeO (chkR (hashO (growT acts (nat_lit 40)).fst) (mc4 l (mcM acts keys wh) g17 j)).fst)) True trivial (fun h42=>?_) (fun h42=>?_)
        ·have h42:=of_decide_eq_true h42
         omega
        ·have h42:=of_decide_eq_false h42
         refine v_guard 141 ((fo (chkR (hashO (growT acts (nat_lit 40)).fst) (mc4 l (mcM acts keys wh) g17 j))).isNone != decide (codeO (chkR (hashO (growT acts (nat_lit 40)).fst) (mc4 l (mcM acts keys wh) g17 j)).fst≠(0:Int))) True trivial (fun h43=>?_) (fun h43=>?_)
         ·skip
          exfalso;exact Bool.noConfusion (mc_x.symm.trans ‹_›)
         ·skip
          refine v_guard 144 (!(fo (chkR (hashO (growT acts (nat_lit 40)).fst) (mc4 l (mcM acts keys wh) g17 j))).isNone) True trivial (fun h44=>?_) (fun h44=>?_)
          ·have h44:=(nt h44)
           refine v_call _ [23,25,17] (same10_ok (fo (chkR (hashO (growT acts (nat_lit 40)).fst) (mc4 l (mcM acts keys wh) g17 j))) ((chkR (hashO (growT acts (nat_lit 40)).fst) (mc4 l (mcM acts keys wh) g17 j)).snd) (q.snd) (by exact mc_o ‹_›) (by exact(chk_f _ _).1) (by exact mc_fl (mc_l ‹_› (mm_mk (m:=40) (by decide)) ‹_›)) (by exact(chk_f _ _).2.2) (by exact mc_q ‹_›)) ((PF (fo (chkR (hashO (growT acts (nat_lit 40)).fst) (mc4 l (mcM acts keys wh) g17 j)))=PF (fo (chkR (hashO (growT acts (nat_lit 40)).fst) (mc4 l (mcM acts keys wh) g17 j))))∧((fo (chkR (hashO (growT acts (nat_lit 40)).fst) (mc4 l (mcM acts keys wh) g17 j))).isNone=(fo (chkR (hashO (growT acts (nat_lit 40)).fst) (mc4 l (mcM acts keys wh) g17 j))).isNone)∧((chkR (hashO (growT acts (nat_lit 40)).fst) (mc4 l (mcM acts keys wh) g17 j)).snd=(chkR (hashO (growT acts (nat_lit 40)).fst) (mc4 l (mcM acts keys wh) g17 j)).snd)∧(q.snd=q.snd)) ⟨rfl,rfl,rfl,rfl⟩ (fun g45 p46=>?_)
           have p46:True:=p46
           refine v_if (!true) True trivial (fun h47=>?_) (fun h47=>?_)
           ·have h47:=(nt h47)
            contradiction
           ·have h47:=(nf h47)
            exact v_back (j+1) [] ((I64 (↑j+1))∧((↑j:Int)+1=(↑(j+1):Int))) ⟨(by(unfold I64;omega)),rfl⟩ (show j+1≤4∧4 - (j+1)<4 - j from(by omega))
          ·have h44:=(nf h44)
           exact v_back (j+1) [] ((I64 (↑j+1))∧((↑j:Int)+1=(↑(j+1):Int))) ⟨(by(unfold I64;omega)),rfl⟩ (show j+1≤4∧4 - (j+1)<4 - j from(by omega))
      ·have h20:=of_decide_eq_false h20
       refine v_leave (.ex 4) True trivial ?_
       exact v_ret () [] ((true=true)∧(wordsP=wordsP)∧(rootsP=rootsP)∧(etP=etP)∧(l=l)∧(acts=acts)∧(keys=keys)∧(wh=wh)∧(b=b)) ⟨rfl,rfl,rfl,rfl,rfl,rfl,rfl,rfl,rfl⟩ trivial
end Go.Proofs.YtnicmjipbnhciaaDoor.X
set_option linter.unusedVariables false
set_option linter.unusedSimpArgs false
namespace Go.Proofs.YtnicmjipbnhciaaDoor.X
open Go Go.RowKit Go.Proofs.YtnicmjipbnhciaaDoor.E
def OpF {α:Type} (P:Program) (t:TypeId) (fs:Array Go.Field) (off:Nat) (T:Ty α):Prop :=
  ∀(w:World) (cs:List Value),cs.length=P.cellsOf t→(∀(i:Nat) (f:Go.Field),fs[i]? = some f→∀ {β:Type} {U:Ty β},E.Opens P f.type U→∀ o sz,f.offset=o→P.cellsOf f.type=sz→∃ a,U.rep (sig0 w) w a ((cs.drop o).take sz))→∃ a,T.rep (sig0 w) w a (cs.drop off)
section
variable {α β:Type} {P:Program} {t:TypeId} {fs:Array Go.Field} {off n:Nat} {A:Ty α} {B:Ty β} {f:Go.Field}
theorem opF_cons (i:Nat) (hf:fs[i]? = some f) (ho:f.offset=off) (O:E.Opens P f.type A) (hs:P.cellsOf f.type=n) (hB:OpF P t fs (off+n) B):OpF P t fs off (tProd A B):=by
  intro w cs hl h
  obtain⟨a,ha⟩:=h i f hf O off n ho hs
  obtain⟨b,hb⟩:=hB w cs hl h
  exact⟨(a,b),_,_,by rw[← List.drop_drop];exact(List.take_append_drop n _).symm,ha,hb⟩
theorem opF_last (i:Nat) (hf:fs[i]? = some f) (ho:f.offset=off) (O:E.Opens P f.type A) (hs:P.cellsOf f.type=n) (tot:P.cellsOf t=off+n):OpF P t fs off A:=by
  intro w cs hl h
  obtain⟨a,ha⟩:=h i f hf O off n ho hs
  rw[List.take_of_length_le (by rw[List.length_drop];omega)] at ha
  exact⟨a,ha⟩
theorem opens_rec (ht:P.underlying t=some (.struct fs)) (h:OpF P t fs 0 A):E.Opens P t A:=by
  intro H enc w sp held fuel cs x hx hw
  obtain⟨hl,hf⟩:=opens_field ht hx hw
  obtain⟨a,ha⟩:=h w cs hl (fun i f hi β U O o sz ho hs=>hf i f hi O o sz ho hs)
  exact⟨a,by simpa using ha⟩
theorem opens_by (n:Nat) (h:E.Opens P t A):E.Opens P t (tBy A n):=h
theorem opens_iso {g:β→α} (k:α→β) (hg:∀ b,g (k b)=b) (h:E.Opens P t A):E.Opens P t (tIso g A):=by
  intro H enc w sp held fuel cs x hx hw
  obtain⟨b,hb⟩:=h hx hw
  exact⟨k b,by show A.rep _ _ (g (k b)) _;rw[hg];exact hb⟩
end
def u8Of:Option Value→UInt8
  | some (.int .u8 n)=>UInt8.ofNat n.toNat
  | _=>0
theorem u8Of_bv (b:UInt8):u8Of (some (bv b))=b:=by simp[u8Of,bv]
theorem opens_hash {P:Program} {t e:TypeId} (ht:P.underlying t=some (.array 32 e)) (he:P.underlying e=some (.int .u8)) (hc:P.cellsOf e=1) (hct:P.cellsOf t=32):E.Opens P t tHash:=by
  intro H enc w sp held fuel cs x hx hw
  obtain⟨xs,m,rfl,rfl,hl,hn,hel⟩:=DataW.trod_array ht hx
  rw[hct] at hl
  have hb:∀ i,i<32→∃ b:UInt8,cs[i]? = some (bv b):=fun i hi=>by
    have h:=hel i hi
    rw[hc,Nat.mul_one,List.getElem?_eq_getElem (by omega)] at h
    obtain⟨n,e1,_,hw⟩:=DataW.trod_int he h
    obtain⟨b,rfl⟩:=wf_u8 hw
    refine⟨b,?_⟩
    have:((cs.drop i).take 1)[0]? = some (.int .u8 (b.toNat:Int)):=by rw[e1];rfl
    simpa using this
  refine⟨mk32 ((List.range 32).map fun i=>u8Of cs[i]?),?_⟩
  show cs=hk 32 (mk32 _).l
  rw[mk32_hk]
  apply List.ext_getElem?
  intro i
  by_cases hi:i<32
  · obtain ⟨b, e1⟩ := hb i hi
    rw[e1]
    simp[hk,hi,e1,List.getD_eq_getElem?_getD,u8Of_bv]
  · rw[List.getElem?_eq_none (by omega),List.getElem?_eq_none (by rw[hk_len];omega)]
/-- An argument of any kind. -/
theorem arg_any {α:Type} {H:Type} {P:Program} {enc:TypeId × Value→H} {w:World} {sp:Nat→Bool} {held:Bool} {t:TypeId} {T:Ty α} {v:Value} {d:DataW H} {ps:List MemPlace} {ts:List TypeId} {ds:List (DataW H)} {j:Nat} (O:E.Opens P t T)
    (h:DataW.Trod enc P w 0 sp held t v d ps) (hsz:(DataW.weightsEach P ts ds).all (·≤reachBytes)=true) (ht:ts[j]? = some t) (hd:ds[j]? = some d):∃ x,T.rep (sig0 w) w x v.cells.toList:=by
  obtain⟨fuel,hf⟩:=h
  exact O hf (fun n hn=>by
    have:=List.all_eq_true.1 hsz n (DataW.weights_mem_each ht hd n hn)
    simpa using this)
theorem okWide_arr {P:Program} {w:World} {r:Reach} {base:Nat} {t n e:TypeId} {v:Value} (ht:P.underlying t=some (.array n e)) (h:Value.okWide P w r base t v):∃ cs,v=.agg cs∧cs.size=P.cellsOf t:=by
  simp only[Value.okWide,ht] at h
  obtain⟨cs,h1,h2,_⟩:=h
  exact⟨cs,h1,h2⟩
theorem rd_u8_len {σ:Nat→Nat} {w:World} {v:Value} {xs:List UInt8} (h:Rd tU8 σ w v xs):xs.length≤140737488355328:=by
  have:=h.bd;rwa [show tU8.by_=1 from rfl,Nat.mul_one] at this
theorem hash_rep {σ:Nat→Nat} {w:World} {x:Sum32} {cs:Array Value} (h:tHash.rep σ w x (Value.agg cs).cells.toList):cs=(hk 32 x.l).toArray:=by
  have h':cs.toList=hk 32 x.l:=h
  rw[← h']
end Go.Proofs.YtnicmjipbnhciaaDoor.X
set_option linter.unusedVariables false
set_option maxRecDepth 100000
namespace Go.Proofs.YtnicmjipbnhciaaDoor.X
open Go Go.RowKit Go.Proofs.YtnicmjipbnhciaaDoor.E
theorem opAct:E.Opens Tryd.prog 133 tAct:=opens_by 56 (opens_iso (fun p=>⟨p.1,p.2.1,p.2.2.1,p.2.2.2⟩) (fun _=>rfl) (opens_rec Tryd.underlying133 (opF_cons (n:=1) 0 rfl rfl (opens_u8 Tryd.underlying5) (by kernel_rfl) (opF_cons (n:=1) 1 rfl rfl (opens_u8 Tryd.underlying5) (by kernel_rfl) (opF_cons (n:=1) 2 rfl rfl (opens_slice (T:=tU8) Tryd.underlying22 (by kernel_rfl) (by kernel_rfl) (by decide) (opens_u8 Tryd.underlying5)) (by kernel_rfl) (opF_last (n:=1) 3 rfl rfl (opens_slice (T:=tU8) Tryd.underlying22 (by kernel_rfl) (by kernel_rfl) (by decide) (opens_u8 Tryd.underlying5)) (by kernel_rfl) (by kernel_rfl)))))))
theorem opToken:E.Opens Tryd.prog 100 tToken:=opens_by 104 (opens_iso (fun p=>⟨p.1,p.2.1,p.2.2.1,p.2.2.2.1,p.2.2.2.2.1,p.2.2.2.2.2⟩) (fun _=>rfl) (opens_rec Tryd.underlying100 (opF_cons (n:=1) 0 rfl rfl (opens_u8 Tryd.underlying97) (by kernel_rfl) (opF_cons (n:=32) 1 rfl rfl (opens_hash (e:=5) Tryd.underlying52 Tryd.underlying5 (by kernel_rfl) (by kernel_rfl)) (by kernel_rfl) (opF_cons (n:=1) 2 rfl rfl (opens_slice (T:=tU8) Tryd.underlying22 (by kernel_rfl) (by kernel_rfl) (by decide) (opens_u8 Tryd.underlying5)) (by kernel_rfl) (opF_cons (n:=1) 3 rfl rfl (opens_slice (T:=tU8) Tryd.underlying22 (by kernel_rfl) (by kernel_rfl) (by decide) (opens_u8 Tryd.underlying5)) (by kernel_rfl) (opF_cons (n:=1) 4 rfl rfl (opens_i64 Tryd.underlying3) (by kernel_rfl) (opF_last (n:=1) 5 rfl rfl (opens_u64 Tryd.underlying98) (by kernel_rfl) (by kernel_rfl)))))))))
theorem opHash:E.Opens Tryd.prog 52 tHash:=(opens_hash (e:=5) Tryd.underlying52 Tryd.underlying5 (by kernel_rfl) (by kernel_rfl))
theorem reps_mem {α:Type} {R:α→List Value→Prop}:∀ {xs:List α} {cs:List Value},Reps R xs cs→∀ x∈xs,∃ c,R x c
  | y :: ys, cs, ⟨c, r, _, hc, hr⟩, x, hx => by
    rcases List.mem_cons.1 hx with rfl | h
    · exact⟨c,hc⟩
    · exact reps_mem hr x h
theorem rd_tok_len {σ:Nat→Nat} {w:World} {v:Value} {xs:List Token} (h:Rd tToken σ w v xs):∀ x∈xs,x.key.length≤140737488355328∧x.value.length≤140737488355328:=by
  obtain⟨a,cap,e,hc,hb,h⟩:=h
  rcases h with h | ⟨b,o,cs,e2,hs,hr⟩
  · intro x hx;rw[h] at hx;cases hx
  · intro x hx
    obtain⟨c,hc⟩:=reps_mem hr x hx
    obtain⟨_,_,_,_,_,_,_,_,_,_,_,⟨k,_,hk⟩,_,_,_,⟨u,_,hu⟩,_⟩:=hc
    exact⟨rd_u8_len hk,rd_u8_len hu⟩
end Go.Proofs.YtnicmjipbnhciaaDoor.X
