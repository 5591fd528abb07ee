/- What the law MultiMany needs: the engine, the walks of what it reaches, plain laws; part 4. -/
import Derived.Test.YtnicmjipbnhciaaDoorMultiManyM3
import Derived.Shelf.SlSortCmp.NoneTotal
set_option linter.unnecessarySimpa false
set_option linter.deprecated false
set_option linter.unusedVariables false
set_option linter.unusedSimpArgs false
set_option maxRecDepth 100000
namespace Go.Proofs.YtnicmjipbnhciaaDoor.X
open Go Go.RowKit Go.Proofs Go.Proofs.YtnicmjipbnhciaaDoor.E
def cutR (k:List UInt8) (t:Tr):Option Tr:=(t.cut k).getD none
section
variable {k:List UInt8} {t:Tr}
end
namespace Tr
end Tr
theorem hashO_len (o:Option Tr):(hashO o).length=32:=by
  cases o with
  | none=>exact sum256_len _
  | some t=>exact t.hash_len
def PI (o:Option Tr) (k:List UInt8) (q:List Turn × Option Tr):Prop:=q.2.isNone=false∧q.1++(gt q.2).turns k=(gt o).turns k∧(gt q.2).fin k=(gt o).fin k∧(gt q.2).Ks∧(gt q.2).height<900∧q.1.length+(gt q.2).depth≤(gt o).depth
section
variable {o:Option Tr} {k:List UInt8} {q:List Turn × Option Tr}
theorem PI.start (ho:o.isNone=false) (hk:(gt o).Ks) (hh:(gt o).height<900):PI o k ([],o):=⟨ho,rfl,rfl,hk,hh,by simp⟩
theorem PI.step (h:PI o k q) (hp:0<(gt q.2).height):(gt q.2).turns k=(gt q.2).turn k::(if(gt q.2).rt k=true then(gt (gt q.2).rc).turns k else(gt (gt q.2).lc).turns k)∧(gt q.2).fin k=(if(gt q.2).rt k=true then(gt (gt q.2).rc).fin k else(gt (gt q.2).lc).fin k)∧(gt (gt q.2).lc).depth<(gt q.2).depth∧(gt (gt q.2).rc).depth<(gt q.2).depth:=by
  obtain⟨e,_,_⟩:=Tr.kids hp
  generalize gt (gt q.2).lc=a at *
  generalize gt (gt q.2).rc=b at *
  rw[e];exact⟨rfl,rfl,by simp[Tr.depth];omega,by simp[Tr.depth];omega⟩
theorem PI.stop (h:PI o k q) (hp:¬ 0<(gt q.2).height):(gt q.2).key=((gt o).fin k).key∧(gt q.2).value=((gt o).fin k).value∧q.1=(gt o).turns k:=by
  obtain⟨a1,a2,a3,a4,a5,a6⟩:=h
  have:=(gt q.2).height_nn
  obtain⟨a,b,e⟩:=Tr.leaf_of (s:=gt q.2) (by omega)
  rw[e] at a2 a3 ⊢
  simp only[Tr.turns,Tr.fin,List.append_nil] at a2 a3
  rw[← a3];exact⟨rfl,rfl,a2⟩
end
def findG (k:List UInt8):List Pair→Nat→Int
  | [],_=>-1
  | x::xs,i=>if x.key=k then i else findG k xs (i+1)
def findP (l:List Pair) (k:List UInt8):Int:=findG k l 0
def FI (l:List Pair) (k:List UInt8) (i:Nat):Prop:=findG k (l.drop i) i=findP l k∧i≤l.length
abbrev dP:Pair:=⟨[],[]⟩
theorem FI.next {l:List Pair} {k:List UInt8} {i:Nat} (h:FI l k i) (hi:(i:Int)<l.length) (he:¬ (l.getD i dP).key=k):FI l k (i+1)∧l.length - (i+1)<l.length - i:=by
  obtain⟨h,h2⟩:=h;rw[drop_cons (d:=dP) hi,findG,if_neg he] at h;exact⟨⟨h,by omega⟩,by omega⟩
theorem FI.stop {l:List Pair} {k:List UInt8} {i:Nat} (h:FI l k i) (hi:¬ (i:Int)<l.length) : -1=findP l k:=by
  have h:=h.1;rw[List.drop_of_length_le (by omega),findG] at h;exact h
def SI (a b:Proof) (i:Nat):Prop:=(a.turns.drop i=b.turns.drop i↔a=b)∧i≤a.turns.length∧a.turns.length=b.turns.length
section
variable {a b:Proof} {i:Nat}
theorem SI.start (h1:¬ a.key≠b.key) (h2:¬ a.value≠b.value) (h3:¬ (a.turns.length:Int)≠b.turns.length):SI a b 0:=by
  refine⟨⟨fun h=>?_,fun h=>by rw[h]⟩,Nat.zero_le _,by omega⟩
  cases a;cases b;simp only[Decidable.not_not] at *;subst h1;subst h2;simp only[List.drop_zero] at h;rw[h]
theorem SI.ne (h:SI a b i) (hi:(i:Int)<a.turns.length) (hn:teq (a.turns.getD i dT) (b.turns.getD i dT)=false):false=decide (a=b):=by
  refine(decide_eq_false (fun e=>?_)).symm
  subst e
  have:=teq_iff.2 (rfl:a.turns.getD i dT=a.turns.getD i dT);rw[this] at hn;cases hn
theorem SI.next (h:SI a b i) (hi:(i:Int)<a.turns.length) (hn:teq (a.turns.getD i dT) (b.turns.getD i dT)=true):SI a b (i+1)∧a.turns.length - (i+1)<a.turns.length - i:=by
  obtain⟨h1,h2,h3⟩:=h
  refine⟨⟨?_,by omega,h3⟩,by omega⟩
  rw[← h1,drop_cons (d:=dT) hi,drop_cons (l:=b.turns) (i:=i) (d:=dT) (by omega),teq_iff.1 hn];simp
theorem SI.stop (h:SI a b i) (hi:¬ (i:Int)<a.turns.length):true=decide (a=b):=by
  refine(decide_eq_true (h.1.1 ?_)).symm
  obtain⟨h1,h2,h3⟩:=h
  rw[List.drop_of_length_le (by omega),List.drop_of_length_le (by omega)]
end
def ben (l:List Turn) (i:Nat):Int:=if(i:Int)<l.length then(l.getD i dT).height else 0
def bad (l:List Turn) (i:Nat):Prop:=(l.getD i dT).height≤ben l (i+1)∨64<(l.getD i dT).height
def hashN (p:Proof):List UInt8:=p.turns.foldr stepH (nsum 0 1 p.key p.value z32 z32)
section
variable {p:Proof} {want:List UInt8} {i:Nat} {x:List UInt8}
/-- no fault so far -/
def GI (l:List Turn) (i:Nat):Prop:=(∀ j,j<i→¬ bad l j)∧i≤l.length
theorem GI.start {l:List Turn}:GI l 0:=⟨fun j hj=>by omega,Nat.zero_le _⟩
theorem GI.all {l:List Turn} (h:GI l i) (hi:¬ (i:Int)<l.length):∀ j,j<l.length→¬ bad l j:=fun j hj=>h.1 j (by have:=h.2;omega)
/-- the sums so far, from the end -/
def HI (p:Proof) (q:Nat × List UInt8):Prop:=q.2=(p.turns.drop q.1).foldr stepH (nsum 0 1 p.key p.value z32 z32)∧q.1≤p.turns.length∧q.2.length=32
theorem HI.start:HI p (p.turns.length,nsum 0 1 p.key p.value z32 z32):=⟨by simp,Nat.le_refl _,show(nsum 0 1 p.key p.value z32 z32).length=32 from Tr.nsum_len _ _ _ _ _ _⟩
theorem HI.next {n:Nat} (h:HI p (n,x)) (h0:0≤(n:Int) - 1):HI p (n - 1,stepH (tAt p n) x)∧n - 1<n:=by
  obtain⟨m,rfl,e⟩:=RI.succ (p:=p) h0
  obtain⟨h1,h2,h3⟩:=h
  refine⟨⟨?_,by omega,show(stepH _ _).length=32 by unfold stepH;split <;> exact Tr.nsum_len _ _ _ _ _ _⟩,by omega⟩
  have h1:x=(p.turns.drop (m+1)).foldr stepH (nsum 0 1 p.key p.value z32 z32):=h1
  show stepH _ x=((p.turns.drop m)).foldr stepH _
  rw[e,drop_cons (l:=p.turns) (i:=m) (d:=dT) (by omega),List.foldr_cons,h1]
theorem HI.stop {n:Nat} (h:HI p (n,x)) (h0:¬ 0≤(n:Int) - 1):hashN p=x:=by
  have:n=0:=by omega
  subst this;exact h.1.symm
end
def keyA (a:Act):List UInt8:=if 0<a.raw.length then a.raw else[107,97+a.k % 26,97+a.k / 26]
noncomputable def ccR11_63:Code:=(Tryd.f63.body).getD .skip
theorem Key_ok (a:Act):FOk EN 63 ⟨[.rd 5 (a.raw),.rd 5 (a.value)],[.a [.c a.kind,.c a.k,.n 0,.n 1]],Unit,fun _=>([.rd 5 (a.raw),.rd 5 (a.value),.rd 5 (keyA a)],.n 2),fun _=>True⟩:=by
 refine v_fun Tryd.f63 ccR11_63 MX (fun ν F σ w=>?_) Tryd.func63
 refine v_nl ?_
 refine v_if (decide (0<(↑a.raw.length:Int))) True trivial (fun h1=>?_) (fun h1=>?_)
 ·have h1:=of_decide_eq_true h1
  exact v_ret () [0] ((a.raw=a.raw)∧(a.value=a.value)∧(a.raw=keyA a)) ⟨rfl,rfl,(by(unfold keyA;rw[if_pos (by omega)]))⟩ trivial
 ·have h1:=of_decide_eq_false h1
  exact v_ret () [4] (((26:UInt8)≠(0:UInt8))∧((26:UInt8)≠(0:UInt8))∧(a.raw=a.raw)∧(a.value=a.value)∧([107,97+a.k % 26,97+a.k / 26]=keyA a)) ⟨(by decide),(by decide),rfl,rfl,(by(unfold keyA;rw[if_neg (by omega)]))⟩ trivial
def putPair (k v:List UInt8):List Pair→List Pair
  | []=>[⟨k,v⟩]
  | x::xs=>if Op.bytesLess x.key k=true then x::putPair k v xs else⟨k,v⟩::(if x.key=k then xs else x::xs)
def cutPair (k:List UInt8) (l:List Pair):List Pair:=l.filter fun x=>decide (x.key≠k)
def UI (k v:List UInt8) (l:List Pair) (q:Nat × List Pair):Prop:=q.2++putPair k v (l.drop q.1)=putPair k v l∧q.1≤l.length∧q.2.length=q.1
section
variable {k v:List UInt8} {l xs:List Pair} {i:Nat}
theorem UI.start:UI k v l (0,[]):=⟨rfl,Nat.zero_le _,rfl⟩
theorem UI.next (h:UI k v l (i,xs)) (hi:(i:Int)<l.length) (hl:Op.bytesLess (l.getD i dP).key k=true):UI k v l (i+1,xs++[l.getD i dP])∧l.length - (i+1)<l.length - i:=by
  obtain⟨h1,h2,h3⟩:=h
  have h1:xs++putPair k v (l.drop i)=putPair k v l:=h1
  have h3:xs.length=i:=h3
  refine⟨⟨?_,by omega,by simp[h3]⟩,by omega⟩
  show(xs++[l.getD i dP])++putPair k v (l.drop (i+1))=_
  rw[← h1,drop_cons (d:=dP) hi,putPair,if_pos hl];simp
theorem UI.end0 (h:UI k v l (i,xs)) (hi:¬ (i:Int)<l.length):xs++[⟨k,v⟩]++l.drop i=putPair k v l:=by
  have h1:xs++putPair k v (l.drop i)=putPair k v l:=h.1
  rw[← h1,List.drop_of_length_le (by omega)];simp[putPair]
theorem UI.end1 (h:UI k v l (i,xs)) (hi:(i:Int)<l.length) (hl:Op.bytesLess (l.getD i dP).key k=false) (he:(l.getD i dP).key=k):xs++[⟨k,v⟩]++l.drop (i+1)=putPair k v l:=by
  have h1:xs++putPair k v (l.drop i)=putPair k v l:=h.1
  rw[← h1,drop_cons (d:=dP) hi,putPair,if_neg (by rw[hl];simp),if_pos he];simp
theorem UI.end2 (h:UI k v l (i,xs)) (hi:(i:Int)<l.length) (hl:Op.bytesLess (l.getD i dP).key k=false) (he:¬ (l.getD i dP).key=k):xs++[⟨k,v⟩]++l.drop i=putPair k v l:=by
  have h1:xs++putPair k v (l.drop i)=putPair k v l:=h.1
  rw[← h1,drop_cons (d:=dP) hi,putPair,if_neg (by rw[hl];simp),if_neg he];simp
end
noncomputable def ccR11_64:Code:=(Tryd.f64.body).getD .skip
theorem PutPair_ok (l:List Pair) (k v:List UInt8) (hl:l.length≤100000):FOk EN 64 ⟨[.rd 46 (l),.rd 5 (k),.rd 5 (v)],[.n 0,.n 1,.n 2],Unit,fun _=>([.rd 46 (l),.rd 5 (k),.rd 5 (v),.ow 46 (putPair k v l)],.n 3),fun _=>True⟩:=by
 refine v_fun Tryd.f64 ccR11_64 MX (fun ν F σ w=>?_) Tryd.func64
 refine v_nl ?_
 refine v_loop (fun q:Nat × List Pair=>([(8,.i q.1),(7,.n 4)],[.ow 46 q.2])) (fun q=>UI k v l q) (fun q=>l.length - q.1) (0,[]) [3] (((0:Int)=(↑(0:Nat):Int))∧(Eq (α:=List Pair) [] [])) ⟨rfl,rfl⟩ (by exact UI.start) (fun q hk1=>?_)
 have i1:=(‹UI k v l q›).2
 refine v_plan (.fs [0,1,2,3,4,5,6,7,8,9,10,11,12,13,14] .e) [4] True trivial ?_
 refine v_guard 13 (decide ((↑q.fst:Int)<(↑l.length:Int))) True trivial (fun h2=>?_) (fun h2=>?_)
 ·have h2:=of_decide_eq_true h2
  refine v_if (Op.bytesLess (l.getD (↑q.fst:Int).toNat (Pair.mk [] [])).key k) ((0≤(↑q.fst:Int)∧(↑q.fst:Int)<(↑l.length:Int))) (by omega) (fun h3=>?_) (fun h3=>?_)
  ·skip
   exact v_back ((q.fst+1,q.snd++[Pair.mk (l.getD (↑q.fst:Int).toNat (Pair.mk [] [])).key (l.getD (↑q.fst:Int).toNat (Pair.mk [] [])).value])) [12] ((0≤(↑q.fst:Int)∧(↑q.fst:Int)<(↑l.length:Int))∧(q.snd.length+1≤1000000)∧(I64 (↑q.fst+1))∧((↑q.fst:Int)+1=(↑(q.fst+1):Int))∧(q.snd++[Pair.mk (l.getD (↑q.fst:Int).toNat (Pair.mk [] [])).key (l.getD (↑q.fst:Int).toNat (Pair.mk [] [])).value]=q.snd++[Pair.mk (l.getD (↑q.fst:Int).toNat (Pair.mk [] [])).key (l.getD (↑q.fst:Int).toNat (Pair.mk [] [])).value])) ⟨(by omega),(by omega),(by(unfold I64;omega)),rfl,rfl⟩ (show UI k v l (q.fst+1,q.snd++[Pair.mk (l.getD (↑q.fst:Int).toNat (Pair.mk [] [])).key (l.getD (↑q.fst:Int).toNat (Pair.mk [] [])).value])∧l.length - (q.fst+1)<l.length - q.fst from(by exact UI.next ‹_› ‹_› ‹_›))
  ·skip
   refine v_leave (.ex 0) True trivial ?_
   refine v_plan (.fs [0,1,2,3,4,5,6,7,8,9,10,11,12,13,14] .e) [8,9] ((q.snd.length+1≤1000000)) (by omega) ?_
   refine v_guard 43 (decide ((↑q.fst:Int)<(↑l.length:Int))) True trivial (fun h4=>?_) (fun h4=>?_)
   ·have h4:=of_decide_eq_true h4
    refine v_if (decide ((l.getD (↑q.fst:Int).toNat (Pair.mk [] [])).key=k)) ((0≤(↑q.fst:Int)∧(↑q.fst:Int)<(↑l.length:Int))) (by omega) (fun h5=>?_) (fun h5=>?_)
    ·have h5:=of_decide_eq_true h5
     exact v_ret () [14] ((I64 (↑q.fst+1))∧(0≤(↑q.fst:Int)+1∧(↑q.fst:Int)+1≤(↑l.length:Int))∧((q.snd++[Pair.mk k v]).length+(List.drop ((↑q.fst:Int)+1).toNat l).length≤1000000)∧(l=l)∧(k=k)∧(v=v)∧(q.snd++[Pair.mk k v]++List.drop ((↑q.fst:Int)+1).toNat l=putPair k v l)) ⟨(by(unfold I64;omega)),(by omega),(by(simp;omega)),rfl,rfl,rfl,(by exact UI.end1 ‹_› ‹_› ‹_› ‹_›)⟩ trivial
    ·have h5:=of_decide_eq_false h5
     exact v_ret () [14] ((0≤(↑q.fst:Int)∧(↑q.fst:Int)≤(↑l.length:Int))∧((q.snd++[Pair.mk k v]).length+(List.drop (↑q.fst:Int).toNat l).length≤1000000)∧(l=l)∧(k=k)∧(v=v)∧(q.snd++[Pair.mk k v]++List.drop (↑q.fst:Int).toNat l=putPair k v l)) ⟨(by omega),(by(simp;omega)),rfl,rfl,rfl,(by exact UI.end2 ‹_› ‹_› ‹_› ‹_›)⟩ trivial
   ·have h4:=of_decide_eq_false h4
    omega
 ·have h2:=of_decide_eq_false h2
  refine v_leave (.ex 0) True trivial ?_
  refine v_plan (.fs [0,1,2,3,4,5,6,7,8,9,10,11,12,13,14] .e) [5,6] ((q.snd.length+1≤1000000)) (by omega) ?_
  refine v_guard 43 (decide ((↑q.fst:Int)<(↑l.length:Int))) True trivial (fun h6=>?_) (fun h6=>?_)
  ·have h6:=of_decide_eq_true h6
   omega
  ·have h6:=of_decide_eq_false h6
   exact v_ret () [8] ((0≤(↑q.fst:Int)∧(↑q.fst:Int)≤(↑l.length:Int))∧((q.snd++[Pair.mk k v]).length+(List.drop (↑q.fst:Int).toNat l).length≤1000000)∧(l=l)∧(k=k)∧(v=v)∧(q.snd++[Pair.mk k v]++List.drop (↑q.fst:Int).toNat l=putPair k v l)) ⟨(by omega),(by(simp;omega)),rfl,rfl,rfl,(by exact UI.end0 ‹_› ‹_›)⟩ trivial
def TI5 (k:List UInt8) (l:List Pair) (q:Nat × List Pair):Prop:=q.2++cutPair k (l.drop q.1)=cutPair k l∧q.1≤l.length∧q.2.length≤q.1
theorem TI5.start {k:List UInt8} {l:List Pair}:TI5 k l (0,[]):=⟨rfl,Nat.zero_le _,Nat.le_refl _⟩
theorem TI5.next {k:List UInt8} {l xs:List Pair} {i:Nat} (h:TI5 k l (i,xs)) (hi:(i:Int)<l.length) (he:(l.getD i dP).key≠k):TI5 k l (i+1,xs++[l.getD i dP])∧l.length - (i+1)<l.length - i:=by
  obtain⟨h1,h2,h3⟩:=h
  have h1:xs++cutPair k (l.drop i)=cutPair k l:=h1
  have h3:xs.length≤i:=h3
  refine⟨⟨?_,by omega,by simp;exact h3⟩,by omega⟩
  show(xs++[l.getD i dP])++cutPair k (l.drop (i+1))=_
  rw[← h1,drop_cons (d:=dP) hi];simp only[cutPair,List.filter_cons];rw[if_pos (by exact decide_eq_true he)];simp
theorem TI5.skip {k:List UInt8} {l xs:List Pair} {i:Nat} (h:TI5 k l (i,xs)) (hi:(i:Int)<l.length) (he:¬ (l.getD i dP).key≠k):TI5 k l (i+1,xs)∧l.length - (i+1)<l.length - i:=by
  obtain⟨h1,h2,h3⟩:=h
  have h1:xs++cutPair k (l.drop i)=cutPair k l:=h1
  have h3:xs.length≤i:=h3
  refine⟨⟨?_,by omega,by show xs.length≤i+1;omega⟩,by omega⟩
  show xs++cutPair k (l.drop (i+1))=_
  rw[← h1,drop_cons (d:=dP) hi];simp only[cutPair,List.filter_cons];rw[if_neg (by simpa using he)]
theorem TI5.stop {k:List UInt8} {l xs:List Pair} {i:Nat} (h:TI5 k l (i,xs)) (hi:¬ (i:Int)<l.length):xs=cutPair k l:=by
  have h1:xs++cutPair k (l.drop i)=cutPair k l:=h.1
  rw[← h1,List.drop_of_length_le (by omega)];simp[cutPair]
noncomputable def ccR11_66:Code:=(Tryd.f66.body).getD .skip
theorem CutPair_ok (l:List Pair) (k:List UInt8) (hl:l.length≤100000):FOk EN 66 ⟨[.rd 46 (l),.rd 5 (k)],[.n 0,.n 1],Unit,fun _=>([.rd 46 (l),.rd 5 (k),.ow 46 (cutPair k l)],.n 2),fun _=>True⟩:=by
 refine v_fun Tryd.f66 ccR11_66 MX (fun ν F σ w=>?_) Tryd.func66
 refine v_nl ?_
 refine v_loop (fun q:Nat × List Pair=>([(6,.i q.1),(5,.n 3)],[.ow 46 q.2])) (fun q=>TI5 k l q) (fun q=>l.length - q.1) (0,[]) [2] (((0:Int)=(↑(0:Nat):Int))∧(Eq (α:=List Pair) [] [])) ⟨rfl,rfl⟩ (by exact TI5.start) (fun q hk1=>?_)
 have i1:=(‹TI5 k l q›).2
 refine v_if (decide ((↑q.fst:Int)<(↑l.length:Int))) True trivial (fun h2=>?_) (fun h2=>?_)
 ·have h2:=of_decide_eq_true h2
  refine v_plan (.fs [0,1,2,3,4,5,6,7,8] .e) [3] True trivial ?_
  refine v_if (decide ((l.getD (↑q.fst:Int).toNat (Pair.mk [] [])).key≠k)) ((0≤(↑q.fst:Int)∧(↑q.fst:Int)<(↑l.length:Int))) (by omega) (fun h3=>?_) (fun h3=>?_)
  ·have h3:=of_decide_eq_true h3
   exact v_back ((q.fst+1,q.snd++[Pair.mk (l.getD (↑q.fst:Int).toNat (Pair.mk [] [])).key (l.getD (↑q.fst:Int).toNat (Pair.mk [] [])).value])) [11] ((0≤(↑q.fst:Int)∧(↑q.fst:Int)<(↑l.length:Int))∧(q.snd.length+1≤1000000)∧(I64 (↑q.fst+1))∧((↑q.fst:Int)+1=(↑(q.fst+1):Int))∧(q.snd++[Pair.mk (l.getD (↑q.fst:Int).toNat (Pair.mk [] [])).key (l.getD (↑q.fst:Int).toNat (Pair.mk [] [])).value]=q.snd++[Pair.mk (l.getD (↑q.fst:Int).toNat (Pair.mk [] [])).key (l.getD (↑q.fst:Int).toNat (Pair.mk [] [])).value])) ⟨(by omega),(by omega),(by(unfold I64;omega)),rfl,rfl⟩ (show TI5 k l (q.fst+1,q.snd++[Pair.mk (l.getD (↑q.fst:Int).toNat (Pair.mk [] [])).key (l.getD (↑q.fst:Int).toNat (Pair.mk [] [])).value])∧l.length - (q.fst+1)<l.length - q.fst from(by exact TI5.next ‹_› ‹_› ‹_›))
  ·have h3:=of_decide_eq_false h3
   exact v_back ((q.fst+1,q.snd)) [3] ((I64 (↑q.fst+1))∧((↑q.fst:Int)+1=(↑(q.fst+1):Int))∧(q.snd=q.snd)) ⟨(by(unfold I64;omega)),rfl,rfl⟩ (show TI5 k l (q.fst+1,q.snd)∧l.length - (q.fst+1)<l.length - q.fst from(by exact TI5.skip ‹_› ‹_› ‹_›))
 ·have h2:=of_decide_eq_false h2
  refine v_leave (.ex 0) True trivial ?_
  exact v_ret () [3] ((l=l)∧(k=k)∧(q.snd=cutPair k l)) ⟨rfl,rfl,(by exact TI5.stop ‹_› ‹_›)⟩ trivial
def isGt (a b:List UInt8):Bool:=!(Op.bytesLess a b || decide (a=b))
def bsG (k:List UInt8):List Pair→Nat→Int × Int→Int × Int
  | [],_,s=>s
  | x::xs,i,s=>bsG k xs (i+1) (if Op.bytesLess x.key k=true then(i:Int) else s.1,if isGt x.key k=true∧s.2<0 then(i:Int) else s.2)
def besideP (l:List Pair) (k:List UInt8):Int × Int:=bsG k l 0 (-1,-1)
def BI (l:List Pair) (k:List UInt8) (q:Nat × Int × Int):Prop:=bsG k (l.drop q.1) q.1 q.2=besideP l k∧q.1≤l.length
section
variable {l:List Pair} {k:List UInt8} {i:Nat} {a b:Int}
theorem BI.start:BI l k (0,-1,-1):=⟨rfl,Nat.zero_le _⟩
theorem BI.next (h:BI l k (i,a,b)) (hi:(i:Int)<l.length):BI l k (i+1,(if Op.bytesLess (l.getD i dP).key k=true then(i:Int) else a),(if isGt (l.getD i dP).key k=true∧b<0 then(i:Int) else b))∧l.length - (i+1)<l.length - i:=by
  obtain⟨h1,h2⟩:=h
  rw[drop_cons (d:=dP) hi,bsG] at h1
  exact⟨⟨h1,by omega⟩,by omega⟩
theorem BI.n1 (h:BI l k (i,a,b)) (hi:(i:Int)<l.length) (h1:Op.bytesLess (l.getD i dP).key k=true) (h2:isGt (l.getD i dP).key k=true) (h3:b<0):BI l k (i+1,(i:Int),(i:Int))∧l.length - (i+1)<l.length - i:=by
  have:=h.next hi;rwa [if_pos h1,if_pos ⟨h2,h3⟩] at this
theorem BI.n2 (h:BI l k (i,a,b)) (hi:(i:Int)<l.length) (h1:Op.bytesLess (l.getD i dP).key k=true) (h2:isGt (l.getD i dP).key k=false∨¬ b<0):BI l k (i+1,(i:Int),b)∧l.length - (i+1)<l.length - i:=by
  have:=h.next hi;rwa [if_pos h1,if_neg (by rintro ⟨x,y⟩;rcases h2 with h2 | h2;rw[h2] at x;cases x;exact h2 y)] at this
theorem BI.n3 (h:BI l k (i,a,b)) (hi:(i:Int)<l.length) (h1:Op.bytesLess (l.getD i dP).key k=false) (h2:isGt (l.getD i dP).key k=true) (h3:b<0):BI l k (i+1,a,(i:Int))∧l.length - (i+1)<l.length - i:=by
  have:=h.next hi;rwa [if_neg (by rw[h1];simp),if_pos ⟨h2,h3⟩] at this
theorem BI.stop (h:BI l k (i,a,b)) (hi:¬ (i:Int)<l.length):a=(besideP l k).1∧b=(besideP l k).2:=by
  have h1:=h.1;rw[List.drop_of_length_le (by omega),bsG] at h1;rw[← h1];exact⟨rfl,rfl⟩
end
namespace Tr
theorem bal_depth (l r:Tr):(l.bal r).depth=l.depth+r.depth+1:=by
  unfold bal
  split
  · cases l with
    | leaf a b=>rfl
    | node a b =>
      dsimp only
      split
      · cases b with
        | leaf c d=>rfl
        | node c d=>simp only[depth];omega
      · simp only[depth];omega
  · split
    · cases r with
      | leaf a b=>rfl
      | node a b =>
        dsimp only
        split
        · cases a with
          | leaf c d=>rfl
          | node c d=>simp only[depth];omega
        · simp only[depth];omega
    · rfl
theorem put_depth (k v:List UInt8):∀ t:Tr,(t.put k v).depth≤t.depth+1
  | leaf a b=>by unfold put;split;simp[depth];split;simp[depth];simp[depth]
  | node l r => by
    have h1:=put_depth k v l;have h2:=put_depth k v r
    unfold put;split <;> rw[bal_depth] <;> simp only[depth] <;> omega
theorem cut_depth {k:List UInt8}:∀ {t t':Tr},t.cut k=some (some t')→t'.depth≤t.depth
  | leaf a b,t',e=>by unfold cut at e;split at e <;> simp at e
  | node l r, t', e => by
    unfold cut at e
    split at e
    · split at e
      · simp at e
      · simp at e;subst e;simp only[depth];omega
      · rename_i l' hl;simp at e;subst e;rw[bal_depth];have:=cut_depth hl;simp only[depth];omega
    · split at e
      · simp at e
      · simp at e;subst e;simp only[depth];omega
      · rename_i r' hr;simp at e;subst e;rw[bal_depth];have:=cut_depth hr;simp only[depth];omega
theorem height_depth:∀ t:Tr,t.height≤t.depth
  | leaf _ _=>Int.le_refl _
  | node l r=>by have h1:=height_depth l;have h2:=height_depth r;simp only[height,depth];omega
theorem leaves_len:∀ t:Tr,t.leaves.length=t.depth+1
  | leaf _ _=>rfl
  | node l r=>by simp[leaves,leaves_len l,leaves_len r,depth];omega
end Tr
/-- A tree of at most n keys, none too long. -/
def okN (n:Nat) (o:Option Tr):Prop:=∀ t,o=some t→t.Ks∧t.depth+1≤n
theorem okN.O {n:Nat} {o:Option Tr} (h:okN n o) (hn:n≤600):okO o:=fun t e=>by
  obtain⟨h1,h2⟩:=h t e
  have:=t.height_depth
  exact⟨h1,by omega,by omega⟩
theorem okN.leaves {n:Nat} {o:Option Tr} (h:okN n o):(leavesO o).length≤n:=by
  cases o with
  | none=>exact Nat.zero_le _
  | some t=>obtain⟨_,h2⟩:=h t rfl;show t.leaves.length≤n;rw[t.leaves_len];exact h2
theorem okN.put {n:Nat} {o:Option Tr} {k v:List UInt8} (h:okN n o) (hk:k.length≤1000) (hv:v.length≤1000):okN (n+1) (putO k v o):=fun t e=>by
  cases o with
  | none=>injection e with e;subst e;exact⟨⟨hk,hv⟩,by simp[Tr.depth]⟩
  | some s =>
    injection e with e;subst e
    obtain⟨h1,h2⟩:=h s rfl
    have:=s.put_depth k v
    exact⟨Tr.put_Ks ⟨hk,hv⟩ h1,by omega⟩
theorem okN.cut {n:Nat} {o:Option Tr} {k:List UInt8} (h:okN n o):okN (n+1) (cutO k o):=fun t e=>by
  cases o with
  | none=>simp[cutO] at e
  | some s =>
    obtain⟨h1,h2⟩:=h s rfl
    have e:(match s.cut k with | none=>some s | some r=>r)=some t:=e
    cases c:s.cut k with
    | none=>rw[c] at e;injection e with e;subst e;exact⟨h1,by omega⟩
    | some r=>rw[c] at e;have e:r=some t:=e;subst e;exact⟨Tr.cut_Ks h1 c,by have:=Tr.cut_depth c;omega⟩
theorem putPair_len (k v:List UInt8):∀ l:List Pair,(putPair k v l).length≤l.length+1
  | []=>Nat.le_refl _
  | x::xs=>by have:=putPair_len k v xs;unfold putPair;split;simpa using this;split <;> simp
def valA (a:Act):List UInt8:=a.value.take (if 100<(a.value.length:Int) then 100 else(a.value.length:Int)).toNat
def stepA (a:Act) (s:Option Tr × List Pair):Option Tr × List Pair :=
  if a.kind % 6<4 then(putO (keyA a) (valA a) s.1,putPair (keyA a) (valA a) s.2) else(cutO (keyA a) s.1,cutPair (keyA a) s.2)
def growG:Nat→List Act→Option Tr × List Pair→Option Tr × List Pair
  | 0,_,s=>s
  | _,[],s=>s
  | n+1,a::l,s=>if 90<(keyA a).length then s else growG n l (stepA a s)
def growT (acts:List Act) (most:Nat):Option Tr × List Pair:=growG most acts (none,[])
abbrev dA:Act:=⟨0,0,[],[]⟩
def GrI (acts:List Act) (m:Nat) (q:Nat × Option Tr × List Pair):Prop:=growG (m - q.1) (acts.drop q.1) q.2=growT acts m∧q.1≤m∧q.1≤acts.length∧okN q.1 q.2.1∧q.2.2.length≤q.1
theorem keyA_pos (a:Act):1≤(keyA a).length:=by unfold keyA;split;assumption;simp
theorem valA_len (a:Act):(valA a).length≤100:=by unfold valA;rw[List.length_take];split <;> omega
section
variable {acts:List Act} {m i:Nat} {o:Option Tr} {l:List Pair}
theorem GrI.start:GrI acts m (0,none,[]):=⟨rfl,Nat.zero_le _,Nat.zero_le _,fun t e=>by simp at e,Nat.le_refl _⟩
theorem GrI.stop1 (h:GrI acts m (i,o,l)) (hi:¬ (i:Int)<acts.length):growT acts m=(o,l):=by
  have h:=h.1;rw[List.drop_of_length_le (by omega)] at h;rw[← h];cases(m - i) <;> rfl
theorem GrI.stop2 (h:GrI acts m (i,o,l)) (hi:(m:Int)≤i):growT acts m=(o,l):=by
  have h:=h.1;rw[show m - i=0 by omega] at h;rw[← h];rfl
theorem GrI.stop3 (h:GrI acts m (i,o,l)) (hi:(i:Int)<acts.length) (hm:¬ (m:Int)≤i) (hk:90<((keyA (acts.getD i dA)).length:Int)):growT acts m=(o,l):=by
  have h:=h.1;rw[show m - i=(m - i - 1)+1 by omega,drop_cons (d:=dA) hi,growG,if_pos (by omega)] at h;rw[← h]
theorem GrI.next (h:GrI acts m (i,o,l)) (hi:(i:Int)<acts.length) (hm:¬ (m:Int)≤i) (hk:¬ 90<((keyA (acts.getD i dA)).length:Int)):growG (m - (i+1)) (acts.drop (i+1)) (stepA (acts.getD i dA) (o,l))=growT acts m:=by
  have h:=h.1;rw[show m - i=(m - i - 1)+1 by omega,drop_cons (d:=dA) hi,growG,if_neg (by omega)] at h
  rw[← h,show m - (i+1)=m - i - 1 by omega]
theorem GrI.put (h:GrI acts m (i,o,l)) (hi:(i:Int)<acts.length) (hm:¬ (m:Int)≤i) (hk:¬ 90<((keyA (acts.getD i dA)).length:Int)) (h6:(acts.getD i dA).kind % 6<4):GrI acts m (i+1,putO (keyA (acts.getD i dA)) (valA (acts.getD i dA)) o,putPair (keyA (acts.getD i dA)) (valA (acts.getD i dA)) l)∧acts.length - (i+1)<acts.length - i:=by
  have hn:=h.next hi hm hk
  obtain⟨a1,a2,a3,a4,a5⟩:=h
  rw[stepA,if_pos h6] at hn
  have a5:l.length≤i:=a5
  have:=putPair_len (keyA (acts.getD i dA)) (valA (acts.getD i dA)) l
  refine⟨⟨hn,by show i+1≤m;omega,by show i+1≤acts.length;omega,okN.put a4 (by omega) (by have:=valA_len (acts.getD i dA);omega),by show(putPair _ _ l).length≤i+1;omega⟩,by omega⟩
theorem GrI.cut (h:GrI acts m (i,o,l)) (hi:(i:Int)<acts.length) (hm:¬ (m:Int)≤i) (hk:¬ 90<((keyA (acts.getD i dA)).length:Int)) (h6:¬ (acts.getD i dA).kind % 6<4):GrI acts m (i+1,cutO (keyA (acts.getD i dA)) o,cutPair (keyA (acts.getD i dA)) l)∧acts.length - (i+1)<acts.length - i:=by
  have hn:=h.next hi hm hk
  obtain⟨a1,a2,a3,a4,a5⟩:=h
  rw[stepA,if_neg h6] at hn
  have a5:l.length≤i:=a5
  have:(cutPair (keyA (acts.getD i dA)) l).length≤l.length:=List.length_filter_le ..
  refine⟨⟨hn,by show i+1≤m;omega,by show i+1≤acts.length;omega,okN.cut a4,by show(cutPair _ l).length≤i+1;omega⟩,by omega⟩
end
noncomputable def ccR13_21:Code:=(Tryd.f21.body).getD .skip
theorem Grow_ok (acts:List Act) (m:Nat) (hm:m≤100):FOk EN 21 ⟨[.pr wordsP,.rd 133 acts],[.n 1,.i m],Unit,fun _=>([.pr wordsP,.rd 133 acts,.pn (PTO (growT acts m).1) false false,.ow 46 ((growT acts m).2)],.t [.p 2 0,.n 3]),fun _=>True⟩:=by
 refine v_fun Tryd.f21 ccR13_21 MX (fun ν F σ w=>?_) Tryd.func21
 refine v_nl ?_
 refine v_call _ [0] (new_ok) ((wordsP=wordsP)) rfl (fun g1 p2=>?_)
 have p2:True:=p2
 refine v_loop (fun q:Nat × Option Tr × List Pair=>([(15,.i q.1),(6,.p 4 0),(7,.n 5)],[.pn (PTO q.2.1) false false,.ow 46 q.2.2])) (fun q=>GrI acts m q) (fun q=>acts.length - q.1) (0,none,[]) [3,2] (((0:Int)=(↑(0:Nat):Int))∧(PTO none=PTO none)∧(false=false)∧(Eq (α:=List Pair) [] [])) ⟨rfl,rfl,rfl,rfl⟩ (by exact GrI.start) (fun q hk3=>?_)
 have i1:=(‹GrI acts m q›).2
 refine v_if (decide ((↑q.fst:Int)<(↑acts.length:Int))) True trivial (fun h4=>?_) (fun h4=>?_)
 ·have h4:=of_decide_eq_true h4
  refine v_plan (.fs [0,2,3,4,5,6,7,8] (.o 1 (.fs [9,10] .e))) [5,9] ((0≤(↑q.fst:Int)∧(↑q.fst:Int)<(↑acts.length:Int))) (by omega) ?_
  refine v_call _ [6,7] (Key_ok (acts.getD (↑q.fst:Int).toNat (Act.mk 0 0 [] []))) (((0≤if 100<(↑(acts.getD (↑q.fst:Int).toNat (Act.mk 0 0 [] [])).value.length:Int) then 100 else(↑(acts.getD (↑q.fst:Int).toNat (Act.mk 0 0 [] [])).value.length:Int))∧(if 100<(↑(acts.getD (↑q.fst:Int).toNat (Act.mk 0 0 [] [])).value.length:Int) then 100 else(↑(acts.getD (↑q.fst:Int).toNat (Act.mk 0 0 [] [])).value.length:Int))≤(↑(acts.getD (↑q.fst:Int).toNat (Act.mk 0 0 [] [])).value.length:Int))∧((acts.getD (↑q.fst:Int).toNat (Act.mk 0 0 [] [])).kind=(acts.getD (↑q.fst:Int).toNat (Act.mk 0 0 [] [])).kind)∧((acts.getD (↑q.fst:Int).toNat (Act.mk 0 0 [] [])).k=(acts.getD (↑q.fst:Int).toNat (Act.mk 0 0 [] [])).k)∧((acts.getD (↑q.fst:Int).toNat (Act.mk 0 0 [] [])).raw=(acts.getD (↑q.fst:Int).toNat (Act.mk 0 0 [] [])).raw)∧((acts.getD (↑q.fst:Int).toNat (Act.mk 0 0 [] [])).value=(acts.getD (↑q.fst:Int).toNat (Act.mk 0 0 [] [])).value)) ⟨(by omega),rfl,rfl,rfl,rfl⟩ (fun g5 p6=>?_)
  have p6:True:=p6
  refine v_guard 32 (decide ((↑m:Int)≤(↑q.fst:Int))) True trivial (fun h7=>?_) (fun h7=>?_)
  ·have h7:=of_decide_eq_true h7
   refine v_leave (.ex 0) True trivial ?_
   exact v_ret () [4,5] ((wordsP=wordsP)∧(acts=acts)∧(PTO q.snd.fst=PTO (growT acts m).fst)∧(false=false)∧(q.snd.snd=(growT acts m).snd)) ⟨rfl,rfl,(by(rw[GrI.stop2 ‹_› ‹_›])),rfl,(by(rw[GrI.stop2 ‹_› ‹_›]))⟩ trivial
  ·have h7:=of_decide_eq_false h7
   refine v_if (decide (90<(↑(keyA (acts.getD (↑q.fst:Int).toNat (Act.mk 0 0 [] []))).length:Int))) True trivial (fun h8=>?_) (fun h8=>?_)
   ·have h8:=of_decide_eq_true h8
    refine v_leave (.ex 0) True trivial ?_
    exact v_ret () [4,5] ((wordsP=wordsP)∧(acts=acts)∧(PTO q.snd.fst=PTO (growT acts m).fst)∧(false=false)∧(q.snd.snd=(growT acts m).snd)) ⟨rfl,rfl,(by(rw[GrI.stop3 ‹_› ‹_› ‹_› ‹_›])),rfl,(by(rw[GrI.stop3 ‹_› ‹_› ‹_› ‹_›]))⟩ trivial
   ·have h8:=of_decide_eq_false h8
    refine v_if (decide ((acts.getD (↑q.fst:Int).toNat (Act.mk 0 0 [] [])).kind % 6<4)) (((6:UInt8)≠(0:UInt8))) (by decide) (fun h9=>?_) (fun h9=>?_)
    ·have h9:=of_decide_eq_true h9
     refine v_call _ [0,11,10,4] (Put_ok (q.snd.fst) (keyA (acts.getD (↑q.fst:Int).toNat (Act.mk 0 0 [] []))) (List.take (if 100<(↑(acts.getD (↑q.fst:Int).toNat (Act.mk 0 0 [] [])).value.length:Int) then 100 else(↑(acts.getD (↑q.fst:Int).toNat (Act.mk 0 0 [] [])).value.length:Int)).toNat (acts.getD (↑q.fst:Int).toNat (Act.mk 0 0 [] [])).value) (by exact i1.2.2.1.O (by omega)) (by exact⟨keyA_pos _,by omega⟩) (by(simp;omega))) ((wordsP=wordsP)∧(keyA (acts.getD (↑q.fst:Int).toNat (Act.mk 0 0 [] []))=keyA (acts.getD (↑q.fst:Int).toNat (Act.mk 0 0 [] [])))∧(List.take (if 100<(↑(acts.getD (↑q.fst:Int).toNat (Act.mk 0 0 [] [])).value.length:Int) then 100 else(↑(acts.getD (↑q.fst:Int).toNat (Act.mk 0 0 [] [])).value.length:Int)).toNat (acts.getD (↑q.fst:Int).toNat (Act.mk 0 0 [] [])).value=List.take (if 100<(↑(acts.getD (↑q.fst:Int).toNat (Act.mk 0 0 [] [])).value.length:Int) then 100 else(↑(acts.getD (↑q.fst:Int).toNat (Act.mk 0 0 [] [])).value.length:Int)).toNat (acts.getD (↑q.fst:Int).toNat (Act.mk 0 0 [] [])).value)∧(PTO q.snd.fst=PTO q.snd.fst)∧(false=false)) ⟨rfl,rfl,rfl,rfl,rfl⟩ (fun g10 p11=>?_)
     have p11:True:=p11
     refine v_call _ [5,11,10] (PutPair_ok (q.snd.snd) (keyA (acts.getD (↑q.fst:Int).toNat (Act.mk 0 0 [] []))) (List.take (if 100<(↑(acts.getD (↑q.fst:Int).toNat (Act.mk 0 0 [] [])).value.length:Int) then 100 else(↑(acts.getD (↑q.fst:Int).toNat (Act.mk 0 0 [] [])).value.length:Int)).toNat (acts.getD (↑q.fst:Int).toNat (Act.mk 0 0 [] [])).value) (by omega)) ((q.snd.snd=q.snd.snd)∧(keyA (acts.getD (↑q.fst:Int).toNat (Act.mk 0 0 [] []))=keyA (acts.getD (↑q.fst:Int).toNat (Act.mk 0 0 [] [])))∧(List.take (if 100<(↑(acts.getD (↑q.fst:Int).toNat (Act.mk 0 0 [] [])).value.length:Int) then 100 else(↑(acts.getD (↑q.fst:Int).toNat (Act.mk 0 0 [] [])).value.length:Int)).toNat (acts.getD (↑q.fst:Int).toNat (Act.mk 0 0 [] [])).value=List.take (if 100<(↑(acts.getD (↑q.fst:Int).toNat (Act.mk 0 0 [] [])).value.length:Int) then 100 else(↑(acts.getD (↑q.fst:Int).toNat (Act.mk 0 0 [] [])).value.length:Int)).toNat (acts.getD (↑q.fst:Int).toNat (Act.mk 0 0 [] [])).value)) ⟨rfl,rfl,rfl⟩ (fun g12 p13=>?_)
     have p13:True:=p13
     exact v_back ((q.fst+1,putO (keyA (acts.getD (↑q.fst:Int).toNat (Act.mk 0 0 [] []))) (List.take (if 100<(↑(acts.getD (↑q.fst:Int).toNat (Act.mk 0 0 [] [])).value.length:Int) then 100 else(↑(acts.getD (↑q.fst:Int).toNat (Act.mk 0 0 [] [])).value.length:Int)).toNat (acts.getD (↑q.fst:Int).toNat (Act.mk 0 0 [] [])).value) q.snd.fst,putPair (keyA (acts.getD (↑q.fst:Int).toNat (Act.mk 0 0 [] []))) (List.take (if 100<(↑(acts.getD (↑q.fst:Int).toNat (Act.mk 0 0 [] [])).value.length:Int) then 100 else(↑(acts.getD (↑q.fst:Int).toNat (Act.mk 0 0 [] [])).value.length:Int)).toNat (acts.getD (↑q.fst:Int).toNat (Act.mk 0 0 [] [])).value) q.snd.snd)) [12,13] ((I64 (↑q.fst+1))∧((↑q.fst:Int)+1=(↑(q.fst+1):Int))∧(PTO (putO (keyA (acts.getD (↑q.fst:Int).toNat (Act.mk 0 0 [] []))) (List.take (if 100<(↑(acts.getD (↑q.fst:Int).toNat (Act.mk 0 0 [] [])).value.length:Int) then 100 else(↑(acts.getD (↑q.fst:Int).toNat (Act.mk 0 0 [] [])).value.length:Int)).toNat (acts.getD (↑q.fst:Int).toNat (Act.mk 0 0 [] [])).value) q.snd.fst)=PTO (putO (keyA (acts.getD (↑q.fst:Int).toNat (Act.mk 0 0 [] []))) (List.take (if 100<(↑(acts.getD (↑q.fst:Int).toNat (Act.mk 0 0 [] [])).value.length:Int) then 100 else(↑(acts.getD (↑q.fst:Int).toNat (Act.mk 0 0 [] [])).value.length:Int)).toNat (acts.getD (↑q.fst:Int).toNat (Act.mk 0 0 [] [])).value) q.snd.fst))∧(false=false)∧(putPair (keyA (acts.getD (↑q.fst:Int).toNat (Act.mk 0 0 [] []))) (List.take (if 100<(↑(acts.getD (↑q.fst:Int).toNat (Act.mk 0 0 [] [])).value.length:Int) then 100 else(↑(acts.getD (↑q.fst:Int).toNat (Act.mk 0 0 [] [])).value.length:Int)).toNat (acts.getD (↑q.fst:Int).toNat (Act.mk 0 0 [] [])).value) q.snd.snd=putPair (keyA (acts.getD (↑q.fst:Int).toNat (Act.mk 0 0 [] []))) (List.take (if 100<(↑(acts.getD (↑q.fst:Int).toNat (Act.mk 0 0 [] [])).value.length:Int) then 100 else(↑(acts.getD (↑q.fst:Int).toNat (Act.mk 0 0 [] [])).value.length:Int)).toNat (acts.getD (↑q.fst:Int).toNat (Act.mk 0 0 [] [])).value) q.snd.snd)) ⟨(by(unfold I64;omega)),rfl,rfl,rfl,rfl⟩ (show GrI acts m (q.fst+1,putO (keyA (acts.getD (↑q.fst:Int).toNat (Act.mk 0 0 [] []))) (List.take (if 100<(↑(acts.getD (↑q.fst:Int).toNat (Act.mk 0 0 [] [])).value.length:Int) then 100 else(↑(acts.getD (↑q.fst:Int).toNat (Act.mk 0 0 [] [])).value.length:Int)).toNat (acts.getD (↑q.fst:Int).toNat (Act.mk 0 0 [] [])).value) q.snd.fst,putPair (keyA (acts.getD (↑q.fst:Int).toNat (Act.mk 0 0 [] []))) (List.take (if 100<(↑(acts.getD (↑q.fst:Int).toNat (Act.mk 0 0 [] [])).value.length:Int) then 100 else(↑(acts.getD (↑q.fst:Int).toNat (Act.mk 0 0 [] [])).value.length:Int)).toNat (acts.getD (↑q.fst:Int).toNat (Act.mk 0 0 [] [])).value) q.snd.snd)∧acts.length - (q.fst+1)<acts.length - q.fst from(by exact GrI.put ‹_› ‹_› ‹_› ‹_› ‹_›))
    ·have h9:=of_decide_eq_false h9
     refine v_call _ [0,11,4] (Cut_ok (q.snd.fst) (keyA (acts.getD (↑q.fst:Int).toNat (Act.mk 0 0 [] []))) (by exact i1.2.2.1.O (by omega))) ((wordsP=wordsP)∧(keyA (acts.getD (↑q.fst:Int).toNat (Act.mk 0 0 [] []))=keyA (acts.getD (↑q.fst:Int).toNat (Act.mk 0 0 [] [])))∧(PTO q.snd.fst=PTO q.snd.fst)∧(false=false)) ⟨rfl,rfl,rfl,rfl⟩ (fun g14 p15=>?_)
     have p15:True:=p15
     refine v_call _ [5,11] (CutPair_ok (q.snd.snd) (keyA (acts.getD (↑q.fst:Int).toNat (Act.mk 0 0 [] []))) (by omega)) ((q.snd.snd=q.snd.snd)∧(keyA (acts.getD (↑q.fst:Int).toNat (Act.mk 0 0 [] []))=keyA (acts.getD (↑q.fst:Int).toNat (Act.mk 0 0 [] [])))) ⟨rfl,rfl⟩ (fun g16 p17=>?_)
     have p17:True:=p17
     exact v_back ((q.fst+1,cutO (keyA (acts.getD (↑q.fst:Int).toNat (Act.mk 0 0 [] []))) q.snd.fst,cutPair (keyA (acts.getD (↑q.fst:Int).toNat (Act.mk 0 0 [] []))) q.snd.snd)) [12,13] ((I64 (↑q.fst+1))∧((↑q.fst:Int)+1=(↑(q.fst+1):Int))∧(PTO (cutO (keyA (acts.getD (↑q.fst:Int).toNat (Act.mk 0 0 [] []))) q.snd.fst)=PTO (cutO (keyA (acts.getD (↑q.fst:Int).toNat (Act.mk 0 0 [] []))) q.snd.fst))∧(false=false)∧(cutPair (keyA (acts.getD (↑q.fst:Int).toNat (Act.mk 0 0 [] []))) q.snd.snd=cutPair (keyA (acts.getD (↑q.fst:Int).toNat (Act.mk 0 0 [] []))) q.snd.snd)) ⟨(by(unfold I64;omega)),rfl,rfl,rfl,rfl⟩ (show GrI acts m (q.fst+1,cutO (keyA (acts.getD (↑q.fst:Int).toNat (Act.mk 0 0 [] []))) q.snd.fst,cutPair (keyA (acts.getD (↑q.fst:Int).toNat (Act.mk 0 0 [] []))) q.snd.snd)∧acts.length - (q.fst+1)<acts.length - q.fst from(by exact GrI.cut ‹_› ‹_› ‹_› ‹_› ‹_›))
 ·have h4:=of_decide_eq_false h4
  refine v_leave (.ex 0) True trivial ?_
  exact v_ret () [4,5] ((wordsP=wordsP)∧(acts=acts)∧(PTO q.snd.fst=PTO (growT acts m).fst)∧(false=false)∧(q.snd.snd=(growT acts m).snd)) ⟨rfl,rfl,(by(rw[GrI.stop1 ‹_› ‹_›])),rfl,(by(rw[GrI.stop1 ‹_› ‹_›]))⟩ trivial
abbrev klt (a b:List UInt8):Prop:=Lib.compareBytes a b<0
theorem cmp_anti:∀ a b:List UInt8,Lib.compareBytes b a = - Lib.compareBytes a b
  | [],[]=>rfl
  | [],_::_=>rfl
  | _::_,[]=>rfl
  | a :: xs, b :: ys => by
    unfold Lib.compareBytes
    by_cases h1:a<b
    · have h2 : ¬ b < a := fun h => absurd (UInt8.lt_trans h1 h) (UInt8.lt_irrefl _)
      simp[h1,h2]
    · by_cases h2 : b < a
      · simp[h1,h2]
      · simp only[if_neg h1,if_neg h2];exact cmp_anti xs ys
theorem klt_trans:∀ {a b c:List UInt8},klt a b→klt b c→klt a c
  | [],[],_,h,_=>by simp[klt,Lib.compareBytes] at h
  | [],_::_,[],_,h=>by simp[klt,Lib.compareBytes] at h
  | [],_::_,_::_,_,_=>by simp[klt,Lib.compareBytes]
  | _::_,[],_,h,_=>by simp[klt,Lib.compareBytes] at h
  | _::_,_::_,[],_,h=>by simp[klt,Lib.compareBytes] at h
  | a :: xs, b :: ys, c :: zs, h1, h2 => by
    unfold klt at h1 h2 ⊢
    unfold Lib.compareBytes at h1 h2 ⊢
    by_cases p:a<b
    · by_cases q : b < c
      · rw[if_pos (UInt8.lt_trans p q)];decide
      · rw [if_neg q] at h2
        by_cases q2:c<b
        · rw[if_pos q2] at h2;exact absurd h2 (by decide)
        · have : b = c := UInt8.le_antisymm (UInt8.not_lt.1 q2) (UInt8.not_lt.1 q)
          subst this;rw[if_pos p];decide
    · rw [if_neg p] at h1
      by_cases p2:b<a
      · rw[if_pos p2] at h1;exact absurd h1 (by decide)
      · have : a = b := UInt8.le_antisymm (UInt8.not_lt.1 p2) (UInt8.not_lt.1 p)
        subst this
        rw[if_neg p2] at h1
        by_cases q:a<c
        · rw[if_pos q];decide
        · rw [if_neg q] at h2 ⊢
          by_cases q2:c<a
          · rw[if_pos q2] at h2;exact absurd h2 (by decide)
          · rw[if_neg q2] at h2 ⊢;exact klt_trans h1 h2
theorem klt_irr (a:List UInt8):¬ klt a a:=by have:=cmp_anti a a;unfold klt;omega
theorem klt_ne {a b:List UInt8} (h:klt a b):a≠b:=fun e=>by subst e;exact klt_irr a h
theorem kge {a b:List UInt8} (h:¬ klt a b):a=b∨klt b a:=by
  have:=cmp_anti a b
  unfold klt at *
  by_cases e:Lib.compareBytes a b=0
  · exact .inl (cmp_zero.1 e)
  · exact .inr (by omega)
def Srt (l:List Pair):Prop:=l.Pairwise fun p q=>klt p.key q.key
namespace Tr
theorem leaves_ne:∀ t:Tr,∃ v l,t.leaves=⟨t.least,v⟩::l
  | leaf k v=>⟨v,[],rfl⟩
  | node l r => by
    obtain⟨v,x,e⟩:=leaves_ne l
    exact⟨v,x++r.leaves,by simp[leaves,e,least]⟩
theorem bal_leaves (l r:Tr):(l.bal r).leaves=l.leaves++r.leaves:=by
  unfold bal
  split
  · cases l with
    | leaf a b=>rfl
    | node a b =>
      dsimp only
      split
      · cases b with
        | leaf c d=>rfl
        | node c d=>simp[leaves]
      · simp[leaves]
  · split
    · cases r with
      | leaf a b=>rfl
      | node a b =>
        dsimp only
        split
        · cases a with
          | leaf c d=>rfl
          | node c d=>simp[leaves]
        · simp[leaves]
    · rfl
/-- where a key belongs -/
theorem left_of {l r:Tr} (h:Srt (node l r).leaves) {p:Pair} (hp:p∈l.leaves):klt p.key r.least:=by
  obtain⟨v,x,e⟩:=leaves_ne r
  have:=(List.pairwise_append.1 h).2.2 p hp ⟨r.least,v⟩ (by rw[e];exact List.mem_cons_self ..)
  exact this
theorem right_of {r:Tr} (h:Srt r.leaves) {p:Pair} (hp:p∈r.leaves):¬ klt p.key r.least:=by
  obtain⟨v,x,e⟩:=leaves_ne r
  rw[e] at h hp
  rcases List.mem_cons.1 hp with rfl | hp
  · exact klt_irr _
  · have := (List.pairwise_cons.1 h).1 p hp
    exact fun q=>klt_irr _ (klt_trans this q)
end Tr
theorem less_klt {a b:List UInt8}:Op.bytesLess a b=true↔klt a b:=by rw[less_cmp];simp
theorem putPair_left (k v:List UInt8):∀(l r:List Pair),(∀ p∈r,¬ klt p.key k∧p.key≠k)→putPair k v (l++r)=putPair k v l++r
  | [], r, h => by
    cases r with
    | nil=>rfl
    | cons x r =>
      have h1:=h x (List.mem_cons_self ..)
      show(if Op.bytesLess x.key k=true then _ else _)=_
      rw[if_neg (fun q=>h1.1 (less_klt.1 q)),if_neg h1.2];rfl
  | x :: l, r, h => by
    show(if Op.bytesLess x.key k=true then _ else _)=(if Op.bytesLess x.key k=true then _ else _)++r
    split
    · show x :: putPair k v (l ++ r) = x :: (putPair k v l ++ r)
      rw[putPair_left k v l r h]
    · split <;> simp
theorem putPair_right (k v:List UInt8):∀(l r:List Pair),(∀ p∈l,klt p.key k)→putPair k v (l++r)=l++putPair k v r
  | [],r,h=>rfl
  | x :: l, r, h => by
    show(if Op.bytesLess x.key k=true then _ else _)=_
    rw[if_pos (less_klt.2 (h x (List.mem_cons_self ..)))]
    show x::putPair k v (l++r)=x::(l++putPair k v r)
    rw[putPair_right k v l r (fun p hp=>h p (List.mem_cons_of_mem _ hp))]
theorem mem_putPair {k v:List UInt8}:∀ {l:List Pair} {p:Pair},p∈putPair k v l→p=⟨k,v⟩∨p∈l
  | [],p,h=>.inl (by simpa [putPair] using h)
  | x :: l, p, h => by
    unfold putPair at h
    split at h
    · rcases List.mem_cons.1 h with rfl | h
      · exact .inr (List.mem_cons_self ..)
      · rcases mem_putPair h with h | h
        · exact .inl h
        · exact .inr (List.mem_cons_of_mem _ h)
    · split at h
      · rcases List.mem_cons.1 h with h | h
        · exact .inl h
        · exact .inr (List.mem_cons_of_mem _ h)
      · rcases List.mem_cons.1 h with h | h
        · exact .inl h
        · exact .inr h
theorem Srt.put {k v:List UInt8}:∀ {l:List Pair},Srt l→Srt (putPair k v l)
  | [],h=>List.pairwise_singleton ..
  | x :: l, h => by
    obtain⟨h1,h2⟩:=List.pairwise_cons.1 h
    unfold putPair
    split
    · rename_i q
      have q:=less_klt.1 q
      refine List.pairwise_cons.2 ⟨fun p hp=>?_,Srt.put h2⟩
      rcases mem_putPair hp with rfl | hp
      · exact q
      · exact h1 p hp
    · rename_i q
      have q:¬ klt x.key k:=fun e=>q (less_klt.2 e)
      split
      · rename_i e
        exact List.pairwise_cons.2 ⟨fun p hp=>by have:=h1 p hp;rw[e] at this;exact this,h2⟩
      · rename_i e
        have hx:klt k x.key:=(kge q).resolve_left e
        exact List.pairwise_cons.2 ⟨fun p hp=>by
          rcases List.mem_cons.1 hp with rfl | hp
          · exact hx
          · exact klt_trans hx (h1 p hp),h⟩
theorem Srt.cut {k:List UInt8} {l:List Pair} (h:Srt l):Srt (cutPair k l):=List.Pairwise.sublist List.filter_sublist h
namespace Tr
theorem put_leaves (k v:List UInt8):∀ t:Tr,Srt t.leaves→(t.put k v).leaves=putPair k v t.leaves
  | leaf a b, _ => by
    unfold put
    show _=(if Op.bytesLess a k=true then _ else _)
    have:=cmp_anti k a
    by_cases h1:Lib.compareBytes k a<0
    · rw[if_pos h1,if_neg (fun q=>by have:=less_t q;omega),if_neg (fun e=>by subst e;exact klt_irr _ h1)];rfl
    · rw [if_neg h1]
      by_cases h2:0<Lib.compareBytes k a
      · rw[if_pos h2,if_pos (less_klt.2 (by unfold klt;omega))];rfl
      · have e : k = a := cmp_zero.1 (by omega)
        rw[if_neg h2,if_neg (fun q=>by have:=less_t q;omega),if_pos e.symm];rfl
  | node l r, h => by
    have hl:Srt l.leaves:=(List.pairwise_append.1 h).1
    have hr:Srt r.leaves:=(List.pairwise_append.1 h).2.1
    unfold put
    split
    · rename_i q
      rw[bal_leaves,put_leaves k v l hl]
      refine(putPair_left k v l.leaves r.leaves fun p hp=>?_).symm
      have h2:=right_of hr hp
      exact⟨fun e=>h2 (klt_trans e q),fun e=>h2 (by rw[e];exact q)⟩
    · rename_i q
      rw[bal_leaves,put_leaves k v r hr]
      refine(putPair_right k v l.leaves r.leaves fun p hp=>?_).symm
      have h2:=left_of h hp
      rcases kge q with e | e
      · rw[e];exact h2
      · exact klt_trans h2 e
theorem cut_leaves (k:List UInt8):∀ t:Tr,Srt t.leaves→(t.cut k=none∧∀ p∈t.leaves,p.key≠k)∨∃ r,t.cut k=some r∧leavesO r=cutPair k t.leaves∧∃ p∈t.leaves,p.key=k
  | leaf a b, _ => by
    unfold cut
    by_cases e:a=k
    · rw[if_pos e];exact .inr ⟨none,rfl,by simp[leavesO,cutPair,leaves,e],_,List.mem_singleton_self _,e⟩
    · rw[if_neg e];exact .inl ⟨rfl,fun p hp=>by rw[List.mem_singleton.1 hp];exact e⟩
  | node l r, h => by
    have hl:Srt l.leaves:=(List.pairwise_append.1 h).1
    have hr:Srt r.leaves:=(List.pairwise_append.1 h).2.1
    unfold cut
    by_cases q:Lib.compareBytes k r.least<0
    · rw [if_pos q]
      have nr:∀ p∈r.leaves,p.key≠k:=fun p hp e=>right_of hr hp (by rw[e];exact q)
      have er:cutPair k r.leaves=r.leaves:=List.filter_eq_self.2 fun p hp=>decide_eq_true (nr p hp)
      rcases cut_leaves k l hl with⟨e,hn⟩ | ⟨x,e,e2,p,hp,hk⟩
      · rw[e];exact .inl ⟨rfl,fun p hp=>by rcases List.mem_append.1 hp with hp | hp;exact hn p hp;exact nr p hp⟩
      · rw [e]
        refine .inr ?_
        have e3:cutPair k (node l r).leaves=leavesO x++r.leaves:=by
          show cutPair k (l.leaves++r.leaves)=_
          rw[e2,← er];simp[cutPair,List.filter_append]
        cases x with
        | none=>exact⟨some r,rfl,by rw[e3];rfl,p,List.mem_append_left _ hp,hk⟩
        | some l'=>exact⟨some (l'.bal r),rfl,by rw[e3];exact bal_leaves _ _,p,List.mem_append_left _ hp,hk⟩
    · rw [if_neg q]
      have nl:∀ p∈l.leaves,p.key≠k:=fun p hp e=>q (by have:=left_of h hp;rw[e] at this;exact this)
      have el:cutPair k l.leaves=l.leaves:=List.filter_eq_self.2 fun p hp=>decide_eq_true (nl p hp)
      rcases cut_leaves k r hr with⟨e,hn⟩ | ⟨x,e,e2,p,hp,hk⟩
      · rw[e];exact .inl ⟨rfl,fun p hp=>by rcases List.mem_append.1 hp with hp | hp;exact nl p hp;exact hn p hp⟩
      · rw [e]
        refine .inr ?_
        have e3:cutPair k (node l r).leaves=l.leaves++leavesO x:=by
          show cutPair k (l.leaves++r.leaves)=_
          rw[e2,← el];simp[cutPair,List.filter_append]
        cases x with
        | none=>exact⟨some l,rfl,by rw[e3];simp[leavesO],p,List.mem_append_right _ hp,hk⟩
        | some r'=>exact⟨some (l.bal r'),rfl,by rw[e3];exact bal_leaves _ _,p,List.mem_append_right _ hp,hk⟩
end Tr
theorem putO_leaves {k v:List UInt8} {o:Option Tr} (h:Srt (leavesO o)):leavesO (putO k v o)=putPair k v (leavesO o):=by
  cases o with
  | none=>rfl
  | some t=>exact Tr.put_leaves k v t h
theorem cutO_leaves {k:List UInt8} {o:Option Tr} (h:Srt (leavesO o)):leavesO (cutO k o)=cutPair k (leavesO o):=by
  cases o with
  | none=>rfl
  | some t =>
    rcases Tr.cut_leaves k t h with⟨e,hn⟩ | ⟨r,e,e2,_⟩
    · rw [show cutO k (some t) = some t by simp [cutO, e]]
      exact(List.filter_eq_self.2 fun p hp=>decide_eq_true (hn p hp)).symm
    · rw[show cutO k (some t)=r by simp[cutO,e]];exact e2
theorem growG_ok:∀(n:Nat) (acts:List Act) (s:Option Tr × List Pair),Srt (leavesO s.1)→s.2=leavesO s.1→Srt (leavesO (growG n acts s).1)∧(growG n acts s).2=leavesO (growG n acts s).1
  | 0,acts,s,h,e=>by unfold growG;exact⟨h,e⟩
  | n+1,[],s,h,e=>by unfold growG;exact⟨h,e⟩
  | n + 1, a :: l, s, h, e => by
    unfold growG
    split
    · exact⟨h,e⟩
    · refine growG_ok n l _ ?_ ?_ <;> unfold stepA <;> split
      · rw[putO_leaves h];exact h.put
      · rw[cutO_leaves h];exact h.cut
      · rw[putO_leaves h,e]
      · rw[cutO_leaves h,e]
theorem growT_ok (acts:List Act) (m:Nat):Srt (leavesO (growT acts m).1)∧(growT acts m).2=leavesO (growT acts m).1:=growG_ok m acts (none,[]) List.Pairwise.nil rfl
def cntB (k:List UInt8) (ws:List (List UInt8)):Nat:=(ws.takeWhile fun x=>decide (klt x k)).length
theorem cntB_le (k:List UInt8) (ws:List (List UInt8)):cntB k ws≤ws.length:=(List.takeWhile_sublist _).length_le
theorem cnt_of {k:List UInt8}:∀ {ws:List (List UInt8)} {i:Nat},i≤ws.length→(∀ a,a<i→klt (ws.getD a []) k)→(i<ws.length→¬ klt (ws.getD i []) k)→cntB k ws=i
  | [],i,h,_,_=>by simp at h;subst h;rfl
  | x :: xs, 0, _, _, h => by
    have h0:¬ klt x k:=h (by simp)
    unfold cntB;rw[List.takeWhile_cons,if_neg (by simpa using h0)];rfl
  | x :: xs, i + 1, h1, h2, h3 => by
    have h0:klt x k:=h2 0 (by omega)
    have:=cnt_of (k:=k) (ws:=xs) (i:=i) (by simpa using h1) (fun a ha=>h2 (a+1) (by omega)) (fun hi=>h3 (by simpa using hi))
    unfold cntB at *;rw[List.takeWhile_cons,if_pos (by simpa using h0),List.length_cons,this]
def insB (x:List UInt8):List (List UInt8)→List (List UInt8)
  | []=>[x]
  | y::r=>if klt y x then y::insB x r else x::y::r
def srtB:List (List UInt8)→List (List UInt8)
  | []=>[]
  | x::r=>insB x (srtB r)
theorem insB_perm (x:List UInt8):∀ l,(insB x l).Perm (x::l)
  | []=>.refl _
  | y :: r => by
    unfold insB;split
    · exact((insB_perm x r).cons y).trans (.swap ..)
    · exact .refl _
theorem srtB_perm:∀ l,(srtB l).Perm l
  | []=>.refl _
  | x::r=>(insB_perm x _).trans ((srtB_perm r).cons x)
theorem srtB_len (l:List (List UInt8)):(srtB l).length=l.length:=(srtB_perm l).length_eq
def kle (a b:List UInt8):Prop:=¬ klt b a
theorem kle_trans {a b c:List UInt8} (h1:kle a b) (h2:kle b c):kle a c:=fun h=>by
  rcases kge h1 with e | h3
  · subst e;exact h2 h
  · exact h2 (klt_trans h h3)
theorem kle_anti {a b:List UInt8} (h1:kle a b) (h2:kle b a):a=b:=by
  rcases kge h1 with e | h3
  · exact e.symm
  · exact absurd h3 h2
theorem klt_le {a b:List UInt8} (h:klt a b):kle a b:=fun h2=>klt_irr _ (klt_trans h h2)
theorem kle_lt {a b c:List UInt8} (h1:kle a b) (h2:klt b c):klt a c:=by
  rcases kge h1 with e | h3
  · subst e;exact h2
  · exact klt_trans h3 h2
theorem insB_srt {x:List UInt8}:∀ {l:List (List UInt8)},l.Pairwise kle→(insB x l).Pairwise kle
  | [],_=>List.pairwise_singleton ..
  | y :: r, h => by
    obtain⟨h1,h2⟩:=List.pairwise_cons.1 h
    unfold insB;split
    · rename_i hy
      refine List.pairwise_cons.2 ⟨fun z hz=>?_,insB_srt h2⟩
      rcases List.mem_cons.1 ((insB_perm x r).mem_iff.1 hz) with rfl | hz
      · exact klt_le hy
      · exact h1 z hz
    · rename_i hy
      refine List.pairwise_cons.2 ⟨fun z hz=>?_,h⟩
      rcases List.mem_cons.1 hz with rfl | hz
      · exact hy
      · exact kle_trans hy (h1 z hz)
theorem srtB_srt:∀ l,(srtB l).Pairwise kle
  | []=>.nil
  | x::r=>insB_srt (srtB_srt r)
theorem srtB_eq {l l':List (List UInt8)} (hp:l'.Perm l) (hs:l'.Pairwise kle):l'=srtB l :=
  List.Perm.eq_of_pairwise (le:=kle) (fun a b _ _=>kle_anti) hs (srtB_srt l) (hp.trans (srtB_perm l).symm)
/-- the first n, without doubles that stand side by side -/
def dedN (xs:List (List UInt8)):Nat→List (List UInt8)
  | 0=>[]
  | n+1=>if n≠0∧xs.getD n []=xs.getD (n - 1) [] then dedN xs n else dedN xs n++[xs.getD n []]
def dedB (xs:List (List UInt8)):List (List UInt8):=dedN xs xs.length
theorem dedN_len (xs:List (List UInt8)):∀ n,(dedN xs n).length≤n
  | 0=>Nat.le_refl _
  | n+1=>by have:=dedN_len xs n;unfold dedN;split <;> simp <;> omega
theorem dedN_mem {xs:List (List UInt8)} {x:List UInt8}:∀ {n:Nat},x∈dedN xs n↔∃ j,j<n∧xs.getD j []=x
  | 0=>by simp[dedN]
  | n + 1 => by
    have ih:=dedN_mem (xs:=xs) (x:=x) (n:=n)
    unfold dedN;split
    · rename_i h
      rw[ih]
      exact⟨fun⟨j,a,b⟩=>⟨j,by omega,b⟩,fun⟨j,a,b⟩=>by
        by_cases e:j=n
        · subst e;exact⟨j - 1,by omega,by rw[← h.2];exact b⟩
        · exact⟨j,by omega,b⟩⟩
    · rw [List.mem_append, ih, List.mem_singleton]
      exact⟨fun h=>h.elim (fun⟨j,a,b⟩=>⟨j,by omega,b⟩) fun h=>⟨n,by omega,h.symm⟩,fun⟨j,a,b⟩=>by
        by_cases e:j=n
        · subst e;exact .inr b.symm
        · exact .inl ⟨j,by omega,b⟩⟩
theorem dedB_mem {xs:List (List UInt8)} {x:List UInt8}:x∈dedB xs↔x∈xs:=by
  unfold dedB;rw[dedN_mem,List.mem_iff_getElem]
  exact⟨fun⟨j,a,b⟩=>⟨j,a,by rw[← b,List.getD_eq_getElem?_getD,List.getElem?_eq_getElem a];rfl⟩,fun⟨j,a,b⟩=>⟨j,a,by rw[← b,List.getD_eq_getElem?_getD,List.getElem?_eq_getElem a];rfl⟩⟩
theorem srt_get {xs:List (List UInt8)} (h:xs.Pairwise kle) {i j:Nat} (hi:i<j) (hj:j<xs.length):kle (xs.getD i []) (xs.getD j []):=by
  have:=List.pairwise_iff_getElem.1 h i j (by omega) hj hi
  rwa [List.getD_eq_getElem?_getD,List.getElem?_eq_getElem (by omega),List.getD_eq_getElem?_getD,List.getElem?_eq_getElem hj]
theorem dedN_srt {xs:List (List UInt8)} (h:xs.Pairwise kle):∀ {n:Nat},n≤xs.length→(dedN xs n).Pairwise klt∧∀ x∈dedN xs n,kle x (xs.getD (n - 1) [])
  | 0,_=>⟨.nil,fun x hx=>by simp[dedN] at hx⟩
  | n + 1, hn => by
    obtain⟨h1,h2⟩:=dedN_srt h (n:=n) (by omega)
    unfold dedN;split
    · rename_i he
      refine⟨h1,fun x hx=>?_⟩
      show kle x (xs.getD n [])
      rw[he.2];exact h2 x hx
    · rename_i he
      have hlt:∀ x∈dedN xs n,klt x (xs.getD n []):=fun x hx=>by
        by_cases hz:n=0
        · subst hz;simp[dedN] at hx
        · have h3 := srt_get h (i := n - 1) (j := n) (by omega) (by omega)
          rcases kge h3 with e | h4
          · exact absurd ⟨hz,e⟩ he
          · exact kle_lt (h2 x hx) h4
      refine⟨List.pairwise_append.2 ⟨h1,List.pairwise_singleton ..,fun x hx y hy=>by rw[List.mem_singleton.1 hy];exact hlt x hx⟩,fun x hx=>?_⟩
      rcases List.mem_append.1 hx with hx | hx
      · exact klt_le (hlt x hx)
      · rw[List.mem_singleton.1 hx];exact klt_irr _
theorem dedB_srt {xs:List (List UInt8)} (h:xs.Pairwise kle):(dedB xs).Pairwise klt:=(dedN_srt h (Nat.le_refl _)).1
theorem ded_eq {l l':List (List UInt8)} (h:l.Pairwise klt) (h':l'.Pairwise klt) (hm:∀ x,x∈l↔x∈l'):l=l':=by
  refine List.Perm.eq_of_pairwise (le:=klt) (fun a b _ _ h1 h2=>absurd (klt_trans h1 h2) (klt_irr _)) h h' ?_
  have nd:∀ {l:List (List UInt8)},l.Pairwise klt→l.Nodup:=fun h=>h.imp fun h=>klt_ne h
  exact(List.perm_ext_iff_of_nodup (nd h) (nd h')).2 hm
theorem tail_srt {k:List UInt8} {ws:List (List UInt8)} (h:ws.Pairwise kle) {a b:Nat} (hab:a≤b) (hb:b<ws.length) (hk:klt (ws.getD b []) k):klt (ws.getD a []) k:=by
  by_cases e:a=b
  · subst e;exact hk
  · exact kle_lt (srt_get h (by omega) hb) hk
def ksP (l:List Pair):List (List UInt8):=l.map (·.key)
theorem ksP_len (l:List Pair):(ksP l).length=l.length:=List.length_map ..
theorem ksP_get (l:List Pair) (i:Nat):(ksP l).getD i []=(l.getD i dP).key:=by
  unfold ksP;rw[List.getD_eq_getElem?_getD,List.getElem?_map,List.getD_eq_getElem?_getD];cases l[i]? <;> rfl
def fndP (l:List Pair) (k:List UInt8):Bool:=decide (cntB k (ksP l)<l.length) && decide ((l.getD (cntB k (ksP l)) dP).key=k)
def wan1 (l:List Pair) (k:List UInt8):List (List UInt8) :=
  if fndP l k=true then[(l.getD (cntB k (ksP l)) dP).key]
  else(if 0<cntB k (ksP l) then[(l.getD (cntB k (ksP l) - 1) dP).key] else[])++(if cntB k (ksP l)<l.length then[(l.getD (cntB k (ksP l)) dP).key] else[])
def wanU (l:List Pair) (ks:List (List UInt8)):List (List UInt8):=ks.flatMap (wan1 l)
def wanL (l:List Pair) (ks:List (List UInt8)):List (List UInt8):=dedB (srtB (wanU l ks))
theorem wan1_len (l:List Pair) (k:List UInt8):(wan1 l k).length≤2:=by
  unfold wan1;split
  · simp
  · split <;> split <;> simp
theorem wanL_mem {l:List Pair} {ks:List (List UInt8)} {x:List UInt8}:x∈wanL l ks↔∃ k∈ks,x∈wan1 l k:=by
  unfold wanL;rw[dedB_mem,(srtB_perm _).mem_iff];exact List.mem_flatMap
theorem wanL_srt (l:List Pair) (ks:List (List UInt8)):(wanL l ks).Pairwise klt:=dedB_srt (srtB_srt _)
theorem wanU_len (l:List Pair):∀ ks:List (List UInt8),(wanU l ks).length≤2*ks.length
  | []=>Nat.le_refl _
  | k::ks=>by have h1:=wan1_len l k;have h2:=wanU_len l ks;unfold wanU at *;rw[List.flatMap_cons,List.length_append,List.length_cons];omega
theorem wanL_len (l:List Pair) (ks:List (List UInt8)):(wanL l ks).length≤2*ks.length:=by
  have h1:=dedN_len (srtB (wanU l ks)) (srtB (wanU l ks)).length;have h2:=srtB_len (wanU l ks);have h3:=wanU_len l ks
  unfold wanL dedB;omega
def bsS (ws:List (List UInt8)) (x:List UInt8) (q:Nat × Nat):Nat × Nat :=
  if Lib.compareBytes (ws.getD ((q.1+q.2) / 2) []) x<0 then((q.1+q.2) / 2+1,q.2) else(q.1,(q.1+q.2) / 2)
structure BsI (ws:List (List UInt8)) (x:List UInt8) (q:Nat × Nat):Prop where
  le:q.1≤q.2
  len:q.2≤ws.length
  lo:∀ a,a<q.1→klt (ws.getD a []) x
  hi:∀ a,q.2≤a→a<ws.length→¬ klt (ws.getD a []) x
section
variable {ws:List (List UInt8)} {x:List UInt8} {q:Nat × Nat}
theorem BsI.start:BsI ws x (0,ws.length):=⟨Nat.zero_le _,Nat.le_refl _,fun a h=>by simp at h,fun a h1 h2=>by simp at h1;omega⟩
theorem BsI.end (h:BsI ws x q) (hi:¬ (q.1:Int)<q.2):q.1=cntB x ws:=by
  have:=h.le;have:=h.len
  exact(cnt_of (by omega) h.lo fun hn=>h.hi _ (by omega) hn).symm
theorem BsI.next (hs:ws.Pairwise kle) (h:BsI ws x q) (hi:(q.1:Int)<q.2):BsI ws x (bsS ws x q)∧(bsS ws x q).2 - (bsS ws x q).1<q.2 - q.1:=by
  have h1:=h.le;have h2:=h.len
  have hm:q.1≤(q.1+q.2) / 2∧(q.1+q.2) / 2<q.2:=by omega
  generalize hz:(q.1+q.2) / 2=m at hm
  unfold bsS;rw[hz]
  split
  · rename_i hc
    exact⟨⟨by show m+1≤q.2;omega,h2,fun a ha=>tail_srt hs (b:=m) (by have:a<m+1:=ha;omega) (by omega) hc,h.hi⟩,by show q.2 - (m+1)<q.2 - q.1;omega⟩
  · rename_i hc
    exact⟨⟨hm.1,by show m≤ws.length;omega,h.lo,fun a ha hn hk=>hc (tail_srt hs ha hn hk)⟩,by show m - q.1<q.2 - q.1;omega⟩
end
abbrev bsM (q:Nat × Nat):UInt64:=ofI ((q.1:Int)+q.2) >>> 1
section
variable {ws:List (List UInt8)} {x y:List UInt8} {q:Nat × Nat}
theorem bsH (h:BsI ws x q) (hl:ws.length≤1000000):(bsM q).toNat=(q.1+q.2) / 2∧(q.1+q.2) / 2≤1000000:=by
  have h1:=h.le;have h2:=h.len
  refine⟨?_,by omega⟩
  show(ofI ((q.1:Int)+q.2) >>> 1).toNat=_
  rw[UInt64.toNat_shiftRight,show(q.1:Int)+q.2=((q.1+q.2:Nat):Int) by omega,ofI_nat _ (by omega),UInt64.toNat_ofNat_of_lt' (by show q.1+q.2<18446744073709551616;omega)]
  show(q.1+q.2) >>> 1=_
  rw[Nat.shiftRight_succ,Nat.shiftRight_zero]
theorem bsA (h:BsI ws x q) (hl:ws.length≤1000000):I64 ((q.1:Int)+q.2):=by
  have h1:=h.le;have h2:=h.len;unfold I64;omega
theorem bsB (h:BsI ws x q) (hl:ws.length≤1000000):bsM q<9223372036854775808:=by
  have:=bsH h hl;apply UInt64.lt_iff_toNat_lt.2;rw[this.1];show _<9223372036854775808;omega
theorem bsC (h:BsI ws x q) (hl:ws.length≤1000000) (hi:(q.1:Int)<q.2):(0:Int)≤((bsM q).toNat:Int)∧((bsM q).toNat:Int)<(ws.length:Int):=by
  have:=bsH h hl;have:=h.len;omega
theorem bsD (h:BsI ws x q) (hl:ws.length≤1000000):I64 (((bsM q).toNat:Int)+1):=by have:=bsH h hl;unfold I64;omega
theorem bsGet (h:BsI ws x q) (hl:ws.length≤1000000):ws.getD ((bsM q).toNat:Int).toNat []=ws.getD ((q.1+q.2) / 2) []:=by rw[Int.toNat_natCast,(bsH h hl).1]
theorem bsT (h:BsI ws x q) (hl:ws.length≤1000000) (hc:Lib.compareBytes (ws.getD ((bsM q).toNat:Int).toNat []) x<0):((bsM q).toNat:Int)+1=((bsS ws x q).1:Int)∧(q.2:Int)=((bsS ws x q).2:Int):=by
  rw[bsGet h hl] at hc;unfold bsS;rw[if_pos hc];have:=bsH h hl;exact⟨by show _=(((q.1+q.2) / 2+1:Nat):Int);omega,rfl⟩
theorem bsF (h:BsI ws x q) (hl:ws.length≤1000000) (hc:¬ Lib.compareBytes (ws.getD ((bsM q).toNat:Int).toNat []) x<0):(q.1:Int)=((bsS ws x q).1:Int)∧((bsM q).toNat:Int)=((bsS ws x q).2:Int):=by
  rw[bsGet h hl] at hc;unfold bsS;rw[if_neg hc];have:=bsH h hl;exact⟨rfl,by show _=(((q.1+q.2) / 2:Nat):Int);omega⟩
theorem bsE (h:BsI ws x q) (hi:¬ (q.1:Int)<q.2):(q.1:Int)=(cntB x ws:Int):=by rw[h.end hi]
end
def fndB (ws:List (List UInt8)) (x:List UInt8):Bool:=decide (cntB x ws<ws.length) && decide (Lib.compareBytes (ws.getD (cntB x ws) []) x=0)
theorem bs1 {ws:List (List UInt8)} {x:List UInt8} {q:Nat × Nat} (h:BsI ws x q) (hi:¬ (q.1:Int)<q.2) (hn:(q.1:Int)<ws.length):decide (Lib.compareBytes (ws.getD (q.1:Int).toNat []) x=0)=fndB ws x:=by
  have e:=h.end hi
  unfold fndB;rw[Int.toNat_natCast,e,decide_eq_true (p:=cntB x ws<ws.length) (by omega)];rfl
theorem bs2 {ws:List (List UInt8)} {x:List UInt8} {q:Nat × Nat} (h:BsI ws x q) (hi:¬ (q.1:Int)<q.2) (hn:¬ (q.1:Int)<ws.length):false=fndB ws x:=by
  have e:=h.end hi
  unfold fndB;rw[decide_eq_false (p:=cntB x ws<ws.length) (by omega)];rfl
noncomputable def ccM1_121:Code:=(Tryd.f121.body).getD .skip
theorem BSB_ok (ws:List (List UInt8)) (x:List UInt8) (hs:ws.Pairwise kle) (hl:ws.length≤1000000):FOk EN 121 ⟨[.rd 22 ws,.rd 5 (x)],[.n 0,.n 1,.f 60 [] []],Unit,fun _=>([.rd 22 ws,.rd 5 (x)],.t [.i (cntB x ws),.b (fndB ws x)]),fun _=>True⟩:=by
 refine v_fun Tryd.f121 ccM1_121 MX (fun ν F σ w=>?_) Tryd.func121
 refine v_nl ?_
 refine v_loop (fun q:Nat × Nat=>([(9,.i q.1),(10,.i q.2)],[])) (fun q=>BsI ws x q) (fun q=>q.2 - q.1) (0,ws.length) [] (((0:Int)=(↑(0:Nat):Int))∧((↑ws.length:Int)=(↑ws.length:Int))) ⟨rfl,rfl⟩ (by exact BsI.start) (fun q hk1=>?_)
 refine v_if (decide ((↑q.fst:Int)<(↑q.snd:Int))) True trivial (fun h2=>?_) (fun h2=>?_)
 ·have h2:=of_decide_eq_true h2
  refine v_call _ [3,1] (bcmp_ok (ws.getD (↑(ofI ((↑q.fst:Int)+(↑q.snd:Int)) >>> 1).toNat:Int).toNat []) (x)) ((I64 (↑q.fst + ↑q.snd))∧((1:UInt64)<(64:UInt64))∧(ofI (↑q.fst + ↑q.snd) >>> 1<9223372036854775808)∧((0:Int)≤(↑(ofI ((↑q.fst:Int)+(↑q.snd:Int)) >>> (1:UInt64)).toNat:Int)∧(↑(ofI ((↑q.fst:Int)+(↑q.snd:Int)) >>> (1:UInt64)).toNat:Int)<(↑ws.length:Int))∧(ws.getD (↑(ofI ((↑q.fst:Int)+(↑q.snd:Int)) >>> 1).toNat:Int).toNat []=ws.getD (↑(ofI ((↑q.fst:Int)+(↑q.snd:Int)) >>> 1).toNat:Int).toNat [])∧(x=x)) ⟨(by exact bsA (x:=x) (ws:=ws) ‹_› hl),(by decide),(by exact bsB (x:=x) (ws:=ws) ‹_› hl),(by exact bsC (x:=x) ‹_› hl ‹_›),rfl,rfl⟩ (fun g3 p4=>?_)
  have p4:True:=p4
  refine v_if (decide (Lib.compareBytes (ws.getD (↑(ofI ((↑q.fst:Int)+(↑q.snd:Int)) >>> 1).toNat:Int).toNat []) x<0)) True trivial (fun h5=>?_) (fun h5=>?_)
  ·have h5:=of_decide_eq_true h5
   exact v_back (bsS ws x q) [] ((I64 (↑(ofI (↑q.fst + ↑q.snd) >>> 1).toNat+1))∧((↑(ofI ((↑q.fst:Int)+(↑q.snd:Int)) >>> 1).toNat:Int)+1=(↑(bsS ws x q).fst:Int))∧((↑q.snd:Int)=(↑(bsS ws x q).snd:Int))) ⟨(by exact bsD (x:=x) (ws:=ws) ‹_› hl),(by exact(bsT (ws:=ws) ‹_› hl ‹_›).1),(by exact(bsT (ws:=ws) ‹_› hl ‹_›).2)⟩ (show BsI ws x (bsS ws x q)∧(bsS ws x q).snd - (bsS ws x q).fst<q.snd - q.fst from(by exact BsI.next hs ‹_› ‹_›))
  ·have h5:=of_decide_eq_false h5
   exact v_back (bsS ws x q) [] (((↑q.fst:Int)=(↑(bsS ws x q).fst:Int))∧((↑(ofI ((↑q.fst:Int)+(↑q.snd:Int)) >>> 1).toNat:Int)=(↑(bsS ws x q).snd:Int))) ⟨(by exact(bsF (ws:=ws) ‹_› hl ‹_›).1),(by exact(bsF (ws:=ws) ‹_› hl ‹_›).2)⟩ (show BsI ws x (bsS ws x q)∧(bsS ws x q).snd - (bsS ws x q).fst<q.snd - q.fst from(by exact BsI.next hs ‹_› ‹_›))
 ·have h2:=of_decide_eq_false h2
  refine v_leave (.ex 0) True trivial ?_
  refine v_guard 39 (decide ((↑q.fst:Int)<(↑ws.length:Int))) True trivial (fun h6=>?_) (fun h6=>?_)
  ·have h6:=of_decide_eq_true h6
   refine v_call _ [3,1] (bcmp_ok (ws.getD (↑q.fst:Int).toNat []) (x)) ((0≤(↑q.fst:Int)∧(↑q.fst:Int)<(↑ws.length:Int))∧(ws.getD (↑q.fst:Int).toNat []=ws.getD (↑q.fst:Int).toNat [])∧(x=x)) ⟨(by omega),rfl,rfl⟩ (fun g7 p8=>?_)
   have p8:True:=p8
   exact v_ret () [] (((↑q.fst:Int)=(↑(cntB x ws):Int))∧(decide (Lib.compareBytes (ws.getD (↑q.fst:Int).toNat []) x=0)=fndB ws x)∧(ws=ws)∧(x=x)) ⟨(by exact bsE ‹_› ‹_›),(by exact bs1 ‹_› ‹_› ‹_›),rfl,rfl⟩ trivial
  ·have h6:=of_decide_eq_false h6
   exact v_ret () [] (((↑q.fst:Int)=(↑(cntB x ws):Int))∧(false=fndB ws x)∧(ws=ws)∧(x=x)) ⟨(by exact bsE ‹_› ‹_›),(by exact bs2 ‹_› ‹_› ‹_›),rfl,rfl⟩ trivial
theorem ksP_srt {l:List Pair} (h:Srt l):(ksP l).Pairwise kle:=by unfold ksP;rw[List.pairwise_map];exact h.imp klt_le
noncomputable def ccM1_124:Code:=(Tryd.f124.body).getD .skip
theorem wcmp_ok (a v x:List UInt8):FOk EN 124 ⟨[.rd 5 (a),.rd 5 (v),.rd 5 (x)],[.a [.n 0,.n 1],.n 2],Unit,fun _=>([.rd 5 (a),.rd 5 (v),.rd 5 (x)],.i (Lib.compareBytes a x)),fun _=>True⟩:=by
 refine v_fun Tryd.f124 ccM1_124 MX (fun ν F σ w=>?_) Tryd.func124
 refine v_nl ?_
 refine v_call _ [0,2] (bcmp_ok (a) (x)) ((a=a)∧(x=x)) ⟨rfl,rfl⟩ (fun g1 p2=>?_)
 have p2:True:=p2
 exact v_ret () [] ((Lib.compareBytes a x=Lib.compareBytes a x)∧(a=a)∧(v=v)∧(x=x)) ⟨rfl,rfl,rfl,rfl⟩ trivial
theorem ksL {l:List Pair} (h:l.length≤1000000):(ksP l).length≤1000000:=by rw[ksP_len];exact h
theorem bsCP {l:List Pair} {x:List UInt8} {q:Nat × Nat} (h:BsI (ksP l) x q) (hl:l.length≤1000000) (hi:(q.1:Int)<q.2):(0:Int)≤((bsM q).toNat:Int)∧((bsM q).toNat:Int)<(l.length:Int):=by
  have:=bsC h (ksL hl) hi;rwa [ksP_len] at this
theorem bs1P {l:List Pair} {x:List UInt8} {q:Nat × Nat} (h:BsI (ksP l) x q) (hi:¬ (q.1:Int)<q.2) (hn:(q.1:Int)<l.length):decide (Lib.compareBytes (l.getD (q.1:Int).toNat dP).key x=0)=fndP l x:=by
  have e:=h.end hi
  unfold fndP;rw[Int.toNat_natCast,e,decide_eq_true (p:=cntB x (ksP l)<l.length) (by omega),Bool.true_and]
  exact decide_eq_decide.2 cmp_zero
theorem bs2P {l:List Pair} {x:List UInt8} {q:Nat × Nat} (h:BsI (ksP l) x q) (hi:¬ (q.1:Int)<q.2) (hn:¬ (q.1:Int)<l.length):false=fndP l x:=by
  have e:=h.end hi
  unfold fndP;rw[decide_eq_false (p:=cntB x (ksP l)<l.length) (by omega)];rfl
noncomputable def ccM1_123:Code:=(Tryd.f123.body).getD .skip
theorem BSP_ok (l:List Pair) (x:List UInt8) (hs:Srt l) (hl:l.length≤1000000):FOk EN 123 ⟨[.rd 46 (l),.rd 5 (x)],[.n 0,.n 1,.f 124 [] []],Unit,fun _=>([.rd 46 (l),.rd 5 (x)],.t [.i (cntB x (ksP l)),.b (fndP l x)]),fun _=>True⟩:=by
 refine v_fun Tryd.f123 ccM1_123 MX (fun ν F σ w=>?_) Tryd.func123
 refine v_nl ?_
 refine v_loop (fun q:Nat × Nat=>([(9,.i q.1),(10,.i q.2)],[])) (fun q=>BsI (ksP l) x q) (fun q=>q.2 - q.1) (0,(ksP l).length) [] (((0:Int)=(↑(0:Nat):Int))∧((↑l.length:Int)=(↑(ksP l).length:Int))) ⟨rfl,(by exact(congrArg Nat.cast (ksP_len l)).symm)⟩ (by exact BsI.start) (fun q hk1=>?_)
 refine v_if (decide ((↑q.fst:Int)<(↑q.snd:Int))) True trivial (fun h2=>?_) (fun h2=>?_)
 ·have h2:=of_decide_eq_true h2
  refine v_call _ [3,4,1] (wcmp_ok ((l.getD (↑(ofI ((↑q.fst:Int)+(↑q.snd:Int)) >>> 1).toNat:Int).toNat (Pair.mk [] [])).key) ((l.getD (↑(ofI ((↑q.fst:Int)+(↑q.snd:Int)) >>> 1).toNat:Int).toNat (Pair.mk [] [])).value) (x)) ((I64 (↑q.fst + ↑q.snd))∧((1:UInt64)<(64:UInt64))∧(ofI (↑q.fst + ↑q.snd) >>> 1<9223372036854775808)∧((0:Int)≤(↑(ofI ((↑q.fst:Int)+(↑q.snd:Int)) >>> (1:UInt64)).toNat:Int)∧(↑(ofI ((↑q.fst:Int)+(↑q.snd:Int)) >>> (1:UInt64)).toNat:Int)<(↑l.length:Int))∧((l.getD (↑(ofI ((↑q.fst:Int)+(↑q.snd:Int)) >>> 1).toNat:Int).toNat (Pair.mk [] [])).key=(l.getD (↑(ofI ((↑q.fst:Int)+(↑q.snd:Int)) >>> 1).toNat:Int).toNat (Pair.mk [] [])).key)∧((l.getD (↑(ofI ((↑q.fst:Int)+(↑q.snd:Int)) >>> 1).toNat:Int).toNat (Pair.mk [] [])).value=(l.getD (↑(ofI ((↑q.fst:Int)+(↑q.snd:Int)) >>> 1).toNat:Int).toNat (Pair.mk [] [])).value)∧(x=x)) ⟨(by exact bsA (x:=x) (ws:=ksP l) ‹_› (ksL hl)),(by decide),(by exact bsB (x:=x) (ws:=ksP l) ‹_› (ksL hl)),(by exact bsCP (x:=x) ‹_› hl ‹_›),rfl,rfl,rfl⟩ (fun g3 p4=>?_)
  have p4:True:=p4
  refine v_if (decide (Lib.compareBytes (l.getD (↑(ofI ((↑q.fst:Int)+(↑q.snd:Int)) >>> 1).toNat:Int).toNat (Pair.mk [] [])).key x<0)) True trivial (fun h5=>?_) (fun h5=>?_)
  ·have h5:=of_decide_eq_true h5
   exact v_back (bsS (ksP l) x q) [] ((I64 (↑(ofI (↑q.fst + ↑q.snd) >>> 1).toNat+1))∧((↑(ofI ((↑q.fst:Int)+(↑q.snd:Int)) >>> 1).toNat:Int)+1=(↑(bsS (ksP l) x q).fst:Int))∧((↑q.snd:Int)=(↑(bsS (ksP l) x q).snd:Int))) ⟨(by exact bsD (x:=x) (ws:=ksP l) ‹_› (ksL hl)),(by exact(bsT (ws:=ksP l) ‹_› (ksL hl) (by rw[ksP_get];assumption)).1),(by exact(bsT (ws:=ksP l) ‹_› (ksL hl) (by rw[ksP_get];assumption)).2)⟩ (show BsI (ksP l) x (bsS (ksP l) x q)∧(bsS (ksP l) x q).snd - (bsS (ksP l) x q).fst<q.snd - q.fst from(by exact BsI.next (ksP_srt hs) ‹_› ‹_›))
  ·have h5:=of_decide_eq_false h5
   exact v_back (bsS (ksP l) x q) [] (((↑q.fst:Int)=(↑(bsS (ksP l) x q).fst:Int))∧((↑(ofI ((↑q.fst:Int)+(↑q.snd:Int)) >>> 1).toNat:Int)=(↑(bsS (ksP l) x q).snd:Int))) ⟨(by exact(bsF (ws:=ksP l) ‹_› (ksL hl) (by rw[ksP_get];assumption)).1),(by exact(bsF (ws:=ksP l) ‹_› (ksL hl) (by rw[ksP_get];assumption)).2)⟩ (show BsI (ksP l) x (bsS (ksP l) x q)∧(bsS (ksP l) x q).snd - (bsS (ksP l) x q).fst<q.snd - q.fst from(by exact BsI.next (ksP_srt hs) ‹_› ‹_›))
 ·have h2:=of_decide_eq_false h2
  refine v_leave (.ex 0) True trivial ?_
  refine v_guard 39 (decide ((↑q.fst:Int)<(↑l.length:Int))) True trivial (fun h6=>?_) (fun h6=>?_)
  ·have h6:=of_decide_eq_true h6
   refine v_call _ [3,4,1] (wcmp_ok ((l.getD (↑q.fst:Int).toNat (Pair.mk [] [])).key) ((l.getD (↑q.fst:Int).toNat (Pair.mk [] [])).value) (x)) ((0≤(↑q.fst:Int)∧(↑q.fst:Int)<(↑l.length:Int))∧((l.getD (↑q.fst:Int).toNat (Pair.mk [] [])).key=(l.getD (↑q.fst:Int).toNat (Pair.mk [] [])).key)∧((l.getD (↑q.fst:Int).toNat (Pair.mk [] [])).value=(l.getD (↑q.fst:Int).toNat (Pair.mk [] [])).value)∧(x=x)) ⟨(by omega),rfl,rfl,rfl⟩ (fun g7 p8=>?_)
   have p8:True:=p8
   exact v_ret () [] (((↑q.fst:Int)=(↑(cntB x (ksP l)):Int))∧(decide (Lib.compareBytes (l.getD (↑q.fst:Int).toNat (Pair.mk [] [])).key x=0)=fndP l x)∧(l=l)∧(x=x)) ⟨(by exact bsE ‹_› ‹_›),(by exact bs1P ‹_› ‹_› ‹_›),rfl,rfl⟩ trivial
  ·have h6:=of_decide_eq_false h6
   exact v_ret () [] (((↑q.fst:Int)=(↑(cntB x (ksP l)):Int))∧(false=fndP l x)∧(l=l)∧(x=x)) ⟨(by exact bsE ‹_› ‹_›),(by exact bs2P ‹_› ‹_› ‹_›),rfl,rfl⟩ trivial
def NoD (xs:List (List UInt8)) (k:Nat):Prop:=dedN xs k=xs.take k
structure CI (xs:List (List UInt8)) (b:Nat) (q:Nat × Nat × List (List UInt8)):Prop where
  one:1≤q.1
  b1:1≤b
  le:b+q.1≤xs.length
  kb:b≤q.2.1
  kk:q.2.1+1≤b+q.1
  len:q.2.2.length=xs.length
  tk:q.2.2.take q.2.1=dedN xs (b+q.1)
  dr:∀ j,b+q.1≤j+1→q.2.2.getD j []=xs.getD j []
def ciS (b:Nat) (q:Nat × Nat × List (List UInt8)):Nat × Nat × List (List UInt8) :=
  if q.2.2.getD (b+q.1) []=q.2.2.getD (b+q.1 - 1) [] then(q.1+1,q.2.1,q.2.2) else(q.1+1,q.2.1+1,q.2.2.set q.2.1 (q.2.2.getD (b+q.1) []))
theorem take_succ_getD {ys:List (List UInt8)} {k:Nat} (h:k<ys.length):ys.take (k+1)=ys.take k++[ys.getD k []]:=by
  rw[List.take_succ,List.getD_eq_getElem?_getD,List.getElem?_eq_getElem h];rfl
theorem NoD.next {xs:List (List UInt8)} {k:Nat} (h:NoD xs k) (hk:(k:Int)<xs.length) (h1:1≤k) (hn:¬ xs.getD k []=xs.getD (k - 1) []):NoD xs (k+1):=by
  unfold NoD at *;rw[take_succ_getD (by omega),dedN,if_neg (fun e=>hn e.2),h]
theorem NoD.one {xs:List (List UInt8)} (h:2≤(xs.length:Int)):NoD xs 1:=by unfold NoD;rw[take_succ_getD (by omega)];simp[dedN]
theorem NoD.all {xs:List (List UInt8)} {k:Nat} (h:NoD xs k) (hk:k≤xs.length) (hn:¬ (k:Int)<xs.length):xs=dedB xs:=by
  have:k=xs.length:=by omega
  subst this;unfold dedB;rw[h,List.take_length]
theorem ded_small {xs:List (List UInt8)} (h:(xs.length:Int)<2):xs=dedB xs:=by
  match xs,h with
  | [],_=>rfl
  | [x],_=>rfl
  | _::_::_,h=>simp at h;omega
theorem CI.start {xs:List (List UInt8)} {k:Nat} (h:NoD xs k) (h1:1≤k) (hk:(k:Int)<xs.length) (he:xs.getD k []=xs.getD (k - 1) []):CI xs k (1,k,xs) :=
  ⟨Nat.le_refl _,h1,by show k+1≤_;omega,Nat.le_refl _,Nat.le_refl _,rfl,by show xs.take k=dedN xs (k+1);rw[dedN,if_pos ⟨by omega,he⟩,h],fun _ _=>rfl⟩
theorem CI.next {xs:List (List UInt8)} {b:Nat} {q:Nat × Nat × List (List UInt8)} (h:CI xs b q) (hq:(q.1:Int)<((xs.length - b:Nat):Int)):CI xs b (ciS b q)∧xs.length - (ciS b q).1<xs.length - q.1:=by
  obtain⟨h1,hb1,h2,h3,h4,h5,h6,h7⟩:=h
  have e1:q.2.2.getD (b+q.1) []=xs.getD (b+q.1) []:=h7 _ (by omega)
  have e2:q.2.2.getD (b+q.1 - 1) []=xs.getD (b+q.1 - 1) []:=h7 _ (by omega)
  unfold ciS;rw[e1,e2]
  split
  · rename_i he
    refine⟨⟨by show 1≤q.1+1;omega,hb1,by show b+(q.1+1)≤_;omega,h3,by show q.2.1+1≤b+(q.1+1);omega,h5,?_,fun j hj=>h7 j (by have:b+(q.1+1)≤j+1:=hj;omega)⟩,by show xs.length - (q.1+1)<_;omega⟩
    show q.2.2.take q.2.1=dedN xs (b+q.1+1)
    rw[dedN,if_pos ⟨by omega,he⟩];exact h6
  · rename_i he
    refine⟨⟨by show 1≤q.1+1;omega,hb1,by show b+(q.1+1)≤_;omega,by show b≤q.2.1+1;omega,by show q.2.1+1+1≤b+(q.1+1);omega,by show(q.2.2.set _ _).length=_;rw[List.length_set];exact h5,?_,fun j hj=>?_⟩,by show xs.length - (q.1+1)<_;omega⟩
    · show (q.2.2.set q.2.1 _).take (q.2.1 + 1) = dedN xs (b + q.1 + 1)
      rw[dedN,if_neg (fun e=>he e.2),take_succ_getD (by rw[List.length_set,h5];omega),List.take_set_of_le (Nat.le_refl _),h6]
      rw[List.getD_eq_getElem?_getD,List.getElem?_set_self (by rw[h5];omega)];rfl
    · show (q.2.2.set q.2.1 _).getD j [] = _
      have hj':b+(q.1+1)≤j+1:=hj
      rw[List.getD_eq_getElem?_getD,List.getElem?_set_ne (by omega),← List.getD_eq_getElem?_getD]
      exact h7 j (by omega)
theorem CI.end {xs:List (List UInt8)} {b:Nat} {q:Nat × Nat × List (List UInt8)} (h:CI xs b q) (hq:¬ (q.1:Int)<((xs.length - b:Nat):Int)) (zs:List (List UInt8)):(q.2.2.take q.2.1++zs).take q.2.1=dedB xs:=by
  obtain⟨h1,hb1,h2,h3,h4,h5,h6,h7⟩:=h
  have:b+q.1=xs.length:=by omega
  rw[List.take_append_of_le_length (by rw[List.length_take];omega),List.take_take,Nat.min_self,h6,this];rfl
section
variable {xs:List (List UInt8)} {k:Nat} {q:Nat × Nat × List (List UInt8)}
theorem cix (h:CI xs k q):1≤q.1∧1≤k∧k+q.1≤xs.length∧k≤q.2.1∧q.2.1+1≤k+q.1∧q.2.2.length=xs.length:=⟨h.one,h.b1,h.le,h.kb,h.kk,h.len⟩
theorem ciA (hc:xs.getD (k:Int).toNat []=xs.getD ((k:Int) - 1).toNat []) (h1:1≤k):xs.getD k []=xs.getD (k - 1) []:=by rwa [Int.toNat_natCast,show((k:Int) - 1).toNat=k - 1 by omega] at hc
theorem ciB (hc:xs.getD k []=xs.getD (k - 1) []):xs.getD (k:Int).toNat []=xs.getD ((k:Int) - 1).toNat []:=by rwa [Int.toNat_natCast,show((k:Int) - 1).toNat=k - 1 by omega]
theorem ciE (h:CI xs k q):k+((q.1:Int) - 1).toNat=k+q.1 - 1:=by have:=h.one;omega
theorem ciT (h:CI xs k q) (hc:¬ q.2.2.getD (k+(q.1:Int).toNat) []=q.2.2.getD (k+((q.1:Int) - 1).toNat) []):(q.1:Int)+1=((ciS k q).1:Int)∧(q.2.1:Int)+1=((ciS k q).2.1:Int)∧q.2.2.set (q.2.1:Int).toNat (q.2.2.getD (k+(q.1:Int).toNat) [])=(ciS k q).2.2:=by
  rw[ciE h,Int.toNat_natCast] at hc
  unfold ciS;rw[if_neg hc];exact⟨rfl,rfl,rfl⟩
theorem ciF (h:CI xs k q) (hc:q.2.2.getD (k+(q.1:Int).toNat) []=q.2.2.getD (k+((q.1:Int) - 1).toNat) []):(q.1:Int)+1=((ciS k q).1:Int)∧(q.2.1:Int)=((ciS k q).2.1:Int)∧q.2.2=(ciS k q).2.2:=by
  rw[ciE h,Int.toNat_natCast] at hc
  unfold ciS;rw[if_pos hc];exact⟨rfl,rfl,rfl⟩
theorem ciL (h:CI xs k q):(0:Int)≤(q.2.1:Int)∧(q.2.1:Int)≤((q.2.2.take (q.2.1:Int).toNat++List.replicate (q.2.2.length - (q.2.1:Int).toNat) ([]:List UInt8)).length:Int):=by
  have:=cix h;simp only[List.length_append,List.length_take,List.length_replicate,Int.toNat_natCast];omega
end
noncomputable def ccM2_126:Code:=(Tryd.f126.body).getD .skip
theorem Compact_ok (xs:List (List UInt8)) (hl:xs.length≤1000000):FOk EN 126 ⟨[.mu 22 xs],[.n 0,.f 61 [] []],Unit,fun _=>([.no,.rd 22 (dedB xs)],.n 1),fun _=>True⟩:=by
 refine v_fun Tryd.f126 ccM2_126 MX (fun ν F σ w=>?_) Tryd.func126
 refine v_nl ?_
 refine v_mark 22 ?_
 refine v_cut 22 ?_
 refine v_if (decide ((↑xs.length:Int)<2)) True trivial (fun h1=>?_) (fun h1=>?_)
 ·have h1:=of_decide_eq_true h1
  refine v_stop 0 True trivial ?_
  exact v_ret () [0] ((xs=dedB xs)) (by exact ded_small ‹_›) trivial
 ·have h1:=of_decide_eq_false h1
  refine v_loop (fun k:Nat=>([(5,.i k)],[])) (fun k=>NoD xs k∧1≤k∧k≤xs.length) (fun k=>xs.length - k) 1 [] (((1:Int)=(↑(1:Nat):Int))) rfl (by exact⟨NoD.one (by omega),by omega,by omega⟩) (fun k hk2=>?_)
  refine v_if (decide ((↑k:Int)<(↑xs.length:Int))) True trivial (fun h3=>?_) (fun h3=>?_)
  ·have h3:=of_decide_eq_true h3
   refine v_join [18,19,20,21,22,23,24,25,26,27,28] [] (fun _:Unit=>([(28,SV.b (decide (xs.getD (↑k:Int).toNat []=xs.getD ((↑k:Int) - 1).toNat [])))],[])) (fun _=>True) ?_ (fun _ _=>?_) True trivial
   ·skip
    refine v_plan (.fs [0,1,2,3,5,6,7,8] (.c 4 (.o 9 (.o 10 .e)) (.o 9 (.o 4 (.o 10 .e))))) [2] True trivial ?_
    refine v_pick ((0≤(↑k:Int)∧(↑k:Int)<(↑xs.length:Int))∧(I64 (↑k - 1))∧(0≤(↑k:Int) - 1∧(↑k:Int) - 1<(↑xs.length:Int))) ⟨(by omega),(by(unfold I64;omega)),(by omega)⟩ ?_ ?_
    ·skip
     refine v_call _ [4,5] (beq_ok (xs.getD (↑k:Int).toNat []) (xs.getD ((↑k:Int) - 1).toNat [])) (((↑k:Int).toNat<xs.length)∧(((↑k:Int) - 1).toNat<xs.length)∧(xs.getD (↑k:Int).toNat []=xs.getD (↑k:Int).toNat [])∧(xs.getD ((↑k:Int) - 1).toNat []=xs.getD ((↑k:Int) - 1).toNat [])) ⟨(by omega),(by omega),rfl,rfl⟩ (fun g4 p5=>?_)
     have p5:True:=p5
     exact v_back (()) [] ((decide (xs.getD (↑k:Int).toNat []=xs.getD ((↑k:Int) - 1).toNat [])=decide (xs.getD (↑k:Int).toNat []=xs.getD ((↑k:Int) - 1).toNat []))) rfl (show True from trivial)
    ·skip
     refine v_call _ [5,4] (beq_ok (xs.getD (↑k:Int).toNat []) (xs.getD ((↑k:Int) - 1).toNat [])) ((((↑k:Int) - 1).toNat<xs.length)∧((↑k:Int).toNat<xs.length)∧(xs.getD (↑k:Int).toNat []=xs.getD (↑k:Int).toNat [])∧(xs.getD ((↑k:Int) - 1).toNat []=xs.getD ((↑k:Int) - 1).toNat [])) ⟨(by omega),(by omega),rfl,rfl⟩ (fun g6 p7=>?_)
     have p7:True:=p7
     exact v_back (()) [] ((decide (xs.getD (↑k:Int).toNat []=xs.getD ((↑k:Int) - 1).toNat [])=decide (xs.getD (↑k:Int).toNat []=xs.getD ((↑k:Int) - 1).toNat []))) rfl (show True from trivial)
   ·skip
    refine v_if (decide (xs.getD (↑k:Int).toNat []=xs.getD ((↑k:Int) - 1).toNat [])) True trivial (fun h8=>?_) (fun h8=>?_)
    ·have h8:=of_decide_eq_true h8
     refine v_loop (fun q:Nat × Nat × List (List UInt8)=>([(7,.i q.1),(5,.i q.2.1),(0,.n 4),(6,.q 4 k xs.length none 1)],[.mu 22 q.2.2])) (fun q=>CI xs k q) (fun q=>xs.length - q.1) (1,k,xs) [0] ((0≤(↑k:Int)∧(↑k:Int)≤(↑xs.length:Int)∧0<xs.length)∧((1:Int)=(↑(1:Nat):Int))∧((↑k:Int)=(↑k:Int))∧((↑k:Int).toNat=k)∧(xs.length=xs.length)∧(xs=xs)) ⟨(by omega),rfl,rfl,rfl,rfl,rfl⟩ (by exact CI.start (‹NoD xs k∧1≤k∧k≤xs.length›).1 (‹NoD xs k∧1≤k∧k≤xs.length›).2.1 ‹_› (ciA ‹_› (‹NoD xs k∧1≤k∧k≤xs.length›).2.1)) (fun q hk9=>?_)
     refine v_if (decide ((↑q.fst:Int)<(↑(xs.length - k):Int))) True trivial (fun h10=>?_) (fun h10=>?_)
     ·have h10:=of_decide_eq_true h10
      refine v_join [38,39,40,41,42,43,44,45,46,47,48,49] [] (fun _:Unit=>([(49,SV.b !decide (q.snd.snd.getD (k+(↑q.fst:Int).toNat) []=q.snd.snd.getD (k+((↑q.fst:Int) - 1).toNat) []))],[])) (fun _=>True) ?_ (fun _ _=>?_) True trivial
      ·skip
       refine v_plan (.fs [0,1,2,3,5,6,7,8] (.c 4 (.o 9 (.o 10 (.fs [11] .e))) (.o 9 (.o 4 (.o 10 (.fs [11] .e)))))) [2] True trivial ?_
       refine v_pick ((0≤(↑q.fst:Int)∧(↑q.fst:Int)<(↑(xs.length - k):Int)∧xs.length≤q.snd.snd.length)∧(I64 (↑q.fst - 1))∧(0≤(↑q.fst:Int) - 1∧(↑q.fst:Int) - 1<(↑(xs.length - k):Int)∧xs.length≤q.snd.snd.length)) ⟨(by(obtain⟨c1,c2,c3,c4,c5,c6⟩:=cix (xs:=xs) (k:=k) (q:=q) ‹_›;first | omega | (unfold I64;omega))),(by(unfold I64;omega)),(by(obtain⟨c1,c2,c3,c4,c5,c6⟩:=cix (xs:=xs) (k:=k) (q:=q) ‹_›;first | omega | (unfold I64;omega)))⟩ ?_ ?_
       ·skip
        refine v_call _ [5,6] (beq_ok (q.snd.snd.getD (k+(↑q.fst:Int).toNat) []) (q.snd.snd.getD (k+((↑q.fst:Int) - 1).toNat) [])) ((k+(↑q.fst:Int).toNat<q.snd.snd.length)∧(k+((↑q.fst:Int) - 1).toNat<q.snd.snd.length)∧(q.snd.snd.getD (k+(↑q.fst:Int).toNat) []=q.snd.snd.getD (k+(↑q.fst:Int).toNat) [])∧(q.snd.snd.getD (k+((↑q.fst:Int) - 1).toNat) []=q.snd.snd.getD (k+((↑q.fst:Int) - 1).toNat) [])) ⟨(by(obtain⟨c1,c2,c3,c4,c5,c6⟩:=cix (xs:=xs) (k:=k) (q:=q) ‹_›;first | omega | (unfold I64;omega))),(by(obtain⟨c1,c2,c3,c4,c5,c6⟩:=cix (xs:=xs) (k:=k) (q:=q) ‹_›;first | omega | (unfold I64;omega))),rfl,rfl⟩ (fun g11 p12=>?_)
        have p12:True:=p12
        exact v_back (()) [] (((!decide (q.snd.snd.getD (k+(↑q.fst:Int).toNat) []=q.snd.snd.getD (k+((↑q.fst:Int) - 1).toNat) [])) = !decide (q.snd.snd.getD (k+(↑q.fst:Int).toNat) []=q.snd.snd.getD (k+((↑q.fst:Int) - 1).toNat) []))) rfl (show True from trivial)
       ·skip
        refine v_call _ [6,5] (beq_ok (q.snd.snd.getD (k+(↑q.fst:Int).toNat) []) (q.snd.snd.getD (k+((↑q.fst:Int) - 1).toNat) [])) ((k+((↑q.fst:Int) - 1).toNat<q.snd.snd.length)∧(k+(↑q.fst:Int).toNat<q.snd.snd.length)∧(q.snd.snd.getD (k+(↑q.fst:Int).toNat) []=q.snd.snd.getD (k+(↑q.fst:Int).toNat) [])∧(q.snd.snd.getD (k+((↑q.fst:Int) - 1).toNat) []=q.snd.snd.getD (k+((↑q.fst:Int) - 1).toNat) [])) ⟨(by(obtain⟨c1,c2,c3,c4,c5,c6⟩:=cix (xs:=xs) (k:=k) (q:=q) ‹_›;first | omega | (unfold I64;omega))),(by(obtain⟨c1,c2,c3,c4,c5,c6⟩:=cix (xs:=xs) (k:=k) (q:=q) ‹_›;first | omega | (unfold I64;omega))),rfl,rfl⟩ (fun g13 p14=>?_)
        have p14:True:=p14
        exact v_back (()) [] (((!decide (q.snd.snd.getD (k+(↑q.fst:Int).toNat) []=q.snd.snd.getD (k+((↑q.fst:Int) - 1).toNat) [])) = !decide (q.snd.snd.getD (k+(↑q.fst:Int).toNat) []=q.snd.snd.getD (k+((↑q.fst:Int) - 1).toNat) []))) rfl (show True from trivial)
      ·skip
       refine v_if (!decide (q.snd.snd.getD (k+(↑q.fst:Int).toNat) []=q.snd.snd.getD (k+((↑q.fst:Int) - 1).toNat) [])) True trivial (fun h15=>?_) (fun h15=>?_)
       ·have h15:=of_decide_eq_false (nt h15)
        exact v_back (ciS k q) [4] ((0≤(↑q.fst:Int)∧(↑q.fst:Int)<(↑(xs.length - k):Int)∧xs.length≤q.snd.snd.length)∧(k+(↑q.fst:Int).toNat<q.snd.snd.length)∧(0≤(↑q.snd.fst:Int)∧(↑q.snd.fst:Int)<(↑q.snd.snd.length:Int))∧((↑q.snd.fst:Int).toNat<q.snd.snd.length)∧(I64 (↑q.snd.fst+1))∧(I64 (↑q.fst+1))∧((↑q.fst:Int)+1=(↑(ciS k q).fst:Int))∧((↑q.snd.fst:Int)+1=(↑(ciS k q).snd.fst:Int))∧(k=k)∧(xs.length=xs.length)∧(q.snd.snd.set (↑q.snd.fst:Int).toNat (q.snd.snd.getD (k+(↑q.fst:Int).toNat) [])=(ciS k q).snd.snd)) ⟨(by(obtain⟨c1,c2,c3,c4,c5,c6⟩:=cix (xs:=xs) (k:=k) (q:=q) ‹_›;first | omega | (unfold I64;omega))),(by(obtain⟨c1,c2,c3,c4,c5,c6⟩:=cix (xs:=xs) (k:=k) (q:=q) ‹_›;first | omega | (unfold I64;omega))),(by(obtain⟨c1,c2,c3,c4,c5,c6⟩:=cix (xs:=xs) (k:=k) (q:=q) ‹_›;first | omega | (unfold I64;omega))),(by(obtain⟨c1,c2,c3,c4,c5,c6⟩:=cix (xs:=xs) (k:=k) (q:=q) ‹_›;first | omega | (unfold I64;omega))),(by(obtain⟨c1,c2,c3,c4,c5,c6⟩:=cix (xs:=xs) (k:=k) (q:=q) ‹_›;first | omega | (unfold I64;omega))),(by(unfold I64;omega)),(by exact(ciT ‹_› ‹_›).1),(by exact(ciT ‹_› ‹_›).2.1),rfl,rfl,(by exact(ciT ‹_› ‹_›).2.2)⟩ (show CI xs k (ciS k q)∧xs.length - (ciS k q).fst<xs.length - q.fst from(by exact CI.next ‹_› ‹_›))
       ·have h15:=of_decide_eq_true (nf h15)
        exact v_back (ciS k q) [4] ((I64 (↑q.fst+1))∧((↑q.fst:Int)+1=(↑(ciS k q).fst:Int))∧((↑q.snd.fst:Int)=(↑(ciS k q).snd.fst:Int))∧(k=k)∧(xs.length=xs.length)∧(q.snd.snd=(ciS k q).snd.snd)) ⟨(by(unfold I64;omega)),(by exact(ciF ‹_› ‹_›).1),(by exact(ciF ‹_› ‹_›).2.1),rfl,rfl,(by exact(ciF ‹_› ‹_›).2.2)⟩ (show CI xs k (ciS k q)∧xs.length - (ciS k q).fst<xs.length - q.fst from(by exact CI.next ‹_› ‹_›))
     ·have h10:=of_decide_eq_false h10
      refine v_leave (.ex 2) True trivial ?_
      refine v_stop 4 ((0≤(↑q.snd.fst:Int)∧(↑q.snd.fst:Int)≤(↑q.snd.snd.length:Int)∧0<q.snd.snd.length)∧((↑q.snd.fst:Int).toNat≤q.snd.snd.length∧q.snd.snd.length=q.snd.snd.length)) ⟨(by(obtain⟨c1,c2,c3,c4,c5,c6⟩:=cix (xs:=xs) (k:=k) (q:=q) ‹_›;first | omega | (unfold I64;omega))),(by(obtain⟨c1,c2,c3,c4,c5,c6⟩:=cix (xs:=xs) (k:=k) (q:=q) ‹_›;first | omega | (unfold I64;omega)))⟩ ?_
      refine v_leave .rt ((0≤(↑q.snd.fst:Int)∧(↑q.snd.fst:Int)≤(↑(List.take (↑q.snd.fst:Int).toNat q.snd.snd++List.replicate (q.snd.snd.length - (↑q.snd.fst:Int).toNat) []).length:Int))) (by exact ciL ‹_›) ?_
      exact v_ret () [5] ((List.take (↑q.snd.fst:Int).toNat (List.take (↑q.snd.fst:Int).toNat q.snd.snd++List.replicate (q.snd.snd.length - (↑q.snd.fst:Int).toNat) [])=dedB xs)) (by exact(‹CI xs k q›).end ‹_› _) trivial
    ·have h8:=of_decide_eq_false h8
     exact v_back (k+1) [] ((I64 (↑k+1))∧((↑k:Int)+1=(↑(k+1):Int))) ⟨(by(unfold I64;omega)),rfl⟩ (show(NoD xs (k+1)∧1≤k+1∧k+1≤xs.length)∧xs.length - (k+1)<xs.length - k from(by(have hc:=‹NoD xs k∧1≤k∧k≤xs.length›;exact⟨⟨hc.1.next ‹_› hc.2.1 (fun e=>absurd (ciB e) ‹_›),by omega,by omega⟩,by omega⟩)))
  ·have h3:=of_decide_eq_false h3
   refine v_leave (.ex 0) True trivial ?_
   refine v_stop 0 True trivial ?_
   exact v_ret () [0] ((xs=dedB xs)) (by exact(‹NoD xs k∧1≤k∧k≤xs.length›).1.all (‹NoD xs k∧1≤k∧k≤xs.length›).2.2 ‹_›) trivial
end Go.Proofs.YtnicmjipbnhciaaDoor.X
set_option linter.unusedVariables false
set_option linter.unusedSimpArgs false
set_option maxRecDepth 100000
namespace Go.Proofs.YtnicmjipbnhciaaDoor.X
open Go Go.RowKit Go.Proofs Go.Proofs.YtnicmjipbnhciaaDoor.E Go.Sort Go.Shelf
def slf_ren:Go.Shelf.Ren:=⟨fun | 6=>125 | 14=>137 | 15=>138 | 20=>141 | 21=>142 | 22=>143 | 23=>144 | 24=>145 | 25=>146 | 26=>147 | 27=>148 | 28=>149 | 29=>150 | 46=>151 | 47=>152 | 48=>153 | 49=>154 | 50=>155 | 57=>156 | n=>n,fun | 0=>0 | 3=>3 | 4=>4 | 5=>5 | 9=>9 | 22=>56 | 24=>22 | 25=>125 | 39=>162 | 45=>268 | 46=>269 | 50=>237 | 53=>223 | 55=>98 | 66=>276 | 70=>280 | 76=>282 | 77=>57 | n=>n,fun n=>n⟩
theorem slf:SlLaysF.n6 Tryd.prog slf_ren where
  mixed:=by kernel_rfl
  f6:=⟨"slices.SortFunc[[][]byte,[]byte]",by decide,Tryd.func125.trans (congrArg some (by kernel_rfl))⟩
  f14:=⟨"slices.pdqsortCmpFunc[[]byte]",by decide,Tryd.func137.trans (congrArg some (by kernel_rfl))⟩
  f15:=Tryd.func138.trans (congrArg some (by kernel_rfl))
  f20:=⟨"slices.insertionSortCmpFunc[[]byte]",by decide,Tryd.func141.trans (congrArg some (by kernel_rfl))⟩
  f21:=⟨"slices.heapSortCmpFunc[[]byte]",by decide,Tryd.func142.trans (congrArg some (by kernel_rfl))⟩
  f22:=⟨"slices.breakPatternsCmpFunc[[]byte]",by decide,Tryd.func143.trans (congrArg some (by kernel_rfl))⟩
  f23:=⟨"slices.choosePivotCmpFunc[[]byte]",by decide,Tryd.func144.trans (congrArg some (by kernel_rfl))⟩
  f24:=⟨"slices.reverseRangeCmpFunc[[]byte]",by decide,Tryd.func145.trans (congrArg some (by kernel_rfl))⟩
  f25:=⟨"slices.partialInsertionSortCmpFunc[[]byte]",by decide,Tryd.func146.trans (congrArg some (by kernel_rfl))⟩
  f26:=⟨"slices.partitionEqualCmpFunc[[]byte]",by decide,Tryd.func147.trans (congrArg some (by kernel_rfl))⟩
  f27:=⟨"slices.partitionCmpFunc[[]byte]",by decide,Tryd.func148.trans (congrArg some (by kernel_rfl))⟩
  f28:=Tryd.func149.trans (congrArg some (by kernel_rfl))
  f29:=Tryd.func150.trans (congrArg some (by kernel_rfl))
  f46:=⟨"slices.siftDownCmpFunc[[]byte]",by decide,Tryd.func151.trans (congrArg some (by kernel_rfl))⟩
  f47:=Tryd.func152.trans (congrArg some (by kernel_rfl))
  f48:=Tryd.func153.trans (congrArg some (by kernel_rfl))
  f49:=⟨"slices.medianAdjacentCmpFunc[[]byte]",by decide,Tryd.func154.trans (congrArg some (by kernel_rfl))⟩
  f50:=⟨"slices.medianCmpFunc[[]byte]",by decide,Tryd.func155.trans (congrArg some (by kernel_rfl))⟩
  f57:=⟨"slices.order2CmpFunc[[]byte]",by decide,Tryd.func156.trans (congrArg some (by kernel_rfl))⟩
  t0:=Tryd.underlying0
  a0:=Tryd.isAgg0
  z0:=Tryd.sizeOf0
  v0:=Tryd.zeroValue0
  t3:=Tryd.underlying3
  a3:=Tryd.isAgg3
  z3:=Tryd.sizeOf3
  v3:=Tryd.zeroValue3
  t4:=Tryd.underlying4
  a4:=Tryd.isAgg4
  z4:=Tryd.sizeOf4
  v4:=Tryd.zeroValue4
  t5:=Tryd.underlying5
  a5:=Tryd.isAgg5
  z5:=Tryd.sizeOf5
  v5:=Tryd.zeroValue5
  t9:=Tryd.underlying9
  a9:=Tryd.isAgg9
  z9:=Tryd.sizeOf9
  v9:=Tryd.zeroValue9
  t22:=Tryd.underlying56
  a22:=Tryd.isAgg56
  z22:=Tryd.sizeOf56
  v22:=Tryd.zeroValue56
  a24:=Tryd.isAgg22
  z24:=Tryd.sizeOf22
  t25:=Tryd.underlying125
  a25:=Tryd.isAgg125
  z25:=Tryd.sizeOf125
  v25:=Tryd.zeroValue125
  t39:=Tryd.underlying162
  a39:=Tryd.isAgg162
  z39:=Tryd.sizeOf162
  v39:=Tryd.zeroValue162
  t45:=Tryd.underlying268
  a45:=Tryd.isAgg268
  z45:=Tryd.sizeOf268
  v45:=Tryd.zeroValue268
  t46:=Tryd.underlying269
  a46:=Tryd.isAgg269
  z46:=Tryd.sizeOf269
  v46:=Tryd.zeroValue269
  t50:=Tryd.underlying237
  a50:=Tryd.isAgg237
  z50:=Tryd.sizeOf237
  v50:=Tryd.zeroValue237
  t53:=Tryd.underlying223
  a53:=Tryd.isAgg223
  z53:=Tryd.sizeOf223
  v53:=Tryd.zeroValue223
  t55:=Tryd.underlying98
  a55:=Tryd.isAgg98
  z55:=Tryd.sizeOf98
  v55:=Tryd.zeroValue98
  t66:=Tryd.underlying276
  a66:=Tryd.isAgg276
  z66:=Tryd.sizeOf276
  v66:=Tryd.zeroValue276
  t70:=Tryd.underlying280
  a70:=Tryd.isAgg280
  z70:=Tryd.sizeOf280
  v70:=Tryd.zeroValue280
  t76:=Tryd.underlying282
  a76:=Tryd.isAgg282
  z76:=Tryd.sizeOf282
  v76:=Tryd.zeroValue282
  t77:=Tryd.underlying57
  a77:=Tryd.isAgg57
  z77:=Tryd.sizeOf57
  v77:=Tryd.zeroValue57
theorem cmpB_exact (σ:Nat→Nat) (w:World) {v0 v1:Value} {la lb:List UInt8} (h0:Rd tU8 σ w v0 la) (h1:Rd tU8 σ w v1 lb) :
  Ctr Tryd.prog 60 [v0,v1] noM σ w (fun σ' w' v=>v=iv (Lib.compareBytes la lb)∧w'=w):=by
 obtain⟨A0,c0,rfl,hl0⟩:=h0.form
 obtain⟨A1,c1,rfl,hl1⟩:=h1.form
 refine ctr_enter Tryd.func60 c60 (by kernel_rfl) 8 (by kernel_rfl) (Nat.le_of_ble_eq_true (by kernel_rfl)) [(0,(Value.slice A0 la.length c0)),(1,(Value.slice A1 lb.length c1))] (by kernel_rfl) ?_
 intro a hF1
 have hS2:=Stp.refl noM σ w
 refine q_seq ?_
 refine q_reg ?_
 refine q_run 1 [(4,(Value.int .i64 ((0:Nat):Int)))] hF1 fun a3 hF4=>?_
 refine q_end ?_
 refine q_seq ?_
 refine q_reg ?_
 refine q_run 2 [(6,(Value.slice A1 lb.length c1)),(5,(Value.slice A0 la.length c0))] hF4 fun a5 hF6=>?_
 refine r_at (q_val 7 (Op.call (Call.mk (Callee.value (Operand.func 103)) #[(Operand.tmp 5),(Operand.tmp 6)] #[22,22])) hF6 (Value.int .i64 (Lib.compareBytes la lb)) (exec_ext [(Value.slice A0 la.length c0),(Value.slice A1 lb.length c1)] (by kernel_rfl) (run_ext (e:=Extern.BytealgCompare.compare) Tryd.func103 (by kernel_rfl) (by kernel_rfl) (by kernel_rfl) (by kernel_rfl) (run_compareB h0 h1))) ?_)
 intro a7 hF8
 refine q_run 1 [(4,(Value.int .i64 (Lib.compareBytes la lb)))] hF8 fun a9 hF10=>?_
 refine q_end ?_
 refine q_ret ?_
 try dsimp only[Exit.then,Exit.inBlock]
 refine f_ret1 hF10 4 (by kernel_rfl) (Value.int .i64 (Lib.compareBytes la lb)) (by kernel_rfl) σ hS2 ?_
 exact⟨rfl,rfl⟩
abbrev EB (σ:Nat→Nat) (w:World):Type:={p:Value × List UInt8 // Rd tU8 σ w p.1 p.2}
instance instEB (σ:Nat→Nat) (w:World):Inhabited (EB σ w):=⟨⟨(.slice none 0 0,[]),Rd.nil tU8 σ w none 0⟩⟩
section
variable {σ:Nat→Nat} {w:World}
def ebV (p:EB σ w):Value:=p.1.1
def ebB (p:EB σ w):List UInt8:=p.1.2
def cfB (p q:EB σ w):Int:=Lib.compareBytes (ebB p) (ebB q)
theorem eb_one:OneCell (ebV (σ:=σ) (w:=w)):=fun p=>by
  obtain⟨⟨v,l⟩,h⟩:=p
  obtain⟨a,c,e,_⟩:=h.form
  show v.oneCell'=true
  have e':v=.slice a l.length c:=e
  rw[e'];rfl
theorem lt_eb (p q:EB σ w):ltOf cfB p q=true↔klt (ebB p) (ebB q):=by unfold ltOf cfB klt;exact decide_eq_true_iff
theorem nlt_eb (p q:EB σ w):ltOf cfB p q=false↔kle (ebB q) (ebB p):=by
  unfold kle;rw[← lt_eb];cases ltOf cfB p q <;> simp
theorem swoB:SWO (ltOf (cfB (σ:=σ) (w:=w))) where
  irrefl x:=(nlt_eb x x).2 (klt_irr _)
  trans x y z h1 h2:=(lt_eb x z).2 (klt_trans ((lt_eb x y).1 h1) ((lt_eb y z).1 h2))
  ntrans x y z h1 h2:=(nlt_eb x z).2 (kle_trans ((nlt_eb y z).1 h2) ((nlt_eb x y).1 h1))
theorem reps_eb:∀ {xs:List (List UInt8)} {cs:List Value},Reps ((tSl tU8).rep σ w) xs cs→∃ ps:List (EB σ w),cs=ps.map ebV∧xs=ps.map ebB
  | [],cs,e=>⟨[],e,rfl⟩
  | x :: xs, cs, ⟨c, r, e, hx, hr⟩ => by
    obtain⟨v,hv,hR⟩:=hx
    obtain⟨ps,h1,h2⟩:=reps_eb hr
    exact⟨⟨(v,x),hR⟩::ps,by rw[e,hv,h1];rfl,by rw[h2];rfl⟩
theorem eb_reps:∀(ps:List (EB σ w)),Reps ((tSl tU8).rep σ w) (ps.map ebB) (ps.map ebV)
  | []=>rfl
  | p::ps=>⟨[ebV p],ps.map ebV,rfl,⟨ebV p,rfl,p.2⟩,eb_reps ps⟩
theorem sortW_stp {g:Nat} (hg:g<w.heap.size) (hσ:σ g=0) (m:Nat) (d:Array (EB σ w)) (os:Array Obj):Stp (· = g) σ w σ (sortWorld ebV w g 0 m d os):=by
  have hb:∀ b,b<w.heap.size→b≠g→(sortWorld ebV w g 0 m d os).heap[b]? = w.heap[b]?:=fun b hb hn=>by
    unfold sortWorld
    rw[heap_grow_old _ _ (by rw[size_putRow];exact hb)]
    show(w.heap.modify g _)[b]? = _
    rw[Array.getElem?_modify,if_neg (Ne.symm hn)]
  refine⟨rfl,rfl,rfl,?_,fun b h hn=>hb b h hn,fun _ _ _=>rfl,fun b o h ho=>?_,fun _ _=>Nat.le_refl _⟩
  · unfold sortWorld;rw[size_grow,size_putRow];exact Nat.le_add_right _ _
  · have hn : b ≠ g := by rintro rfl; rw [hσ] at ho; omega
    exact World.cell?_of_block (hb b h hn)
theorem cmpB_lays {g:Nat} (hg:g<w.heap.size) (hσ:σ g=0) (n:Nat):CmpLays1 Tryd.prog 60 #[] (ebV (σ:=σ) (w:=w)) cfB g 0 n w:=by
  intro m os dk _ x y
  have st:=sortW_stp hg hσ m dk os
  refine Calls.mono (cmpB_exact σ _ (x.2.step st) (y.2.step st)) ?_
  rintro e w' ⟨σ',v,e1,_,e2,e3⟩
  subst e1;subst e2;subst e3
  refine⟨rfl,0,#[],?_⟩
  rw[grow_empty];rfl
theorem arr_get {α:Type} [Inhabited α] {ps:List α} {j:Nat} (hj:j<ps.length):ps.toArray[j]! = ps[j]:=by
  rw[getElem!_pos _ j (by simpa using hj)];simp
theorem sortW_row {g:Nat} {cur:Array Value} {e:TypeId} (hg:w.heap[g]? = some (.cells cur e (0,0))) {ps:List (EB σ w)} (hn:ps.length≤cur.size) (m:Nat) (os:Array Obj) :
    ∃ cur',(sortWorld ebV w g 0 m ps.toArray os).heap[g]? = some (.cells cur' e (0,0))∧cur'.size=cur.size∧cur'.toList.take ps.length=ps.map ebV:=by
  have hlt:=(Array.getElem?_eq_some_iff.1 hg).1
  refine⟨putCells ebV 0 ps.toArray cur,?_,by simp[putCells],?_⟩
  · unfold sortWorld
    rw[heap_grow_old _ _ (by rw[size_putRow];exact hlt)]
    show(w.heap.modify g _)[g]? = _
    rw[Array.getElem?_modify,if_pos rfl,hg];rfl
  · refine List.ext_getElem? fun j => ?_
    rw[List.getElem?_take]
    by_cases hj:j<ps.length
    · rw [if_pos hj, Array.getElem?_toList]
      simp only[putCells,Array.getElem?_mapIdx,Array.getElem?_eq_getElem (show j<cur.size by omega),Option.map_some]
      rw[if_pos ⟨Nat.zero_le _,by simpa using hj⟩,Nat.sub_zero,arr_get hj,List.getElem?_map,List.getElem?_eq_getElem hj];rfl
    · rw[if_neg hj,List.getElem?_eq_none (by simpa using hj)]
theorem perm_whole {α:Type} [Inhabited α] {d d':Array α} (h:PermIn 0 d.size d d'):d'.toList.Perm d.toList:=by
  have:=h.2.2
  rw[Array.extract_size] at this
  rw[← h.1] at this
  rwa [Array.extract_size] at this
theorem sorted_whole {d':Array (EB σ w)} (h:SortedIn (ltOf cfB) 0 d'.size d'):(d'.toList.map ebB).Pairwise kle:=by
  rw[List.pairwise_map]
  refine List.pairwise_iff_getElem.2 fun i j hi hj hij=>?_
  have:=h i j (Nat.zero_le _) hij (by simpa using hj)
  rw[getElem!_pos _ j (by simpa using hj),getElem!_pos _ i (by simpa using hi)] at this
  have q:=(nlt_eb _ _).1 this
  simpa using q
end
theorem sort_ok (xs:List (List UInt8)) (hl:xs.length≤1000000):FOk EN 125 ⟨[.mu 22 xs],[.n 0,.f 60 [] []],Unit,fun _=>([.mu 22 (srtB xs)],.t []),fun _=>True⟩:=by
  refine⟨by kernel_rfl,fun ν F σ w S=>?_⟩
  obtain⟨⟨cs,ho,hr,hb,hs⟩,hF⟩:=S.ent 0 _ rfl
  rcases ho.2 with⟨hv,h0⟩ | ⟨g,cap,cur,hv,hg,hnc,hcm,hcs,htake⟩
  · have h0' : xs = [] := List.eq_nil_of_length_eq_zero h0
    subst h0'
    have h:=AnyF.slices_SortFunc_none (P:=Tryd.prog) (ρ:=slf_ren) { slf with } none 0 (.func (.func 60) #[] #[]) w
    have ea:(denL ν [SV.n 0,.f 60 [] []]).toArray=#[.slice none 0 0,.func (.func 60) #[] #[]]:=by simp only[denL,den,hv]
    show Calls Tryd.prog 125 (denL ν [SV.n 0,.f 60 [] []]).toArray w _
    rw[ea]
    refine Calls.mono h ?_
    rintro e w' ⟨rfl,rfl⟩
    exact⟨(),ν,F,σ,rfl,trivial,fun _ _=>rfl,Stp.refl _ _ _,S,Nat.le_refl _,fun i b hb=>.inl ⟨i,hb⟩,rfl⟩
  · have hσ := hs g (by rw [hv]; rfl)
    have hlt:=(Array.getElem?_eq_some_iff.1 hg).1
    obtain⟨ps,e1,e2⟩:=reps_eb hr
    have hpl:ps.length=xs.length:=by rw[e2,List.length_map]
    have hcs':ps.length≤cur.size:=Nat.le_trans (Nat.le_trans (Nat.le_of_eq hpl) hnc) (by have h2:cap*1≤cur.size:=hcs;omega)
    have hHolds:Holds ebV w g 0 ps.toArray:=fun j hj=>by
      have hj':j<ps.length:=by simpa using hj
      refine⟨?_,by simp[World.frozen?,hg]⟩
      rw[Nat.zero_add,cell_of_row w g j cur _ _ hg,← Array.getElem?_toList,arr_get hj']
      have:(cur.toList.take (xs.length*1))[j]? = cs[j]?:=by rw[← htake];rfl
      rw[List.getElem?_take,if_pos (show j<xs.length*1 by omega),e1,List.getElem?_map,List.getElem?_eq_getElem hj'] at this
      exact this
    have eg:∀ args w,(callFunc 60 args).run Tryd.prog w=.ok (.enter 60 args) w:=enters_of Tryd.func60 (by kernel_rfl) rfl
    have h:=Any.slices_SortFunc (P:=Tryd.prog) (ρ:=slf_ren) slf ebV eb_one cfB swoB 60 #[] g 0 cap ps.toArray w eg (cmpB_lays hlt hσ _) hHolds hlt (by simp;omega)
    have ea:(denL ν [SV.n 0,.f 60 [] []]).toArray=#[.slice (some ⟨g,0,none⟩) ps.toArray.size cap,.func (.func 60) #[] #[]]:=by
      simp only[denL,den,hv,List.size_toArray,hpl];rfl
    show Calls Tryd.prog 125 (denL ν [SV.n 0,.f 60 [] []]).toArray w _
    rw[ea]
    refine Calls.mono h ?_
    rintro e w' ⟨rfl,d',n,os,hp,hso,rfl⟩
    have hp':=perm_whole hp
    have hsz:d'.size=ps.length:=by rw[hp.1];simp
    rw[show ps.toArray.size=d'.size by rw[hsz];simp] at hso
    have hsort:=sorted_whole hso
    have hys:d'.toList.map ebB=srtB xs:=srtB_eq (by rw[e2];exact hp'.map _) hsort
    obtain⟨cur',r1,r2,r3⟩:=sortW_row (σ:=σ) hg (ps:=d'.toList) (by rw[Array.length_toList,hsz];exact hcs') n os
    rw[Array.toArray_toList] at r1
    have st:=sortW_stp hlt hσ n d' os
    have hgF:F 0 g:=hF g (by rw[hv];rfl)
    have hsl:(srtB xs).length=xs.length:=srtB_len xs
    have hent:(Ent.mu (G:=GT) 22 (srtB xs)).holds ν (F 0) σ (sortWorld ebV w g 0 n d' os) (ν 0):=by
      have hk:(srtB xs).length*(GT.Γ 22).T.sz=d'.toList.length:=(Nat.mul_one _).trans ((hsl.trans (hpl.symm.trans hsz.symm)).trans Array.length_toList.symm)
      refine⟨⟨d'.toList.map ebV,⟨(List.length_map ..).trans hk.symm,.inr ⟨g,cap,cur',hv.trans (congrArg (fun n=>Value.slice (some ⟨g,0,none⟩) n cap) hsl.symm),r1,Nat.le_trans (Nat.le_of_eq hsl) hnc,hcm,Nat.le_trans hcs (Nat.le_of_eq r2.symm),(congrArg (fun n=>List.take n cur'.toList) hk).trans r3⟩⟩,?_,Nat.le_trans (Nat.le_of_eq (congrArg (· * (GT.Γ 22).T.by_) hsl)) hb,hs⟩,hF⟩
      rw[← hys]
      exact Reps.mono (fun x c hx=>(tSl tU8).step st hx) _ _ (eb_reps d'.toList)
    obtain⟨ν',F',σ2,w2,q1,q2,q3,q4,q5,q6⟩:=do_set S (n:=0) (by simp) (st.mono fun b _ e=>by subst e;exact hgF) (.mu 22 (srtB xs)) hent rfl (run:=fun ν' σ2 w2=>ν'=ν∧σ2=σ∧w2=sortWorld ebV w g 0 n d' os) ⟨rfl,rfl,rfl⟩
    obtain⟨rfl,rfl,rfl⟩:=q6
    refine⟨(),_,F',_,rfl,trivial,fun _ _=>rfl,st.mono fun b _ e=>⟨0,by subst e;exact hgF⟩,q4,by simp,fun i b hb=>?_,rfl⟩
    rcases q5 i b hb with⟨_,q⟩ | ⟨_,⟨m,hm,q⟩ | q⟩
    · exact .inl ⟨i,q⟩
    · exact .inl ⟨m,q⟩
    · exact .inr q
end Go.Proofs.YtnicmjipbnhciaaDoor.X
set_option linter.unusedVariables false
set_option linter.unusedSimpArgs false
set_option maxRecDepth 100000
namespace Go.Proofs.YtnicmjipbnhciaaDoor.X
open Go Go.RowKit Go.Proofs Go.Proofs.YtnicmjipbnhciaaDoor.E
theorem wanU_at {l:List Pair} {ks:List (List UInt8)} {i:Nat} (hi:(i:Int)<ks.length):wanU l (ks.take (i+1))=wanU l (ks.take i)++wan1 l (ks.getD i []):=by
  unfold wanU;rw[take_succ_getD (by omega),List.flatMap_append];simp
theorem wanT {l:List Pair} {ks:List (List UInt8)} {i:Nat} (h:ks.length≤100000):(wanU l (ks.take i)).length≤900000:=by
  have h1:=wanU_len l (ks.take i);have:(ks.take i).length≤ks.length:=by rw[List.length_take];omega
  omega
theorem wanS {l:List Pair} {ks:List (List UInt8)} {i:Nat} (h:ks.length≤100000):(srtB (wanU l (ks.take i))).length≤1000000:=by
  rw[srtB_len];have:=wanT (l:=l) (i:=i) h;omega
theorem wanZ {l:List Pair} {ks:List (List UInt8)} {i:Nat} (hk:i≤ks.length) (h:¬ (i:Int)<ks.length):dedB (srtB (wanU l (ks.take i)))=wanL l ks:=by
  rw[List.take_of_length_le (by omega)];rfl
section
variable {l:List Pair} {ks:List (List UInt8)} {i:Nat} {x:List UInt8}
theorem wcA (h:fndP l x=true):(0:Int)≤(cntB x (ksP l):Int)∧(cntB x (ksP l):Int)<(l.length:Int):=by
  unfold fndP at h;rw[Bool.and_eq_true,decide_eq_true_eq] at h;have:=h.1;omega
theorem wcL:cntB x (ksP l)≤l.length:=by have:=cntB_le x (ksP l);rwa [ksP_len] at this
theorem wcB (hl:l.length≤900000):I64 ((cntB x (ksP l):Int) - 1):=by have:=wcL (l:=l) (x:=x);unfold I64;omega
theorem wcC (h:(0:Int)<(cntB x (ksP l):Int)):(0:Int)≤(cntB x (ksP l):Int) - 1∧(cntB x (ksP l):Int) - 1<(l.length:Int):=by have:=wcL (l:=l) (x:=x);omega
theorem wcD {y:List UInt8} (h:ks.length≤100000):(wanU l (ks.take i)++[y]).length+1≤1000000:=by have:=wanT (l:=l) (i:=i) h;rw[List.length_append];show _+1+1≤_;omega
theorem wcE (h:ks.length≤100000):(wanU l (ks.take i)).length+1≤1000000:=by have:=wanT (l:=l) (i:=i) h;omega
theorem wcT (hi:(i:Int)<ks.length):wanU l (ks.take (i+1))=wanU l (ks.take i)++wan1 l (ks.getD (i:Int).toNat []):=wanU_at hi
theorem wcm:((cntB x (ksP l):Int) - 1).toNat=cntB x (ksP l) - 1:=by omega
theorem wc1 (hi:(i:Int)<ks.length) (hf:fndP l (ks.getD (i:Int).toNat [])=true):wanU l (ks.take i)++[(l.getD (cntB (ks.getD (i:Int).toNat []) (ksP l):Int).toNat dP).key]=wanU l (ks.take (i+1)):=by
  rw[wcT hi];unfold wan1;rw[if_pos hf];rfl
theorem wc2 (hi:(i:Int)<ks.length) (hf:fndP l (ks.getD (i:Int).toNat [])=false) (h0:(0:Int)<(cntB (ks.getD (i:Int).toNat []) (ksP l):Int)) (h1:(cntB (ks.getD (i:Int).toNat []) (ksP l):Int)<(l.length:Int)):wanU l (ks.take i)++[(l.getD ((cntB (ks.getD (i:Int).toNat []) (ksP l):Int) - 1).toNat dP).key]++[(l.getD (cntB (ks.getD (i:Int).toNat []) (ksP l):Int).toNat dP).key]=wanU l (ks.take (i+1)):=by
  rw[wcT hi];unfold wan1;rw[if_neg (by rw[hf];decide),if_pos (by omega),if_pos (by omega),wcm,List.append_assoc];rfl
theorem wc3 (hi:(i:Int)<ks.length) (hf:fndP l (ks.getD (i:Int).toNat [])=false) (h0:(0:Int)<(cntB (ks.getD (i:Int).toNat []) (ksP l):Int)) (h1:¬ (cntB (ks.getD (i:Int).toNat []) (ksP l):Int)<(l.length:Int)):wanU l (ks.take i)++[(l.getD ((cntB (ks.getD (i:Int).toNat []) (ksP l):Int) - 1).toNat dP).key]=wanU l (ks.take (i+1)):=by
  rw[wcT hi];unfold wan1;rw[if_neg (by rw[hf];decide),if_pos (by omega),if_neg (by omega),wcm,List.append_nil]
theorem wc4 (hi:(i:Int)<ks.length) (hf:fndP l (ks.getD (i:Int).toNat [])=false) (h0:¬ (0:Int)<(cntB (ks.getD (i:Int).toNat []) (ksP l):Int)) (h1:(cntB (ks.getD (i:Int).toNat []) (ksP l):Int)<(l.length:Int)):wanU l (ks.take i)++[(l.getD (cntB (ks.getD (i:Int).toNat []) (ksP l):Int).toNat dP).key]=wanU l (ks.take (i+1)):=by
  rw[wcT hi];unfold wan1;rw[if_neg (by rw[hf];decide),if_neg (by omega),if_pos (by omega)];rfl
theorem wc5 (hi:(i:Int)<ks.length) (hf:fndP l (ks.getD (i:Int).toNat [])=false) (h0:¬ (0:Int)<(cntB (ks.getD (i:Int).toNat []) (ksP l):Int)) (h1:¬ (cntB (ks.getD (i:Int).toNat []) (ksP l):Int)<(l.length:Int)):wanU l (ks.take i)=wanU l (ks.take (i+1)):=by
  rw[wcT hi];unfold wan1;rw[if_neg (by rw[hf];decide),if_neg (by omega),if_neg (by omega)];simp
end
noncomputable def ccM3_95:Code:=(Tryd.f95.body).getD .skip
theorem wanted_ok (o:Option Tr) (ks:List (List UInt8)) (ho:okO o) (hs:Srt (leavesO o)) (hl:(leavesO o).length≤900000) (hk:ks.length≤100000):FOk EN 95 ⟨[.pn (PTO o) false false,.rd 22 ks],[.p 0 0,.n 1],Unit,fun _=>([.pn (PTO o) false false,.rd 22 ks,.rd 22 (wanL (leavesO o) ks)],.n 2),fun _=>True⟩:=by
 refine v_fun Tryd.f95 ccM3_95 MX (fun ν F σ w=>?_) Tryd.func95
 refine v_nl ?_
 refine v_mark 22 ?_
 refine v_call _ [0] (All_ok (o) ‹_› ‹_›) ((PTO o=PTO o)∧(false=false)) ⟨rfl,rfl⟩ (fun g1 p2=>?_)
 have p2:True:=p2
 refine v_loop (fun i:Nat=>([(15,.i i),(5,.n 5)],[.mu 22 (wanU (leavesO o) (ks.take i))])) (fun i=>i≤ks.length) (fun i=>ks.length - i) 0 [2] (((0:Int)=(↑(0:Nat):Int))∧([]=wanU (leavesO o) (List.take 0 ks))) ⟨rfl,rfl⟩ (by omega) (fun i hk3=>?_)
 refine v_if (decide ((↑i:Int)<(↑ks.length:Int))) True trivial (fun h4=>?_) (fun h4=>?_)
 ·have h4:=of_decide_eq_true h4
  refine v_call _ [4,6] (BSP_ok (leavesO o) (ks.getD (↑i:Int).toNat []) ‹_› (by omega)) ((0≤(↑i:Int)∧(↑i:Int)<(↑ks.length:Int))∧(124=124)∧(leavesO o=leavesO o)∧(ks.getD (↑i:Int).toNat []=ks.getD (↑i:Int).toNat [])) ⟨(by omega),rfl,rfl,rfl⟩ (fun g5 p6=>?_)
  have p6:True:=p6
  refine v_if (fndP (leavesO o) (ks.getD (↑i:Int).toNat [])) True trivial (fun h7=>?_) (fun h7=>?_)
  ·skip
   refine v_stop 11 ((0≤(↑(cntB (ks.getD (↑i:Int).toNat []) (ksP (leavesO o))):Int)∧(↑(cntB (ks.getD (↑i:Int).toNat []) (ksP (leavesO o))):Int)<(↑(leavesO o).length:Int))) (by exact wcA ‹_›) ?_
   exact v_back (i+1) [12] (((wanU (leavesO o) (List.take i ks)).length+1≤1000000)∧(I64 (↑i+1))∧((↑i:Int)+1=(↑(i+1):Int))∧(wanU (leavesO o) (List.take i ks)++[((leavesO o).getD (↑(cntB (ks.getD (↑i:Int).toNat []) (ksP (leavesO o))):Int).toNat (Pair.mk [] [])).key]=wanU (leavesO o) (List.take (i+1) ks))) ⟨(by exact wcE hk),(by(unfold I64;omega)),rfl,(by exact wc1 ‹_› ‹_›)⟩ (show i+1≤ks.length∧ks.length - (i+1)<ks.length - i from(by omega))
  ·skip
   refine v_if (decide (0<(↑(cntB (ks.getD (↑i:Int).toNat []) (ksP (leavesO o))):Int))) True trivial (fun h8=>?_) (fun h8=>?_)
   ·have h8:=of_decide_eq_true h8
    refine v_stop 11 ((I64 ((↑(cntB (ks.getD (↑i:Int).toNat []) (ksP (leavesO o))):Int) - 1))∧(0≤(↑(cntB (ks.getD (↑i:Int).toNat []) (ksP (leavesO o))):Int) - 1∧(↑(cntB (ks.getD (↑i:Int).toNat []) (ksP (leavesO o))):Int) - 1<(↑(leavesO o).length:Int))) ⟨(by exact wcB hl),(by exact wcC ‹_›)⟩ ?_
    refine v_if (decide ((↑(cntB (ks.getD (↑i:Int).toNat []) (ksP (leavesO o))):Int)<(↑(leavesO o).length:Int))) (((wanU (leavesO o) (List.take i ks)).length+1≤1000000)) (by exact wcE hk) (fun h9=>?_) (fun h9=>?_)
    ·have h9:=of_decide_eq_true h9
     refine v_stop 16 ((0≤(↑(cntB (ks.getD (↑i:Int).toNat []) (ksP (leavesO o))):Int)∧(↑(cntB (ks.getD (↑i:Int).toNat []) (ksP (leavesO o))):Int)<(↑(leavesO o).length:Int))) (by omega) ?_
     exact v_back (i+1) [17] (((wanU (leavesO o) (List.take i ks)++[((leavesO o).getD ((↑(cntB (ks.getD (↑i:Int).toNat []) (ksP (leavesO o))):Int) - 1).toNat (Pair.mk [] [])).key]).length+1≤1000000)∧(I64 (↑i+1))∧((↑i:Int)+1=(↑(i+1):Int))∧(wanU (leavesO o) (List.take i ks)++[((leavesO o).getD ((↑(cntB (ks.getD (↑i:Int).toNat []) (ksP (leavesO o))):Int) - 1).toNat (Pair.mk [] [])).key]++[((leavesO o).getD (↑(cntB (ks.getD (↑i:Int).toNat []) (ksP (leavesO o))):Int).toNat (Pair.mk [] [])).key]=wanU (leavesO o) (List.take (i+1) ks))) ⟨(by exact wcD hk),(by(unfold I64;omega)),rfl,(by exact wc2 ‹_› ‹_› ‹_› ‹_›)⟩ (show i+1≤ks.length∧ks.length - (i+1)<ks.length - i from(by omega))
    ·have h9:=of_decide_eq_false h9
     exact v_back (i+1) [12] ((I64 (↑i+1))∧((↑i:Int)+1=(↑(i+1):Int))∧(wanU (leavesO o) (List.take i ks)++[((leavesO o).getD ((↑(cntB (ks.getD (↑i:Int).toNat []) (ksP (leavesO o))):Int) - 1).toNat (Pair.mk [] [])).key]=wanU (leavesO o) (List.take (i+1) ks))) ⟨(by(unfold I64;omega)),rfl,(by exact wc3 ‹_› ‹_› ‹_› ‹_›)⟩ (show i+1≤ks.length∧ks.length - (i+1)<ks.length - i from(by omega))
   ·have h8:=of_decide_eq_false h8
    refine v_if (decide ((↑(cntB (ks.getD (↑i:Int).toNat []) (ksP (leavesO o))):Int)<(↑(leavesO o).length:Int))) True trivial (fun h10=>?_) (fun h10=>?_)
    ·have h10:=of_decide_eq_true h10
     refine v_stop 11 ((0≤(↑(cntB (ks.getD (↑i:Int).toNat []) (ksP (leavesO o))):Int)∧(↑(cntB (ks.getD (↑i:Int).toNat []) (ksP (leavesO o))):Int)<(↑(leavesO o).length:Int))) (by omega) ?_
     exact v_back (i+1) [12] (((wanU (leavesO o) (List.take i ks)).length+1≤1000000)∧(I64 (↑i+1))∧((↑i:Int)+1=(↑(i+1):Int))∧(wanU (leavesO o) (List.take i ks)++[((leavesO o).getD (↑(cntB (ks.getD (↑i:Int).toNat []) (ksP (leavesO o))):Int).toNat (Pair.mk [] [])).key]=wanU (leavesO o) (List.take (i+1) ks))) ⟨(by exact wcE hk),(by(unfold I64;omega)),rfl,(by exact wc4 ‹_› ‹_› ‹_› ‹_›)⟩ (show i+1≤ks.length∧ks.length - (i+1)<ks.length - i from(by omega))
    ·have h10:=of_decide_eq_false h10
     exact v_back (i+1) [5] ((I64 (↑i+1))∧((↑i:Int)+1=(↑(i+1):Int))∧(wanU (leavesO o) (List.take i ks)=wanU (leavesO o) (List.take (i+1) ks))) ⟨(by(unfold I64;omega)),rfl,(by exact wc5 ‹_› ‹_› ‹_› ‹_›)⟩ (show i+1≤ks.length∧ks.length - (i+1)<ks.length - i from(by omega))
 ·have h4:=of_decide_eq_false h4
  refine v_leave (.ex 0) True trivial ?_
  refine v_call _ [5] (sort_ok (wanU (leavesO o) (List.take i ks)) (by exact Nat.le_trans (wanT hk) (by decide))) ((60=60)∧(wanU (leavesO o) (List.take i ks)=wanU (leavesO o) (List.take i ks))) ⟨rfl,rfl⟩ (fun g11 p12=>?_)
  have p12:True:=p12
  refine v_call _ [5] (Compact_ok (srtB (wanU (leavesO o) (List.take i ks))) (by exact wanS hk)) ((61=61)∧(srtB (wanU (leavesO o) (List.take i ks))=srtB (wanU (leavesO o) (List.take i ks)))) ⟨rfl,rfl⟩ (fun g13 p14=>?_)
  have p14:True:=p14
  exact v_ret () [6] ((PTO o=PTO o)∧(false=false)∧(ks=ks)∧(dedB (srtB (wanU (leavesO o) (List.take i ks)))=wanL (leavesO o) ks)) ⟨rfl,rfl,rfl,(by exact wanZ ‹_› ‹_›)⟩ trivial
noncomputable def ccM4_122:Code:=(Tryd.f122.body).getD .skip
theorem cloneB_ok (ws:List Bool) (hl:ws.length≤900000) (h0:0<ws.length):FOk EN 122 ⟨[.rd 4 ws],[.n 0],Unit,fun _=>([.rd 4 ws,.ow 4 ws],.n 1),fun _=>True⟩:=by
 refine v_fun Tryd.f122 ccM4_122 MX (fun ν F σ w=>?_) Tryd.func122
 refine v_nl ?_
 exact v_ret () [3] ((0<ws.length)∧(0+ws.length≤1000000)∧(ws=ws)∧([]++ws=ws)) ⟨‹_›,(by omega),rfl,rfl⟩ trivial
theorem cloneBn_ok:FOk EN 122 ⟨[],[.v (.slice none 0 0)],Unit,fun _=>([],.v (.slice none 0 0)),fun _=>True⟩:=by
 refine v_fun Tryd.f122 ccM4_122 MX (fun ν F σ w=>?_) Tryd.func122
 refine v_nl ?_
 exact v_ret () [] ((Value.slice none 0 0=Value.slice none 0 0)) rfl trivial
def kHid (h:List UInt8):Token:=⟨1,mk32 h,[],[],0,0⟩
def kLeaf (k v:List UInt8):Token:=⟨2,zero32,k,v,0,0⟩
def kInn (h:Int) (s:UInt64):Token:=⟨3,zero32,[],[],h,s⟩
namespace Tr
def pcs:Tr→List (List UInt8)→List Token
  | leaf k v,w=>if w.isEmpty then[kHid (leaf k v).hash] else[kLeaf k v]
  | node l r,w=>if w.isEmpty then[kHid (node l r).hash] else kInn (node l r).height (node l r).size::(l.pcs (w.take (cntB r.least w))++r.pcs (w.drop (cntB r.least w)))
theorem pcs_len:∀(t:Tr) (w:List (List UInt8)),(t.pcs w).length≤2*t.depth+1
  | leaf k v,w=>by unfold pcs;split <;> exact Nat.le_add_left ..
  | node l r, w => by
    have h1:=pcs_len l (w.take (cntB r.least w));have h2:=pcs_len r (w.drop (cntB r.least w))
    unfold pcs;split
    · exact Nat.le_add_left ..
    · simp only[List.length_cons,List.length_append,depth];omega
theorem hash_n (s:Tr):nsum s.height s.size s.key s.value s.lh s.rh=s.hash:=by cases s <;> rfl
theorem nil_of {w:List (List UInt8)} (h:(w.length:Int)=0):w=[]:=List.eq_nil_of_length_eq_zero (by omega)
theorem pcsH (s:Tr) {w:List (List UInt8)} (h:(w.length:Int)=0):s.pcs w=[kHid (nsum s.height s.size s.key s.value s.lh s.rh)]:=by
  rw[nil_of h,hash_n];cases s <;> rfl
theorem ne_of {w:List (List UInt8)} (h:¬ (w.length:Int)=0):w.isEmpty=false:=by cases w with | nil=>simp at h | cons=>rfl
theorem pcsL {s:Tr} {w:List (List UInt8)} (h:¬ (w.length:Int)=0) (h0:s.height=0):s.pcs w=[kLeaf s.key s.value]:=by
  obtain⟨a,b,rfl⟩:=leaf_of h0
  unfold pcs;rw[ne_of h];rfl
theorem pcsN {s:Tr} {w:List (List UInt8)} (h:¬ (w.length:Int)=0) (h0:¬ s.height=0):s.pcs w=kInn s.height s.size::(s.lo.pcs (w.take (cntB s.key w))++s.ro.pcs (w.drop (cntB s.key w))):=by
  cases s with
  | leaf a b=>exact absurd rfl h0
  | node l r=>simp[pcs,lo,ro,key,ne_of h]
end Tr
theorem cntI {x:List UInt8} {w:List (List UInt8)}:(0:Int)≤(cntB x w:Int)∧(cntB x w:Int)≤(w.length:Int):=by have:=cntB_le x w;omega
namespace Tr
theorem lh_l (t:Tr):t.lh.length=32∧t.rh.length=32:=by
  cases t with
  | leaf k v=>exact⟨rfl,rfl⟩
  | node l r=>exact⟨l.hash_len,r.hash_len⟩
theorem pcsC {s:Tr} {w:List (List UInt8)} (h:¬ (w.length:Int)=0) (h0:¬ s.height=0):s.pcs w=kInn s.height s.size::((s.child false).pcs (w.take (cntB s.key w:Int).toNat)++(s.child true).pcs (w.drop (cntB s.key w:Int).toNat)):=pcsN h h0
end Tr
section
variable {s:Tr} {w:List (List UInt8)} {out:List Token}
theorem pceE (h:¬ (w.length:Int)=0) (h0:¬ s.height=0):out++[kInn s.height s.size]++(s.child false).pcs (w.take (cntB s.key w:Int).toNat)++(s.child true).pcs (w.drop (cntB s.key w:Int).toNat)=out++s.pcs w:=by
  rw[Tr.pcsC h h0];simp
theorem pcB1 (h:¬ (w.length:Int)=0) (h0:¬ s.height=0) (ho:out.length+(s.pcs w).length≤900000):(out++[kInn s.height s.size]).length+((s.child false).pcs (w.take (cntB s.key w:Int).toNat)).length≤900000:=by
  rw[Tr.pcsC h h0] at ho;simp only[List.length_append,List.length_cons,List.length_nil] at *;omega
theorem pcB2 (h:¬ (w.length:Int)=0) (h0:¬ s.height=0) (ho:out.length+(s.pcs w).length≤900000):(out++[kInn s.height s.size]++(s.child false).pcs (w.take (cntB s.key w:Int).toNat)).length+((s.child true).pcs (w.drop (cntB s.key w:Int).toNat)).length≤900000:=by
  rw[Tr.pcsC h h0] at ho;simp only[List.length_append,List.length_cons,List.length_nil] at *;omega
theorem pwT (h:w.Pairwise kle) (i:Nat):(w.take i).Pairwise kle:=h.sublist (List.take_sublist ..)
theorem pwD (h:w.Pairwise kle) (i:Nat):(w.drop i).Pairwise kle:=h.sublist (List.drop_sublist ..)
theorem lenD (i:Nat):(w.drop i).length≤w.length:=by rw[List.length_drop];omega
end
noncomputable def ccM4_94:Code:=(Tryd.f94.body).getD .skip
theorem pcs_aux (T s:Tr) (ws:List Bool) (want:List (List UInt8)) (out:List Token) (hs:T.at' ws=some s) (h0:0<ws.length) (hl:ws.length≤800000) (hk:s.Ks) (hh:s.height<900) (hw:want.Pairwise kle) (hwl:want.length≤900000) (ho:out.length+(s.pcs want).length≤900000)
  (ih:∀(b:Bool) (w':List (List UInt8)) (out':List Token),¬ s.height=0→w'.Pairwise kle→w'.length≤want.length→out'.length+((s.child b).pcs w').length≤900000→FOk EN 94 ⟨[.pr wordsP,.pn (PTO (some T)) false false,.rd 4 (ws++[b]),.rd 22 w',.ow 100 out'],[.p 1 0,.n 2,.n 3,.n 4],Unit,fun _=>([.pr wordsP,.pn (PTO (some T)) false false,.no,.no,.no,.ow 100 (out'++(s.child b).pcs w')],.n 5),fun _=>True⟩) :
  FOk EN 94 ⟨[.pr wordsP,.pn (PTO (some T)) false false,.rd 4 ws,.rd 22 want,.ow 100 out],[.p 1 0,.n 2,.n 3,.n 4],Unit,fun _=>([.pr wordsP,.pn (PTO (some T)) false false,.no,.no,.no,.ow 100 (out++s.pcs want)],.n 5),fun _=>True⟩:=by
 refine v_fun Tryd.f94 ccM4_94 MX (fun ν F σ w=>?_) Tryd.func94
 refine v_nl ?_
 refine v_call _ [2,1] (Node_ok (T) (s) (ws) (by omega) (hs) (by exact Tr.key_le hk) (by exact Tr.value_le hk)) ((ws=ws)∧(PTO (some T)=PTO (some T))∧(false=false)) ⟨rfl,rfl,rfl⟩ (fun g1 p2=>?_)
 have p2:True:=p2
 refine v_if (decide ((↑want.length:Int)=0)) True trivial (fun h3=>?_) (fun h3=>?_)
 ·have h3:=of_decide_eq_true h3
  refine v_call _ [0,6,7] (thash_ok (s.height) (s.size) (s.key) (s.value) (s.lh) (s.rh) (by exact⟨s.height_nn,by omega⟩) (by exact Tr.key_le hk) (by exact Tr.value_le hk) (by exact s.lh_l.1) (by exact s.lh_l.2)) ((s.height=s.height)∧(s.size=s.size)∧(s.lh=s.lh)∧(s.rh=s.rh)∧(wordsP=wordsP)∧(s.key=s.key)∧(s.value=s.value)) ⟨rfl,rfl,rfl,rfl,rfl,rfl,rfl⟩ (fun g4 p5=>?_)
  have p5:True:=p5
  exact v_ret () [10] ((out.length+1≤1000000)∧(wordsP=wordsP)∧(PTO (some T)=PTO (some T))∧(false=false)∧(out++[Token.mk 1 (mk32 (nsum s.height s.size s.key s.value s.lh s.rh)) [] [] 0 0]=out++s.pcs want)) ⟨(by omega),rfl,rfl,rfl,(by(rw[s.pcsH ‹_›];rfl))⟩ trivial
 ·have h3:=of_decide_eq_false h3
  refine v_if (decide (s.height=0)) True trivial (fun h6=>?_) (fun h6=>?_)
  ·have h6:=of_decide_eq_true h6
   exact v_ret () [10] ((out.length+1≤1000000)∧(wordsP=wordsP)∧(PTO (some T)=PTO (some T))∧(false=false)∧(out++[Token.mk 2 (mk32 (List.replicate 32 0)) s.key s.value 0 0]=out++s.pcs want)) ⟨(by omega),rfl,rfl,rfl,(by(rw[s.pcsL ‹_› ‹_›];rfl))⟩ trivial
  ·have h6:=of_decide_eq_false h6
   refine v_call _ [3,6] (BSB_ok (want) (s.key) ‹_› (by omega)) ((60=60)∧(want=want)∧(s.key=s.key)) ⟨rfl,rfl,rfl⟩ (fun g7 p8=>?_)
   have p8:True:=p8
   refine v_join [56,57,58,59,60,61,62,63,64,65,3,55] [10] (fun _:Unit=>([(3,SV.n 11)],[Ent.ow 100 (out++[Token.mk 3 (mk32 (List.replicate 32 0)) [] [] s.height s.size]++(s.child false).pcs (List.take (↑(cntB s.key want):Int).toNat want))])) (fun _=>True) ?_ (fun _ _=>?_) ((out.length+1≤1000000)) (by omega)
   ·skip
    refine v_plan (.fs [0,1,5,6,7,8] (.c 2 (.o 3 (.o 4 (.o 9 (.fs [10] .e)))) (.o 3 (.o 2 (.o 4 (.o 9 (.fs [10] .e))))))) [8,9] True trivial ?_
    refine v_pick ((0≤(↑(cntB s.key want):Int)∧(↑(cntB s.key want):Int)≤(↑want.length:Int))) (by exact cntI) ?_ ?_
    ·skip
     refine v_call _ [2] (cloneB_ok (ws) (by omega) ‹_›) ((ws=ws)) rfl (fun g9 p10=>?_)
     have p10:True:=p10
     refine v_call _ [0,1,14,11,10] (ih (false) (List.take (↑(cntB s.key want):Int).toNat want) (out++[Token.mk 3 (mk32 (List.replicate 32 0)) [] [] s.height s.size]) ‹_› (by exact pwT hw _) (by(simp;omega)) (by exact pcB1 ‹_› ‹_› ho)) ((ws.length+1≤1000000)∧(wordsP=wordsP)∧(PTO (some T)=PTO (some T))∧(false=false)∧(ws++[false]=ws++[false])∧(List.take (↑(cntB s.key want):Int).toNat want=List.take (↑(cntB s.key want):Int).toNat want)∧(out++[Token.mk 3 (mk32 (List.replicate 32 0)) [] [] s.height s.size]=out++[Token.mk 3 (mk32 (List.replicate 32 0)) [] [] s.height s.size])) ⟨(by omega),rfl,rfl,rfl,rfl,rfl,rfl⟩ (fun g11 p12=>?_)
     have p12:True:=p12
     exact v_back (()) [15] ((out++[Token.mk 3 (mk32 (List.replicate 32 0)) [] [] s.height s.size]++(s.child false).pcs (List.take (↑(cntB s.key want):Int).toNat want)=out++[Token.mk 3 (mk32 (List.replicate 32 0)) [] [] s.height s.size]++(s.child false).pcs (List.take (↑(cntB s.key want):Int).toNat want))) rfl (show True from trivial)
    ·skip
     refine v_call _ [2] (cloneB_ok (ws) (by omega) ‹_›) ((ws=ws)) rfl (fun g13 p14=>?_)
     have p14:True:=p14
     refine v_call _ [0,1,14,11,10] (ih (false) (List.take (↑(cntB s.key want):Int).toNat want) (out++[Token.mk 3 (mk32 (List.replicate 32 0)) [] [] s.height s.size]) ‹_› (by exact pwT hw _) (by(simp;omega)) (by exact pcB1 ‹_› ‹_› ho)) ((ws.length+1≤1000000)∧(wordsP=wordsP)∧(PTO (some T)=PTO (some T))∧(false=false)∧(ws++[false]=ws++[false])∧(List.take (↑(cntB s.key want):Int).toNat want=List.take (↑(cntB s.key want):Int).toNat want)∧(out++[Token.mk 3 (mk32 (List.replicate 32 0)) [] [] s.height s.size]=out++[Token.mk 3 (mk32 (List.replicate 32 0)) [] [] s.height s.size])) ⟨(by omega),rfl,rfl,rfl,rfl,rfl,rfl⟩ (fun g15 p16=>?_)
     have p16:True:=p16
     exact v_back (()) [15] ((out++[Token.mk 3 (mk32 (List.replicate 32 0)) [] [] s.height s.size]++(s.child false).pcs (List.take (↑(cntB s.key want):Int).toNat want)=out++[Token.mk 3 (mk32 (List.replicate 32 0)) [] [] s.height s.size]++(s.child false).pcs (List.take (↑(cntB s.key want):Int).toNat want))) rfl (show True from trivial)
   ·skip
    refine v_join [66,67,68,69,70,71,72,73,74,75,8,3] [11] (fun _:Unit=>([(8,SV.n 12)],[Ent.ow 100 (out++[Token.mk 3 (mk32 (List.replicate 32 0)) [] [] s.height s.size]++(s.child false).pcs (List.take (↑(cntB s.key want):Int).toNat want)++(s.child true).pcs (List.drop (↑(cntB s.key want):Int).toNat want))])) (fun _=>True) ?_ (fun _ _=>?_) True trivial
    ·skip
     refine v_plan (.fs [0,1,5,6,7,8] (.c 2 (.o 3 (.o 4 (.o 9 (.fs [10] .e)))) (.o 3 (.o 2 (.o 4 (.o 9 (.fs [10] .e))))))) [8,9] True trivial ?_
     refine v_pick ((0≤(↑(cntB s.key want):Int)∧(↑(cntB s.key want):Int)≤(↑want.length:Int))) (by exact cntI) ?_ ?_
     ·skip
      refine v_call _ [2] (cloneB_ok (ws) (by omega) ‹_›) ((ws=ws)) rfl (fun g17 p18=>?_)
      have p18:True:=p18
      refine v_call _ [0,1,15,12,11] (ih (true) (List.drop (↑(cntB s.key want):Int).toNat want) (out++[Token.mk 3 (mk32 (List.replicate 32 0)) [] [] s.height s.size]++(s.child false).pcs (List.take (↑(cntB s.key want):Int).toNat want)) ‹_› (by exact pwD hw _) (by exact lenD _) (by exact pcB2 ‹_› ‹_› ho)) ((ws.length+1≤1000000)∧(wordsP=wordsP)∧(PTO (some T)=PTO (some T))∧(false=false)∧(ws++[true]=ws++[true])∧(List.drop (↑(cntB s.key want):Int).toNat want=List.drop (↑(cntB s.key want):Int).toNat want)∧(out++[Token.mk 3 (mk32 (List.replicate 32 0)) [] [] s.height s.size]++(s.child false).pcs (List.take (↑(cntB s.key want):Int).toNat want)=out++[Token.mk 3 (mk32 (List.replicate 32 0)) [] [] s.height s.size]++(s.child false).pcs (List.take (↑(cntB s.key want):Int).toNat want))) ⟨(by omega),rfl,rfl,rfl,rfl,rfl,rfl⟩ (fun g19 p20=>?_)
      have p20:True:=p20
      exact v_back (()) [16] ((out++[Token.mk 3 (mk32 (List.replicate 32 0)) [] [] s.height s.size]++(s.child false).pcs (List.take (↑(cntB s.key want):Int).toNat want)++(s.child true).pcs (List.drop (↑(cntB s.key want):Int).toNat want)=out++[Token.mk 3 (mk32 (List.replicate 32 0)) [] [] s.height s.size]++(s.child false).pcs (List.take (↑(cntB s.key want):Int).toNat want)++(s.child true).pcs (List.drop (↑(cntB s.key want):Int).toNat want))) rfl (show True from trivial)
     ·skip
      refine v_call _ [2] (cloneB_ok (ws) (by omega) ‹_›) ((ws=ws)) rfl (fun g21 p22=>?_)
      have p22:True:=p22
      refine v_call _ [0,1,15,12,11] (ih (true) (List.drop (↑(cntB s.key want):Int).toNat want) (out++[Token.mk 3 (mk32 (List.replicate 32 0)) [] [] s.height s.size]++(s.child false).pcs (List.take (↑(cntB s.key want):Int).toNat want)) ‹_› (by exact pwD hw _) (by exact lenD _) (by exact pcB2 ‹_› ‹_› ho)) ((ws.length+1≤1000000)∧(wordsP=wordsP)∧(PTO (some T)=PTO (some T))∧(false=false)∧(ws++[true]=ws++[true])∧(List.drop (↑(cntB s.key want):Int).toNat want=List.drop (↑(cntB s.key want):Int).toNat want)∧(out++[Token.mk 3 (mk32 (List.replicate 32 0)) [] [] s.height s.size]++(s.child false).pcs (List.take (↑(cntB s.key want):Int).toNat want)=out++[Token.mk 3 (mk32 (List.replicate 32 0)) [] [] s.height s.size]++(s.child false).pcs (List.take (↑(cntB s.key want):Int).toNat want))) ⟨(by omega),rfl,rfl,rfl,rfl,rfl,rfl⟩ (fun g23 p24=>?_)
      have p24:True:=p24
      exact v_back (()) [16] ((out++[Token.mk 3 (mk32 (List.replicate 32 0)) [] [] s.height s.size]++(s.child false).pcs (List.take (↑(cntB s.key want):Int).toNat want)++(s.child true).pcs (List.drop (↑(cntB s.key want):Int).toNat want)=out++[Token.mk 3 (mk32 (List.replicate 32 0)) [] [] s.height s.size]++(s.child false).pcs (List.take (↑(cntB s.key want):Int).toNat want)++(s.child true).pcs (List.drop (↑(cntB s.key want):Int).toNat want))) rfl (show True from trivial)
    ·skip
     exact v_ret () [12] ((wordsP=wordsP)∧(PTO (some T)=PTO (some T))∧(false=false)∧(out++[Token.mk 3 (mk32 (List.replicate 32 0)) [] [] s.height s.size]++(s.child false).pcs (List.take (↑(cntB s.key want):Int).toNat want)++(s.child true).pcs (List.drop (↑(cntB s.key want):Int).toNat want)=out++s.pcs want)) ⟨rfl,rfl,rfl,(by exact pceE ‹_› ‹_›)⟩ trivial
theorem pcs0_aux (T:Tr) (want:List (List UInt8)) (hc:FOk EN 122 ⟨[],[.v (.slice none 0 0)],Unit,fun _=>([],.v (.slice none 0 0)),fun _=>True⟩) (hs:T.at' []=some T) (hk:T.Ks) (hh:T.height<900) (hw:want.Pairwise kle) (hwl:want.length≤900000) (ho:(T.pcs want).length≤800000)
  (ih:∀(b:Bool) (w':List (List UInt8)) (out':List Token),¬ T.height=0→w'.Pairwise kle→w'.length≤want.length→out'.length+((T.child b).pcs w').length≤900000→FOk EN 94 ⟨[.pr wordsP,.pn (PTO (some T)) false false,.rd 4 ([]++[b]),.rd 22 w',.ow 100 out'],[.p 1 0,.n 2,.n 3,.n 4],Unit,fun _=>([.pr wordsP,.pn (PTO (some T)) false false,.no,.no,.no,.ow 100 (out'++(T.child b).pcs w')],.n 5),fun _=>True⟩) :
  FOk EN 94 ⟨[.pr wordsP,.pn (PTO (some T)) false false,.rd 22 want],[.p 1 0,.v (.slice none 0 0),.n 2,.v (.slice none 0 0)],Unit,fun _=>([.pr wordsP,.pn (PTO (some T)) false false,.rd 22 want,.ow 100 (T.pcs want)],.n 3),fun _=>True⟩:=by
 refine v_fun Tryd.f94 ccM4_94 MX (fun ν F σ w=>?_) Tryd.func94
 refine v_nl ?_
 refine v_call _ [3,1] (Node_ok (T) (T) ([]) (by decide) (hs) (by exact Tr.key_le hk) (by exact Tr.value_le hk)) ((Eq (α:=List Bool) [] [])∧(PTO (some T)=PTO (some T))∧(false=false)) ⟨rfl,rfl,rfl⟩ (fun g1 p2=>?_)
 have p2:True:=p2
 refine v_if (decide ((↑want.length:Int)=0)) True trivial (fun h3=>?_) (fun h3=>?_)
 ·have h3:=of_decide_eq_true h3
  refine v_call _ [0,4,5] (thash_ok (T.height) (T.size) (T.key) (T.value) (T.lh) (T.rh) (by exact⟨T.height_nn,by omega⟩) (by exact Tr.key_le hk) (by exact Tr.value_le hk) (by exact T.lh_l.1) (by exact T.lh_l.2)) ((T.height=T.height)∧(T.size=T.size)∧(T.lh=T.lh)∧(T.rh=T.rh)∧(wordsP=wordsP)∧(T.key=T.key)∧(T.value=T.value)) ⟨rfl,rfl,rfl,rfl,rfl,rfl,rfl⟩ (fun g4 p5=>?_)
  have p5:True:=p5
  exact v_ret () [8] ((0+1≤1000000)∧(wordsP=wordsP)∧(PTO (some T)=PTO (some T))∧(false=false)∧(want=want)∧([]++[Token.mk 1 (mk32 (nsum T.height T.size T.key T.value T.lh T.rh)) [] [] 0 0]=T.pcs want)) ⟨(by decide),rfl,rfl,rfl,rfl,(by(rw[T.pcsH ‹_›];rfl))⟩ trivial
 ·have h3:=of_decide_eq_false h3
  refine v_if (decide (T.height=0)) True trivial (fun h6=>?_) (fun h6=>?_)
  ·have h6:=of_decide_eq_true h6
   exact v_ret () [8] ((0+1≤1000000)∧(wordsP=wordsP)∧(PTO (some T)=PTO (some T))∧(false=false)∧(want=want)∧([]++[Token.mk 2 (mk32 (List.replicate 32 0)) T.key T.value 0 0]=T.pcs want)) ⟨(by decide),rfl,rfl,rfl,rfl,(by(rw[T.pcsL ‹_› ‹_›];rfl))⟩ trivial
  ·have h6:=of_decide_eq_false h6
   refine v_call _ [2,4] (BSB_ok (want) (T.key) ‹_› (by omega)) ((60=60)∧(want=want)∧(T.key=T.key)) ⟨rfl,rfl,rfl⟩ (fun g7 p8=>?_)
   have p8:True:=p8
   refine v_join [56,57,58,59,60,61,62,63,64,65,3,55] [8] (fun _:Unit=>([(3,SV.n 9)],[Ent.ow (100:Nat) ([]++[Token.mk (3:UInt8) (mk32 (List.replicate (32:Nat) (0:UInt8))) [] [] T.height T.size]++(T.child false).pcs (List.take (↑(cntB T.key want):Int).toNat want))])) (fun _=>True) ?_ (fun _ _=>?_) ((0+1≤1000000)) (by decide)
   ·skip
    refine v_plan (.fs [0,1,5,6,7,8] (.c 2 (.o 3 (.o 4 (.o 9 (.fs [10] .e)))) (.o 3 (.o 2 (.o 4 (.o 9 (.fs [10] .e))))))) [6,7] True trivial ?_
    refine v_pick ((0≤(↑(cntB T.key want):Int)∧(↑(cntB T.key want):Int)≤(↑want.length:Int))) (by exact cntI) ?_ ?_
    ·skip
     refine v_call _ [] (hc) ((Value.slice none 0 0=Value.slice none 0 0)) rfl (fun g9 p10=>?_)
     have p10:True:=p10
     refine v_call _ [0,1,11,9,8] (ih (false) (List.take (↑(cntB T.key want):Int).toNat want) ([]++[Token.mk 3 (mk32 (List.replicate 32 0)) [] [] T.height T.size]) ‹_› (by exact pwT hw _) (by(simp;omega)) (by exact pcB1 ‹_› ‹_› (out:=[]) (by simp;omega))) ((0+1≤1000000)∧(wordsP=wordsP)∧(PTO (some T)=PTO (some T))∧(false=false)∧([]++[false]=[]++[false])∧(List.take (↑(cntB T.key want):Int).toNat want=List.take (↑(cntB T.key want):Int).toNat want)∧([]++[Token.mk 3 (mk32 (List.replicate 32 0)) [] [] T.height T.size]=[]++[Token.mk 3 (mk32 (List.replicate 32 0)) [] [] T.height T.size])) ⟨(by decide),rfl,rfl,rfl,rfl,rfl,rfl⟩ (fun g11 p12=>?_)
     have p12:True:=p12
     exact v_back (()) [12] (([]++[Token.mk 3 (mk32 (List.replicate 32 0)) [] [] T.height T.size]++(T.child false).pcs (List.take (↑(cntB T.key want):Int).toNat want)=[]++[Token.mk 3 (mk32 (List.replicate 32 0)) [] [] T.height T.size]++(T.child false).pcs (List.take (↑(cntB T.key want):Int).toNat want))) rfl (show True from trivial)
    ·skip
     refine v_call _ [] (hc) ((Value.slice none 0 0=Value.slice none 0 0)) rfl (fun g13 p14=>?_)
     have p14:True:=p14
     refine v_call _ [0,1,11,9,8] (ih (false) (List.take (↑(cntB T.key want):Int).toNat want) ([]++[Token.mk 3 (mk32 (List.replicate 32 0)) [] [] T.height T.size]) ‹_› (by exact pwT hw _) (by(simp;omega)) (by exact pcB1 ‹_› ‹_› (out:=[]) (by simp;omega))) ((0+1≤1000000)∧(wordsP=wordsP)∧(PTO (some T)=PTO (some T))∧(false=false)∧([]++[false]=[]++[false])∧(List.take (↑(cntB T.key want):Int).toNat want=List.take (↑(cntB T.key want):Int).toNat want)∧([]++[Token.mk 3 (mk32 (List.replicate 32 0)) [] [] T.height T.size]=[]++[Token.mk 3 (mk32 (List.replicate 32 0)) [] [] T.height T.size])) ⟨(by decide),rfl,rfl,rfl,rfl,rfl,rfl⟩ (fun g15 p16=>?_)
     have p16:True:=p16
     exact v_back (()) [12] (([]++[Token.mk 3 (mk32 (List.replicate 32 0)) [] [] T.height T.size]++(T.child false).pcs (List.take (↑(cntB T.key want):Int).toNat want)=[]++[Token.mk 3 (mk32 (List.replicate 32 0)) [] [] T.height T.size]++(T.child false).pcs (List.take (↑(cntB T.key want):Int).toNat want))) rfl (show True from trivial)
   ·skip
    refine v_join [66,67,68,69,70,71,72,73,74,75,8,3] [9] (fun _:Unit=>([(8,SV.n 10)],[Ent.ow (100:Nat) ([]++[Token.mk (3:UInt8) (mk32 (List.replicate (32:Nat) (0:UInt8))) [] [] T.height T.size]++(T.child false).pcs (List.take (↑(cntB T.key want):Int).toNat want)++(T.child true).pcs (List.drop (↑(cntB T.key want):Int).toNat want))])) (fun _=>True) ?_ (fun _ _=>?_) True trivial
    ·skip
     refine v_plan (.fs [0,1,5,6,7,8] (.c 2 (.o 3 (.o 4 (.o 9 (.fs [10] .e)))) (.o 3 (.o 2 (.o 4 (.o 9 (.fs [10] .e))))))) [6,7] True trivial ?_
     refine v_pick ((0≤(↑(cntB T.key want):Int)∧(↑(cntB T.key want):Int)≤(↑want.length:Int))) (by exact cntI) ?_ ?_
     ·skip
      refine v_call _ [] (hc) ((Value.slice none 0 0=Value.slice none 0 0)) rfl (fun g17 p18=>?_)
      have p18:True:=p18
      refine v_call _ [0,1,12,10,9] (ih (true) (List.drop (↑(cntB T.key want):Int).toNat want) ([]++[Token.mk 3 (mk32 (List.replicate 32 0)) [] [] T.height T.size]++(T.child false).pcs (List.take (↑(cntB T.key want):Int).toNat want)) ‹_› (by exact pwD hw _) (by exact lenD _) (by exact pcB2 ‹_› ‹_› (out:=[]) (by simp;omega))) ((0+1≤1000000)∧(wordsP=wordsP)∧(PTO (some T)=PTO (some T))∧(false=false)∧([]++[true]=[]++[true])∧(List.drop (↑(cntB T.key want):Int).toNat want=List.drop (↑(cntB T.key want):Int).toNat want)∧([]++[Token.mk 3 (mk32 (List.replicate 32 0)) [] [] T.height T.size]++(T.child false).pcs (List.take (↑(cntB T.key want):Int).toNat want)=[]++[Token.mk 3 (mk32 (List.replicate 32 0)) [] [] T.height T.size]++(T.child false).pcs (List.take (↑(cntB T.key want):Int).toNat want))) ⟨(by decide),rfl,rfl,rfl,rfl,rfl,rfl⟩ (fun g19 p20=>?_)
      have p20:True:=p20
      exact v_back (()) [13] (([]++[Token.mk 3 (mk32 (List.replicate 32 0)) [] [] T.height T.size]++(T.child false).pcs (List.take (↑(cntB T.key want):Int).toNat want)++(T.child true).pcs (List.drop (↑(cntB T.key want):Int).toNat want)=[]++[Token.mk 3 (mk32 (List.replicate 32 0)) [] [] T.height T.size]++(T.child false).pcs (List.take (↑(cntB T.key want):Int).toNat want)++(T.child true).pcs (List.drop (↑(cntB T.key want):Int).toNat want))) rfl (show True from trivial)
     ·skip
      refine v_call _ [] (hc) ((Value.slice none 0 0=Value.slice none 0 0)) rfl (fun g21 p22=>?_)
      have p22:True:=p22
      refine v_call _ [0,1,12,10,9] (ih (true) (List.drop (↑(cntB T.key want):Int).toNat want) ([]++[Token.mk 3 (mk32 (List.replicate 32 0)) [] [] T.height T.size]++(T.child false).pcs (List.take (↑(cntB T.key want):Int).toNat want)) ‹_› (by exact pwD hw _) (by exact lenD _) (by exact pcB2 ‹_› ‹_› (out:=[]) (by simp;omega))) ((0+1≤1000000)∧(wordsP=wordsP)∧(PTO (some T)=PTO (some T))∧(false=false)∧([]++[true]=[]++[true])∧(List.drop (↑(cntB T.key want):Int).toNat want=List.drop (↑(cntB T.key want):Int).toNat want)∧([]++[Token.mk 3 (mk32 (List.replicate 32 0)) [] [] T.height T.size]++(T.child false).pcs (List.take (↑(cntB T.key want):Int).toNat want)=[]++[Token.mk 3 (mk32 (List.replicate 32 0)) [] [] T.height T.size]++(T.child false).pcs (List.take (↑(cntB T.key want):Int).toNat want))) ⟨(by decide),rfl,rfl,rfl,rfl,rfl,rfl⟩ (fun g23 p24=>?_)
      have p24:True:=p24
      exact v_back (()) [13] (([]++[Token.mk 3 (mk32 (List.replicate 32 0)) [] [] T.height T.size]++(T.child false).pcs (List.take (↑(cntB T.key want):Int).toNat want)++(T.child true).pcs (List.drop (↑(cntB T.key want):Int).toNat want)=[]++[Token.mk 3 (mk32 (List.replicate 32 0)) [] [] T.height T.size]++(T.child false).pcs (List.take (↑(cntB T.key want):Int).toNat want)++(T.child true).pcs (List.drop (↑(cntB T.key want):Int).toNat want))) rfl (show True from trivial)
    ·skip
     exact v_ret () [10] ((wordsP=wordsP)∧(PTO (some T)=PTO (some T))∧(false=false)∧(want=want)∧([]++[Token.mk 3 (mk32 (List.replicate 32 0)) [] [] T.height T.size]++(T.child false).pcs (List.take (↑(cntB T.key want):Int).toNat want)++(T.child true).pcs (List.drop (↑(cntB T.key want):Int).toNat want)=T.pcs want)) ⟨rfl,rfl,rfl,rfl,(by exact pceE ‹_› ‹_›)⟩ trivial
namespace Tr
theorem child_of {s:Tr} (h:¬ s.height=0) (b:Bool) (hk:s.Ks):(s.child b).depth<s.depth∧(s.child b).Ks∧(s.child b).height<s.height:=by
  cases s with
  | leaf a c=>exact absurd rfl h
  | node l r =>
    have h1:=l.height_nn;have h2:=r.height_nn
    cases b
    · exact⟨by show l.depth<(node l r).depth;simp only[depth];omega,hk.1,by show l.height<1+max l.height r.height;omega⟩
    · exact⟨by show r.depth<(node l r).depth;simp only[depth];omega,hk.2,by show r.height<1+max l.height r.height;omega⟩
end Tr
theorem pieces_t:∀(n:Nat) (T s:Tr) (ws:List Bool) (want:List (List UInt8)) (out:List Token),s.depth≤n→T.at' ws=some s→0<ws.length→ws.length+s.depth≤800000→s.Ks→s.height<900→want.Pairwise kle→want.length≤900000→out.length+(s.pcs want).length≤900000 →
    FOk EN 94 ⟨[.pr wordsP,.pn (PTO (some T)) false false,.rd 4 ws,.rd 22 want,.ow 100 out],[.p 1 0,.n 2,.n 3,.n 4],Unit,fun _=>([.pr wordsP,.pn (PTO (some T)) false false,.no,.no,.no,.ow 100 (out++s.pcs want)],.n 5),fun _=>True⟩
  | 0, T, s, ws, want, out, hn, hs, h0, hl, hk, hh, hw, hwl, ho => by
    refine pcs_aux T s ws want out hs h0 (by omega) hk hh hw hwl ho fun b w' out' hp=>?_
    cases s with
    | leaf a b=>exact absurd rfl hp
    | node l r=>simp[Tr.depth] at hn
  | n + 1, T, s, ws, want, out, hn, hs, h0, hl, hk, hh, hw, hwl, ho => by
    refine pcs_aux T s ws want out hs h0 (by omega) hk hh hw hwl ho fun b w' out' hp hw' hwl' ho'=>?_
    have hpos:0<s.height:=by have:=s.height_nn;omega
    have hc:=Tr.child_of hp b hk
    exact pieces_t n T (s.child b) (ws++[b]) w' out' (by omega) (Tr.at_snoc hs hpos) (by simp) (by simp;omega) hc.2.1 (by omega) hw' (by omega) ho'
theorem pieces0_ok (T:Tr) (want:List (List UInt8)) (hk:T.Ks) (hh:T.height<900) (hd:T.depth≤100000) (hw:want.Pairwise kle) (hwl:want.length≤900000) :
    FOk EN 94 ⟨[.pr wordsP,.pn (PTO (some T)) false false,.rd 22 want],[.p 1 0,.v (.slice none 0 0),.n 2,.v (.slice none 0 0)],Unit,fun _=>([.pr wordsP,.pn (PTO (some T)) false false,.rd 22 want,.ow 100 (T.pcs want)],.n 3),fun _=>True⟩:=by
  have h0:T.at' []=some T:=by cases T <;> rfl
  have hp:=T.pcs_len want
  refine pcs0_aux T want cloneBn_ok h0 hk hh hw hwl (by omega) fun b w' out' hz hw' hwl' ho'=>?_
  have hpos:0<T.height:=by have:=T.height_nn;omega
  have hc:=Tr.child_of hz b hk
  exact pieces_t (T.child b).depth T (T.child b) ([]++[b]) w' out' (Nat.le_refl _) (Tr.at_snoc h0 hpos) (by simp) (by simp;omega) hc.2.1 (by omega) hw' (by omega) ho'
noncomputable def ccM5_93:Code:=(Tryd.f93.body).getD .skip
theorem Len1_ok:FOk EN 93 ⟨[.pn (PTO none) false false],[.p 0 0],Unit,fun _=>([.pn (PTO none) false false],.i 0),fun _=>True⟩:=by
 refine v_fun Tryd.f93 ccM5_93 MX (fun ν F σ w=>?_) Tryd.func93
 refine v_nl ?_
 refine v_guard 5 (false) True trivial (fun h1=>?_) (fun h1=>?_)
 ·skip
  contradiction
 ·skip
  refine v_open 0 (open_tn) ((false=false)∧(PTO none=PTO none)) ⟨rfl,rfl⟩ ?_
  exact v_ret () [] (((0:Int)=(0:Int))∧(PLe (PTO none) (PTO none))∧(false=false)) ⟨rfl,fun _ _ _ h=>h,rfl⟩ trivial
theorem Len2_ok (t:Tr) (h:t.size<9223372036854775808):FOk EN 93 ⟨[.pn (PTO (some t)) false false],[.p 0 0],Unit,fun _=>([.pn (PTO (some t)) false false],.i t.size.toNat),fun _=>True⟩:=by
 refine v_fun Tryd.f93 ccM5_93 MX (fun ν F σ w=>?_) Tryd.func93
 refine v_nl ?_
 refine v_guard 5 (false) True trivial (fun h1=>?_) (fun h1=>?_)
 ·skip
  contradiction
 ·skip
  refine v_open 0 (open_ts (t)) ((false=false)∧(PTO (some t)=PTO (some t))) ⟨rfl,rfl⟩ ?_
  refine v_if (false) True trivial (fun h2=>?_) (fun h2=>?_)
  ·skip
   contradiction
  ·skip
   refine v_open 2 (open_any (t)) ((false=false)∧(PT t=PT t)) ⟨rfl,rfl⟩ ?_
   exact v_ret () [] ((t.size<9223372036854775808)∧((↑t.size.toNat:Int)=(↑t.size.toNat:Int))∧(PLe (PTO (some t)) (PTO (some t)))∧(false=false)) ⟨‹_›,rfl,fun _ _ _ h=>h,rfl⟩ trivial
namespace Tr
theorem size_leaves:∀ t:Tr,t.size=UInt64.ofNat t.leaves.length
  | leaf _ _=>rfl
  | node l r=>by show l.size+r.size=_;rw[size_leaves l,size_leaves r];simp[leaves]
theorem size_nat {t:Tr} (h:t.leaves.length≤900000):t.size.toNat=t.leaves.length:=by
  rw[size_leaves,UInt64.toNat_ofNat_of_lt' (by show _<18446744073709551616;omega)]
theorem leaves_pos (t:Tr):0<t.leaves.length:=by obtain⟨v,l,e⟩:=leaves_ne t;rw[e];simp
end Tr
def mkT (o:Option Tr) (ks:List (List UInt8)):List Token:=match o with | none=>[] | some t=>t.pcs (wanL t.leaves ks)
theorem szA {t:Tr} (h:t.leaves.length≤900000):t.size<9223372036854775808:=by
  apply UInt64.lt_iff_toNat_lt.2;rw[Tr.size_nat h];show _<9223372036854775808;omega
theorem szB {t:Tr} (h:t.leaves.length≤900000):¬ (t.size.toNat:Int)=0:=by rw[Tr.size_nat h];have:=t.leaves_pos;omega
theorem wan_le {l:List Pair} {ks:List (List UInt8)} (h:ks.length≤100000):(wanL l ks).length≤900000:=by have:=wanL_len l ks;omega
theorem wan_kle (l:List Pair) (ks:List (List UInt8)):(wanL l ks).Pairwise kle:=(wanL_srt l ks).imp klt_le
noncomputable def ccM5_45:Code:=(Tryd.f45.body).getD .skip
theorem MakeT1_aux (ks:List (List UInt8)):FOk EN 45 ⟨[.pr wordsP,.pn (PTO none) false false,.rd 22 ks],[.p 1 0,.n 2],Unit,fun _=>([.pr wordsP,.pn (PTO none) false false,.rd 22 ks,.ow 100 []],.n 3),fun _=>True⟩:=by
 refine v_fun Tryd.f45 ccM5_45 MX (fun ν F σ w=>?_) Tryd.func45
 refine v_nl ?_
 refine v_guard 7 (false) True trivial (fun h1=>?_) (fun h1=>?_)
 ·skip
  contradiction
 ·skip
  refine v_call _ [1] (Len1_ok) ((PTO none=PTO none)∧(false=false)) ⟨rfl,rfl⟩ (fun g2 p3=>?_)
  have p3:True:=p3
  refine v_if (decide ((0:Int)=(0:Int))) True trivial (fun h4=>?_) (fun h4=>?_)
  ·have h4:=of_decide_eq_true h4
   exact v_ret () [3] ((wordsP=wordsP)∧(PTO none=PTO none)∧(false=false)∧(ks=ks)∧(Eq (α:=List Token) [] [])) ⟨rfl,rfl,rfl,rfl,rfl⟩ trivial
  ·have h4:=of_decide_eq_false h4
   omega
theorem MakeT2_aux (t:Tr) (ks:List (List UInt8)) (hk:t.Ks) (hh:t.height<700) (hd:t.depth≤100000) (hs:Srt t.leaves) (hl:t.leaves.length≤900000) (hn:ks.length≤100000) (ho:okO (some t)):FOk EN 45 ⟨[.pr wordsP,.pn (PTO (some t)) false false,.rd 22 ks],[.p 1 0,.n 2],Unit,fun _=>([.pr wordsP,.pn (PTO (some t)) false false,.rd 22 ks,.ow 100 (t.pcs (wanL t.leaves ks))],.n 3),fun _=>True⟩:=by
 refine v_fun Tryd.f45 ccM5_45 MX (fun ν F σ w=>?_) Tryd.func45
 refine v_nl ?_
 refine v_guard 7 (false) True trivial (fun h1=>?_) (fun h1=>?_)
 ·skip
  contradiction
 ·skip
  refine v_call _ [1] (Len2_ok (t) (by exact szA hl)) ((PTO (some t)=PTO (some t))∧(false=false)) ⟨rfl,rfl⟩ (fun g2 p3=>?_)
  have p3:True:=p3
  refine v_if (decide ((↑t.size.toNat:Int)=0)) True trivial (fun h4=>?_) (fun h4=>?_)
  ·have h4:=of_decide_eq_true h4
   exfalso;exact absurd ‹_› (szB hl)
  ·have h4:=of_decide_eq_false h4
   refine v_call _ [1,2] (wanted_ok (some t) (ks) ‹_› ‹_› ‹_› ‹_›) ((PTO (some t)=PTO (some t))∧(false=false)∧(ks=ks)) ⟨rfl,rfl,rfl⟩ (fun g5 p6=>?_)
   have p6:True:=p6
   refine v_call _ [0,1,4] (pieces0_ok (t) (wanL (leavesO (some t)) ks) ‹_› (by omega) ‹_› (by exact wan_kle _ _) (by exact wan_le hn)) ((Value.slice none 0 0=Value.slice none 0 0)∧(Value.slice none 0 0=Value.slice none 0 0)∧(wordsP=wordsP)∧(PTO (some t)=PTO (some t))∧(false=false)∧(wanL (leavesO (some t)) ks=wanL (leavesO (some t)) ks)) ⟨rfl,rfl,rfl,rfl,rfl,rfl⟩ (fun g7 p8=>?_)
   have p8:True:=p8
   exact v_ret () [5] ((wordsP=wordsP)∧(PTO (some t)=PTO (some t))∧(false=false)∧(ks=ks)∧(t.pcs (wanL (leavesO (some t)) ks)=t.pcs (wanL t.leaves ks))) ⟨rfl,rfl,rfl,rfl,rfl⟩ trivial
theorem MakeT_ok (o:Option Tr) (ks:List (List UInt8)) (ho:okO o) (hs:Srt (leavesO o)) (hl:(leavesO o).length≤900000) (hn:ks.length≤100000):FOk EN 45 ⟨[.pr wordsP,.pn (PTO o) false false,.rd 22 ks],[.p 1 0,.n 2],Unit,fun _=>([.pr wordsP,.pn (PTO o) false false,.rd 22 ks,.ow 100 (mkT o ks)],.n 3),fun _=>True⟩:=by
  cases o with
  | none=>exact MakeT1_aux ks
  | some t=>obtain⟨h1,h2,h3⟩:=ho t rfl;exact MakeT2_aux t ks h1 h2 h3 hs hl hn ho
abbrev kT0:Token:=⟨0,zero32,[],[],0,0⟩
structure WR where
  h:List UInt8
  e:Option Er
  a:Nat
  fs:List Item
def tokE (n:Nat) (c:Int):Option Er:=some (.step ((#[116,111,107,101,110]:Array UInt8).toList) n (.num c))
def wkN (ts:List Token):Nat→Int→Nat→List Item→WR
  | 0,_,a,fs=>⟨z32,tokE a 4,a,fs⟩
  | f + 1, ab, a, fs =>
    if(ts.length:Int)≤a then⟨z32,tokE a 4,a,fs⟩
    else if(ts.getD a kT0).kind=1 then⟨(ts.getD a kT0).hash.l,none,a+1,fs++[⟨true,[],[]⟩]⟩
    else if(ts.getD a kT0).kind=2 then
      if((ts.getD a kT0).key.length:Int)=0∨96<((ts.getD a kT0).key.length:Int)∨256<((ts.getD a kT0).value.length:Int) then⟨z32,tokE a 10,a+1,fs⟩
      else⟨nsum 0 1 (ts.getD a kT0).key (ts.getD a kT0).value z32 z32,none,a+1,fs++[⟨false,(ts.getD a kT0).key,(ts.getD a kT0).value⟩]⟩
    else if(ts.getD a kT0).kind=3 then
      if(ts.getD a kT0).height<1∨ab≤(ts.getD a kT0).height then⟨z32,tokE a 12,a+1,fs⟩
      else if(wkN ts f (ts.getD a kT0).height (a+1) fs).e.isNone=false then wkN ts f (ts.getD a kT0).height (a+1) fs
      else if(wkN ts f (ts.getD a kT0).height (wkN ts f (ts.getD a kT0).height (a+1) fs).a (wkN ts f (ts.getD a kT0).height (a+1) fs).fs).e.isNone=false then wkN ts f (ts.getD a kT0).height (wkN ts f (ts.getD a kT0).height (a+1) fs).a (wkN ts f (ts.getD a kT0).height (a+1) fs).fs
      else⟨nsum (ts.getD a kT0).height (ts.getD a kT0).size [] [] (wkN ts f (ts.getD a kT0).height (a+1) fs).h (wkN ts f (ts.getD a kT0).height (wkN ts f (ts.getD a kT0).height (a+1) fs).a (wkN ts f (ts.getD a kT0).height (a+1) fs).fs).h,none,(wkN ts f (ts.getD a kT0).height (wkN ts f (ts.getD a kT0).height (a+1) fs).a (wkN ts f (ts.getD a kT0).height (a+1) fs).fs).a,(wkN ts f (ts.getD a kT0).height (wkN ts f (ts.getD a kT0).height (a+1) fs).a (wkN ts f (ts.getD a kT0).height (a+1) fs).fs).fs⟩
    else⟨z32,tokE a 61,a+1,fs⟩
section
variable {ts:List Token} {f:Nat} {ab:Int} {a:Nat} {fs:List Item}
theorem wk1 (h:(ts.length:Int)≤a):wkN ts (f+1) ab a fs=⟨z32,tokE a 4,a,fs⟩:=by unfold wkN;rw[if_pos h]
theorem wk2 (h:¬ (ts.length:Int)≤a) (h1:(ts.getD (a:Int).toNat kT0).kind=1):wkN ts (f+1) ab a fs=⟨(ts.getD (a:Int).toNat kT0).hash.l,none,a+1,fs++[⟨true,[],[]⟩]⟩:=by
  rw[Int.toNat_natCast] at h1;unfold wkN;rw[if_neg h,if_pos h1];rfl
theorem wk3 (h:¬ (ts.length:Int)≤a) (h1:¬ (ts.getD (a:Int).toNat kT0).kind=1) (h2:(ts.getD (a:Int).toNat kT0).kind=2) (h3:((ts.getD (a:Int).toNat kT0).key.length:Int)=0∨96<((ts.getD (a:Int).toNat kT0).key.length:Int)∨256<((ts.getD (a:Int).toNat kT0).value.length:Int)):wkN ts (f+1) ab a fs=⟨z32,tokE a 10,a+1,fs⟩:=by
  rw[Int.toNat_natCast] at h1 h2 h3;unfold wkN;rw[if_neg h,if_neg h1,if_pos h2,if_pos h3]
theorem wk4 (h:¬ (ts.length:Int)≤a) (h1:¬ (ts.getD (a:Int).toNat kT0).kind=1) (h2:(ts.getD (a:Int).toNat kT0).kind=2) (h3:¬ ((ts.getD (a:Int).toNat kT0).key.length:Int)=0) (h4:¬ 96<((ts.getD (a:Int).toNat kT0).key.length:Int)) (h5:¬ 256<((ts.getD (a:Int).toNat kT0).value.length:Int)):wkN ts (f+1) ab a fs=⟨nsum 0 1 (ts.getD (a:Int).toNat kT0).key (ts.getD (a:Int).toNat kT0).value z32 z32,none,a+1,fs++[⟨false,(ts.getD (a:Int).toNat kT0).key,(ts.getD (a:Int).toNat kT0).value⟩]⟩:=by
  rw[Int.toNat_natCast] at *;unfold wkN;rw[if_neg h,if_neg h1,if_pos h2,if_neg (fun e=>e.elim h3 fun e=>e.elim h4 h5)]
theorem wk5 (h:¬ (ts.length:Int)≤a) (h1:¬ (ts.getD (a:Int).toNat kT0).kind=1) (h2:¬ (ts.getD (a:Int).toNat kT0).kind=2) (h3:(ts.getD (a:Int).toNat kT0).kind=3) (h4:(ts.getD (a:Int).toNat kT0).height<1∨ab≤(ts.getD (a:Int).toNat kT0).height):wkN ts (f+1) ab a fs=⟨z32,tokE a 12,a+1,fs⟩:=by
  rw[Int.toNat_natCast] at *;unfold wkN;rw[if_neg h,if_neg h1,if_neg h2,if_pos h3,if_pos h4]
theorem wk6 (h:¬ (ts.length:Int)≤a) (h1:¬ (ts.getD (a:Int).toNat kT0).kind=1) (h2:¬ (ts.getD (a:Int).toNat kT0).kind=2) (h3:¬ (ts.getD (a:Int).toNat kT0).kind=3):wkN ts (f+1) ab a fs=⟨z32,tokE a 61,a+1,fs⟩:=by
  rw[Int.toNat_natCast] at *;unfold wkN;rw[if_neg h,if_neg h1,if_neg h2,if_neg h3]
/-- the left side, the right side -/
abbrev wkA (ts:List Token) (f a:Nat) (fs:List Item):WR:=wkN ts f (ts.getD (a:Int).toNat kT0).height (a+1) fs
abbrev wkB (ts:List Token) (f a:Nat) (fs:List Item):WR:=wkN ts f (ts.getD (a:Int).toNat kT0).height (wkA ts f a fs).a (wkA ts f a fs).fs
theorem wk7 (h:¬ (ts.length:Int)≤a) (h1:¬ (ts.getD (a:Int).toNat kT0).kind=1) (h2:¬ (ts.getD (a:Int).toNat kT0).kind=2) (h3:(ts.getD (a:Int).toNat kT0).kind=3) (h4:¬ (ts.getD (a:Int).toNat kT0).height<1) (h5:¬ ab≤(ts.getD (a:Int).toNat kT0).height) (h6:(wkA ts f a fs).e.isNone=false):wkN ts (f+1) ab a fs=wkA ts f a fs:=by
  unfold wkA at *;rw[Int.toNat_natCast] at *;rw[wkN,if_neg h,if_neg h1,if_neg h2,if_pos h3,if_neg (fun e=>e.elim h4 h5),if_pos h6]
theorem wk8 (h:¬ (ts.length:Int)≤a) (h1:¬ (ts.getD (a:Int).toNat kT0).kind=1) (h2:¬ (ts.getD (a:Int).toNat kT0).kind=2) (h3:(ts.getD (a:Int).toNat kT0).kind=3) (h4:¬ (ts.getD (a:Int).toNat kT0).height<1) (h5:¬ ab≤(ts.getD (a:Int).toNat kT0).height) (h6:(wkA ts f a fs).e.isNone=true) (h7:(wkB ts f a fs).e.isNone=false):wkN ts (f+1) ab a fs=wkB ts f a fs:=by
  unfold wkB wkA at *;rw[Int.toNat_natCast] at *;rw[wkN,if_neg h,if_neg h1,if_neg h2,if_pos h3,if_neg (fun e=>e.elim h4 h5),if_neg (by rw[h6];decide),if_pos h7]
theorem wk9 (h:¬ (ts.length:Int)≤a) (h1:¬ (ts.getD (a:Int).toNat kT0).kind=1) (h2:¬ (ts.getD (a:Int).toNat kT0).kind=2) (h3:(ts.getD (a:Int).toNat kT0).kind=3) (h4:¬ (ts.getD (a:Int).toNat kT0).height<1) (h5:¬ ab≤(ts.getD (a:Int).toNat kT0).height) (h6:(wkA ts f a fs).e.isNone=true) (h7:(wkB ts f a fs).e.isNone=true):wkN ts (f+1) ab a fs=⟨nsum (ts.getD (a:Int).toNat kT0).height (ts.getD (a:Int).toNat kT0).size [] [] (wkA ts f a fs).h (wkB ts f a fs).h,none,(wkB ts f a fs).a,(wkB ts f a fs).fs⟩:=by
  unfold wkB wkA at *;rw[Int.toNat_natCast] at *;rw[wkN,if_neg h,if_neg h1,if_neg h2,if_pos h3,if_neg (fun e=>e.elim h4 h5),if_neg (by rw[h6];decide),if_neg (by rw[h7];decide)]
end
theorem wk_inv (ts:List Token):∀(f:Nat) (ab:Int) (a:Nat) (fs:List Item),a≤ts.length→fs.length≤a→(wkN ts f ab a fs).a≤ts.length∧(wkN ts f ab a fs).fs.length≤(wkN ts f ab a fs).a∧(wkN ts f ab a fs).h.length=32
  | 0,ab,a,fs,ha,hf=>⟨ha,hf,rfl⟩
  | f + 1, ab, a, fs, ha, hf => by
    unfold wkN
    split
    · exact⟨ha,hf,rfl⟩
    · rename_i h
      have hf1:∀ x:Item,(fs++[x]).length≤a+1:=fun x=>by simp;omega
      have ha1:a+1≤ts.length:=by omega
      split
      · exact⟨ha1,hf1 _,Sum32.h _⟩
      · split
        · split
          · exact⟨ha1,Nat.le_succ_of_le hf,rfl⟩
          · exact⟨ha1,hf1 _,Tr.nsum_len 0 1 (ts.getD a kT0).key (ts.getD a kT0).value z32 z32⟩
        · split
          · split
            · exact⟨ha1,Nat.le_succ_of_le hf,rfl⟩
            · have hA := wk_inv ts f (ts.getD a kT0).height (a + 1) fs ha1 (Nat.le_succ_of_le hf)
              have hB:=wk_inv ts f (ts.getD a kT0).height _ _ hA.1 hA.2.1
              split
              · exact hA
              · split
                · exact hB
                · exact⟨hB.1,hB.2.1,(show(nsum _ _ _ _ _ _).length=32 from Tr.nsum_len _ _ _ _ _ _)⟩
          · exact⟨ha1,Nat.le_succ_of_le hf,rfl⟩
theorem wkA_inv {ts:List Token} {f a:Nat} {fs:List Item} (h:¬ (ts.length:Int)≤a) (hf:fs.length≤a):(wkA ts f a fs).a≤ts.length∧(wkA ts f a fs).fs.length≤(wkA ts f a fs).a∧(wkA ts f a fs).h.length=32:=wk_inv ts f _ _ _ (by omega) (Nat.le_succ_of_le hf)
theorem wkB_inv {ts:List Token} {f a:Nat} {fs:List Item} (h:¬ (ts.length:Int)≤a) (hf:fs.length≤a):(wkB ts f a fs).a≤ts.length∧(wkB ts f a fs).fs.length≤(wkB ts f a fs).a∧(wkB ts f a fs).h.length=32:=wk_inv ts f _ _ _ (wkA_inv h hf).1 (wkA_inv h hf).2.1
abbrev kA (ts:List Token) (a:Nat):Token:=ts.getD (a:Int).toNat kT0
noncomputable def ccM6_96:Code:=(Tryd.f96.body).getD .skip
theorem wk_aux (f:Nat) (ts:List Token) (ab:Int) (a:Nat) (fs:List Item) (ha:a≤ts.length) (hf:fs.length≤a) (hl:ts.length≤4000) (h1:1≤ab) (hab:ab≤1000)
  (ih:∀(ab':Int) (a':Nat) (fs':List Item),1≤ab'→ab'<ab→a'≤ts.length→fs'.length≤a' →
   FOk EN 96 ⟨[.pr wordsP,.rd 100 ts,.ow 190 fs',.bx 187 [.n 1,.i a',.n 2]],[.p 3 0,.i ab'],Unit,fun _=>([.pr wordsP,.rd 100 ts,.no,.bx 187 [.n 1,.i (wkN ts f ab' a' fs').a,.n 5],.pn (PE (wkN ts f ab' a' fs').e) true (wkN ts f ab' a' fs').e.isNone,.ow 190 (wkN ts f ab' a' fs').fs],.t [.a [.h 32 (wkN ts f ab' a' fs').h],.n 4]),fun _=>True⟩) :
   FOk EN 96 ⟨[.pr wordsP,.rd 100 ts,.ow 190 fs,.bx 187 [.n 1,.i a,.n 2]],[.p 3 0,.i ab],Unit,fun _=>([.pr wordsP,.rd 100 ts,.no,.bx 187 [.n 1,.i (wkN ts (f+1) ab a fs).a,.n 5],.pn (PE (wkN ts (f+1) ab a fs).e) true (wkN ts (f+1) ab a fs).e.isNone,.ow 190 (wkN ts (f+1) ab a fs).fs],.t [.a [.h 32 (wkN ts (f+1) ab a fs).h],.n 4]),fun _=>True⟩:=by
 refine v_fun Tryd.f96 ccM6_96 MX (fun ν F σ w=>?_) Tryd.func96
 refine v_nl ?_
 refine v_plan (.fs [0,1,2,3,4,5,6,7,8,9] .e) [2,3,5] True trivial ?_
 refine v_if (decide ((↑ts.length:Int)≤(↑a:Int))) True trivial (fun h1=>?_) (fun h1=>?_)
 ·have h1:=of_decide_eq_true h1
  refine v_al [] (al_e1 (4)) True trivial ?_
  refine v_call _ [6] (faultAt_ok (((#[116,111,107,101,110]:Array UInt8).toList)) (↑a) (Er.num 4)) ((#[(116:UInt8),(111:UInt8),(107:UInt8),(101:UInt8),(110:UInt8)].toList=#[(116:UInt8),(111:UInt8),(107:UInt8),(101:UInt8),(110:UInt8)].toList)∧((↑a:Int)=(↑a:Int))∧((4:Int)=(4:Int))∧(PE (some (Er.num 4))=PE (some (Er.num 4)))∧(false=false)) ⟨rfl,rfl,rfl,rfl,rfl⟩ (fun g2 p3=>?_)
  have p3:True:=p3
  exact v_ret () [7,2] ((List.replicate 32 0=(wkN ts (f+1) ab a fs).h)∧(wordsP=wordsP)∧(ts=ts)∧((↑a:Int)=(↑(wkN ts (f+1) ab a fs).a:Int))∧(PE (some (Er.step ((#[116,111,107,101,110]:Array UInt8).toList) (↑a) (Er.num 4)))=PE (wkN ts (f+1) ab a fs).e)∧(false=(wkN ts (f+1) ab a fs).e.isNone)∧(fs=(wkN ts (f+1) ab a fs).fs)) ⟨(by(rw[wk1 ‹_›] <;> rfl)),rfl,rfl,(by(rw[wk1 ‹_›] <;> rfl)),(by(rw[wk1 ‹_›] <;> rfl)),(by(rw[wk1 ‹_›] <;> rfl)),(by(rw[wk1 ‹_›] <;> rfl))⟩ trivial
 ·have h1:=of_decide_eq_false h1
  refine v_plan (.fs [0,1,2,3,4,5,6,7,8,9,10,11,12,13] (.o 14 (.o 15 (.fs [16] .e)))) [2,3,5] True trivial ?_
  refine v_if (decide ((kA ts a).kind=1)) ((0≤(↑a:Int)∧(↑a:Int)<(↑ts.length:Int))∧(I64 (↑a+1))) ⟨(by omega),(by(unfold I64;omega))⟩ (fun h4=>?_) (fun h4=>?_)
  ·have h4:=of_decide_eq_true h4
   refine v_al [] (al_e0 ((wkN ts (f+1) ab a fs).e) (by(rw[wk2 ‹_› ‹_›] <;> rfl))) ((fs.length+1≤1000000)) (by omega) ?_
   exact v_ret () [12,11] (((kA ts a).hash.l=(wkN ts (f+1) ab a fs).h)∧(wordsP=wordsP)∧(ts=ts)∧((↑a:Int)+1=(↑(wkN ts (f+1) ab a fs).a:Int))∧(PE (wkN ts (f+1) ab a fs).e=PE (wkN ts (f+1) ab a fs).e)∧((wkN ts (f+1) ab a fs).e.isNone=(wkN ts (f+1) ab a fs).e.isNone)∧(fs++[Item.mk true [] []]=(wkN ts (f+1) ab a fs).fs)) ⟨(by(rw[wk2 ‹_› ‹_›] <;> rfl)),rfl,rfl,(by(rw[wk2 ‹_› ‹_›] <;> rfl)),rfl,rfl,(by(rw[wk2 ‹_› ‹_›] <;> rfl))⟩ trivial
  ·have h4:=of_decide_eq_false h4
   refine v_if (decide ((kA ts a).kind=2)) True trivial (fun h5=>?_) (fun h5=>?_)
   ·have h5:=of_decide_eq_true h5
    refine v_guard 71 (decide ((↑(kA ts a).key.length:Int)=0)) True trivial (fun h6=>?_) (fun h6=>?_)
    ·have h6:=of_decide_eq_true h6
     refine v_al [] (al_e1 (10)) True trivial ?_
     refine v_call _ [10] (faultAt_ok (((#[116,111,107,101,110]:Array UInt8).toList)) (↑a) (Er.num 10)) ((#[(116:UInt8),(111:UInt8),(107:UInt8),(101:UInt8),(110:UInt8)].toList=#[(116:UInt8),(111:UInt8),(107:UInt8),(101:UInt8),(110:UInt8)].toList)∧((↑a:Int)=(↑a:Int))∧((10:Int)=(10:Int))∧(PE (some (Er.num 10))=PE (some (Er.num 10)))∧(false=false)) ⟨rfl,rfl,rfl,rfl,rfl⟩ (fun g7 p8=>?_)
     have p8:True:=p8
     exact v_ret () [11,2] ((List.replicate 32 0=(wkN ts (f+1) ab a fs).h)∧(wordsP=wordsP)∧(ts=ts)∧((↑a:Int)+1=(↑(wkN ts (f+1) ab a fs).a:Int))∧(PE (some (Er.step ((#[116,111,107,101,110]:Array UInt8).toList) (↑a) (Er.num 10)))=PE (wkN ts (f+1) ab a fs).e)∧(false=(wkN ts (f+1) ab a fs).e.isNone)∧(fs=(wkN ts (f+1) ab a fs).fs)) ⟨(by(rw[wk3 ‹_› ‹_› ‹_› (by first | exact .inl ‹_› | exact .inr (.inl ‹_›) | exact .inr (.inr ‹_›))] <;> rfl)),rfl,rfl,(by(rw[wk3 ‹_› ‹_› ‹_› (by first | exact .inl ‹_› | exact .inr (.inl ‹_›) | exact .inr (.inr ‹_›))] <;> rfl)),(by(rw[wk3 ‹_› ‹_› ‹_› (by first | exact .inl ‹_› | exact .inr (.inl ‹_›) | exact .inr (.inr ‹_›))] <;> rfl)),(by(rw[wk3 ‹_› ‹_› ‹_› (by first | exact .inl ‹_› | exact .inr (.inl ‹_›) | exact .inr (.inr ‹_›))] <;> rfl)),(by(rw[wk3 ‹_› ‹_› ‹_› (by first | exact .inl ‹_› | exact .inr (.inl ‹_›) | exact .inr (.inr ‹_›))] <;> rfl))⟩ trivial
    ·have h6:=of_decide_eq_false h6
     refine v_guard 77 (decide (96<(↑(kA ts a).key.length:Int))) True trivial (fun h9=>?_) (fun h9=>?_)
     ·have h9:=of_decide_eq_true h9
      refine v_al [] (al_e1 (10)) True trivial ?_
      refine v_call _ [10] (faultAt_ok (((#[116,111,107,101,110]:Array UInt8).toList)) (↑a) (Er.num 10)) ((#[(116:UInt8),(111:UInt8),(107:UInt8),(101:UInt8),(110:UInt8)].toList=#[(116:UInt8),(111:UInt8),(107:UInt8),(101:UInt8),(110:UInt8)].toList)∧((↑a:Int)=(↑a:Int))∧((10:Int)=(10:Int))∧(PE (some (Er.num 10))=PE (some (Er.num 10)))∧(false=false)) ⟨rfl,rfl,rfl,rfl,rfl⟩ (fun g10 p11=>?_)
      have p11:True:=p11
      exact v_ret () [11,2] ((List.replicate 32 0=(wkN ts (f+1) ab a fs).h)∧(wordsP=wordsP)∧(ts=ts)∧((↑a:Int)+1=(↑(wkN ts (f+1) ab a fs).a:Int))∧(PE (some (Er.step ((#[116,111,107,101,110]:Array UInt8).toList) (↑a) (Er.num 10)))=PE (wkN ts (f+1) ab a fs).e)∧(false=(wkN ts (f+1) ab a fs).e.isNone)∧(fs=(wkN ts (f+1) ab a fs).fs)) ⟨(by(rw[wk3 ‹_› ‹_› ‹_› (by first | exact .inl ‹_› | exact .inr (.inl ‹_›) | exact .inr (.inr ‹_›))] <;> rfl)),rfl,rfl,(by(rw[wk3 ‹_› ‹_› ‹_› (by first | exact .inl ‹_› | exact .inr (.inl ‹_›) | exact .inr (.inr ‹_›))] <;> rfl)),(by(rw[wk3 ‹_› ‹_› ‹_› (by first | exact .inl ‹_› | exact .inr (.inl ‹_›) | exact .inr (.inr ‹_›))] <;> rfl)),(by(rw[wk3 ‹_› ‹_› ‹_› (by first | exact .inl ‹_› | exact .inr (.inl ‹_›) | exact .inr (.inr ‹_›))] <;> rfl)),(by(rw[wk3 ‹_› ‹_› ‹_› (by first | exact .inl ‹_› | exact .inr (.inl ‹_›) | exact .inr (.inr ‹_›))] <;> rfl))⟩ trivial
     ·have h9:=of_decide_eq_false h9
      refine v_if (decide (256<(↑(kA ts a).value.length:Int))) True trivial (fun h12=>?_) (fun h12=>?_)
      ·have h12:=of_decide_eq_true h12
       refine v_al [] (al_e1 (10)) True trivial ?_
       refine v_call _ [10] (faultAt_ok (((#[116,111,107,101,110]:Array UInt8).toList)) (↑a) (Er.num 10)) ((#[(116:UInt8),(111:UInt8),(107:UInt8),(101:UInt8),(110:UInt8)].toList=#[(116:UInt8),(111:UInt8),(107:UInt8),(101:UInt8),(110:UInt8)].toList)∧((↑a:Int)=(↑a:Int))∧((10:Int)=(10:Int))∧(PE (some (Er.num 10))=PE (some (Er.num 10)))∧(false=false)) ⟨rfl,rfl,rfl,rfl,rfl⟩ (fun g13 p14=>?_)
       have p14:True:=p14
       exact v_ret () [11,2] ((List.replicate 32 0=(wkN ts (f+1) ab a fs).h)∧(wordsP=wordsP)∧(ts=ts)∧((↑a:Int)+1=(↑(wkN ts (f+1) ab a fs).a:Int))∧(PE (some (Er.step ((#[116,111,107,101,110]:Array UInt8).toList) (↑a) (Er.num 10)))=PE (wkN ts (f+1) ab a fs).e)∧(false=(wkN ts (f+1) ab a fs).e.isNone)∧(fs=(wkN ts (f+1) ab a fs).fs)) ⟨(by(rw[wk3 ‹_› ‹_› ‹_› (by first | exact .inl ‹_› | exact .inr (.inl ‹_›) | exact .inr (.inr ‹_›))] <;> rfl)),rfl,rfl,(by(rw[wk3 ‹_› ‹_› ‹_› (by first | exact .inl ‹_› | exact .inr (.inl ‹_›) | exact .inr (.inr ‹_›))] <;> rfl)),(by(rw[wk3 ‹_› ‹_› ‹_› (by first | exact .inl ‹_› | exact .inr (.inl ‹_›) | exact .inr (.inr ‹_›))] <;> rfl)),(by(rw[wk3 ‹_› ‹_› ‹_› (by first | exact .inl ‹_› | exact .inr (.inl ‹_›) | exact .inr (.inr ‹_›))] <;> rfl)),(by(rw[wk3 ‹_› ‹_› ‹_› (by first | exact .inl ‹_› | exact .inr (.inl ‹_›) | exact .inr (.inr ‹_›))] <;> rfl))⟩ trivial
      ·have h12:=of_decide_eq_false h12
       refine v_plan (.fs [0,1,2,3,5,8] (.c 4 (.c 6 (.c 7 (.o 9 (.o 10 (.fs [11] (.o 12 (.o 13 (.fs [14,15] (.o 16 .e))))))) (.o 9 (.o 7 (.o 10 (.fs [11] (.o 12 (.o 13 (.fs [14,15] (.o 16 .e))))))))) (.o 9 (.o 6 (.o 7 (.o 10 (.fs [11] (.o 12 (.o 13 (.fs [14,15] (.o 16 .e)))))))))) (.c 6 (.c 4 (.c 7 (.o 9 (.o 10 (.fs [11] (.o 12 (.o 13 (.fs [14,15] (.o 16 .e))))))) (.o 9 (.o 7 (.o 10 (.fs [11] (.o 12 (.o 13 (.fs [14,15] (.o 16 .e))))))))) (.c 7 (.c 4 (.o 9 (.o 10 (.fs [11] (.o 12 (.o 13 (.fs [14,15] (.o 16 .e))))))) (.o 9 (.c 4 (.o 10 (.fs [11] (.o 12 (.o 13 (.fs [14,15] (.o 16 .e)))))) (.o 10 (.fs [11] (.c 4 (.o 12 (.o 13 (.fs [14,15] (.o 16 .e)))) (.o 12 (.o 4 (.o 13 (.fs [14,15] (.o 16 .e))))))))))) (.o 9 (.c 4 (.o 7 (.o 10 (.fs [11] (.o 12 (.o 13 (.fs [14,15] (.o 16 .e))))))) (.o 7 (.c 4 (.o 10 (.fs [11] (.o 12 (.o 13 (.fs [14,15] (.o 16 .e)))))) (.o 10 (.fs [11] (.c 4 (.o 12 (.o 13 (.fs [14,15] (.o 16 .e)))) (.o 12 (.o 4 (.o 13 (.fs [14,15] (.o 16 .e)))))))))))))) (.o 9 (.c 4 (.o 6 (.o 7 (.o 10 (.fs [11] (.o 12 (.o 13 (.fs [14,15] (.o 16 .e)))))))) (.o 6 (.c 4 (.o 7 (.o 10 (.fs [11] (.o 12 (.o 13 (.fs [14,15] (.o 16 .e))))))) (.o 7 (.c 4 (.o 10 (.fs [11] (.o 12 (.o 13 (.fs [14,15] (.o 16 .e)))))) (.o 10 (.fs [11] (.c 4 (.o 12 (.o 13 (.fs [14,15] (.o 16 .e)))) (.o 12 (.o 4 (.o 13 (.fs [14,15] (.o 16 .e))))))))))))))))) [] True trivial ?_
       refine v_pick True trivial ?_ ?_
       ·skip
        refine v_pick True trivial ?_ ?_
        ·skip
         refine v_pick True trivial ?_ ?_
         ·skip
          refine v_call _ [6] (clone_ok ((kA ts a).key) (by omega)) (((kA ts a).key=(kA ts a).key)) rfl (fun g15 p16=>?_)
          have p16:True:=p16
          refine v_call _ [7] (clone_ok ((kA ts a).value) (by omega)) (((kA ts a).value=(kA ts a).value)) rfl (fun g17 p18=>?_)
          have p18:True:=p18
          refine v_call _ [0,6,7] (thash_ok (0) (1) ((kA ts a).key) ((kA ts a).value) z32 z32 (by decide) (by omega) (by omega) rfl rfl) ((fs.length+1≤1000000)∧((0:Int)=(0:Int))∧((1:UInt64)=(1:UInt64))∧(List.replicate (32:Nat) (0:UInt8)=List.replicate (32:Nat) (0:UInt8))∧(List.replicate (32:Nat) (0:UInt8)=List.replicate (32:Nat) (0:UInt8))∧(wordsP=wordsP)∧((kA ts a).key=(kA ts a).key)∧((kA ts a).value=(kA ts a).value)) ⟨(by omega),rfl,rfl,rfl,rfl,rfl,rfl,rfl⟩ (fun g19 p20=>?_)
          have p20:True:=p20
          refine v_al [] (al_e0 ((wkN ts (f+1) ab a fs).e) (by(rw[wk4 ‹_› ‹_› ‹_› ‹_› ‹_› ‹_›] <;> rfl))) True trivial ?_
          exact v_ret () [14,13] ((nsum 0 1 (kA ts a).key (kA ts a).value z32 z32=(wkN ts (f+1) ab a fs).h)∧(wordsP=wordsP)∧(ts=ts)∧((↑a:Int)+1=(↑(wkN ts (f+1) ab a fs).a:Int))∧(PE (wkN ts (f+1) ab a fs).e=PE (wkN ts (f+1) ab a fs).e)∧((wkN ts (f+1) ab a fs).e.isNone=(wkN ts (f+1) ab a fs).e.isNone)∧(fs++[Item.mk false (kA ts a).key (kA ts a).value]=(wkN ts (f+1) ab a fs).fs)) ⟨(by(rw[wk4 ‹_› ‹_› ‹_› ‹_› ‹_› ‹_›] <;> rfl)),rfl,rfl,(by(rw[wk4 ‹_› ‹_› ‹_› ‹_› ‹_› ‹_›] <;> rfl)),rfl,rfl,(by(rw[wk4 ‹_› ‹_› ‹_› ‹_› ‹_› ‹_›] <;> rfl))⟩ trivial
         ·skip
          refine v_call _ [6] (clone_ok ((kA ts a).key) (by omega)) (((kA ts a).key=(kA ts a).key)) rfl (fun g21 p22=>?_)
          have p22:True:=p22
          refine v_call _ [7] (clone_ok ((kA ts a).value) (by omega)) (((kA ts a).value=(kA ts a).value)) rfl (fun g23 p24=>?_)
          have p24:True:=p24
          refine v_call _ [0,6,7] (thash_ok (0) (1) ((kA ts a).key) ((kA ts a).value) z32 z32 (by decide) (by omega) (by omega) rfl rfl) ((fs.length+1≤1000000)∧((0:Int)=(0:Int))∧((1:UInt64)=(1:UInt64))∧(List.replicate (32:Nat) (0:UInt8)=List.replicate (32:Nat) (0:UInt8))∧(List.replicate (32:Nat) (0:UInt8)=List.replicate (32:Nat) (0:UInt8))∧(wordsP=wordsP)∧((kA ts a).key=(kA ts a).key)∧((kA ts a).value=(kA ts a).value)) ⟨(by omega),rfl,rfl,rfl,rfl,rfl,rfl,rfl⟩ (fun g25 p26=>?_)
          have p26:True:=p26
          refine v_al [] (al_e0 ((wkN ts (f+1) ab a fs).e) (by(rw[wk4 ‹_› ‹_› ‹_› ‹_› ‹_› ‹_›] <;> rfl))) True trivial ?_
          exact v_ret () [14,13] ((nsum 0 1 (kA ts a).key (kA ts a).value z32 z32=(wkN ts (f+1) ab a fs).h)∧(wordsP=wordsP)∧(ts=ts)∧((↑a:Int)+1=(↑(wkN ts (f+1) ab a fs).a:Int))∧(PE (wkN ts (f+1) ab a fs).e=PE (wkN ts (f+1) ab a fs).e)∧((wkN ts (f+1) ab a fs).e.isNone=(wkN ts (f+1) ab a fs).e.isNone)∧(fs++[Item.mk false (kA ts a).key (kA ts a).value]=(wkN ts (f+1) ab a fs).fs)) ⟨(by(rw[wk4 ‹_› ‹_› ‹_› ‹_› ‹_› ‹_›] <;> rfl)),rfl,rfl,(by(rw[wk4 ‹_› ‹_› ‹_› ‹_› ‹_› ‹_›] <;> rfl)),rfl,rfl,(by(rw[wk4 ‹_› ‹_› ‹_› ‹_› ‹_› ‹_›] <;> rfl))⟩ trivial
        ·skip
         refine v_call _ [6] (clone_ok ((kA ts a).key) (by omega)) (((kA ts a).key=(kA ts a).key)) rfl (fun g27 p28=>?_)
         have p28:True:=p28
         refine v_call _ [7] (clone_ok ((kA ts a).value) (by omega)) (((kA ts a).value=(kA ts a).value)) rfl (fun g29 p30=>?_)
         have p30:True:=p30
         refine v_call _ [0,6,7] (thash_ok (0) (1) ((kA ts a).key) ((kA ts a).value) z32 z32 (by decide) (by omega) (by omega) rfl rfl) ((fs.length+1≤1000000)∧((0:Int)=(0:Int))∧((1:UInt64)=(1:UInt64))∧(List.replicate (32:Nat) (0:UInt8)=List.replicate (32:Nat) (0:UInt8))∧(List.replicate (32:Nat) (0:UInt8)=List.replicate (32:Nat) (0:UInt8))∧(wordsP=wordsP)∧((kA ts a).key=(kA ts a).key)∧((kA ts a).value=(kA ts a).value)) ⟨(by omega),rfl,rfl,rfl,rfl,rfl,rfl,rfl⟩ (fun g31 p32=>?_)
         have p32:True:=p32
         refine v_al [] (al_e0 ((wkN ts (f+1) ab a fs).e) (by(rw[wk4 ‹_› ‹_› ‹_› ‹_› ‹_› ‹_›] <;> rfl))) True trivial ?_
         exact v_ret () [14,13] ((nsum 0 1 (kA ts a).key (kA ts a).value z32 z32=(wkN ts (f+1) ab a fs).h)∧(wordsP=wordsP)∧(ts=ts)∧((↑a:Int)+1=(↑(wkN ts (f+1) ab a fs).a:Int))∧(PE (wkN ts (f+1) ab a fs).e=PE (wkN ts (f+1) ab a fs).e)∧((wkN ts (f+1) ab a fs).e.isNone=(wkN ts (f+1) ab a fs).e.isNone)∧(fs++[Item.mk false (kA ts a).key (kA ts a).value]=(wkN ts (f+1) ab a fs).fs)) ⟨(by(rw[wk4 ‹_› ‹_› ‹_› ‹_› ‹_› ‹_›] <;> rfl)),rfl,rfl,(by(rw[wk4 ‹_› ‹_› ‹_› ‹_› ‹_› ‹_›] <;> rfl)),rfl,rfl,(by(rw[wk4 ‹_› ‹_› ‹_› ‹_› ‹_› ‹_›] <;> rfl))⟩ trivial
       ·skip
        refine v_pick True trivial ?_ ?_
        ·skip
         refine v_pick True trivial ?_ ?_
         ·skip
          refine v_pick True trivial ?_ ?_
          ·skip
           refine v_call _ [6] (clone_ok ((kA ts a).key) (by omega)) (((kA ts a).key=(kA ts a).key)) rfl (fun g33 p34=>?_)
           have p34:True:=p34
           refine v_call _ [7] (clone_ok ((kA ts a).value) (by omega)) (((kA ts a).value=(kA ts a).value)) rfl (fun g35 p36=>?_)
           have p36:True:=p36
           refine v_call _ [0,6,7] (thash_ok (0) (1) ((kA ts a).key) ((kA ts a).value) z32 z32 (by decide) (by omega) (by omega) rfl rfl) ((fs.length+1≤1000000)∧((0:Int)=(0:Int))∧((1:UInt64)=(1:UInt64))∧(List.replicate (32:Nat) (0:UInt8)=List.replicate (32:Nat) (0:UInt8))∧(List.replicate (32:Nat) (0:UInt8)=List.replicate (32:Nat) (0:UInt8))∧(wordsP=wordsP)∧((kA ts a).key=(kA ts a).key)∧((kA ts a).value=(kA ts a).value)) ⟨(by omega),rfl,rfl,rfl,rfl,rfl,rfl,rfl⟩ (fun g37 p38=>?_)
           have p38:True:=p38
           refine v_al [] (al_e0 ((wkN ts (f+1) ab a fs).e) (by(rw[wk4 ‹_› ‹_› ‹_› ‹_› ‹_› ‹_›] <;> rfl))) True trivial ?_
           exact v_ret () [14,13] ((nsum 0 1 (kA ts a).key (kA ts a).value z32 z32=(wkN ts (f+1) ab a fs).h)∧(wordsP=wordsP)∧(ts=ts)∧((↑a:Int)+1=(↑(wkN ts (f+1) ab a fs).a:Int))∧(PE (wkN ts (f+1) ab a fs).e=PE (wkN ts (f+1) ab a fs).e)∧((wkN ts (f+1) ab a fs).e.isNone=(wkN ts (f+1) ab a fs).e.isNone)∧(fs++[Item.mk false (kA ts a).key (kA ts a).value]=(wkN ts (f+1) ab a fs).fs)) ⟨(by(rw[wk4 ‹_› ‹_› ‹_› ‹_› ‹_› ‹_›] <;> rfl)),rfl,rfl,(by(rw[wk4 ‹_› ‹_› ‹_› ‹_› ‹_› ‹_›] <;> rfl)),rfl,rfl,(by(rw[wk4 ‹_› ‹_› ‹_› ‹_› ‹_› ‹_›] <;> rfl))⟩ trivial
          ·skip
           refine v_call _ [6] (clone_ok ((kA ts a).key) (by omega)) (((kA ts a).key=(kA ts a).key)) rfl (fun g39 p40=>?_)
           have p40:True:=p40
           refine v_call _ [7] (clone_ok ((kA ts a).value) (by omega)) (((kA ts a).value=(kA ts a).value)) rfl (fun g41 p42=>?_)
           have p42:True:=p42
           refine v_call _ [0,6,7] (thash_ok (0) (1) ((kA ts a).key) ((kA ts a).value) z32 z32 (by decide) (by omega) (by omega) rfl rfl) ((fs.length+1≤1000000)∧((0:Int)=(0:Int))∧((1:UInt64)=(1:UInt64))∧(List.replicate (32:Nat) (0:UInt8)=List.replicate (32:Nat) (0:UInt8))∧(List.replicate (32:Nat) (0:UInt8)=List.replicate (32:Nat) (0:UInt8))∧(wordsP=wordsP)∧((kA ts a).key=(kA ts a).key)∧((kA ts a).value=(kA ts a).value)) ⟨(by omega),rfl,rfl,rfl,rfl,rfl,rfl,rfl⟩ (fun g43 p44=>?_)
           have p44:True:=p44
           refine v_al [] (al_e0 ((wkN ts (f+1) ab a fs).e) (by(rw[wk4 ‹_› ‹_› ‹_› ‹_› ‹_› ‹_›] <;> rfl))) True trivial ?_
           exact v_ret () [14,13] ((nsum 0 1 (kA ts a).key (kA ts a).value z32 z32=(wkN ts (f+1) ab a fs).h)∧(wordsP=wordsP)∧(ts=ts)∧((↑a:Int)+1=(↑(wkN ts (f+1) ab a fs).a:Int))∧(PE (wkN ts (f+1) ab a fs).e=PE (wkN ts (f+1) ab a fs).e)∧((wkN ts (f+1) ab a fs).e.isNone=(wkN ts (f+1) ab a fs).e.isNone)∧(fs++[Item.mk false (kA ts a).key (kA ts a).value]=(wkN ts (f+1) ab a fs).fs)) ⟨(by(rw[wk4 ‹_› ‹_› ‹_› ‹_› ‹_› ‹_›] <;> rfl)),rfl,rfl,(by(rw[wk4 ‹_› ‹_› ‹_› ‹_› ‹_› ‹_›] <;> rfl)),rfl,rfl,(by(rw[wk4 ‹_› ‹_› ‹_› ‹_› ‹_› ‹_›] <;> rfl))⟩ trivial
         ·skip
          refine v_pick True trivial ?_ ?_
          ·skip
           refine v_call _ [6] (clone_ok ((kA ts a).key) (by omega)) (((kA ts a).key=(kA ts a).key)) rfl (fun g45 p46=>?_)
           have p46:True:=p46
           refine v_pick True trivial ?_ ?_
           ·skip
            refine v_call _ [7] (clone_ok ((kA ts a).value) (by omega)) (((kA ts a).value=(kA ts a).value)) rfl (fun g47 p48=>?_)
            have p48:True:=p48
            refine v_call _ [0,6,7] (thash_ok (0) (1) ((kA ts a).key) ((kA ts a).value) z32 z32 (by decide) (by omega) (by omega) rfl rfl) ((fs.length+1≤1000000)∧((0:Int)=(0:Int))∧((1:UInt64)=(1:UInt64))∧(List.replicate (32:Nat) (0:UInt8)=List.replicate (32:Nat) (0:UInt8))∧(List.replicate (32:Nat) (0:UInt8)=List.replicate (32:Nat) (0:UInt8))∧(wordsP=wordsP)∧((kA ts a).key=(kA ts a).key)∧((kA ts a).value=(kA ts a).value)) ⟨(by omega),rfl,rfl,rfl,rfl,rfl,rfl,rfl⟩ (fun g49 p50=>?_)
            have p50:True:=p50
            refine v_al [] (al_e0 ((wkN ts (f+1) ab a fs).e) (by(rw[wk4 ‹_› ‹_› ‹_› ‹_› ‹_› ‹_›] <;> rfl))) True trivial ?_
            exact v_ret () [14,13] ((nsum 0 1 (kA ts a).key (kA ts a).value z32 z32=(wkN ts (f+1) ab a fs).h)∧(wordsP=wordsP)∧(ts=ts)∧((↑a:Int)+1=(↑(wkN ts (f+1) ab a fs).a:Int))∧(PE (wkN ts (f+1) ab a fs).e=PE (wkN ts (f+1) ab a fs).e)∧((wkN ts (f+1) ab a fs).e.isNone=(wkN ts (f+1) ab a fs).e.isNone)∧(fs++[Item.mk false (kA ts a).key (kA ts a).value]=(wkN ts (f+1) ab a fs).fs)) ⟨(by(rw[wk4 ‹_› ‹_› ‹_› ‹_› ‹_› ‹_›] <;> rfl)),rfl,rfl,(by(rw[wk4 ‹_› ‹_› ‹_› ‹_› ‹_› ‹_›] <;> rfl)),rfl,rfl,(by(rw[wk4 ‹_› ‹_› ‹_› ‹_› ‹_› ‹_›] <;> rfl))⟩ trivial
           ·skip
            refine v_pick True trivial ?_ ?_
            ·skip
             refine v_call _ [7] (clone_ok ((kA ts a).value) (by omega)) (((kA ts a).value=(kA ts a).value)) rfl (fun g51 p52=>?_)
             have p52:True:=p52
             refine v_call _ [0,6,7] (thash_ok (0) (1) ((kA ts a).key) ((kA ts a).value) z32 z32 (by decide) (by omega) (by omega) rfl rfl) ((fs.length+1≤1000000)∧((0:Int)=(0:Int))∧((1:UInt64)=(1:UInt64))∧(List.replicate (32:Nat) (0:UInt8)=List.replicate (32:Nat) (0:UInt8))∧(List.replicate (32:Nat) (0:UInt8)=List.replicate (32:Nat) (0:UInt8))∧(wordsP=wordsP)∧((kA ts a).key=(kA ts a).key)∧((kA ts a).value=(kA ts a).value)) ⟨(by omega),rfl,rfl,rfl,rfl,rfl,rfl,rfl⟩ (fun g53 p54=>?_)
             have p54:True:=p54
             refine v_al [] (al_e0 ((wkN ts (f+1) ab a fs).e) (by(rw[wk4 ‹_› ‹_› ‹_› ‹_› ‹_› ‹_›] <;> rfl))) True trivial ?_
             exact v_ret () [14,13] ((nsum 0 1 (kA ts a).key (kA ts a).value z32 z32=(wkN ts (f+1) ab a fs).h)∧(wordsP=wordsP)∧(ts=ts)∧((↑a:Int)+1=(↑(wkN ts (f+1) ab a fs).a:Int))∧(PE (wkN ts (f+1) ab a fs).e=PE (wkN ts (f+1) ab a fs).e)∧((wkN ts (f+1) ab a fs).e.isNone=(wkN ts (f+1) ab a fs).e.isNone)∧(fs++[Item.mk false (kA ts a).key (kA ts a).value]=(wkN ts (f+1) ab a fs).fs)) ⟨(by(rw[wk4 ‹_› ‹_› ‹_› ‹_› ‹_› ‹_›] <;> rfl)),rfl,rfl,(by(rw[wk4 ‹_› ‹_› ‹_› ‹_› ‹_› ‹_›] <;> rfl)),rfl,rfl,(by(rw[wk4 ‹_› ‹_› ‹_› ‹_› ‹_› ‹_›] <;> rfl))⟩ trivial
            ·skip
             refine v_call _ [7] (clone_ok ((kA ts a).value) (by omega)) (((kA ts a).value=(kA ts a).value)) rfl (fun g55 p56=>?_)
             have p56:True:=p56
             refine v_pick True trivial ?_ ?_
             ·skip
              refine v_call _ [0,6,7] (thash_ok (0) (1) ((kA ts a).key) ((kA ts a).value) z32 z32 (by decide) (by omega) (by omega) rfl rfl) ((fs.length+1≤1000000)∧((0:Int)=(0:Int))∧((1:UInt64)=(1:UInt64))∧(List.replicate (32:Nat) (0:UInt8)=List.replicate (32:Nat) (0:UInt8))∧(List.replicate (32:Nat) (0:UInt8)=List.replicate (32:Nat) (0:UInt8))∧(wordsP=wordsP)∧((kA ts a).key=(kA ts a).key)∧((kA ts a).value=(kA ts a).value)) ⟨(by omega),rfl,rfl,rfl,rfl,rfl,rfl,rfl⟩ (fun g57 p58=>?_)
              have p58:True:=p58
              refine v_al [] (al_e0 ((wkN ts (f+1) ab a fs).e) (by(rw[wk4 ‹_› ‹_› ‹_› ‹_› ‹_› ‹_›] <;> rfl))) True trivial ?_
              exact v_ret () [14,13] ((nsum 0 1 (kA ts a).key (kA ts a).value z32 z32=(wkN ts (f+1) ab a fs).h)∧(wordsP=wordsP)∧(ts=ts)∧((↑a:Int)+1=(↑(wkN ts (f+1) ab a fs).a:Int))∧(PE (wkN ts (f+1) ab a fs).e=PE (wkN ts (f+1) ab a fs).e)∧((wkN ts (f+1) ab a fs).e.isNone=(wkN ts (f+1) ab a fs).e.isNone)∧(fs++[Item.mk false (kA ts a).key (kA ts a).value]=(wkN ts (f+1) ab a fs).fs)) ⟨(by(rw[wk4 ‹_› ‹_› ‹_› ‹_› ‹_› ‹_›] <;> rfl)),rfl,rfl,(by(rw[wk4 ‹_› ‹_› ‹_› ‹_› ‹_› ‹_›] <;> rfl)),rfl,rfl,(by(rw[wk4 ‹_› ‹_› ‹_› ‹_› ‹_› ‹_›] <;> rfl))⟩ trivial
             ·skip
              refine v_call _ [0,6,7] (thash_ok (0) (1) ((kA ts a).key) ((kA ts a).value) z32 z32 (by decide) (by omega) (by omega) rfl rfl) ((fs.length+1≤1000000)∧((0:Int)=(0:Int))∧((1:UInt64)=(1:UInt64))∧(List.replicate (32:Nat) (0:UInt8)=List.replicate (32:Nat) (0:UInt8))∧(List.replicate (32:Nat) (0:UInt8)=List.replicate (32:Nat) (0:UInt8))∧(wordsP=wordsP)∧((kA ts a).key=(kA ts a).key)∧((kA ts a).value=(kA ts a).value)) ⟨(by omega),rfl,rfl,rfl,rfl,rfl,rfl,rfl⟩ (fun g59 p60=>?_)
              have p60:True:=p60
              refine v_al [] (al_e0 ((wkN ts (f+1) ab a fs).e) (by(rw[wk4 ‹_› ‹_› ‹_› ‹_› ‹_› ‹_›] <;> rfl))) True trivial ?_
              exact v_ret () [14,13] ((nsum 0 1 (kA ts a).key (kA ts a).value z32 z32=(wkN ts (f+1) ab a fs).h)∧(wordsP=wordsP)∧(ts=ts)∧((↑a:Int)+1=(↑(wkN ts (f+1) ab a fs).a:Int))∧(PE (wkN ts (f+1) ab a fs).e=PE (wkN ts (f+1) ab a fs).e)∧((wkN ts (f+1) ab a fs).e.isNone=(wkN ts (f+1) ab a fs).e.isNone)∧(fs++[Item.mk false (kA ts a).key (kA ts a).value]=(wkN ts (f+1) ab a fs).fs)) ⟨(by(rw[wk4 ‹_› ‹_› ‹_› ‹_› ‹_› ‹_›] <;> rfl)),rfl,rfl,(by(rw[wk4 ‹_› ‹_› ‹_› ‹_› ‹_› ‹_›] <;> rfl)),rfl,rfl,(by(rw[wk4 ‹_› ‹_› ‹_› ‹_› ‹_› ‹_›] <;> rfl))⟩ trivial
          ·skip
           refine v_pick True trivial ?_ ?_
           ·skip
            refine v_call _ [6] (clone_ok ((kA ts a).key) (by omega)) (((kA ts a).key=(kA ts a).key)) rfl (fun g61 p62=>?_)
            have p62:True:=p62
            refine v_call _ [7] (clone_ok ((kA ts a).value) (by omega)) (((kA ts a).value=(kA ts a).value)) rfl (fun g63 p64=>?_)
            have p64:True:=p64
            refine v_call _ [0,6,7] (thash_ok (0) (1) ((kA ts a).key) ((kA ts a).value) z32 z32 (by decide) (by omega) (by omega) rfl rfl) ((fs.length+1≤1000000)∧((0:Int)=(0:Int))∧((1:UInt64)=(1:UInt64))∧(List.replicate (32:Nat) (0:UInt8)=List.replicate (32:Nat) (0:UInt8))∧(List.replicate (32:Nat) (0:UInt8)=List.replicate (32:Nat) (0:UInt8))∧(wordsP=wordsP)∧((kA ts a).key=(kA ts a).key)∧((kA ts a).value=(kA ts a).value)) ⟨(by omega),rfl,rfl,rfl,rfl,rfl,rfl,rfl⟩ (fun g65 p66=>?_)
            have p66:True:=p66
            refine v_al [] (al_e0 ((wkN ts (f+1) ab a fs).e) (by(rw[wk4 ‹_› ‹_› ‹_› ‹_› ‹_› ‹_›] <;> rfl))) True trivial ?_
            exact v_ret () [14,13] ((nsum 0 1 (kA ts a).key (kA ts a).value z32 z32=(wkN ts (f+1) ab a fs).h)∧(wordsP=wordsP)∧(ts=ts)∧((↑a:Int)+1=(↑(wkN ts (f+1) ab a fs).a:Int))∧(PE (wkN ts (f+1) ab a fs).e=PE (wkN ts (f+1) ab a fs).e)∧((wkN ts (f+1) ab a fs).e.isNone=(wkN ts (f+1) ab a fs).e.isNone)∧(fs++[Item.mk false (kA ts a).key (kA ts a).value]=(wkN ts (f+1) ab a fs).fs)) ⟨(by(rw[wk4 ‹_› ‹_› ‹_› ‹_› ‹_› ‹_›] <;> rfl)),rfl,rfl,(by(rw[wk4 ‹_› ‹_› ‹_› ‹_› ‹_› ‹_›] <;> rfl)),rfl,rfl,(by(rw[wk4 ‹_› ‹_› ‹_› ‹_› ‹_› ‹_›] <;> rfl))⟩ trivial
           ·skip
            refine v_call _ [6] (clone_ok ((kA ts a).key) (by omega)) (((kA ts a).key=(kA ts a).key)) rfl (fun g67 p68=>?_)
            have p68:True:=p68
            refine v_pick True trivial ?_ ?_
            ·skip
             refine v_call _ [7] (clone_ok ((kA ts a).value) (by omega)) (((kA ts a).value=(kA ts a).value)) rfl (fun g69 p70=>?_)
             have p70:True:=p70
             refine v_call _ [0,6,7] (thash_ok (0) (1) ((kA ts a).key) ((kA ts a).value) z32 z32 (by decide) (by omega) (by omega) rfl rfl) ((fs.length+1≤1000000)∧((0:Int)=(0:Int))∧((1:UInt64)=(1:UInt64))∧(List.replicate (32:Nat) (0:UInt8)=List.replicate (32:Nat) (0:UInt8))∧(List.replicate (32:Nat) (0:UInt8)=List.replicate (32:Nat) (0:UInt8))∧(wordsP=wordsP)∧((kA ts a).key=(kA ts a).key)∧((kA ts a).value=(kA ts a).value)) ⟨(by omega),rfl,rfl,rfl,rfl,rfl,rfl,rfl⟩ (fun g71 p72=>?_)
             have p72:True:=p72
             refine v_al [] (al_e0 ((wkN ts (f+1) ab a fs).e) (by(rw[wk4 ‹_› ‹_› ‹_› ‹_› ‹_› ‹_›] <;> rfl))) True trivial ?_
             exact v_ret () [14,13] ((nsum 0 1 (kA ts a).key (kA ts a).value z32 z32=(wkN ts (f+1) ab a fs).h)∧(wordsP=wordsP)∧(ts=ts)∧((↑a:Int)+1=(↑(wkN ts (f+1) ab a fs).a:Int))∧(PE (wkN ts (f+1) ab a fs).e=PE (wkN ts (f+1) ab a fs).e)∧((wkN ts (f+1) ab a fs).e.isNone=(wkN ts (f+1) ab a fs).e.isNone)∧(fs++[Item.mk false (kA ts a).key (kA ts a).value]=(wkN ts (f+1) ab a fs).fs)) ⟨(by(rw[wk4 ‹_› ‹_› ‹_› ‹_› ‹_› ‹_›] <;> rfl)),rfl,rfl,(by(rw[wk4 ‹_› ‹_› ‹_› ‹_› ‹_› ‹_›] <;> rfl)),rfl,rfl,(by(rw[wk4 ‹_› ‹_› ‹_› ‹_› ‹_› ‹_›] <;> rfl))⟩ trivial
            ·skip
             refine v_call _ [7] (clone_ok ((kA ts a).value) (by omega)) (((kA ts a).value=(kA ts a).value)) rfl (fun g73 p74=>?_)
             have p74:True:=p74
             refine v_pick True trivial ?_ ?_
             ·skip
              refine v_call _ [0,6,7] (thash_ok (0) (1) ((kA ts a).key) ((kA ts a).value) z32 z32 (by decide) (by omega) (by omega) rfl rfl) ((fs.length+1≤1000000)∧((0:Int)=(0:Int))∧((1:UInt64)=(1:UInt64))∧(List.replicate (32:Nat) (0:UInt8)=List.replicate (32:Nat) (0:UInt8))∧(List.replicate (32:Nat) (0:UInt8)=List.replicate (32:Nat) (0:UInt8))∧(wordsP=wordsP)∧((kA ts a).key=(kA ts a).key)∧((kA ts a).value=(kA ts a).value)) ⟨(by omega),rfl,rfl,rfl,rfl,rfl,rfl,rfl⟩ (fun g75 p76=>?_)
              have p76:True:=p76
              refine v_al [] (al_e0 ((wkN ts (f+1) ab a fs).e) (by(rw[wk4 ‹_› ‹_› ‹_› ‹_› ‹_› ‹_›] <;> rfl))) True trivial ?_
              exact v_ret () [14,13] ((nsum 0 1 (kA ts a).key (kA ts a).value z32 z32=(wkN ts (f+1) ab a fs).h)∧(wordsP=wordsP)∧(ts=ts)∧((↑a:Int)+1=(↑(wkN ts (f+1) ab a fs).a:Int))∧(PE (wkN ts (f+1) ab a fs).e=PE (wkN ts (f+1) ab a fs).e)∧((wkN ts (f+1) ab a fs).e.isNone=(wkN ts (f+1) ab a fs).e.isNone)∧(fs++[Item.mk false (kA ts a).key (kA ts a).value]=(wkN ts (f+1) ab a fs).fs)) ⟨(by(rw[wk4 ‹_› ‹_› ‹_› ‹_› ‹_› ‹_›] <;> rfl)),rfl,rfl,(by(rw[wk4 ‹_› ‹_› ‹_› ‹_› ‹_› ‹_›] <;> rfl)),rfl,rfl,(by(rw[wk4 ‹_› ‹_› ‹_› ‹_› ‹_› ‹_›] <;> rfl))⟩ trivial
             ·skip
              refine v_call _ [0,6,7] (thash_ok (0) (1) ((kA ts a).key) ((kA ts a).value) z32 z32 (by decide) (by omega) (by omega) rfl rfl) ((fs.length+1≤1000000)∧((0:Int)=(0:Int))∧((1:UInt64)=(1:UInt64))∧(List.replicate (32:Nat) (0:UInt8)=List.replicate (32:Nat) (0:UInt8))∧(List.replicate (32:Nat) (0:UInt8)=List.replicate (32:Nat) (0:UInt8))∧(wordsP=wordsP)∧((kA ts a).key=(kA ts a).key)∧((kA ts a).value=(kA ts a).value)) ⟨(by omega),rfl,rfl,rfl,rfl,rfl,rfl,rfl⟩ (fun g77 p78=>?_)
              have p78:True:=p78
              refine v_al [] (al_e0 ((wkN ts (f+1) ab a fs).e) (by(rw[wk4 ‹_› ‹_› ‹_› ‹_› ‹_› ‹_›] <;> rfl))) True trivial ?_
              exact v_ret () [14,13] ((nsum 0 1 (kA ts a).key (kA ts a).value z32 z32=(wkN ts (f+1) ab a fs).h)∧(wordsP=wordsP)∧(ts=ts)∧((↑a:Int)+1=(↑(wkN ts (f+1) ab a fs).a:Int))∧(PE (wkN ts (f+1) ab a fs).e=PE (wkN ts (f+1) ab a fs).e)∧((wkN ts (f+1) ab a fs).e.isNone=(wkN ts (f+1) ab a fs).e.isNone)∧(fs++[Item.mk false (kA ts a).key (kA ts a).value]=(wkN ts (f+1) ab a fs).fs)) ⟨(by(rw[wk4 ‹_› ‹_› ‹_› ‹_› ‹_› ‹_›] <;> rfl)),rfl,rfl,(by(rw[wk4 ‹_› ‹_› ‹_› ‹_› ‹_› ‹_›] <;> rfl)),rfl,rfl,(by(rw[wk4 ‹_› ‹_› ‹_› ‹_› ‹_› ‹_›] <;> rfl))⟩ trivial
        ·skip
         refine v_pick True trivial ?_ ?_
         ·skip
          refine v_call _ [6] (clone_ok ((kA ts a).key) (by omega)) (((kA ts a).key=(kA ts a).key)) rfl (fun g79 p80=>?_)
          have p80:True:=p80
          refine v_call _ [7] (clone_ok ((kA ts a).value) (by omega)) (((kA ts a).value=(kA ts a).value)) rfl (fun g81 p82=>?_)
          have p82:True:=p82
          refine v_call _ [0,6,7] (thash_ok (0) (1) ((kA ts a).key) ((kA ts a).value) z32 z32 (by decide) (by omega) (by omega) rfl rfl) ((fs.length+1≤1000000)∧((0:Int)=(0:Int))∧((1:UInt64)=(1:UInt64))∧(List.replicate (32:Nat) (0:UInt8)=List.replicate (32:Nat) (0:UInt8))∧(List.replicate (32:Nat) (0:UInt8)=List.replicate (32:Nat) (0:UInt8))∧(wordsP=wordsP)∧((kA ts a).key=(kA ts a).key)∧((kA ts a).value=(kA ts a).value)) ⟨(by omega),rfl,rfl,rfl,rfl,rfl,rfl,rfl⟩ (fun g83 p84=>?_)
          have p84:True:=p84
          refine v_al [] (al_e0 ((wkN ts (f+1) ab a fs).e) (by(rw[wk4 ‹_› ‹_› ‹_› ‹_› ‹_› ‹_›] <;> rfl))) True trivial ?_
          exact v_ret () [14,13] ((nsum 0 1 (kA ts a).key (kA ts a).value z32 z32=(wkN ts (f+1) ab a fs).h)∧(wordsP=wordsP)∧(ts=ts)∧((↑a:Int)+1=(↑(wkN ts (f+1) ab a fs).a:Int))∧(PE (wkN ts (f+1) ab a fs).e=PE (wkN ts (f+1) ab a fs).e)∧((wkN ts (f+1) ab a fs).e.isNone=(wkN ts (f+1) ab a fs).e.isNone)∧(fs++[Item.mk false (kA ts a).key (kA ts a).value]=(wkN ts (f+1) ab a fs).fs)) ⟨(by(rw[wk4 ‹_› ‹_› ‹_› ‹_› ‹_› ‹_›] <;> rfl)),rfl,rfl,(by(rw[wk4 ‹_› ‹_› ‹_› ‹_› ‹_› ‹_›] <;> rfl)),rfl,rfl,(by(rw[wk4 ‹_› ‹_› ‹_› ‹_› ‹_› ‹_›] <;> rfl))⟩ trivial
         ·skip
          refine v_pick True trivial ?_ ?_
          ·skip
           refine v_call _ [6] (clone_ok ((kA ts a).key) (by omega)) (((kA ts a).key=(kA ts a).key)) rfl (fun g85 p86=>?_)
           have p86:True:=p86
           refine v_call _ [7] (clone_ok ((kA ts a).value) (by omega)) (((kA ts a).value=(kA ts a).value)) rfl (fun g87 p88=>?_)
           have p88:True:=p88
           refine v_call _ [0,6,7] (thash_ok (0) (1) ((kA ts a).key) ((kA ts a).value) z32 z32 (by decide) (by omega) (by omega) rfl rfl) ((fs.length+1≤1000000)∧((0:Int)=(0:Int))∧((1:UInt64)=(1:UInt64))∧(List.replicate (32:Nat) (0:UInt8)=List.replicate (32:Nat) (0:UInt8))∧(List.replicate (32:Nat) (0:UInt8)=List.replicate (32:Nat) (0:UInt8))∧(wordsP=wordsP)∧((kA ts a).key=(kA ts a).key)∧((kA ts a).value=(kA ts a).value)) ⟨(by omega),rfl,rfl,rfl,rfl,rfl,rfl,rfl⟩ (fun g89 p90=>?_)
           have p90:True:=p90
           refine v_al [] (al_e0 ((wkN ts (f+1) ab a fs).e) (by(rw[wk4 ‹_› ‹_› ‹_› ‹_› ‹_› ‹_›] <;> rfl))) True trivial ?_
           exact v_ret () [14,13] ((nsum 0 1 (kA ts a).key (kA ts a).value z32 z32=(wkN ts (f+1) ab a fs).h)∧(wordsP=wordsP)∧(ts=ts)∧((↑a:Int)+1=(↑(wkN ts (f+1) ab a fs).a:Int))∧(PE (wkN ts (f+1) ab a fs).e=PE (wkN ts (f+1) ab a fs).e)∧((wkN ts (f+1) ab a fs).e.isNone=(wkN ts (f+1) ab a fs).e.isNone)∧(fs++[Item.mk false (kA ts a).key (kA ts a).value]=(wkN ts (f+1) ab a fs).fs)) ⟨(by(rw[wk4 ‹_› ‹_› ‹_› ‹_› ‹_› ‹_›] <;> rfl)),rfl,rfl,(by(rw[wk4 ‹_› ‹_› ‹_› ‹_› ‹_› ‹_›] <;> rfl)),rfl,rfl,(by(rw[wk4 ‹_› ‹_› ‹_› ‹_› ‹_› ‹_›] <;> rfl))⟩ trivial
          ·skip
           refine v_call _ [6] (clone_ok ((kA ts a).key) (by omega)) (((kA ts a).key=(kA ts a).key)) rfl (fun g91 p92=>?_)
           have p92:True:=p92
           refine v_pick True trivial ?_ ?_
           ·skip
            refine v_call _ [7] (clone_ok ((kA ts a).value) (by omega)) (((kA ts a).value=(kA ts a).value)) rfl (fun g93 p94=>?_)
            have p94:True:=p94
            refine v_call _ [0,6,7] (thash_ok (0) (1) ((kA ts a).key) ((kA ts a).value) z32 z32 (by decide) (by omega) (by omega) rfl rfl) ((fs.length+1≤1000000)∧((0:Int)=(0:Int))∧((1:UInt64)=(1:UInt64))∧(List.replicate (32:Nat) (0:UInt8)=List.replicate (32:Nat) (0:UInt8))∧(List.replicate (32:Nat) (0:UInt8)=List.replicate (32:Nat) (0:UInt8))∧(wordsP=wordsP)∧((kA ts a).key=(kA ts a).key)∧((kA ts a).value=(kA ts a).value)) ⟨(by omega),rfl,rfl,rfl,rfl,rfl,rfl,rfl⟩ (fun g95 p96=>?_)
            have p96:True:=p96
            refine v_al [] (al_e0 ((wkN ts (f+1) ab a fs).e) (by(rw[wk4 ‹_› ‹_› ‹_› ‹_› ‹_› ‹_›] <;> rfl))) True trivial ?_
            exact v_ret () [14,13] ((nsum 0 1 (kA ts a).key (kA ts a).value z32 z32=(wkN ts (f+1) ab a fs).h)∧(wordsP=wordsP)∧(ts=ts)∧((↑a:Int)+1=(↑(wkN ts (f+1) ab a fs).a:Int))∧(PE (wkN ts (f+1) ab a fs).e=PE (wkN ts (f+1) ab a fs).e)∧((wkN ts (f+1) ab a fs).e.isNone=(wkN ts (f+1) ab a fs).e.isNone)∧(fs++[Item.mk false (kA ts a).key (kA ts a).value]=(wkN ts (f+1) ab a fs).fs)) ⟨(by(rw[wk4 ‹_› ‹_› ‹_› ‹_› ‹_› ‹_›] <;> rfl)),rfl,rfl,(by(rw[wk4 ‹_› ‹_› ‹_› ‹_› ‹_› ‹_›] <;> rfl)),rfl,rfl,(by(rw[wk4 ‹_› ‹_› ‹_› ‹_› ‹_› ‹_›] <;> rfl))⟩ trivial
           ·skip
            refine v_call _ [7] (clone_ok ((kA ts a).value) (by omega)) (((kA ts a).value=(kA ts a).value)) rfl (fun g97 p98=>?_)
            have p98:True:=p98
            refine v_pick True trivial ?_ ?_
            ·skip
             refine v_call _ [0,6,7] (thash_ok (0) (1) ((kA ts a).key) ((kA ts a).value) z32 z32 (by decide) (by omega) (by omega) rfl rfl) ((fs.length+1≤1000000)∧((0:Int)=(0:Int))∧((1:UInt64)=(1:UInt64))∧(List.replicate (32:Nat) (0:UInt8)=List.replicate (32:Nat) (0:UInt8))∧(List.replicate (32:Nat) (0:UInt8)=List.replicate (32:Nat) (0:UInt8))∧(wordsP=wordsP)∧((kA ts a).key=(kA ts a).key)∧((kA ts a).value=(kA ts a).value)) ⟨(by omega),rfl,rfl,rfl,rfl,rfl,rfl,rfl⟩ (fun g99 p100=>?_)
             have p100:True:=p100
             refine v_al [] (al_e0 ((wkN ts (f+1) ab a fs).e) (by(rw[wk4 ‹_› ‹_› ‹_› ‹_› ‹_› ‹_›] <;> rfl))) True trivial ?_
             exact v_ret () [14,13] ((nsum 0 1 (kA ts a).key (kA ts a).value z32 z32=(wkN ts (f+1) ab a fs).h)∧(wordsP=wordsP)∧(ts=ts)∧((↑a:Int)+1=(↑(wkN ts (f+1) ab a fs).a:Int))∧(PE (wkN ts (f+1) ab a fs).e=PE (wkN ts (f+1) ab a fs).e)∧((wkN ts (f+1) ab a fs).e.isNone=(wkN ts (f+1) ab a fs).e.isNone)∧(fs++[Item.mk false (kA ts a).key (kA ts a).value]=(wkN ts (f+1) ab a fs).fs)) ⟨(by(rw[wk4 ‹_› ‹_› ‹_› ‹_› ‹_› ‹_›] <;> rfl)),rfl,rfl,(by(rw[wk4 ‹_› ‹_› ‹_› ‹_› ‹_› ‹_›] <;> rfl)),rfl,rfl,(by(rw[wk4 ‹_› ‹_› ‹_› ‹_› ‹_› ‹_›] <;> rfl))⟩ trivial
            ·skip
             refine v_call _ [0,6,7] (thash_ok (0) (1) ((kA ts a).key) ((kA ts a).value) z32 z32 (by decide) (by omega) (by omega) rfl rfl) ((fs.length+1≤1000000)∧((0:Int)=(0:Int))∧((1:UInt64)=(1:UInt64))∧(List.replicate (32:Nat) (0:UInt8)=List.replicate (32:Nat) (0:UInt8))∧(List.replicate (32:Nat) (0:UInt8)=List.replicate (32:Nat) (0:UInt8))∧(wordsP=wordsP)∧((kA ts a).key=(kA ts a).key)∧((kA ts a).value=(kA ts a).value)) ⟨(by omega),rfl,rfl,rfl,rfl,rfl,rfl,rfl⟩ (fun g101 p102=>?_)
             have p102:True:=p102
             refine v_al [] (al_e0 ((wkN ts (f+1) ab a fs).e) (by(rw[wk4 ‹_› ‹_› ‹_› ‹_› ‹_› ‹_›] <;> rfl))) True trivial ?_
             exact v_ret () [14,13] ((nsum 0 1 (kA ts a).key (kA ts a).value z32 z32=(wkN ts (f+1) ab a fs).h)∧(wordsP=wordsP)∧(ts=ts)∧((↑a:Int)+1=(↑(wkN ts (f+1) ab a fs).a:Int))∧(PE (wkN ts (f+1) ab a fs).e=PE (wkN ts (f+1) ab a fs).e)∧((wkN ts (f+1) ab a fs).e.isNone=(wkN ts (f+1) ab a fs).e.isNone)∧(fs++[Item.mk false (kA ts a).key (kA ts a).value]=(wkN ts (f+1) ab a fs).fs)) ⟨(by(rw[wk4 ‹_› ‹_› ‹_› ‹_› ‹_› ‹_›] <;> rfl)),rfl,rfl,(by(rw[wk4 ‹_› ‹_› ‹_› ‹_› ‹_› ‹_›] <;> rfl)),rfl,rfl,(by(rw[wk4 ‹_› ‹_› ‹_› ‹_› ‹_› ‹_›] <;> rfl))⟩ trivial
   ·have h5:=of_decide_eq_false h5
    refine v_if (decide ((kA ts a).kind=3)) True trivial (fun h103=>?_) (fun h103=>?_)
    ·have h103:=of_decide_eq_true h103
     refine v_guard 114 (decide ((kA ts a).height<1)) True trivial (fun h104=>?_) (fun h104=>?_)
     ·have h104:=of_decide_eq_true h104
      refine v_al [] (al_e1 (12)) True trivial ?_
      refine v_call _ [10] (faultAt_ok (((#[116,111,107,101,110]:Array UInt8).toList)) (↑a) (Er.num 12)) ((#[(116:UInt8),(111:UInt8),(107:UInt8),(101:UInt8),(110:UInt8)].toList=#[(116:UInt8),(111:UInt8),(107:UInt8),(101:UInt8),(110:UInt8)].toList)∧((↑a:Int)=(↑a:Int))∧((12:Int)=(12:Int))∧(PE (some (Er.num 12))=PE (some (Er.num 12)))∧(false=false)) ⟨rfl,rfl,rfl,rfl,rfl⟩ (fun g105 p106=>?_)
      have p106:True:=p106
      exact v_ret () [11,2] ((List.replicate 32 0=(wkN ts (f+1) ab a fs).h)∧(wordsP=wordsP)∧(ts=ts)∧((↑a:Int)+1=(↑(wkN ts (f+1) ab a fs).a:Int))∧(PE (some (Er.step ((#[116,111,107,101,110]:Array UInt8).toList) (↑a) (Er.num 12)))=PE (wkN ts (f+1) ab a fs).e)∧(false=(wkN ts (f+1) ab a fs).e.isNone)∧(fs=(wkN ts (f+1) ab a fs).fs)) ⟨(by(rw[wk5 ‹_› ‹_› ‹_› ‹_› (by first | exact .inl ‹_› | exact .inr ‹_›)] <;> rfl)),rfl,rfl,(by(rw[wk5 ‹_› ‹_› ‹_› ‹_› (by first | exact .inl ‹_› | exact .inr ‹_›)] <;> rfl)),(by(rw[wk5 ‹_› ‹_› ‹_› ‹_› (by first | exact .inl ‹_› | exact .inr ‹_›)] <;> rfl)),(by(rw[wk5 ‹_› ‹_› ‹_› ‹_› (by first | exact .inl ‹_› | exact .inr ‹_›)] <;> rfl)),(by(rw[wk5 ‹_› ‹_› ‹_› ‹_› (by first | exact .inl ‹_› | exact .inr ‹_›)] <;> rfl))⟩ trivial
     ·have h104:=of_decide_eq_false h104
      refine v_if (decide (ab≤(kA ts a).height)) True trivial (fun h107=>?_) (fun h107=>?_)
      ·have h107:=of_decide_eq_true h107
       refine v_al [] (al_e1 (12)) True trivial ?_
       refine v_call _ [10] (faultAt_ok (((#[116,111,107,101,110]:Array UInt8).toList)) (↑a) (Er.num 12)) ((#[(116:UInt8),(111:UInt8),(107:UInt8),(101:UInt8),(110:UInt8)].toList=#[(116:UInt8),(111:UInt8),(107:UInt8),(101:UInt8),(110:UInt8)].toList)∧((↑a:Int)=(↑a:Int))∧((12:Int)=(12:Int))∧(PE (some (Er.num 12))=PE (some (Er.num 12)))∧(false=false)) ⟨rfl,rfl,rfl,rfl,rfl⟩ (fun g108 p109=>?_)
       have p109:True:=p109
       exact v_ret () [11,2] ((List.replicate 32 0=(wkN ts (f+1) ab a fs).h)∧(wordsP=wordsP)∧(ts=ts)∧((↑a:Int)+1=(↑(wkN ts (f+1) ab a fs).a:Int))∧(PE (some (Er.step ((#[116,111,107,101,110]:Array UInt8).toList) (↑a) (Er.num 12)))=PE (wkN ts (f+1) ab a fs).e)∧(false=(wkN ts (f+1) ab a fs).e.isNone)∧(fs=(wkN ts (f+1) ab a fs).fs)) ⟨(by(rw[wk5 ‹_› ‹_› ‹_› ‹_› (by first | exact .inl ‹_› | exact .inr ‹_›)] <;> rfl)),rfl,rfl,(by(rw[wk5 ‹_› ‹_› ‹_› ‹_› (by first | exact .inl ‹_› | exact .inr ‹_›)] <;> rfl)),(by(rw[wk5 ‹_› ‹_› ‹_› ‹_› (by first | exact .inl ‹_› | exact .inr ‹_›)] <;> rfl)),(by(rw[wk5 ‹_› ‹_› ‹_› ‹_› (by first | exact .inl ‹_› | exact .inr ‹_›)] <;> rfl)),(by(rw[wk5 ‹_› ‹_› ‹_› ‹_› (by first | exact .inl ‹_› | exact .inr ‹_›)] <;> rfl))⟩ trivial
      ·have h107:=of_decide_eq_false h107
       refine v_call _ [0,1,2,3] (ih ((kA ts a).height) (a+nat_lit 1) (fs) (by omega) (by omega) (by(simp;omega)) (by omega)) (((kA ts a).height=(kA ts a).height)∧(wordsP=wordsP)∧(ts=ts)∧(fs=fs)∧((↑a:Int)+(1:Int)=(↑(a+nat_lit 1):Int))) ⟨rfl,rfl,rfl,rfl,rfl⟩ (fun g110 p111=>?_)
       have p111:True:=p111
       refine v_if (!(wkA ts f a fs).e.isNone) True trivial (fun h112=>?_) (fun h112=>?_)
       ·have h112:=(nt h112)
        exact v_ret () [10,11] (((wkA ts f a fs).h=(wkN ts (f+(1:Nat)) ab a fs).h)∧(wordsP=wordsP)∧(ts=ts)∧((↑(wkA ts f a fs).a:Int)=(↑(wkN ts (f+(1:Nat)) ab a fs).a:Int))∧(PE (wkA ts f a fs).e=PE (wkN ts (f+(1:Nat)) ab a fs).e)∧((wkA ts f a fs).e.isNone=(wkN ts (f+(1:Nat)) ab a fs).e.isNone)∧((wkA ts f a fs).fs=(wkN ts (f+(1:Nat)) ab a fs).fs)) ⟨(by(rw[wk7 ‹_› ‹_› ‹_› ‹_› ‹_› ‹_› ‹_›])),rfl,rfl,(by(rw[wk7 ‹_› ‹_› ‹_› ‹_› ‹_› ‹_› ‹_›])),(by(rw[wk7 ‹_› ‹_› ‹_› ‹_› ‹_› ‹_› ‹_›])),(by(rw[wk7 ‹_› ‹_› ‹_› ‹_› ‹_› ‹_› ‹_›])),(by(rw[wk7 ‹_› ‹_› ‹_› ‹_› ‹_› ‹_› ‹_›]))⟩ trivial
       ·have h112:=(nf h112)
        refine v_call _ [0,1,11,3] (ih ((kA ts a).height) ((wkA ts f a fs).a) ((wkA ts f a fs).fs) (by omega) (by omega) (by exact(wkA_inv ‹_› hf).1) (by exact(wkA_inv ‹_› hf).2.1)) (((kA ts a).height=(kA ts a).height)∧(wordsP=wordsP)∧(ts=ts)∧((wkA ts f a fs).fs=(wkA ts f a fs).fs)∧((↑(wkA ts f a fs).a:Int)=(↑(wkA ts f a fs).a:Int))) ⟨rfl,rfl,rfl,rfl,rfl⟩ (fun g113 p114=>?_)
        have p114:True:=p114
        refine v_if (!(wkB ts f a fs).e.isNone) True trivial (fun h115=>?_) (fun h115=>?_)
        ·have h115:=(nt h115)
         exact v_ret () [13,14] (((wkB ts f a fs).h=(wkN ts (f+(1:Nat)) ab a fs).h)∧(wordsP=wordsP)∧(ts=ts)∧((↑(wkB ts f a fs).a:Int)=(↑(wkN ts (f+(1:Nat)) ab a fs).a:Int))∧(PE (wkB ts f a fs).e=PE (wkN ts (f+(1:Nat)) ab a fs).e)∧((wkB ts f a fs).e.isNone=(wkN ts (f+(1:Nat)) ab a fs).e.isNone)∧((wkB ts f a fs).fs=(wkN ts (f+(1:Nat)) ab a fs).fs)) ⟨(by(rw[wk8 ‹_› ‹_› ‹_› ‹_› ‹_› ‹_› ‹_› ‹_›])),rfl,rfl,(by(rw[wk8 ‹_› ‹_› ‹_› ‹_› ‹_› ‹_› ‹_› ‹_›])),(by(rw[wk8 ‹_› ‹_› ‹_› ‹_› ‹_› ‹_› ‹_› ‹_›])),(by(rw[wk8 ‹_› ‹_› ‹_› ‹_› ‹_› ‹_› ‹_› ‹_›])),(by(rw[wk8 ‹_› ‹_› ‹_› ‹_› ‹_› ‹_› ‹_› ‹_›]))⟩ trivial
        ·have h115:=(nf h115)
         refine v_call _ [0,4,4] (thash_ok ((kA ts a).height) ((kA ts a).size) ([]) ([]) ((wkA ts f a fs).h) ((wkB ts f a fs).h) (by omega) (by decide) (by decide) (by exact(wkA_inv ‹_› hf).2.2) (by exact(wkB_inv ‹_› hf).2.2)) (((kA ts a).height=(kA ts a).height)∧((kA ts a).size=(kA ts a).size)∧((wkA ts f a fs).h=(wkA ts f a fs).h)∧((wkB ts f a fs).h=(wkB ts f a fs).h)∧(wordsP=wordsP)∧(Eq (α:=List UInt8) [] [])∧(Eq (α:=List UInt8) [] [])) ⟨rfl,rfl,rfl,rfl,rfl,rfl,rfl⟩ (fun g116 p117=>?_)
         have p117:True:=p117
         refine v_al [] (al_e0 ((wkN ts (f+1) ab a fs).e) (by(rw[wk9 ‹_› ‹_› ‹_› ‹_› ‹_› ‹_› ‹_› ‹_›] <;> rfl))) True trivial ?_
         exact v_ret () [16,14] ((nsum (kA ts a).height (kA ts a).size [] [] (wkA ts f a fs).h (wkB ts f a fs).h=(wkN ts (f+(1:Nat)) ab a fs).h)∧(wordsP=wordsP)∧(ts=ts)∧((↑(wkB ts f a fs).a:Int)=(↑(wkN ts (f+(1:Nat)) ab a fs).a:Int))∧(PE (wkN ts (f+1) ab a fs).e=PE (wkN ts (f+1) ab a fs).e)∧((wkN ts (f+1) ab a fs).e.isNone=(wkN ts (f+1) ab a fs).e.isNone)∧((wkB ts f a fs).fs=(wkN ts (f+(1:Nat)) ab a fs).fs)) ⟨(by(rw[wk9 ‹_› ‹_› ‹_› ‹_› ‹_› ‹_› ‹_› ‹_›] <;> rfl)),rfl,rfl,(by(rw[wk9 ‹_› ‹_› ‹_› ‹_› ‹_› ‹_› ‹_› ‹_›] <;> rfl)),rfl,rfl,(by(rw[wk9 ‹_› ‹_› ‹_› ‹_› ‹_› ‹_› ‹_› ‹_›] <;> rfl))⟩ trivial
    ·have h103:=of_decide_eq_false h103
     refine v_al [] (al_e1 (61)) True trivial ?_
     refine v_call _ [10] (faultAt_ok (((#[116,111,107,101,110]:Array UInt8).toList)) (↑a) (Er.num 61)) ((#[(116:UInt8),(111:UInt8),(107:UInt8),(101:UInt8),(110:UInt8)].toList=#[(116:UInt8),(111:UInt8),(107:UInt8),(101:UInt8),(110:UInt8)].toList)∧((↑a:Int)=(↑a:Int))∧((61:Int)=(61:Int))∧(PE (some (Er.num 61))=PE (some (Er.num 61)))∧(false=false)) ⟨rfl,rfl,rfl,rfl,rfl⟩ (fun g118 p119=>?_)
     have p119:True:=p119
     exact v_ret () [11,2] ((List.replicate 32 0=(wkN ts (f+1) ab a fs).h)∧(wordsP=wordsP)∧(ts=ts)∧((↑a:Int)+1=(↑(wkN ts (f+1) ab a fs).a:Int))∧(PE (some (Er.step ((#[116,111,107,101,110]:Array UInt8).toList) (↑a) (Er.num 61)))=PE (wkN ts (f+1) ab a fs).e)∧(false=(wkN ts (f+1) ab a fs).e.isNone)∧(fs=(wkN ts (f+1) ab a fs).fs)) ⟨(by(rw[wk6 ‹_› ‹_› ‹_› ‹_›] <;> rfl)),rfl,rfl,(by(rw[wk6 ‹_› ‹_› ‹_› ‹_›] <;> rfl)),(by(rw[wk6 ‹_› ‹_› ‹_› ‹_›] <;> rfl)),(by(rw[wk6 ‹_› ‹_› ‹_› ‹_›] <;> rfl)),(by(rw[wk6 ‹_› ‹_› ‹_› ‹_›] <;> rfl))⟩ trivial
def StI (a b:List Token) (i:Nat):Prop:=a.take i=b.take i∧i≤a.length∧a.length=b.length
section
variable {a b:List Token} {i:Nat}
theorem StI.start (h:¬ (a.length:Int)≠(b.length:Int)):StI a b 0:=⟨by simp,Nat.zero_le _,by omega⟩
theorem StI.len (h:(a.length:Int)≠(b.length:Int)):false=decide (a=b):=(decide_eq_false fun e=>h (by rw[e])).symm
theorem take_tok {l:List Token} {n:Nat} (h:n<l.length):l.take (n+1)=l.take n++[l.getD n kT0]:=by
  rw[List.take_succ,List.getD_eq_getElem?_getD,List.getElem?_eq_getElem h];rfl
theorem StI.next (h:StI a b i) (hi:(i:Int)<a.length) (he:a.getD (i:Int).toNat kT0=b.getD (i:Int).toNat kT0):StI a b (i+1)∧a.length - (i+1)<a.length - i:=by
  obtain⟨h1,h2,h3⟩:=h
  rw[Int.toNat_natCast] at he
  exact⟨⟨by rw[take_tok (by omega),take_tok (by omega),h1,he],by omega,h3⟩,by omega⟩
theorem StI.bad (h:a.getD (i:Int).toNat kT0≠b.getD (i:Int).toNat kT0):false=decide (a=b):=(decide_eq_false fun e=>h (by rw[e])).symm
theorem StI.end (h:StI a b i) (hi:¬ (i:Int)<a.length):true=decide (a=b):=by
  obtain⟨h1,h2,h3⟩:=h
  rw[List.take_of_length_le (by omega),List.take_of_length_le (by omega)] at h1
  exact(decide_eq_true h1).symm
end
def smK (ks:List (List UInt8)):Nat→List (List UInt8)
  | 0=>[]
  | n+1=>smK ks n++(if n<10∧(ks.getD n []).length≤96 then[ks.getD n []] else[])
section
variable {l:List Pair} {ks:List (List UInt8)} {wh:List UInt8} {i:Nat}
theorem sm1 (h:(i:Int)<10) (h2:((ks.getD (i:Int).toNat []).length:Int)≤96):smK ks i++[ks.getD (i:Int).toNat []]=smK ks (i+1):=by rw[Int.toNat_natCast] at *;rw[smK,if_pos ⟨by omega,by omega⟩]
end
section
variable {l:List Pair} {ks:List (List UInt8)} {wh:List UInt8} {i j:Nat}
end
theorem findG_ge {k:List UInt8}:∀ {l:List Pair} {i:Nat},0≤findG k l i↔∃ p∈l,p.key=k
  | [],i=>by simp[findG]
  | x :: xs, i => by
    unfold findG
    split
    · rename_i h;exact⟨fun _=>⟨x,List.mem_cons_self ..,h⟩,fun _=>by omega⟩
    · rename_i h
      rw[findG_ge (l:=xs)]
      exact⟨fun⟨p,a,b⟩=>⟨p,List.mem_cons_of_mem _ a,b⟩,fun⟨p,a,b⟩=>by rcases List.mem_cons.1 a with rfl | a;exact absurd b h;exact⟨p,a,b⟩⟩
theorem find_ge {k:List UInt8} {l:List Pair}:0≤findP l k↔∃ p∈l,p.key=k:=findG_ge
theorem cut_there {k:List UInt8} {o:Option Tr} (h:Srt (leavesO o)) (hf:0≤findP (leavesO o) k):o.isNone=false∧((gt o).cut k).isSome=true∧cutR k (gt o)=cutO k o:=by
  obtain⟨p,hp,hk⟩:=find_ge.1 hf
  cases o with
  | none=>simp[leavesO] at hp
  | some t =>
    rcases Tr.cut_leaves k t h with⟨e,hn⟩ | ⟨r,e,e2,_⟩
    · exact absurd hk (hn p hp)
    · exact⟨rfl,by show(t.cut k).isSome=true;rw[e];rfl,by show(t.cut k).getD none=_;rw[e,show cutO k (some t)=r by simp[cutO,e]];rfl⟩
theorem cut_not {k:List UInt8} {o:Option Tr} (h:Srt (leavesO o)) (hf:¬ 0≤findP (leavesO o) k):cutO k o=o:=by
  cases o with
  | none=>rfl
  | some t =>
    rcases Tr.cut_leaves k t h with⟨e,hn⟩ | ⟨r,e,e2,p,hp,hk⟩
    · simp[cutO,e]
    · exact absurd (find_ge.2 ⟨p,hp,hk⟩) hf
def GrN (acts:List Act) (m:Nat) (q:Nat × Option Tr):Prop:=GrI acts m (q.1,q.2,leavesO q.2)∧Srt (leavesO q.2)
section
variable {acts:List Act} {m i:Nat} {o:Option Tr}
theorem GrN.start:GrN acts m (0,none):=⟨GrI.start,List.Pairwise.nil⟩
theorem GrN.put (h:GrN acts m (i,o)) (hi:(i:Int)<acts.length) (hm:¬ (m:Int)≤i) (hk:¬ 90<((keyA (acts.getD i dA)).length:Int)) (h6:(acts.getD i dA).kind % 6<4):GrN acts m (i+1,putO (keyA (acts.getD i dA)) (valA (acts.getD i dA)) o)∧acts.length - (i+1)<acts.length - i:=by
  have g:=h.1.put hi hm hk h6
  have e:leavesO (putO (keyA (acts.getD i dA)) (valA (acts.getD i dA)) o)=putPair (keyA (acts.getD i dA)) (valA (acts.getD i dA)) (leavesO o):=putO_leaves h.2
  refine⟨⟨by show GrI acts m (i+1,_,leavesO (putO _ _ o));rw[e];exact g.1,by show Srt (leavesO (putO _ _ o));rw[e];exact h.2.put⟩,by omega⟩
theorem GrN.cutO (h:GrN acts m (i,o)) (hi:(i:Int)<acts.length) (hm:¬ (m:Int)≤i) (hk:¬ 90<((keyA (acts.getD i dA)).length:Int)) (h6:¬ (acts.getD i dA).kind % 6<4):GrN acts m (i+1,X.cutO (keyA (acts.getD i dA)) o)∧acts.length - (i+1)<acts.length - i:=by
  have g:=h.1.cut hi hm hk h6
  have e:leavesO (X.cutO (keyA (acts.getD i dA)) o)=cutPair (keyA (acts.getD i dA)) (leavesO o):=cutO_leaves h.2
  refine⟨⟨by show GrI acts m (i+1,_,leavesO (X.cutO _ o));rw[e];exact g.1,by show Srt (leavesO (X.cutO _ o));rw[e];exact h.2.cut⟩,by omega⟩
theorem GrN.cut (h:GrN acts m (i,o)) (hi:(i:Int)<acts.length) (hm:¬ (m:Int)≤i) (hk:¬ 90<((keyA (acts.getD i dA)).length:Int)) (h6:¬ (acts.getD i dA).kind % 6<4) (hf:0≤findP (leavesO o) (keyA (acts.getD i dA))):GrN acts m (i+1,cutR (keyA (acts.getD i dA)) (gt o))∧acts.length - (i+1)<acts.length - i:=by
  rw[(cut_there h.2 hf).2.2];exact h.cutO hi hm hk h6
theorem GrN.skip (h:GrN acts m (i,o)) (hi:(i:Int)<acts.length) (hm:¬ (m:Int)≤i) (hk:¬ 90<((keyA (acts.getD i dA)).length:Int)) (h6:¬ (acts.getD i dA).kind % 6<4) (hf:¬ 0≤findP (leavesO o) (keyA (acts.getD i dA))):GrN acts m (i+1,o)∧acts.length - (i+1)<acts.length - i:=by
  have:=h.cutO hi hm hk h6;rwa [cut_not h.2 hf] at this
theorem GrN.hh (h:GrN acts m (i,o)) (hm:m≤100):(gt o).height<700∧(leavesO o).length≤100000:=by
  obtain⟨⟨_,a2,_,a4,_⟩,_⟩:=h
  have a2:i≤m:=a2
  have l:=a4.leaves
  have l:(leavesO o).length≤i:=l
  refine⟨?_,by omega⟩
  cases o with
  | none=>decide
  | some t=>have:=(a4 t rfl).2;have:=t.height_depth;show t.height<700;have q:t.depth+1≤i:=(a4 t rfl).2;omega
end
section
variable {acts:List Act} {m i:Nat} {o:Option Tr}
theorem GrN.s1 (h:GrN acts m (i,o)) (hi:¬ (i:Int)<acts.length):(growT acts m).1=o:=by rw[h.1.stop1 hi]
theorem GrN.s2 (h:GrN acts m (i,o)) (hi:(m:Int)≤i):(growT acts m).1=o:=by rw[h.1.stop2 hi]
end
namespace Tr
theorem fin_mem (k:List UInt8):∀ t:Tr,(⟨(t.fin k).key,(t.fin k).value⟩:Pair)∈t.leaves
  | leaf a b=>List.mem_singleton_self _
  | node l r => by
    unfold fin;split
    · exact List.mem_append_right _ (fin_mem k r)
    · exact List.mem_append_left _ (fin_mem k l)
theorem fin_pair:∀ {t:Tr},Srt t.leaves→∀ {p:Pair},p∈t.leaves→(⟨(t.fin p.key).key,(t.fin p.key).value⟩:Pair)=p
  | leaf a b,_,p,hp=>(List.mem_singleton.1 hp).symm
  | node l r, h, p, hp => by
    have hl:Srt l.leaves:=(List.pairwise_append.1 h).1
    have hr:Srt r.leaves:=(List.pairwise_append.1 h).2.1
    unfold fin rt
    rcases List.mem_append.1 hp with hp | hp
    · have : klt p.key r.least := left_of h hp
      rw[if_neg (by show ¬ (decide (0≤Lib.compareBytes p.key r.least)=true);rw[decide_eq_true_eq];unfold klt at this;omega)];exact fin_pair hl hp
    · have : ¬ klt p.key r.least := right_of hr hp
      rw[if_pos (by show decide (0≤Lib.compareBytes p.key r.least)=true;rw[decide_eq_true_eq];unfold klt at this;omega)];exact fin_pair hr hp
theorem fin_key_iff {t:Tr} {k:List UInt8} (h:Srt t.leaves):(t.fin k).key=k↔∃ p∈t.leaves,p.key=k:=by
  constructor
  · intro e;exact⟨_,fin_mem k t,e⟩
  · rintro ⟨p,hp,rfl⟩;have:=fin_pair h hp;exact congrArg Pair.key this
end Tr
namespace Tr
end Tr
/-- Leaves as they come from calls. -/
def lvOk (l:List Pair):Prop:=∀ p∈l,(1≤p.key.length∧p.key.length≤90)∧p.value.length≤100
theorem growG_lv:∀(n:Nat) (acts:List Act) (s:Option Tr × List Pair),lvOk s.2→lvOk (growG n acts s).2
  | 0,acts,s,h=>by unfold growG;exact h
  | n+1,[],s,h=>by unfold growG;exact h
  | n + 1, a :: l, s, h => by
    unfold growG
    split
    · exact h
    · rename_i hk
      refine growG_lv n l _ ?_
      unfold stepA;split
      · intro p hp
        rcases mem_putPair hp with rfl | hp
        · exact⟨⟨keyA_pos a,by show(keyA a).length≤90;omega⟩,valA_len a⟩
        · exact h p hp
      · intro p hp;exact h p (List.mem_filter.1 hp).1
theorem growT_lv (acts:List Act) (m:Nat):lvOk (leavesO (growT acts m).1):=by rw[← (growT_ok acts m).2];exact growG_lv m acts _ (fun p hp=>by simp at hp)
theorem growG_okN:∀(n i:Nat) (acts:List Act) (s:Option Tr × List Pair),okN i s.1→okN (n+i) (growG n acts s).1
  | 0,i,acts,s,h=>by unfold growG;rw[Nat.zero_add];exact h
  | n+1,i,[],s,h=>by unfold growG;exact fun t e=>⟨(h t e).1,by have:=(h t e).2;omega⟩
  | n + 1, i, a :: l, s, h => by
    unfold growG
    split
    · exact fun t e=>⟨(h t e).1,by have:=(h t e).2;omega⟩
    · rename_i hk
      rw[show n+1+i=n+(i+1) by omega]
      refine growG_okN n (i+1) l _ ?_
      unfold stepA;split
      · exact okN.put h (by omega) (by have:=valA_len a;omega)
      · exact okN.cut h
theorem growT_okN (acts:List Act) (m:Nat):okN m (growT acts m).1:=by have:=growG_okN m 0 acts (none,[]) (fun t e=>by simp at e);exact this
/-- A tree as calls make it: sorted, small. -/
def fine (o:Option Tr):Prop:=Srt (leavesO o)∧lvOk (leavesO o)∧okN 64 o
theorem growT_fine (acts:List Act) (m:Nat) (hm:m≤64):fine (growT acts m).1:=⟨(growT_ok acts m).1,growT_lv acts m,fun t e=>⟨(growT_okN acts m t e).1,by have:=(growT_okN acts m t e).2;omega⟩⟩
theorem fine.O {o:Option Tr} (h:fine o):okO o:=h.2.2.O (by decide)
theorem getD_eq {L:List Pair} {j:Nat} (h:j<L.length):L.getD j dP=L[j]:=by rw[List.getD_eq_getElem?_getD,List.getElem?_eq_getElem h];rfl
theorem srt_at {L:List Pair} (hs:Srt L) {i j:Nat} (hi:i<j) (hj:j<L.length):klt (L.getD i dP).key (L.getD j dP).key:=by
  rw[getD_eq hj,getD_eq (by omega)];exact List.pairwise_iff_getElem.1 hs i j (by omega) hj hi
theorem cnt_at {L:List Pair} (hs:Srt L) {k:List UInt8} {i:Nat} (hi:i<L.length) (h:(L.getD i dP).key=k):cntB k (ksP L)=i:=by
  refine cnt_of (by rw[ksP_len];omega) (fun a ha=>?_) fun _=>?_
  · rw[ksP_get,← h];exact srt_at hs ha hi
  · rw[ksP_get,h];exact klt_irr _
theorem wk_t (ts:List Token) (hl:ts.length≤4000):∀(f:Nat) (ab:Int) (a:Nat) (fs:List Item),1≤ab→ab≤f→f≤900→a≤ts.length→fs.length≤a →
      FOk EN 96 ⟨[.pr wordsP,.rd 100 ts,.ow 190 fs,.bx 187 [.n 1,.i a,.n 2]],[.p 3 0,.i ab],Unit,fun _=>([.pr wordsP,.rd 100 ts,.no,.bx 187 [.n 1,.i (wkN ts f ab a fs).a,.n 5],.pn (PE (wkN ts f ab a fs).e) true (wkN ts f ab a fs).e.isNone,.ow 190 (wkN ts f ab a fs).fs],.t [.a [.h 32 (wkN ts f ab a fs).h],.n 4]),fun _=>True⟩
  | 0,ab,a,fs,h1,h2,_,_,_=>by omega
  | f+1,ab,a,fs,h1,h2,h3,ha,hf=>wk_aux f ts ab a fs ha hf hl h1 (by omega) fun ab' a' fs' h1' h2' ha' hf'=>wk_t ts hl f ab' a' fs' h1' (by omega) (by omega) ha' hf'
theorem wk65_ok (ts:List Token) (hl:ts.length≤4000):FOk EN 96 ⟨[.pr wordsP,.rd 100 ts,.ow 190 [],.bx 187 [.n 1,.i 0,.n 2]],[.p 3 0,.i 65],Unit,fun _=>([.pr wordsP,.rd 100 ts,.no,.bx 187 [.n 1,.i (wkN ts 65 65 0 []).a,.n 5],.pn (PE (wkN ts 65 65 0 []).e) true (wkN ts 65 65 0 []).e.isNone,.ow 190 (wkN ts 65 65 0 []).fs],.t [.a [.h 32 (wkN ts 65 65 0 []).h],.n 4]),fun _=>True⟩ :=
  wk_t ts hl 65 65 0 [] (by decide) (by decide) (by decide) (Nat.zero_le _) (Nat.le_refl _)
/-- do the leaves' keys rise? -/
def ordI:List UInt8→List Item→Bool
  | _,[]=>true
  | last,x::r=>if x.hidden=true then ordI last r else if 0≤Lib.compareBytes last x.key then false else ordI x.key r
def chkR (root:List UInt8) (ts:List Token):Option Er × List Item :=
  if 2048<(ts.length:Int) then(some (.step ((#[116,111,107,101,110,115]:Array UInt8).toList) ts.length (.num 3)),[])
  else if(ts.length:Int)=0∧root=sum256 [] then(none,[])
  else if(wkN ts 65 65 0 []).e.isNone=false then((wkN ts 65 65 0 []).e,[])
  else if((wkN ts 65 65 0 []).a:Int)<ts.length then(tokE (wkN ts 65 65 0 []).a 3,[])
  else if ¬ (wkN ts 65 65 0 []).h=root then(some (.step ((#[114,111,111,116]:Array UInt8).toList) 0 (.num 21)),[])
  else if ordI [] (wkN ts 65 65 0 []).fs=false then(some (.step ((#[111,114,100,101,114]:Array UInt8).toList) 0 (.num 5)),[])
  else(none,(wkN ts 65 65 0 []).fs)
def fo (r:Option Er × List Item):Option (List Item):=if r.1.isNone=true then some r.2 else none
def PFh (σ:Nat→Nat) (w:World):Option (List Item)→Value→Prop
  | none,v=>v=.pointer none
  | some fs,v=>∃ b o x,v=.pointer (some ⟨b,o,none⟩)∧Seg σ w b o [x]∧Rd (GT.Γ 190).T σ w x fs
def PF (o:Option (List Item)):PP:=⟨fun σ w v=>PFh σ w o v,fun {M σ w σ' w' v} st h=>by
  cases o with
  | none=>exact h
  | some t=>obtain⟨b,o,x,e,hs,ha⟩:=h;exact⟨b,o,x,e,hs.step st,ha.step st⟩⟩
theorem open_f (fs:List Item):Opens (G:=GT) (PF (some fs)) (fun _=>[.rd 190 fs]) (fun b=>[.n b]):=by
  rintro base σ w x ⟨b,o,y,e,h,ha⟩
  have hy:y.oneCell'=true:=by obtain⟨a,c,e,_⟩:=ha.form;rw[e];rfl
  refine⟨fun n=>if n=0 then y else .bool false,fun n=>by dsimp only;split;exact hy;rfl,fun ν hν=>⟨fun i en hi=>?_,b,o,e,?_⟩⟩
  · match i, hi with
    | 0,hi=>simp only[List.getElem?_cons_zero,Option.some.injEq] at hi;subst hi;exact ha
    | i+1,hi=>simp at hi
  · have e0 := hν 0 (by simp)
    simp only[Nat.add_zero,if_true] at e0
    simpa [denC,den,e0] using h
theorem close_f (fs:List Item):Closes (G:=GT) (PF (some fs)) [.rd 190 fs] [.n 0]:=by
  intro ν σ w x b hE e hS
  exact⟨b,0,ν 0,e,by simpa [denC,den] using hS,hE 0 _ rfl⟩
theorem close_f_any (o:Option (List Item)) (fs:List Item) (h:o=some fs):Closes (G:=GT) (PF o) [.rd 190 fs] [.n 0]:=by subst h;exact close_f fs
theorem al_f0 (o:Option (List Item)) (h:o=none):AlOk (G:=GT) (PF o) false o.isNone [] (.v (.pointer none)):=by subst h;exact al_nil (i:=false) (fun _ _=>rfl)
section
variable {root:List UInt8} {ts:List Token}
abbrev wkR (ts:List Token):WR:=wkN ts 65 65 0 []
theorem ck1 (h:2048<(ts.length:Int)):chkR root ts=(some (.step ((#[116,111,107,101,110,115]:Array UInt8).toList) ts.length (.num 3)),[]):=by unfold chkR;rw[if_pos h]
theorem ck2 (h:¬ 2048<(ts.length:Int)) (h1:(ts.length:Int)=0) (h2:root=sum256 []):chkR root ts=(none,[]):=by unfold chkR;rw[if_neg h,if_pos ⟨h1,h2⟩]
theorem ck3 (h:¬ 2048<(ts.length:Int)) (h1:¬ ((ts.length:Int)=0∧root=sum256 [])) (h2:(wkR ts).e.isNone=false):chkR root ts=((wkR ts).e,[]):=by unfold chkR;rw[if_neg h,if_neg h1,if_pos h2]
theorem ck4 (h:¬ 2048<(ts.length:Int)) (h1:¬ ((ts.length:Int)=0∧root=sum256 [])) (h2:(wkR ts).e.isNone=true) (h3:((wkR ts).a:Int)<ts.length):chkR root ts=(tokE (wkR ts).a 3,[]):=by
  unfold chkR;rw[if_neg h,if_neg h1,if_neg (by rw[h2];decide),if_pos h3]
theorem ck5 (h:¬ 2048<(ts.length:Int)) (h1:¬ ((ts.length:Int)=0∧root=sum256 [])) (h2:(wkR ts).e.isNone=true) (h3:¬ ((wkR ts).a:Int)<ts.length) (h4:¬ (wkR ts).h=root):chkR root ts=(some (.step ((#[114,111,111,116]:Array UInt8).toList) 0 (.num 21)),[]):=by
  unfold chkR;rw[if_neg h,if_neg h1,if_neg (by rw[h2];decide),if_neg h3,if_pos h4]
theorem ck6 (h:¬ 2048<(ts.length:Int)) (h1:¬ ((ts.length:Int)=0∧root=sum256 [])) (h2:(wkR ts).e.isNone=true) (h3:¬ ((wkR ts).a:Int)<ts.length) (h4:(wkR ts).h=root) (h5:ordI [] (wkR ts).fs=false):chkR root ts=(some (.step ((#[111,114,100,101,114]:Array UInt8).toList) 0 (.num 5)),[]):=by
  unfold chkR;rw[if_neg h,if_neg h1,if_neg (by rw[h2];decide),if_neg h3,if_neg (fun e=>e h4),if_pos h5]
theorem ck7 (h:¬ 2048<(ts.length:Int)) (h1:¬ ((ts.length:Int)=0∧root=sum256 [])) (h2:(wkR ts).e.isNone=true) (h3:¬ ((wkR ts).a:Int)<ts.length) (h4:(wkR ts).h=root) (h5:ordI [] (wkR ts).fs=true):chkR root ts=(none,(wkR ts).fs):=by
  unfold chkR;rw[if_neg h,if_neg h1,if_neg (by rw[h2];decide),if_neg h3,if_neg (fun e=>e h4),if_neg (by rw[h5];decide)]
theorem fo3 (h:¬ 2048<(ts.length:Int)) (h1:¬ ((ts.length:Int)=0∧root=sum256 [])) (h2:(wkR ts).e.isNone=false):fo (chkR root ts)=none:=by
  rw[ck3 h h1 h2];unfold fo;rw[if_neg (by show ¬ (wkR ts).e.isNone=true;rw[h2];decide)]
end
abbrev dI:Item:=⟨false,[],[]⟩
def OrI (fs:List Item) (q:Nat × List UInt8):Prop:=ordI q.2 (fs.drop q.1)=ordI [] fs∧q.1≤fs.length
def oiS (fs:List Item) (q:Nat × List UInt8):Nat × List UInt8:=(q.1+1,if(fs.getD q.1 dI).hidden=true then q.2 else(fs.getD q.1 dI).key)
section
variable {fs:List Item} {q:Nat × List UInt8}
theorem drop_item (hi:(q.1:Int)<fs.length):fs.drop q.1=fs.getD q.1 dI::fs.drop (q.1+1):=by
  have h:q.1<fs.length:=by omega
  rw[List.drop_eq_getElem_cons h,List.getD_eq_getElem?_getD,List.getElem?_eq_getElem h];rfl
theorem OrI.start:OrI fs (0,[]):=⟨rfl,Nat.zero_le _⟩
theorem OrI.nextH (h:OrI fs q) (hi:(q.1:Int)<fs.length) (hh:(fs.getD (q.1:Int).toNat dI).hidden=true):OrI fs (oiS fs q)∧fs.length - (oiS fs q).1<fs.length - q.1:=by
  rw[Int.toNat_natCast] at hh
  refine⟨⟨?_,by show q.1+1≤_;omega⟩,by show fs.length - (q.1+1)<_;omega⟩
  rw[← h.1,drop_item hi];unfold oiS;rw[ordI,if_pos hh,if_pos hh]
theorem OrI.nextN (h:OrI fs q) (hi:(q.1:Int)<fs.length) (hh:(fs.getD (q.1:Int).toNat dI).hidden=false) (hc:¬ 0≤Lib.compareBytes q.2 (fs.getD (q.1:Int).toNat dI).key):OrI fs (oiS fs q)∧fs.length - (oiS fs q).1<fs.length - q.1:=by
  rw[Int.toNat_natCast] at hh hc
  refine⟨⟨?_,by show q.1+1≤_;omega⟩,by show fs.length - (q.1+1)<_;omega⟩
  rw[← h.1,drop_item hi];unfold oiS;rw[ordI,if_neg (by rw[hh];decide),if_neg hc,if_neg (by rw[hh];decide)]
theorem OrI.bad (h:OrI fs q) (hi:(q.1:Int)<fs.length) (hh:(fs.getD (q.1:Int).toNat dI).hidden=false) (hc:0≤Lib.compareBytes q.2 (fs.getD (q.1:Int).toNat dI).key):ordI [] fs=false:=by
  rw[Int.toNat_natCast] at hh hc
  rw[← h.1,drop_item hi,ordI,if_neg (by rw[hh];decide),if_pos hc]
theorem OrI.end (h:OrI fs q) (hi:¬ (q.1:Int)<fs.length):ordI [] fs=true:=by
  rw[← h.1,List.drop_of_length_le (by omega)];rfl
theorem oiH (hh:(fs.getD (q.1:Int).toNat dI).hidden=true):q.2=(oiS fs q).2:=by rw[Int.toNat_natCast] at hh;unfold oiS;rw[if_pos hh]
theorem oiN (hh:(fs.getD (q.1:Int).toNat dI).hidden=false):(fs.getD (q.1:Int).toNat dI).key=(oiS fs q).2:=by rw[Int.toNat_natCast] at *;unfold oiS;rw[if_neg (by rw[hh];decide)]
end
noncomputable def ccM7_50:Code:=(Tryd.f50.body).getD .skip
theorem Check_ok (root:List UInt8) (ts:List Token) (hr:root.length=32) (hl:ts.length≤100000):FOk EN 50 ⟨[.pr wordsP,.rd 100 ts],[.a [.h 32 root],.n 1],Unit,fun _=>([.pr wordsP,.rd 100 ts,.pn (PF (fo (chkR root ts))) false (fo (chkR root ts)).isNone,.pn (PE (chkR root ts).1) true (chkR root ts).1.isNone],.t [.n 2,.n 3]),fun _=>True⟩:=by
 refine v_fun Tryd.f50 ccM7_50 MX (fun ν F σ w=>?_) Tryd.func50
 refine v_nl ?_
 refine v_if (decide (2048<(↑ts.length:Int))) True trivial (fun h1=>?_) (fun h1=>?_)
 ·have h1:=of_decide_eq_true h1
  refine v_al [] (al_e1 (3)) True trivial ?_
  refine v_call _ [4] (faultAt_ok (#[116,111,107,101,110,115].toList) (↑ts.length) (Er.num 3)) ((#[(116:UInt8),(111:UInt8),(107:UInt8),(101:UInt8),(110:UInt8),(115:UInt8)].toList=#[(116:UInt8),(111:UInt8),(107:UInt8),(101:UInt8),(110:UInt8),(115:UInt8)].toList)∧((↑ts.length:Int)=(↑ts.length:Int))∧((3:Int)=(3:Int))∧(PE (some (Er.num 3))=PE (some (Er.num 3)))∧(false=false)) ⟨rfl,rfl,rfl,rfl,rfl⟩ (fun g2 p3=>?_)
  have p3:True:=p3
  refine v_al [] (al_f0 (fo (chkR root ts)) (by(rw[ck1 ‹_›] <;> rfl))) True trivial ?_
  exact v_ret () [6,5] ((wordsP=wordsP)∧(ts=ts)∧(PF (fo (chkR root ts))=PF (fo (chkR root ts)))∧((fo (chkR root ts)).isNone=(fo (chkR root ts)).isNone)∧(PE (some (Er.step #[116,111,107,101,110,115].toList (↑ts.length) (Er.num 3)))=PE (chkR root ts).fst)∧(false=(chkR root ts).fst.isNone)) ⟨rfl,rfl,rfl,rfl,(by(rw[ck1 ‹_›] <;> rfl)),(by(rw[ck1 ‹_›] <;> rfl))⟩ trivial
 ·have h1:=of_decide_eq_false h1
  refine v_plan (.fs [0,1,2,3,4] (.o 5 (.fs [6,7,8] .e))) [3] True trivial ?_
  refine v_guard 24 (decide ((↑ts.length:Int)=0)) True trivial (fun h4=>?_) (fun h4=>?_)
  ·have h4:=of_decide_eq_true h4
   refine v_call _ [0] (Empty_ok) ((wordsP=wordsP)) rfl (fun g5 p6=>?_)
   have p6:True:=p6
   refine v_if (decide (root=sum256 [])) ((EN.P.eqGuardType EN.P.depth (52:Nat)=false)∧(root.length=32)∧((sum256 []).length=32)) ⟨rfl,‹_›,rfl⟩ (fun h7=>?_) (fun h7=>?_)
   ·have h7:=of_decide_eq_true h7
    refine v_close 4 [2] (close_f_any (fo (chkR root ts)) ([]) (by(rw[ck2 ‹_› ‹_› ‹_›] <;> rfl))) ((Eq (α:=List Item) [] [])) rfl ?_
    refine v_al [4] (al_ptr (PF (fo (chkR root ts)))) ((PLe (PF (fo (chkR root ts))) (PF (fo (chkR root ts))))∧(false=false)) ⟨fun _ _ _ h=>h,rfl⟩ ?_
    refine v_al [] (al_e0 ((chkR root ts).fst) (by(rw[ck2 ‹_› ‹_› ‹_›] <;> rfl))) True trivial ?_
    exact v_ret () [5,6] ((wordsP=wordsP)∧(ts=ts)∧(PF (fo (chkR root ts))=PF (fo (chkR root ts)))∧(false=(fo (chkR root ts)).isNone)∧(PE (chkR root ts).fst=PE (chkR root ts).fst)∧((chkR root ts).fst.isNone=(chkR root ts).fst.isNone)) ⟨rfl,rfl,rfl,(by(rw[ck2 ‹_› ‹_› ‹_›] <;> rfl)),rfl,rfl⟩ trivial
   ·have h7:=of_decide_eq_false h7
    refine v_call _ [0,1,2,4] (wk65_ok (ts) (by omega)) (((65:Int)=(65:Int))∧(wordsP=wordsP)∧(ts=ts)∧(Eq (α:=List Item) [] [])∧((0:Int)=(0:Int))) ⟨rfl,rfl,rfl,rfl,rfl⟩ (fun g8 p9=>?_)
    have p9:True:=p9
    refine v_run True trivial ?_
    refine v_nl ?_
    refine v_if (!(wkN ts 65 65 0 []).e.isNone) True trivial (fun h10=>?_) (fun h10=>?_)
    ·have h10:=(nt h10)
     refine v_al [] (al_f0 (fo (chkR root ts)) (by exact fo3 ‹_› (by first | exact fun e=>absurd e.1 ‹_› | exact fun e=>absurd e.2 ‹_›) ‹_›)) True trivial ?_
     exact v_ret () [9,5] ((wordsP=wordsP)∧(ts=ts)∧(PF (fo (chkR root ts))=PF (fo (chkR root ts)))∧((fo (chkR root ts)).isNone=(fo (chkR root ts)).isNone)∧(PE (wkN ts 65 65 0 []).e=PE (chkR root ts).fst)∧((wkN ts 65 65 0 []).e.isNone=(chkR root ts).fst.isNone)) ⟨rfl,rfl,rfl,rfl,(by(rw[ck3 ‹_› (by first | exact fun e=>absurd e.1 ‹_› | exact fun e=>absurd e.2 ‹_›) ‹_›] <;> first | rfl | assumption)),(by(rw[ck3 ‹_› (by first | exact fun e=>absurd e.1 ‹_› | exact fun e=>absurd e.2 ‹_›) ‹_›] <;> first | rfl | assumption))⟩ trivial
    ·have h10:=(nf h10)
     refine v_if (decide ((↑(wkN ts 65 65 0 []).a:Int)<(↑ts.length:Int))) True trivial (fun h11=>?_) (fun h11=>?_)
     ·have h11:=of_decide_eq_true h11
      omega
     ·have h11:=of_decide_eq_false h11
      refine v_if (!decide ((wkN ts 65 65 0 []).h=root)) ((EN.P.eqGuardType EN.P.depth (52:Nat)=false)∧((wkN ts 65 65 0 []).h.length=32)∧(root.length=32)) ⟨rfl,(by exact(wk_inv ts 65 65 0 [] (Nat.zero_le _) (Nat.le_refl _)).2.2),‹_›⟩ (fun h12=>?_) (fun h12=>?_)
      ·have h12:=of_decide_eq_false (nt h12)
       refine v_al [] (al_e1 (21)) True trivial ?_
       refine v_call _ [9] (faultAt_ok (#[114,111,111,116].toList) (0) (Er.num 21)) ((#[(114:UInt8),(111:UInt8),(111:UInt8),(116:UInt8)].toList=#[(114:UInt8),(111:UInt8),(111:UInt8),(116:UInt8)].toList)∧((0:Int)=(0:Int))∧((21:Int)=(21:Int))∧(PE (some (Er.num 21))=PE (some (Er.num 21)))∧(false=false)) ⟨rfl,rfl,rfl,rfl,rfl⟩ (fun g13 p14=>?_)
       have p14:True:=p14
       refine v_al [] (al_f0 (fo (chkR root ts)) (by(rw[ck5 ‹_› (by first | exact fun e=>absurd e.1 ‹_› | exact fun e=>absurd e.2 ‹_›) ‹_› ‹_› ‹_›] <;> rfl))) True trivial ?_
       exact v_ret () [11,10] ((wordsP=wordsP)∧(ts=ts)∧(PF (fo (chkR root ts))=PF (fo (chkR root ts)))∧((fo (chkR root ts)).isNone=(fo (chkR root ts)).isNone)∧(PE (some (Er.step #[114,111,111,116].toList 0 (Er.num 21)))=PE (chkR root ts).fst)∧(false=(chkR root ts).fst.isNone)) ⟨rfl,rfl,rfl,rfl,(by(rw[ck5 ‹_› (by first | exact fun e=>absurd e.1 ‹_› | exact fun e=>absurd e.2 ‹_›) ‹_› ‹_› ‹_›] <;> rfl)),(by(rw[ck5 ‹_› (by first | exact fun e=>absurd e.1 ‹_› | exact fun e=>absurd e.2 ‹_›) ‹_› ‹_› ‹_›] <;> rfl))⟩ trivial
      ·have h12:=of_decide_eq_true (nf h12)
       refine v_loop (fun q:Nat × List UInt8=>([(68,.i q.1),(9,.n 9)],[.rd 5 (q.2)])) (fun q=>OrI (wkR ts).fs q) (fun q=>(wkR ts).fs.length - q.1) (0,[]) [8] (((0:Int)=(↑(0:Nat):Int))∧(Eq (α:=List UInt8) [] [])) ⟨rfl,rfl⟩ (by exact⟨rfl,Nat.zero_le _⟩) (fun q hk15=>?_)
       refine v_if (decide ((↑q.fst:Int)<(↑(wkN ts 65 65 0 []).fs.length:Int))) True trivial (fun h16=>?_) (fun h16=>?_)
       ·have h16:=of_decide_eq_true h16
        refine v_if (((wkN ts 65 65 0 []).fs.getD (↑q.fst:Int).toNat (Item.mk false [] [])).hidden) ((0≤(↑q.fst:Int)∧(↑q.fst:Int)<(↑(wkN ts 65 65 0 []).fs.length:Int))) (by omega) (fun h17=>?_) (fun h17=>?_)
        ·skip
         exact v_back (oiS (wkR ts).fs q) [9] ((I64 (↑q.fst+1))∧((↑q.fst:Int)+1=(↑(oiS (wkR ts).fs q).fst:Int))∧(q.snd=(oiS (wkR ts).fs q).snd)) ⟨(by(have hw:=wk_inv ts 65 65 0 [] (Nat.zero_le _) (Nat.le_refl _);first | omega | (unfold I64;omega))),rfl,(by exact oiH ‹_›)⟩ (show OrI (wkR ts).fs (oiS (wkR ts).fs q)∧(wkR ts).fs.length - (oiS (wkR ts).fs q).fst<(wkR ts).fs.length - q.fst from(by exact OrI.nextH ‹_› ‹_› ‹_›))
        ·skip
         refine v_call _ [9,10] (bcmp_ok (q.snd) (((wkN ts 65 65 0 []).fs.getD (↑q.fst:Int).toNat (Item.mk false [] [])).key)) ((q.snd=q.snd)∧(((wkN ts 65 65 0 []).fs.getD (↑q.fst:Int).toNat (Item.mk false [] [])).key=((wkN ts 65 65 0 []).fs.getD (↑q.fst:Int).toNat (Item.mk false [] [])).key)) ⟨rfl,rfl⟩ (fun g18 p19=>?_)
         have p19:True:=p19
         refine v_if (decide (0≤Lib.compareBytes q.snd ((wkN ts 65 65 0 []).fs.getD (↑q.fst:Int).toNat (Item.mk false [] [])).key)) True trivial (fun h20=>?_) (fun h20=>?_)
         ·have h20:=of_decide_eq_true h20
          refine v_al [] (al_e1 (5)) True trivial ?_
          refine v_call _ [14] (faultAt_ok (#[111,114,100,101,114].toList) (0) (Er.num 5)) ((#[(111:UInt8),(114:UInt8),(100:UInt8),(101:UInt8),(114:UInt8)].toList=#[(111:UInt8),(114:UInt8),(100:UInt8),(101:UInt8),(114:UInt8)].toList)∧((0:Int)=(0:Int))∧((5:Int)=(5:Int))∧(PE (some (Er.num 5))=PE (some (Er.num 5)))∧(false=false)) ⟨rfl,rfl,rfl,rfl,rfl⟩ (fun g21 p22=>?_)
          have p22:True:=p22
          refine v_leave .rt True trivial ?_
          refine v_al [] (al_f0 (fo (chkR root ts)) (by(rw[ck6 ‹_› (by first | exact fun e=>absurd e.1 ‹_› | exact fun e=>absurd e.2 ‹_›) ‹_› ‹_› ‹_› ((‹OrI (wkR ts).fs q›).bad ‹_› ‹_› ‹_›)] <;> rfl))) True trivial ?_
          exact v_ret () [16,15] ((wordsP=wordsP)∧(ts=ts)∧(PF (fo (chkR root ts))=PF (fo (chkR root ts)))∧((fo (chkR root ts)).isNone=(fo (chkR root ts)).isNone)∧(PE (some (Er.step #[111,114,100,101,114].toList 0 (Er.num 5)))=PE (chkR root ts).fst)∧(false=(chkR root ts).fst.isNone)) ⟨rfl,rfl,rfl,rfl,(by(rw[ck6 ‹_› (by first | exact fun e=>absurd e.1 ‹_› | exact fun e=>absurd e.2 ‹_›) ‹_› ‹_› ‹_› ((‹OrI (wkR ts).fs q›).bad ‹_› ‹_› ‹_›)] <;> rfl)),(by(rw[ck6 ‹_› (by first | exact fun e=>absurd e.1 ‹_› | exact fun e=>absurd e.2 ‹_›) ‹_› ‹_› ‹_› ((‹OrI (wkR ts).fs q›).bad ‹_› ‹_› ‹_›)] <;> rfl))⟩ trivial
         ·have h20:=of_decide_eq_false h20
          exact v_back (oiS (wkR ts).fs q) [10] ((I64 (↑q.fst+1))∧((↑q.fst:Int)+1=(↑(oiS (wkR ts).fs q).fst:Int))∧(((wkN ts 65 65 0 []).fs.getD (↑q.fst:Int).toNat (Item.mk false [] [])).key=(oiS (wkR ts).fs q).snd)) ⟨(by(have hw:=wk_inv ts 65 65 0 [] (Nat.zero_le _) (Nat.le_refl _);first | omega | (unfold I64;omega))),rfl,(by exact oiN ‹_›)⟩ (show OrI (wkR ts).fs (oiS (wkR ts).fs q)∧(wkR ts).fs.length - (oiS (wkR ts).fs q).fst<(wkR ts).fs.length - q.fst from(by exact OrI.nextN ‹_› ‹_› ‹_› ‹_›))
       ·have h16:=of_decide_eq_false h16
        refine v_leave (.ex 2) True trivial ?_
        refine v_close 10 [6] (close_f_any (fo (chkR root ts)) ((wkN ts 65 65 0 []).fs) (by(rw[ck7 ‹_› (by first | exact fun e=>absurd e.1 ‹_› | exact fun e=>absurd e.2 ‹_›) ‹_› ‹_› ‹_› ((‹OrI (wkR ts).fs q›).end ‹_›)] <;> rfl))) (((wkN ts 65 65 0 []).fs=(wkN ts 65 65 0 []).fs)) rfl ?_
        refine v_al [10] (al_ptr (PF (fo (chkR root ts)))) ((PLe (PF (fo (chkR root ts))) (PF (fo (chkR root ts))))∧(false=false)) ⟨fun _ _ _ h=>h,rfl⟩ ?_
        refine v_al [] (al_e0 ((chkR root ts).fst) (by(rw[ck7 ‹_› (by first | exact fun e=>absurd e.1 ‹_› | exact fun e=>absurd e.2 ‹_›) ‹_› ‹_› ‹_› ((‹OrI (wkR ts).fs q›).end ‹_›)] <;> rfl))) True trivial ?_
        exact v_ret () [11,12] ((wordsP=wordsP)∧(ts=ts)∧(PF (fo (chkR root ts))=PF (fo (chkR root ts)))∧(false=(fo (chkR root ts)).isNone)∧(PE (chkR root ts).fst=PE (chkR root ts).fst)∧((chkR root ts).fst.isNone=(chkR root ts).fst.isNone)) ⟨rfl,rfl,rfl,(by(rw[ck7 ‹_› (by first | exact fun e=>absurd e.1 ‹_› | exact fun e=>absurd e.2 ‹_›) ‹_› ‹_› ‹_› ((‹OrI (wkR ts).fs q›).end ‹_›)] <;> rfl)),rfl,rfl⟩ trivial
  ·have h4:=of_decide_eq_false h4
   refine v_call _ [0,1,2,4] (wk65_ok (ts) (by omega)) (((65:Int)=(65:Int))∧(wordsP=wordsP)∧(ts=ts)∧(Eq (α:=List Item) [] [])∧((0:Int)=(0:Int))) ⟨rfl,rfl,rfl,rfl,rfl⟩ (fun g23 p24=>?_)
   have p24:True:=p24
   refine v_run True trivial ?_
   refine v_nl ?_
   refine v_if (!(wkN ts 65 65 0 []).e.isNone) True trivial (fun h25=>?_) (fun h25=>?_)
   ·have h25:=(nt h25)
    refine v_al [] (al_f0 (fo (chkR root ts)) (by exact fo3 ‹_› (by first | exact fun e=>absurd e.1 ‹_› | exact fun e=>absurd e.2 ‹_›) ‹_›)) True trivial ?_
    exact v_ret () [9,5] ((wordsP=wordsP)∧(ts=ts)∧(PF (fo (chkR root ts))=PF (fo (chkR root ts)))∧((fo (chkR root ts)).isNone=(fo (chkR root ts)).isNone)∧(PE (wkN ts 65 65 0 []).e=PE (chkR root ts).fst)∧((wkN ts 65 65 0 []).e.isNone=(chkR root ts).fst.isNone)) ⟨rfl,rfl,rfl,rfl,(by(rw[ck3 ‹_› (by first | exact fun e=>absurd e.1 ‹_› | exact fun e=>absurd e.2 ‹_›) ‹_›] <;> first | rfl | assumption)),(by(rw[ck3 ‹_› (by first | exact fun e=>absurd e.1 ‹_› | exact fun e=>absurd e.2 ‹_›) ‹_›] <;> first | rfl | assumption))⟩ trivial
   ·have h25:=(nf h25)
    refine v_if (decide ((↑(wkN ts 65 65 0 []).a:Int)<(↑ts.length:Int))) True trivial (fun h26=>?_) (fun h26=>?_)
    ·have h26:=of_decide_eq_true h26
     refine v_al [] (al_e1 (3)) True trivial ?_
     refine v_call _ [9] (faultAt_ok (#[116,111,107,101,110].toList) (↑(wkN ts 65 65 0 []).a) (Er.num 3)) ((#[(116:UInt8),(111:UInt8),(107:UInt8),(101:UInt8),(110:UInt8)].toList=#[(116:UInt8),(111:UInt8),(107:UInt8),(101:UInt8),(110:UInt8)].toList)∧((↑(wkN ts 65 65 0 []).a:Int)=(↑(wkN ts 65 65 0 []).a:Int))∧((3:Int)=(3:Int))∧(PE (some (Er.num 3))=PE (some (Er.num 3)))∧(false=false)) ⟨rfl,rfl,rfl,rfl,rfl⟩ (fun g27 p28=>?_)
     have p28:True:=p28
     refine v_al [] (al_f0 (fo (chkR root ts)) (by(rw[ck4 ‹_› (by first | exact fun e=>absurd e.1 ‹_› | exact fun e=>absurd e.2 ‹_›) ‹_› ‹_›] <;> rfl))) True trivial ?_
     exact v_ret () [11,10] ((wordsP=wordsP)∧(ts=ts)∧(PF (fo (chkR root ts))=PF (fo (chkR root ts)))∧((fo (chkR root ts)).isNone=(fo (chkR root ts)).isNone)∧(PE (some (Er.step #[116,111,107,101,110].toList (↑(wkN ts 65 65 0 []).a) (Er.num 3)))=PE (chkR root ts).fst)∧(false=(chkR root ts).fst.isNone)) ⟨rfl,rfl,rfl,rfl,(by(rw[ck4 ‹_› (by first | exact fun e=>absurd e.1 ‹_› | exact fun e=>absurd e.2 ‹_›) ‹_› ‹_›] <;> rfl)),(by(rw[ck4 ‹_› (by first | exact fun e=>absurd e.1 ‹_› | exact fun e=>absurd e.2 ‹_›) ‹_› ‹_›] <;> rfl))⟩ trivial
    ·have h26:=of_decide_eq_false h26
     refine v_if (!decide ((wkN ts 65 65 0 []).h=root)) ((EN.P.eqGuardType EN.P.depth (52:Nat)=false)∧((wkN ts 65 65 0 []).h.length=32)∧(root.length=32)) ⟨rfl,(by exact(wk_inv ts 65 65 0 [] (Nat.zero_le _) (Nat.le_refl _)).2.2),‹_›⟩ (fun h29=>?_) (fun h29=>?_)
     ·have h29:=of_decide_eq_false (nt h29)
      refine v_al [] (al_e1 (21)) True trivial ?_
      refine v_call _ [9] (faultAt_ok (#[114,111,111,116].toList) (0) (Er.num 21)) ((#[(114:UInt8),(111:UInt8),(111:UInt8),(116:UInt8)].toList=#[(114:UInt8),(111:UInt8),(111:UInt8),(116:UInt8)].toList)∧((0:Int)=(0:Int))∧((21:Int)=(21:Int))∧(PE (some (Er.num 21))=PE (some (Er.num 21)))∧(false=false)) ⟨rfl,rfl,rfl,rfl,rfl⟩ (fun g30 p31=>?_)
      have p31:True:=p31
      refine v_al [] (al_f0 (fo (chkR root ts)) (by(rw[ck5 ‹_› (by first | exact fun e=>absurd e.1 ‹_› | exact fun e=>absurd e.2 ‹_›) ‹_› ‹_› ‹_›] <;> rfl))) True trivial ?_
      exact v_ret () [11,10] ((wordsP=wordsP)∧(ts=ts)∧(PF (fo (chkR root ts))=PF (fo (chkR root ts)))∧((fo (chkR root ts)).isNone=(fo (chkR root ts)).isNone)∧(PE (some (Er.step #[114,111,111,116].toList 0 (Er.num 21)))=PE (chkR root ts).fst)∧(false=(chkR root ts).fst.isNone)) ⟨rfl,rfl,rfl,rfl,(by(rw[ck5 ‹_› (by first | exact fun e=>absurd e.1 ‹_› | exact fun e=>absurd e.2 ‹_›) ‹_› ‹_› ‹_›] <;> rfl)),(by(rw[ck5 ‹_› (by first | exact fun e=>absurd e.1 ‹_› | exact fun e=>absurd e.2 ‹_›) ‹_› ‹_› ‹_›] <;> rfl))⟩ trivial
     ·have h29:=of_decide_eq_true (nf h29)
      refine v_loop (fun q:Nat × List UInt8=>([(68,.i q.1),(9,.n 9)],[.rd 5 (q.2)])) (fun q=>OrI (wkR ts).fs q) (fun q=>(wkR ts).fs.length - q.1) (0,[]) [8] (((0:Int)=(↑(0:Nat):Int))∧(Eq (α:=List UInt8) [] [])) ⟨rfl,rfl⟩ (by exact⟨rfl,Nat.zero_le _⟩) (fun q hk32=>?_)
      refine v_if (decide ((↑q.fst:Int)<(↑(wkN ts 65 65 0 []).fs.length:Int))) True trivial (fun h33=>?_) (fun h33=>?_)
      ·have h33:=of_decide_eq_true h33
       refine v_if (((wkN ts 65 65 0 []).fs.getD (↑q.fst:Int).toNat (Item.mk false [] [])).hidden) ((0≤(↑q.fst:Int)∧(↑q.fst:Int)<(↑(wkN ts 65 65 0 []).fs.length:Int))) (by omega) (fun h34=>?_) (fun h34=>?_)
       ·skip
        exact v_back (oiS (wkR ts).fs q) [9] ((I64 (↑q.fst+1))∧((↑q.fst:Int)+1=(↑(oiS (wkR ts).fs q).fst:Int))∧(q.snd=(oiS (wkR ts).fs q).snd)) ⟨(by(have hw:=wk_inv ts 65 65 0 [] (Nat.zero_le _) (Nat.le_refl _);first | omega | (unfold I64;omega))),rfl,(by exact oiH ‹_›)⟩ (show OrI (wkR ts).fs (oiS (wkR ts).fs q)∧(wkR ts).fs.length - (oiS (wkR ts).fs q).fst<(wkR ts).fs.length - q.fst from(by exact OrI.nextH ‹_› ‹_› ‹_›))
       ·skip
        refine v_call _ [9,10] (bcmp_ok (q.snd) (((wkN ts 65 65 0 []).fs.getD (↑q.fst:Int).toNat (Item.mk false [] [])).key)) ((q.snd=q.snd)∧(((wkN ts 65 65 0 []).fs.getD (↑q.fst:Int).toNat (Item.mk false [] [])).key=((wkN ts 65 65 0 []).fs.getD (↑q.fst:Int).toNat (Item.mk false [] [])).key)) ⟨rfl,rfl⟩ (fun g35 p36=>?_)
        have p36:True:=p36
        refine v_if (decide (0≤Lib.compareBytes q.snd ((wkN ts 65 65 0 []).fs.getD (↑q.fst:Int).toNat (Item.mk false [] [])).key)) True trivial (fun h37=>?_) (fun h37=>?_)
        ·have h37:=of_decide_eq_true h37
         refine v_al [] (al_e1 (5)) True trivial ?_
         refine v_call _ [14] (faultAt_ok (#[111,114,100,101,114].toList) (0) (Er.num 5)) ((#[(111:UInt8),(114:UInt8),(100:UInt8),(101:UInt8),(114:UInt8)].toList=#[(111:UInt8),(114:UInt8),(100:UInt8),(101:UInt8),(114:UInt8)].toList)∧((0:Int)=(0:Int))∧((5:Int)=(5:Int))∧(PE (some (Er.num 5))=PE (some (Er.num 5)))∧(false=false)) ⟨rfl,rfl,rfl,rfl,rfl⟩ (fun g38 p39=>?_)
         have p39:True:=p39
         refine v_leave .rt True trivial ?_
         refine v_al [] (al_f0 (fo (chkR root ts)) (by(rw[ck6 ‹_› (by first | exact fun e=>absurd e.1 ‹_› | exact fun e=>absurd e.2 ‹_›) ‹_› ‹_› ‹_› ((‹OrI (wkR ts).fs q›).bad ‹_› ‹_› ‹_›)] <;> rfl))) True trivial ?_
         exact v_ret () [16,15] ((wordsP=wordsP)∧(ts=ts)∧(PF (fo (chkR root ts))=PF (fo (chkR root ts)))∧((fo (chkR root ts)).isNone=(fo (chkR root ts)).isNone)∧(PE (some (Er.step #[111,114,100,101,114].toList 0 (Er.num 5)))=PE (chkR root ts).fst)∧(false=(chkR root ts).fst.isNone)) ⟨rfl,rfl,rfl,rfl,(by(rw[ck6 ‹_› (by first | exact fun e=>absurd e.1 ‹_› | exact fun e=>absurd e.2 ‹_›) ‹_› ‹_› ‹_› ((‹OrI (wkR ts).fs q›).bad ‹_› ‹_› ‹_›)] <;> rfl)),(by(rw[ck6 ‹_› (by first | exact fun e=>absurd e.1 ‹_› | exact fun e=>absurd e.2 ‹_›) ‹_› ‹_› ‹_› ((‹OrI (wkR ts).fs q›).bad ‹_› ‹_› ‹_›)] <;> rfl))⟩ trivial
        ·have h37:=of_decide_eq_false h37
         exact v_back (oiS (wkR ts).fs q) [10] ((I64 (↑q.fst+1))∧((↑q.fst:Int)+1=(↑(oiS (wkR ts).fs q).fst:Int))∧(((wkN ts 65 65 0 []).fs.getD (↑q.fst:Int).toNat (Item.mk false [] [])).key=(oiS (wkR ts).fs q).snd)) ⟨(by(have hw:=wk_inv ts 65 65 0 [] (Nat.zero_le _) (Nat.le_refl _);first | omega | (unfold I64;omega))),rfl,(by exact oiN ‹_›)⟩ (show OrI (wkR ts).fs (oiS (wkR ts).fs q)∧(wkR ts).fs.length - (oiS (wkR ts).fs q).fst<(wkR ts).fs.length - q.fst from(by exact OrI.nextN ‹_› ‹_› ‹_› ‹_›))
      ·have h33:=of_decide_eq_false h33
       refine v_leave (.ex 2) True trivial ?_
       refine v_close 10 [6] (close_f_any (fo (chkR root ts)) ((wkN ts 65 65 0 []).fs) (by(rw[ck7 ‹_› (by first | exact fun e=>absurd e.1 ‹_› | exact fun e=>absurd e.2 ‹_›) ‹_› ‹_› ‹_› ((‹OrI (wkR ts).fs q›).end ‹_›)] <;> rfl))) (((wkN ts 65 65 0 []).fs=(wkN ts 65 65 0 []).fs)) rfl ?_
       refine v_al [10] (al_ptr (PF (fo (chkR root ts)))) ((PLe (PF (fo (chkR root ts))) (PF (fo (chkR root ts))))∧(false=false)) ⟨fun _ _ _ h=>h,rfl⟩ ?_
       refine v_al [] (al_e0 ((chkR root ts).fst) (by(rw[ck7 ‹_› (by first | exact fun e=>absurd e.1 ‹_› | exact fun e=>absurd e.2 ‹_›) ‹_› ‹_› ‹_› ((‹OrI (wkR ts).fs q›).end ‹_›)] <;> rfl))) True trivial ?_
       exact v_ret () [11,12] ((wordsP=wordsP)∧(ts=ts)∧(PF (fo (chkR root ts))=PF (fo (chkR root ts)))∧(false=(fo (chkR root ts)).isNone)∧(PE (chkR root ts).fst=PE (chkR root ts).fst)∧((chkR root ts).fst.isNone=(chkR root ts).fst.isNone)) ⟨rfl,rfl,rfl,(by(rw[ck7 ‹_› (by first | exact fun e=>absurd e.1 ‹_› | exact fun e=>absurd e.2 ‹_›) ‹_› ‹_› ‹_› ((‹OrI (wkR ts).fs q›).end ‹_›)] <;> rfl)),rfl,rfl⟩ trivial
def getI (k:List UInt8):Bool→List Item→List UInt8 × Bool × Bool
  | ahead,[]=>([],false,ahead)
  | ahead,x::r=>if x.hidden=true then getI k false r else if Lib.compareBytes x.key k=0 then(x.value,true,true) else if 0<Lib.compareBytes x.key k then([],false,ahead) else getI k true r
def getF (o:Option (List Item)) (k:List UInt8):List UInt8 × Bool × Bool :=
  match o with
  | none=>([],false,false)
  | some fs=>if(k.length:Int)=0∨96<(k.length:Int) then([],false,false) else getI k true fs
noncomputable def ccM8_51:Code:=(Tryd.f51.body).getD .skip
theorem Get1_aux (k:List UInt8):FOk EN 51 ⟨[.pn (PF none) false true,.rd 5 (k)],[.n 0,.n 1],Unit,fun _=>([.pn (PF none) false true,.rd 5 (k),.rd 5 ([])],.t [.n 2,.b false,.b false]),fun _=>True⟩:=by
 refine v_fun Tryd.f51 ccM8_51 MX (fun ν F σ w=>?_) Tryd.func51
 refine v_nl ?_
 refine v_guard 13 (true) True trivial (fun h1=>?_) (fun h1=>?_)
 ·skip
  exact v_ret () [2] ((false=false)∧(false=false)∧(PF none=PF none)∧(true=true)∧(k=k)∧(Eq (α:=List UInt8) [] [])) ⟨rfl,rfl,rfl,rfl,rfl,rfl⟩ trivial
 ·skip
  contradiction
theorem gf1 {fs:List Item} {k:List UInt8} (h:(k.length:Int)=0∨96<(k.length:Int)):getF (some fs) k=([],false,false):=by unfold getF;dsimp only;rw[if_pos h]
theorem gf2 {fs:List Item} {k:List UInt8} (h:¬ (k.length:Int)=0) (h2:¬ 96<(k.length:Int)):getF (some fs) k=getI k true fs:=by unfold getF;dsimp only;rw[if_neg (fun e=>e.elim h h2)]
def GtI (fs:List Item) (k:List UInt8) (q:Nat × Bool):Prop:=getI k q.2 (fs.drop q.1)=getI k true fs∧q.1≤fs.length
section
variable {fs:List Item} {k:List UInt8} {q:Nat × Bool}
theorem drop_it {n:Nat} (hi:(n:Int)<fs.length):fs.drop n=fs.getD n dI::fs.drop (n+1):=drop_item (q:=(n,[])) hi
theorem GtI.start:GtI fs k (0,true):=⟨rfl,Nat.zero_le _⟩
theorem GtI.h (h:GtI fs k q) (hi:(q.1:Int)<fs.length) (hh:(fs.getD (q.1:Int).toNat dI).hidden=true):GtI fs k (q.1+1,false)∧fs.length - (q.1+1)<fs.length - q.1:=by
  rw[Int.toNat_natCast] at hh
  refine⟨⟨?_,by show q.1+1≤_;omega⟩,by omega⟩
  rw[← h.1,drop_it hi,getI,if_pos hh]
theorem GtI.n (h:GtI fs k q) (hi:(q.1:Int)<fs.length) (hh:(fs.getD (q.1:Int).toNat dI).hidden=false) (h0:¬ Lib.compareBytes (fs.getD (q.1:Int).toNat dI).key k=0) (h1:¬ 0<Lib.compareBytes (fs.getD (q.1:Int).toNat dI).key k):GtI fs k (q.1+1,true)∧fs.length - (q.1+1)<fs.length - q.1:=by
  rw[Int.toNat_natCast] at hh h0 h1
  refine⟨⟨?_,by show q.1+1≤_;omega⟩,by omega⟩
  rw[← h.1,drop_it hi,getI,if_neg (by rw[hh];decide),if_neg h0,if_neg h1]
theorem GtI.f (h:GtI fs k q) (hi:(q.1:Int)<fs.length) (hh:(fs.getD (q.1:Int).toNat dI).hidden=false) (h0:Lib.compareBytes (fs.getD (q.1:Int).toNat dI).key k=0):getI k true fs=((fs.getD (q.1:Int).toNat dI).value,true,true):=by
  rw[Int.toNat_natCast] at *
  rw[← h.1,drop_it hi,getI,if_neg (by rw[hh];decide),if_pos h0]
theorem GtI.b (h:GtI fs k q) (hi:(q.1:Int)<fs.length) (hh:(fs.getD (q.1:Int).toNat dI).hidden=false) (h0:¬ Lib.compareBytes (fs.getD (q.1:Int).toNat dI).key k=0) (h1:0<Lib.compareBytes (fs.getD (q.1:Int).toNat dI).key k):getI k true fs=([],false,q.2):=by
  rw[Int.toNat_natCast] at *
  rw[← h.1,drop_it hi,getI,if_neg (by rw[hh];decide),if_neg h0,if_pos h1]
theorem GtI.e (h:GtI fs k q) (hi:¬ (q.1:Int)<fs.length):getI k true fs=([],false,q.2):=by
  rw[← h.1,List.drop_of_length_le (by omega),getI]
theorem getD_val (hv:∀ x∈fs,x.value.length≤1000) {n:Nat}:(fs.getD n dI).value.length≤1000000:=by
  rw[List.getD_eq_getElem?_getD]
  cases h:fs[n]? with
  | none=>exact Nat.zero_le _
  | some x=>exact Nat.le_trans (hv x (List.mem_of_getElem? h)) (by decide)
end
theorem Get2_aux (fs:List Item) (k:List UInt8) (hl:fs.length≤100000) (hv:∀ x∈fs,x.value.length≤1000):FOk EN 51 ⟨[.pn (PF (some fs)) false false,.rd 5 (k)],[.n 0,.n 1],Unit,fun _=>([.pn (PF (some fs)) false false,.rd 5 (k),.rd 5 ((getF (some fs) k).1)],.t [.n 2,.b (getF (some fs) k).2.1,.b (getF (some fs) k).2.2]),fun _=>True⟩:=by
 refine v_fun Tryd.f51 ccM8_51 MX (fun ν F σ w=>?_) Tryd.func51
 refine v_nl ?_
 refine v_guard 13 (false) True trivial (fun h1=>?_) (fun h1=>?_)
 ·skip
  contradiction
 ·skip
  refine v_guard 18 (decide ((↑k.length:Int)=0)) True trivial (fun h2=>?_) (fun h2=>?_)
  ·have h2:=of_decide_eq_true h2
   exact v_ret () [2] ((false=(getF (some fs) k).snd.fst)∧(false=(getF (some fs) k).snd.snd)∧(PF (some fs)=PF (some fs))∧(false=false)∧(k=k)∧([]=(getF (some fs) k).fst)) ⟨(by(rw[gf1 (.inl ‹_›)] <;> rfl)),(by(rw[gf1 (.inl ‹_›)] <;> rfl)),rfl,rfl,rfl,(by(rw[gf1 (.inl ‹_›)] <;> rfl))⟩ trivial
  ·have h2:=of_decide_eq_false h2
   refine v_if (decide (96<(↑k.length:Int))) True trivial (fun h3=>?_) (fun h3=>?_)
   ·have h3:=of_decide_eq_true h3
    exact v_ret () [2] ((false=(getF (some fs) k).snd.fst)∧(false=(getF (some fs) k).snd.snd)∧(PF (some fs)=PF (some fs))∧(false=false)∧(k=k)∧([]=(getF (some fs) k).fst)) ⟨(by(rw[gf1 (.inr ‹_›)] <;> rfl)),(by(rw[gf1 (.inr ‹_›)] <;> rfl)),rfl,rfl,rfl,(by(rw[gf1 (.inr ‹_›)] <;> rfl))⟩ trivial
   ·have h3:=of_decide_eq_false h3
    refine v_open 0 (open_f (fs)) ((PF (some fs)=PF (some fs))) rfl ?_
    refine v_loop (fun q:Nat × Bool=>([(28,.i q.1),(7,.b q.2)],[])) (fun q=>GtI fs k q) (fun q=>fs.length - q.1) (0,true) [] (((0:Int)=(↑(0:Nat):Int))∧(true=true)) ⟨rfl,rfl⟩ (by exact⟨rfl,Nat.zero_le _⟩) (fun q hk4=>?_)
    refine v_if (decide ((↑q.fst:Int)<(↑fs.length:Int))) True trivial (fun h5=>?_) (fun h5=>?_)
    ·have h5:=of_decide_eq_true h5
     refine v_if ((fs.getD (↑q.fst:Int).toNat (Item.mk false [] [])).hidden) ((0≤(↑q.fst:Int)∧(↑q.fst:Int)<(↑fs.length:Int))) (by omega) (fun h6=>?_) (fun h6=>?_)
     ·skip
      exact v_back ((q.fst+1,false)) [] ((I64 (↑q.fst+1))∧((↑q.fst:Int)+1=(↑(q.fst+1):Int))∧(false=false)) ⟨(by(unfold I64;omega)),rfl,rfl⟩ (show GtI fs k (q.fst+1,false)∧fs.length - (q.fst+1)<fs.length - q.fst from(by exact GtI.h ‹_› ‹_› ‹_›))
     ·skip
      refine v_call _ [4,1] (bcmp_ok ((fs.getD (↑q.fst:Int).toNat (Item.mk false [] [])).key) (k)) (((fs.getD (↑q.fst:Int).toNat (Item.mk false [] [])).key=(fs.getD (↑q.fst:Int).toNat (Item.mk false [] [])).key)∧(k=k)) ⟨rfl,rfl⟩ (fun g7 p8=>?_)
      have p8:True:=p8
      refine v_if (decide (Lib.compareBytes (fs.getD (↑q.fst:Int).toNat (Item.mk false [] [])).key k=0)) True trivial (fun h9=>?_) (fun h9=>?_)
      ·have h9:=of_decide_eq_true h9
       refine v_call _ [5] (clone_ok ((fs.getD (↑q.fst:Int).toNat (Item.mk false [] [])).value) (by exact getD_val hv)) (((fs.getD (↑q.fst:Int).toNat (Item.mk false [] [])).value=(fs.getD (↑q.fst:Int).toNat (Item.mk false [] [])).value)) rfl (fun g10 p11=>?_)
       have p11:True:=p11
       refine v_leave .rt True trivial ?_
       exact v_ret () [8] ((true=(getF (some fs) k).snd.fst)∧(true=(getF (some fs) k).snd.snd)∧(PLe (PF (some fs)) (PF (some fs)))∧(false=false)∧(k=k)∧((fs.getD (↑q.fst:Int).toNat (Item.mk false [] [])).value=(getF (some fs) k).fst)) ⟨(by(rw[gf2 ‹_› ‹_›,GtI.f ‹_› ‹_› ‹_› ‹_›] <;> rfl)),(by(rw[gf2 ‹_› ‹_›,GtI.f ‹_› ‹_› ‹_› ‹_›] <;> rfl)),fun _ _ _ h=>h,rfl,rfl,(by(rw[gf2 ‹_› ‹_›,GtI.f ‹_› ‹_› ‹_› ‹_›] <;> rfl))⟩ trivial
      ·have h9:=of_decide_eq_false h9
       refine v_if (decide (0<Lib.compareBytes (fs.getD (↑q.fst:Int).toNat (Item.mk false [] [])).key k)) True trivial (fun h12=>?_) (fun h12=>?_)
       ·have h12:=of_decide_eq_true h12
        refine v_leave (.ex 0) True trivial ?_
        exact v_ret () [2] ((false=(getF (some fs) k).snd.fst)∧(q.snd=(getF (some fs) k).snd.snd)∧(PLe (PF (some fs)) (PF (some fs)))∧(false=false)∧(k=k)∧([]=(getF (some fs) k).fst)) ⟨(by(rw[gf2 ‹_› ‹_›,GtI.b ‹_› ‹_› ‹_› ‹_› ‹_›] <;> rfl)),(by(rw[gf2 ‹_› ‹_›,GtI.b ‹_› ‹_› ‹_› ‹_› ‹_›] <;> rfl)),fun _ _ _ h=>h,rfl,rfl,(by(rw[gf2 ‹_› ‹_›,GtI.b ‹_› ‹_› ‹_› ‹_› ‹_›] <;> rfl))⟩ trivial
       ·have h12:=of_decide_eq_false h12
        exact v_back ((q.fst+1,true)) [] ((I64 (↑q.fst+1))∧((↑q.fst:Int)+1=(↑(q.fst+1):Int))∧(true=true)) ⟨(by(unfold I64;omega)),rfl,rfl⟩ (show GtI fs k (q.fst+1,true)∧fs.length - (q.fst+1)<fs.length - q.fst from(by exact GtI.n ‹_› ‹_› ‹_› ‹_› ‹_›))
    ·have h5:=of_decide_eq_false h5
     refine v_leave (.ex 0) True trivial ?_
     exact v_ret () [2] ((false=(getF (some fs) k).snd.fst)∧(q.snd=(getF (some fs) k).snd.snd)∧(PLe (PF (some fs)) (PF (some fs)))∧(false=false)∧(k=k)∧([]=(getF (some fs) k).fst)) ⟨(by(rw[gf2 ‹_› ‹_›,GtI.e ‹_› ‹_›] <;> rfl)),(by(rw[gf2 ‹_› ‹_›,GtI.e ‹_› ‹_›] <;> rfl)),fun _ _ _ h=>h,rfl,rfl,(by(rw[gf2 ‹_› ‹_›,GtI.e ‹_› ‹_›] <;> rfl))⟩ trivial
theorem Get_ok (o:Option (List Item)) (k:List UInt8) (hl:(o.getD []).length≤100000) (hv:∀ x∈o.getD [],x.value.length≤1000):FOk EN 51 ⟨[.pn (PF o) false o.isNone,.rd 5 (k)],[.n 0,.n 1],Unit,fun _=>([.pn (PF o) false o.isNone,.rd 5 (k),.rd 5 ((getF o k).1)],.t [.n 2,.b (getF o k).2.1,.b (getF o k).2.2]),fun _=>True⟩:=by
  cases o with
  | none=>exact Get1_aux k
  | some fs=>exact Get2_aux fs k hl hv
namespace Tr
def its:Tr→List (List UInt8)→List Item
  | leaf k v,w=>if w.isEmpty then[⟨true,[],[]⟩] else[⟨false,k,v⟩]
  | node l r,w=>if w.isEmpty then[⟨true,[],[]⟩] else l.its (w.take (cntB r.least w))++r.its (w.drop (cntB r.least w))
end Tr
theorem nsum_nk {h:Int} (h0:¬ h=0) (s:UInt64) (k v l r:List UInt8):nsum h s [] [] l r=nsum h s k v l r:=by unfold nsum;rw[if_neg h0,if_neg h0]
theorem getD_mid {pre post:List Token} {x:Token}:(pre++x::post).getD pre.length kT0=x:=by simp
theorem len_mid {pre post:List Token} {x:Token}:¬ ((pre++x::post).length:Int)≤(pre.length:Int):=by simp;omega
theorem wk_hid {pre post:List Token} (h:List UInt8) (hl:h.length=32) (f:Nat) (ab:Int) (fs:List Item):wkN (pre++kHid h::post) (f+1) ab pre.length fs=⟨h,none,pre.length+1,fs++[⟨true,[],[]⟩]⟩:=by
  unfold wkN;rw[if_neg len_mid,getD_mid,if_pos (show(kHid h).kind=1 from rfl)]
  show WR.mk (mk32 h).l none _ _=_
  rw[mk32_of hl]
theorem wk_lf {pre post:List Token} (k v:List UInt8) (hk:1≤k.length∧k.length≤96) (hv:v.length≤256) (f:Nat) (ab:Int) (fs:List Item):wkN (pre++kLeaf k v::post) (f+1) ab pre.length fs=⟨nsum 0 1 k v z32 z32,none,pre.length+1,fs++[⟨false,k,v⟩]⟩:=by
  unfold wkN;rw[if_neg len_mid,getD_mid,if_neg (by show ¬ (2:UInt8)=1;decide),if_pos (show(kLeaf k v).kind=2 from rfl),if_neg (by show ¬ ((k.length:Int)=0∨96<(k.length:Int)∨256<(v.length:Int));omega)]
  rfl
theorem wk_in {pre post:List Token} (h:Int) (s:UInt64) (f:Nat) (ab:Int) (fs:List Item) (h1:1≤h) (h2:h<ab) {a b:WR} (ea:wkN (pre++kInn h s::post) f h (pre.length+1) fs=a) (na:a.e=none) (eb:wkN (pre++kInn h s::post) f h a.a a.fs=b) (nb:b.e=none) :
    wkN (pre++kInn h s::post) (f+1) ab pre.length fs=⟨nsum h s [] [] a.h b.h,none,b.a,b.fs⟩:=by
  subst ea;subst eb
  rw[wkN,if_neg len_mid,getD_mid,if_neg (by show ¬ (3:UInt8)=1;decide),if_neg (by show ¬ (3:UInt8)=2;decide),if_pos (show(kInn h s).kind=3 from rfl),if_neg (by show ¬ (h<1∨ab≤h);omega)]
  have e1:(kInn h s).height=h:=rfl
  have e2:(kInn h s).size=s:=rfl
  rw[e1,e2,if_neg (by rw[na];decide),if_neg (by rw[nb];decide)]
theorem wk_pcs:∀(t:Tr) (w:List (List UInt8)) (pre post:List Token) (f:Nat) (ab:Int) (fs:List Item),lvOk t.leaves→t.height<f→t.height<ab →
    wkN (pre++(t.pcs w++post)) f ab pre.length fs=⟨t.hash,none,pre.length+(t.pcs w).length,fs++t.its w⟩
  | t,w,pre,post,0,ab,fs,hk,hf,ha=>by have:=t.height_nn;omega
  | .leaf k v, w, pre, post, f + 1, ab, fs, hk, hf, ha => by
    unfold Tr.pcs Tr.its;split
    · rw[List.singleton_append,wk_hid _ (Tr.hash_len _)];rfl
    · have := hk ⟨k, v⟩ (List.mem_singleton_self _)
      have h1:=this.1;have h2:=this.2
      rw[List.singleton_append,wk_lf k v ⟨h1.1,Nat.le_trans h1.2 (by decide)⟩ (Nat.le_trans h2 (by decide))];rfl
  | .node l r, w, pre, post, f + 1, ab, fs, hk, hf, ha => by
    unfold Tr.pcs Tr.its;split
    · rw[List.singleton_append,wk_hid _ (Tr.hash_len _)];rfl
    · have n1 := l.height_nn; have n2 := r.height_nn
      have hh:(Tr.node l r).height=1+max l.height r.height:=rfl
      have hl:lvOk l.leaves:=fun p hp=>hk p (List.mem_append_left _ hp)
      have hr:lvOk r.leaves:=fun p hp=>hk p (List.mem_append_right _ hp)
      generalize hL:l.pcs (w.take (cntB r.least w))=L
      generalize hR:r.pcs (w.drop (cntB r.least w))=R
      have e0:pre++(kInn (Tr.node l r).height (Tr.node l r).size::(L++R)++post)=pre++kInn (Tr.node l r).height (Tr.node l r).size::(L++(R++post)):=by simp
      have e1:pre++kInn (Tr.node l r).height (Tr.node l r).size::(L++(R++post))=(pre++[kInn (Tr.node l r).height (Tr.node l r).size])++(L++(R++post)):=by simp
      have e2:pre++kInn (Tr.node l r).height (Tr.node l r).size::(L++(R++post))=(pre++[kInn (Tr.node l r).height (Tr.node l r).size]++L)++(R++post):=by simp
      have p1:(pre++[kInn (Tr.node l r).height (Tr.node l r).size]).length=pre.length+1:=by simp
      have p2:(pre++[kInn (Tr.node l r).height (Tr.node l r).size]++L).length=pre.length+1+L.length:=by simp;omega
      have hA:=wk_pcs l (w.take (cntB r.least w)) (pre++[kInn (Tr.node l r).height (Tr.node l r).size]) (R++post) f (Tr.node l r).height fs hl (by omega) (by omega)
      rw[hL,← e1,p1] at hA
      have hB:=wk_pcs r (w.drop (cntB r.least w)) (pre++[kInn (Tr.node l r).height (Tr.node l r).size]++L) post f (Tr.node l r).height (fs++l.its (w.take (cntB r.least w))) hr (by omega) (by omega)
      rw[hR,← e2,p2] at hB
      rw[e0,wk_in _ _ f ab fs (by omega) ha hA rfl hB rfl]
      rw[WR.mk.injEq]
      refine⟨?_,rfl,?_,?_⟩
      · exact nsum_nk (by omega) _ _ _ _ _
      · simp only[List.length_cons,List.length_append];omega
      · rw[List.append_assoc]
def keysI:List Item→List (List UInt8)
  | []=>[]
  | x::r=>if x.hidden=true then keysI r else x.key::keysI r
theorem keysI_app:∀ a b:List Item,keysI (a++b)=keysI a++keysI b
  | [],b=>rfl
  | x::a,b=>by simp only[List.cons_append,keysI];rw[keysI_app a b];split <;> simp
theorem ordI_of:∀ {l:List Item} {last:List UInt8},(last::keysI l).Pairwise klt→ordI last l=true
  | [],_,_=>rfl
  | x :: r, last, h => by
    unfold ordI;unfold keysI at h
    split
    · rename_i hx;rw[if_pos hx] at h;exact ordI_of h
    · rename_i hx; rw [if_neg hx] at h
      obtain⟨h1,h2⟩:=List.pairwise_cons.1 h
      have:klt last x.key:=h1 _ (List.mem_cons_self ..)
      rw[if_neg (by unfold klt at this;omega)]
      exact ordI_of h2
theorem keysI_its:∀(t:Tr) (w:List (List UInt8)),(keysI (t.its w)).Sublist (ksP t.leaves)
  | .leaf k v, w => by unfold Tr.its; split
                       · exact List.nil_sublist _
                       · exact List.Sublist.refl _
  | .node l r, w => by
    unfold Tr.its;split
    · exact List.nil_sublist _
    · rw [keysI_app]; unfold ksP; rw [show (Tr.node l r).leaves = l.leaves ++ r.leaves from rfl, List.map_append]
      exact(keysI_its l _).append (keysI_its r _)
theorem ord_its {t:Tr} (hs:Srt t.leaves) (hk:lvOk t.leaves) (w:List (List UInt8)):ordI [] (t.its w)=true:=by
  refine ordI_of (List.pairwise_cons.2 ⟨fun x hx=>?_,?_⟩)
  · have := (keysI_its t w).subset hx
    obtain⟨p,hp,rfl⟩:=List.mem_map.1 this
    have h1:=(hk p hp).1.1
    cases e:p.key with
    | nil=>rw[e] at h1;simp at h1
    | cons a b=>show Lib.compareBytes [] (a::b)<0;simp[Lib.compareBytes]
  · exact List.Pairwise.sublist (keysI_its t w) (by unfold ksP;rw[List.pairwise_map];exact hs)
theorem pcs_ne (t:Tr) (w:List (List UInt8)):t.pcs w≠[]:=by cases t <;> (unfold Tr.pcs;split <;> simp)
theorem chk_make {t:Tr} (hs:Srt t.leaves) (hk:lvOk t.leaves) (hh:t.height<65) (w:List (List UInt8)) (hl:(t.pcs w).length≤2048):chkR t.hash (t.pcs w)=(none,t.its w):=by
  have hw:=wk_pcs t w [] [] 65 65 [] hk hh hh
  rw[List.nil_append,List.append_nil] at hw
  simp only[List.length_nil,Nat.zero_add,List.nil_append] at hw
  have hn:=pcs_ne t w
  have hlen:(t.pcs w).length≠0:=fun e=>hn (List.eq_nil_of_length_eq_zero e)
  rw[ck7 (by omega) (fun e=>hlen (by have:=e.1;omega)) (by unfold wkR;rw[hw];rfl) (by unfold wkR;rw[hw];exact Int.lt_irrefl _) (by unfold wkR;rw[hw]) (by unfold wkR;rw[hw];exact ord_its hs hk w)]
  unfold wkR;rw[hw]
def awK:List (List UInt8):=[[97],[98],[99],[100]]
def awN:Nat→Option Tr
  | 0=>none
  | n+1=>putO (awK.getD n []) (awK.getD n []) (awN n)
theorem awL:∀ {i:Nat},(i:Int)<4→1≤(awK.getD (i:Int).toNat []).length∧(awK.getD (i:Int).toNat []).length≤96
  | 0,_=>by decide
  | 1,_=>by decide
  | 2,_=>by decide
  | 3,_=>by decide
  | _+4,h=>by omega
theorem awL0:∀ i:Nat,(awK.getD i []).length≤1
  | 0=>by decide
  | 1=>by decide
  | 2=>by decide
  | 3=>by decide
  | i+4=>by simp[awK]
theorem awOk:∀ i:Nat,okN i (awN i)
  | 0=>fun t e=>by simp[awN] at e
  | i+1=>okN.put (awOk i) (Nat.le_trans (awL0 i) (by decide)) (Nat.le_trans (awL0 i) (by decide))
theorem awO {i:Nat} (h:i≤4):okO (awN i):=(awOk i).O (by omega)
abbrev awC:Option Er × List Item:=chkR (hashO (awN 4)) (mkT (awN 4) [[98]])
abbrev awI:List Item:=[⟨true,[],[]⟩,⟨false,[98],[98]⟩,⟨true,[],[]⟩]
noncomputable def ccM9_42:Code:=(Tryd.f42.body).getD .skip
theorem Awake10_aux (hs:Srt (leavesO (awN 4))) (hl:(leavesO (awN 4)).length≤900000) (c1:awC.1.isNone=true) (g1:getF (fo awC) [98]=([98],true,true)) (g2:getF (fo awC) [98,98]=([],false,false)) (m1:(mkT (awN 4) [[98]]).length=5) (f1:fo awC=some awI):FOk EN 42 ⟨[.pr wordsP],[],Unit,fun _=>([.pr wordsP],.b true),fun _=>True⟩:=by
 refine v_fun Tryd.f42 ccM9_42 MX (fun ν F σ w=>?_) Tryd.func42
 refine v_nl ?_
 refine v_call _ [0] (new_ok) ((wordsP=wordsP)) rfl (fun g1 p2=>?_)
 have p2:True:=p2
 refine v_loop (fun i:Nat=>([(16,.i i),(1,.p 4 0)],[.pn (PTO (awN i)) false false])) (fun i=>i≤4) (fun i=>4 - i) 0 [2] (((0:Int)=(↑(0:Nat):Int))∧(PTO none=PTO (awN 0))∧(false=false)) ⟨rfl,rfl,rfl⟩ (by decide) (fun i hk3=>?_)
 refine v_if (decide ((↑i:Int)<(↑(4:Nat):Int))) True trivial (fun h4=>?_) (fun h4=>?_)
 ·have h4:=of_decide_eq_true h4
  refine v_call _ [0,6,7,4] (Put_ok (awN i) ([#[97].toList,#[98].toList,#[99].toList,#[100].toList].getD (↑i:Int).toNat []) ([#[97].toList,#[98].toList,#[99].toList,#[100].toList].getD (↑i:Int).toNat []) (by exact awO (by omega)) (by exact awL ‹_›) (by exact Nat.le_trans (awL0 _) (by decide))) (((0:Int)≤(↑i:Int)∧(↑i:Int)<(↑(4:Nat):Int))∧(([#[(97:UInt8)].toList,#[(98:UInt8)].toList,#[(99:UInt8)].toList,#[(100:UInt8)].toList].getD (↑i:Int).toNat []).length≤(1000000:Nat))∧(([#[(97:UInt8)].toList,#[(98:UInt8)].toList,#[(99:UInt8)].toList,#[(100:UInt8)].toList].getD (↑i:Int).toNat []).length≤(1000000:Nat))∧(wordsP=wordsP)∧([#[(97:UInt8)].toList,#[(98:UInt8)].toList,#[(99:UInt8)].toList,#[(100:UInt8)].toList].getD (↑i:Int).toNat []=[#[(97:UInt8)].toList,#[(98:UInt8)].toList,#[(99:UInt8)].toList,#[(100:UInt8)].toList].getD (↑i:Int).toNat [])∧([#[(97:UInt8)].toList,#[(98:UInt8)].toList,#[(99:UInt8)].toList,#[(100:UInt8)].toList].getD (↑i:Int).toNat []=[#[(97:UInt8)].toList,#[(98:UInt8)].toList,#[(99:UInt8)].toList,#[(100:UInt8)].toList].getD (↑i:Int).toNat [])∧(PTO (awN i)=PTO (awN i))∧(false=false)) ⟨(by omega),(by exact Nat.le_trans (awL0 _) (by decide)),(by exact Nat.le_trans (awL0 _) (by decide)),rfl,rfl,rfl,rfl,rfl⟩ (fun g5 p6=>?_)
  have p6:True:=p6
  exact v_back (i+1) [8] ((I64 (↑i+1))∧((↑i:Int)+1=(↑(i+1):Int))∧(PTO (putO ([#[97].toList,#[98].toList,#[99].toList,#[100].toList].getD (↑i:Int).toNat []) ([#[97].toList,#[98].toList,#[99].toList,#[100].toList].getD (↑i:Int).toNat []) (awN i))=PTO (awN (i+1)))∧(false=false)) ⟨(by(unfold I64;omega)),rfl,rfl,rfl⟩ (show i+1≤4∧4 - (i+1)<4 - i from(by omega))
 ·have h4:=of_decide_eq_false h4
  refine v_leave (.ex 0) True trivial ?_
  refine v_call _ [0,4,6] (MakeT_ok (awN i) ([[98]]) (by exact awO (by omega)) (by(cases(show i=4 by omega);exact hs)) (by(cases(show i=4 by omega);exact hl)) (by decide)) ((0<1)∧(wordsP=wordsP)∧(PTO (awN i)=PTO (awN i))∧(false=false)∧([[(98:UInt8)]]=[[(98:UInt8)]])) ⟨(by decide),rfl,rfl,rfl,rfl⟩ (fun g7 p8=>?_)
  have p8:True:=p8
  refine v_call _ [0,4] (Root_ok (awN i)) ((wordsP=wordsP)∧(PTO (awN i)=PTO (awN i))∧(false=false)) ⟨rfl,rfl,rfl⟩ (fun g9 p10=>?_)
  have p10:True:=p10
  refine v_call _ [0,7] (Check_ok (hashO (awN i)) (mkT (awN i) [[98]]) (by exact hashO_len _) (by(cases(show i=4 by omega);rw[m1];decide))) ((hashO (awN i)=hashO (awN i))∧(wordsP=wordsP)∧(mkT (awN i) [[98]]=mkT (awN i) [[98]])) ⟨rfl,rfl,rfl⟩ (fun g11 p12=>?_)
  have p12:True:=p12
  refine v_call _ [8,10] (Get_ok (fo (chkR (hashO (awN i)) (mkT (awN i) [[98]]))) ([98]) (by(cases(show i=4 by omega);rw[f1];decide)) (by(cases(show i=4 by omega);rw[f1];decide))) ((0<1)∧(PF (fo (chkR (hashO (awN i)) (mkT (awN i) [[98]])))=PF (fo (chkR (hashO (awN i)) (mkT (awN i) [[98]]))))∧((fo (chkR (hashO (awN i)) (mkT (awN i) [[98]]))).isNone=(fo (chkR (hashO (awN i)) (mkT (awN i) [[98]]))).isNone)∧([(98:UInt8)]=[(98:UInt8)])) ⟨(by decide),rfl,rfl,rfl⟩ (fun g13 p14=>?_)
  have p14:True:=p14
  refine v_call _ [8,12] (Get_ok (fo (chkR (hashO (awN i)) (mkT (awN i) [[98]]))) ([98,98]) (by(cases(show i=4 by omega);rw[f1];decide)) (by(cases(show i=4 by omega);rw[f1];decide))) ((0<2)∧(PF (fo (chkR (hashO (awN i)) (mkT (awN i) [[98]])))=PF (fo (chkR (hashO (awN i)) (mkT (awN i) [[98]]))))∧((fo (chkR (hashO (awN i)) (mkT (awN i) [[98]]))).isNone=(fo (chkR (hashO (awN i)) (mkT (awN i) [[98]]))).isNone)∧([(98:UInt8),(98:UInt8)]=[(98:UInt8),(98:UInt8)])) ⟨(by decide),rfl,rfl,rfl⟩ (fun g15 p16=>?_)
  have p16:True:=p16
  refine v_guard 60 ((chkR (hashO (awN i)) (mkT (awN i) [[98]])).fst.isNone) True trivial (fun h17=>?_) (fun h17=>?_)
  ·skip
   refine v_guard 65 (decide ((↑(mkT (awN i) [[98]]).length:Int)=5)) True trivial (fun h18=>?_) (fun h18=>?_)
   ·have h18:=of_decide_eq_true h18
    refine v_guard 68 ((getF (fo (chkR (hashO (awN i)) (mkT (awN i) [[98]]))) [98]).snd.fst) True trivial (fun h19=>?_) (fun h19=>?_)
    ·skip
     refine v_guard 71 ((getF (fo (chkR (hashO (awN i)) (mkT (awN i) [[98]]))) [98]).snd.snd) True trivial (fun h20=>?_) (fun h20=>?_)
     ·skip
      refine v_guard 76 (decide ((getF (fo (chkR (hashO (awN i)) (mkT (awN i) [[98]]))) [98]).fst=#[98].toList)) True trivial (fun h21=>?_) (fun h21=>?_)
      ·have h21:=of_decide_eq_true h21
       refine v_guard 80 (!(getF (fo (chkR (hashO (awN i)) (mkT (awN i) [[98]]))) [98,98]).snd.fst) True trivial (fun h22=>?_) (fun h22=>?_)
       ·have h22:=(nt h22)
        exact v_ret () [] (((!(getF (fo (chkR (hashO (awN i)) (mkT (awN i) [[98]]))) [98,98]).snd.snd)=true)∧(wordsP=wordsP)) ⟨(by(cases(show i=4 by omega);rw[f1];decide)),rfl⟩ trivial
       ·have h22:=(nf h22)
        exfalso;(cases(show i=4 by omega);rw[c1] at *;simp_all;done)
      ·have h21:=of_decide_eq_false h21
       exfalso;(cases(show i=4 by omega);rw[c1] at *;simp_all;done)
     ·skip
      exfalso;(cases(show i=4 by omega);rw[c1] at *;simp_all;done)
    ·skip
     exfalso;(cases(show i=4 by omega);rw[c1] at *;simp_all;done)
   ·have h18:=of_decide_eq_false h18
    exfalso;(cases(show i=4 by omega);rw[c1] at *;simp_all;done)
  ·skip
   exfalso;(cases(show i=4 by omega);rw[c1] at *;simp_all;done)
theorem aw4_leaves:leavesO (awN 4)=[⟨[97],[97]⟩,⟨[98],[98]⟩,⟨[99],[99]⟩,⟨[100],[100]⟩]:=by decide
theorem aw4_srt:Srt (leavesO (awN 4)):=by rw[aw4_leaves];unfold Srt;decide
theorem aw4_lv:lvOk (leavesO (awN 4)):=by rw[aw4_leaves];unfold lvOk;decide
theorem aw4_C:awC=(none,awI):=by
  have hn:(awN 4).isNone=false:=by decide
  have hh:(gt (awN 4)).height<65:=by decide
  have hp:(mkT (awN 4) [[98]]).length≤2048:=by decide
  have hi:(gt (awN 4)).its (wanL (leavesO (awN 4)) [[98]])=awI:=by decide
  unfold awC
  cases e:awN 4 with
  | none=>rw[e] at hn;cases hn
  | some t =>
    have h1:=aw4_srt;have h2:=aw4_lv
    rw[e] at h1 h2 hh hp hi
    rw[← hi];exact chk_make h1 h2 hh _ hp
theorem Awake10_ok:FOk EN 42 ⟨[.pr wordsP],[],Unit,fun _=>([.pr wordsP],.b true),fun _=>True⟩:=by
  have hf:fo awC=some awI:=by rw[aw4_C];rfl
  exact Awake10_aux aw4_srt (by rw[aw4_leaves];decide) (by rw[aw4_C];rfl) (by rw[hf];decide) (by rw[hf];decide) (by decide) hf
section
variable {acts:List Act} {m:Nat} {ks:List (List UInt8)}
abbrev gO1 (acts:List Act) (m:Nat):Option Tr:=(growT acts m).1
abbrev gL1 (acts:List Act) (m:Nat):List Pair:=(growT acts m).2
theorem mm_eq:gL1 acts m=leavesO (gO1 acts m):=(growT_ok acts m).2
theorem mm_len (hm:m≤64):(gL1 acts m).length≤64:=by rw[mm_eq];exact Nat.le_trans (growT_okN acts m).leaves hm
theorem mm_srt:Srt (leavesO (gO1 acts m)):=(growT_ok acts m).1
theorem mm_lv (hm:m≤64):(leavesO (gO1 acts m)).length≤64:=Nat.le_trans (growT_okN acts m).leaves hm
theorem mm_gt (hm:m≤64):(gt (gO1 acts m)).Ks∧(gt (gO1 acts m)).height<900∧(gt (gO1 acts m)).leaves.length≤64∧(gt (gO1 acts m)).depth≤64:=by
  have h:=growT_okN acts m
  have hl:=mm_lv (acts:=acts) hm
  cases e:gO1 acts m with
  | none=>exact⟨⟨Nat.zero_le _,Nat.zero_le _⟩,by decide,by decide,by decide⟩
  | some t =>
    have h1:=h t e;have q:=t.height_depth
    rw[e] at hl
    refine⟨h1.1,?_,hl,?_⟩ <;> (show(_:_)) <;> simp only[gt,Option.getD_some] <;> omega
theorem mm_mk (hm:m≤64):(mkT (gO1 acts m) ks).length≤200:=by
  have h:=(mm_gt (acts:=acts) hm).2.2.2
  cases e:gO1 acts m with
  | none=>exact Nat.zero_le _
  | some t=>rw[e] at h;have h:t.depth≤64:=h;have:=t.pcs_len (wanL t.leaves ks);show(t.pcs _).length≤200;omega
end
/-- the keys in another order, each twice -/
def othK (ks:List (List UInt8)) (tn:UInt8) (i:Nat):List UInt8:=ks.getD (((i:Int)+(tn.toNat:Int)) % (ks.length:Int)).toNat []
def oth (ks:List (List UInt8)) (tn:UInt8):Nat→List (List UInt8)
  | 0=>[]
  | n+1=>oth ks tn n++[othK ks tn n,othK ks tn n]
section
variable {acts:List Act} {m i:Nat} {ks:List (List UInt8)} {tn:UInt8}
theorem ms_b {n:Nat} (h:(i:Int)<(n:Int)):i+1≤n∧n - (i+1)<n - i:=by omega
end
def tgB (o:Option Tr) (k:List UInt8):Bool:=match o with | none=>false | some t=>decide ((t.fin k).key=k)
def tgV (o:Option Tr) (k:List UInt8):List UInt8:=match o with | none=>[] | some t=>if(t.fin k).key=k then(t.fin k).value else[]
noncomputable def ccN5_52:Code:=(Tryd.f52.body).getD .skip
theorem tgN_ok (k:List UInt8):FOk EN 52 ⟨[.pn (PTO none) false false,.rd 5 (k)],[.p 0 0,.n 1],Unit,fun _=>([.pn (PTO none) false false,.rd 5 (k),.rd 5 ([])],.t [.n 2,.b false]),fun _=>True⟩:=by
 refine v_fun Tryd.f52 ccN5_52 MX (fun ν F σ w=>?_) Tryd.func52
 refine v_nl ?_
 refine v_guard 9 (false) True trivial (fun h1=>?_) (fun h1=>?_)
 ·skip
  contradiction
 ·skip
  refine v_open 0 (open_tn) ((false=false)∧(PTO none=PTO none)) ⟨rfl,rfl⟩ ?_
  exact v_ret () [2] ((false=false)∧(PLe (PTO none) (PTO none))∧(false=false)∧(k=k)∧(Eq (α:=List UInt8) [] [])) ⟨rfl,fun _ _ _ h=>h,rfl,rfl,rfl⟩ trivial
def TgI (k:List UInt8) (t s:Tr):Prop:=s.fin k=t.fin k∧s.Ks
section
variable {k a b:List UInt8} {t l r:Tr}
theorem TgI.start (h:t.Ks):TgI k t t:=⟨rfl,h⟩
theorem TgI.nL (h:TgI k t (.node l r)) (hc:Lib.compareBytes k (Tr.node l r).key<0):PT l=PT ((Tr.node l r).child ((Tr.node l r).rt k)):=chF (decide_eq_false (by omega))
theorem TgI.nR (h:TgI k t (.node l r)) (hc:¬ Lib.compareBytes k (Tr.node l r).key<0):PT r=PT ((Tr.node l r).child ((Tr.node l r).rt k)):=chT (decide_eq_true (by omega))
theorem TgI.next {s:Tr} (h:TgI k t s) (h0:¬ s.height=0):TgI k t (s.child (s.rt k))∧(s.child (s.rt k)).depth<s.depth:=by
  obtain⟨b1,b2,b3,b4⟩:=Tr.turns_in k h0
  exact⟨⟨b2.symm.trans h.1,b4 h.2⟩,b3⟩
theorem TgI.nN (h:TgI k t (.node l r)):TgI k t ((Tr.node l r).child ((Tr.node l r).rt k))∧((Tr.node l r).child ((Tr.node l r).rt k)).depth<(Tr.node l r).depth:=h.next (by have:=Tr.height_pos (l:=l) (r:=r);omega)
theorem TgI.e1 (h:TgI k t (.leaf a b)) (he:¬ a=k):[]=tgV (some t) k:=by
  have e:t.fin k=.leaf a b:=h.1.symm
  unfold tgV;dsimp only;rw[e,if_neg (show ¬ (Tr.leaf a b).key=k from he)]
theorem TgI.e2 (h:TgI k t (.leaf a b)) (he:¬ a=k):false=tgB (some t) k:=by
  have e:t.fin k=.leaf a b:=h.1.symm
  unfold tgB;dsimp only;rw[e];exact(decide_eq_false (show ¬ (Tr.leaf a b).key=k from he)).symm
theorem TgI.e3 (h:TgI k t (.leaf a b)) (he:a=k):b=tgV (some t) k:=by
  have e:t.fin k=.leaf a b:=h.1.symm
  unfold tgV;dsimp only;rw[e,if_pos (show(Tr.leaf a b).key=k from he)];rfl
theorem TgI.e4 (h:TgI k t (.leaf a b)) (he:a=k):true=tgB (some t) k:=by
  have e:t.fin k=.leaf a b:=h.1.symm
  unfold tgB;dsimp only;rw[e];exact(decide_eq_true (show(Tr.leaf a b).key=k from he)).symm
theorem TgI.len (h:TgI k t (.leaf a b)):b.length≤1000000:=Nat.le_trans h.2.2 (by decide)
end
theorem tgS_ok (t:Tr) (k:List UInt8) (hk:t.Ks):FOk EN 52 ⟨[.pn (PTO (some t)) false false,.rd 5 (k)],[.p 0 0,.n 1],Unit,fun _=>([.pn (PTO (some t)) false false,.rd 5 (k),.rd 5 (tgV (some t) k)],.t [.n 2,.b (tgB (some t) k)]),fun _=>True⟩:=by
 refine v_fun Tryd.f52 ccN5_52 MX (fun ν F σ w=>?_) Tryd.func52
 refine v_nl ?_
 refine v_guard 9 (false) True trivial (fun h1=>?_) (fun h1=>?_)
 ·skip
  contradiction
 ·skip
  refine v_open 0 (open_ts (t)) ((false=false)∧(PTO (some t)=PTO (some t))) ⟨rfl,rfl⟩ ?_
  refine v_if (false) True trivial (fun h2=>?_) (fun h2=>?_)
  ·skip
   contradiction
  ·skip
   refine v_loop (fun s:Tr=>([(6,.p 4 0)],[.pn (PT (s)) false false])) (fun s=>TgI k t s) (fun s=>s.depth) t [3] ((PT t=PT t)∧(false=false)) ⟨rfl,rfl⟩ (by exact TgI.start hk) (fun s hk3=>?_)
   cases s with
   | leaf a b =>
    refine v_open 4 (open_leaf (a) (b)) ((false=false)∧(PT (Tr.leaf a b)=PT (Tr.leaf a b))) ⟨rfl,rfl⟩ ?_
    refine v_if (decide ((0:Int)<(0:Int))) True trivial (fun h4=>?_) (fun h4=>?_)
    ·have h4:=of_decide_eq_true h4
     omega
    ·have h4:=of_decide_eq_false h4
     refine v_leave (.ex 0) True trivial ?_
     refine v_call _ [5,1] (beq_ok (a) (k)) ((a=a)∧(k=k)) ⟨rfl,rfl⟩ (fun g5 p6=>?_)
     have p6:True:=p6
     refine v_if (!decide (a=k)) True trivial (fun h7=>?_) (fun h7=>?_)
     ·have h7:=of_decide_eq_false (nt h7)
      exact v_ret () [2] ((false=tgB (some t) k)∧(PLe (PTO (some t)) (PTO (some t)))∧(false=false)∧(k=k)∧([]=tgV (some t) k)) ⟨(by exact TgI.e2 ‹_› ‹_›),fun _ _ _ h=>h,rfl,rfl,(by exact TgI.e1 ‹_› ‹_›)⟩ trivial
     ·have h7:=of_decide_eq_true (nf h7)
      refine v_call _ [6] (clone_ok (b) (by exact TgI.len ‹_›)) ((b=b)) rfl (fun g8 p9=>?_)
      have p9:True:=p9
      exact v_ret () [7] ((true=tgB (some t) k)∧(PLe (PTO (some t)) (PTO (some t)))∧(false=false)∧(k=k)∧(b=tgV (some t) k)) ⟨(by exact TgI.e4 ‹_› ‹_›),fun _ _ _ h=>h,rfl,rfl,(by exact TgI.e3 ‹_› ‹_›)⟩ trivial
   | node l r =>
    refine v_open 4 (open_node (l) (r)) ((false=false)∧(PT (l.node r)=PT (l.node r))) ⟨rfl,rfl⟩ ?_
    refine v_if (decide (0<(l.node r).height)) True trivial (fun h10=>?_) (fun h10=>?_)
    ·have h10:=of_decide_eq_true h10
     refine v_call _ [1,5] (bcmp_ok (k) ((l.node r).key)) ((k=k)∧((l.node r).key=(l.node r).key)) ⟨rfl,rfl⟩ (fun g11 p12=>?_)
     have p12:True:=p12
     refine v_if (decide (Lib.compareBytes k (l.node r).key<0)) True trivial (fun h13=>?_) (fun h13=>?_)
     ·have h13:=of_decide_eq_true h13
      exact v_back ((l.node r).child (Tr.rt k (l.node r))) [6] ((PT l=PT ((l.node r).child (Tr.rt k (l.node r))))∧(false=false)) ⟨(by exact TgI.nL ‹_› ‹_›),rfl⟩ (show TgI k t ((l.node r).child (Tr.rt k (l.node r)))∧((l.node r).child (Tr.rt k (l.node r))).depth<(l.node r).depth from(by exact TgI.nN ‹_›))
     ·have h13:=of_decide_eq_false h13
      exact v_back ((l.node r).child (Tr.rt k (l.node r))) [7] ((PT r=PT ((l.node r).child (Tr.rt k (l.node r))))∧(false=false)) ⟨(by exact TgI.nR ‹_› ‹_›),rfl⟩ (show TgI k t ((l.node r).child (Tr.rt k (l.node r)))∧((l.node r).child (Tr.rt k (l.node r))).depth<(l.node r).depth from(by exact TgI.nN ‹_›))
    ·have h10:=of_decide_eq_false h10
     exfalso;(have hq:=Tr.height_pos (l:=l) (r:=r);omega)
theorem tGet_ok (o:Option Tr) (k:List UInt8) (ho:okO o):FOk EN 52 ⟨[.pn (PTO o) false false,.rd 5 (k)],[.p 0 0,.n 1],Unit,fun _=>([.pn (PTO o) false false,.rd 5 (k),.rd 5 (tgV o k)],.t [.n 2,.b (tgB o k)]),fun _=>True⟩:=by
  cases o with
  | none=>exact tgN_ok k
  | some t=>exact tgS_ok t k (ho t rfl).1
end Go.Proofs.YtnicmjipbnhciaaDoor.X
