/- What the law BankNil needs: the engine, the walks of what it reaches, plain laws; part 3. -/
import Derived.Test.YtblnnkkelkjbiaaDoorBankNilM2
set_option linter.unnecessarySimpa false
set_option linter.deprecated false
set_option linter.unusedVariables false
set_option linter.unusedSimpArgs false
set_option maxRecDepth 100000
namespace Go.Proofs.YtblnnkkelkjbiaaDoor.X
open Go Go.RowKit Go.Proofs Go.Proofs.YtblnnkkelkjbiaaDoor.E
section
variable {α β:Type} [DecidableEq α]
theorem mput_keys (l:List (α × β)) (k:α) (v:β):(mput l k v).map (·.1)=if k∈l.map (·.1) then l.map (·.1) else l.map (·.1)++[k]:=by
  induction l with
  | nil=>simp[mput]
  | cons p r ih =>
    unfold mput
    by_cases e:p.1=k
    · rw[if_pos e,if_pos (by simp[e])];simp[e]
    · rw [if_neg e, List.map_cons, ih]
      by_cases c:k∈r.map (·.1)
      · have c2 : k ∈ (p :: r).map (·.1) := List.mem_cons_of_mem _ c
        rw[if_pos c,if_pos c2];rfl
      · have c2 : ¬ k ∈ (p :: r).map (·.1) := by simp only [List.map_cons, List.mem_cons, not_or]; exact ⟨fun q => e q.symm, c⟩
        rw[if_neg c,if_neg c2];rfl
theorem mput_nodup {l:List (α × β)} (h:(l.map (·.1)).Nodup) (k:α) (v:β):((mput l k v).map (·.1)).Nodup:=by
  rw[mput_keys];split
  · exact h
  · rename_i c
    exact List.nodup_append.2 ⟨h,by simp,fun x hx y hy e=>by rw[List.mem_singleton] at hy;subst hy;subst e;exact c hx⟩
theorem mem_mput {l:List (α × β)} (h:(l.map (·.1)).Nodup) {k:α} {v:β} {p:α × β}:p∈mput l k v↔(p∈l∧p.1≠k)∨p=(k,v):=by
  induction l with
  | nil=>simp[mput]
  | cons q r ih =>
    rw[List.map_cons,List.nodup_cons] at h
    unfold mput
    by_cases e:q.1=k
    · rw [if_pos e, List.mem_cons, List.mem_cons]
      constructor
      · rintro (h1 | h1)
        · exact .inr h1
        · exact .inl ⟨.inr h1,fun c=>h.1 (List.mem_map.2 ⟨p,h1,c.trans e.symm⟩)⟩
      · rintro (⟨h1 | h1, h2⟩ | h1)
        · subst h1;exact absurd e h2
        · exact .inr h1
        · exact .inl h1
    · rw [if_neg e, List.mem_cons, List.mem_cons, ih h.2]
      constructor
      · rintro (h1 | ⟨h1, h2⟩ | h1)
        · subst h1;exact .inl ⟨.inl rfl,e⟩
        · exact .inl ⟨.inr h1,h2⟩
        · exact .inr h1
      · rintro (⟨h1 | h1, h2⟩ | h1)
        · exact .inl h1
        · exact .inr (.inl ⟨h1,h2⟩)
        · exact .inr (.inr h1)
theorem mdel_sub (l:List (α × β)) (k:α):(mdel l k).Sublist l:=by
  induction l with
  | nil=>exact .slnil
  | cons q r ih =>
    unfold mdel
    split
    · exact List.sublist_cons_self _ _
    · exact ih.cons_cons _
theorem mem_mdel {l:List (α × β)} (h:(l.map (·.1)).Nodup) {k:α} {p:α × β}:p∈mdel l k↔p∈l∧p.1≠k:=by
  induction l with
  | nil=>simp[mdel]
  | cons q r ih =>
    rw[List.map_cons,List.nodup_cons] at h
    unfold mdel
    by_cases e:q.1=k
    · rw [if_pos e, List.mem_cons]
      constructor
      · exact fun h1=>⟨.inr h1,fun c=>h.1 (List.mem_map.2 ⟨p,h1,c.trans e.symm⟩)⟩
      · rintro ⟨h1 | h1, h2⟩
        · subst h1;exact absurd e h2
        · exact h1
    · rw [if_neg e, List.mem_cons, List.mem_cons, ih h.2]
      constructor
      · rintro (h1 | ⟨h1, h2⟩)
        · subst h1;exact⟨.inl rfl,e⟩
        · exact⟨.inr h1,h2⟩
      · rintro ⟨h1 | h1, h2⟩
        · exact .inl h1
        · exact .inr ⟨h1,h2⟩
theorem mget_none {l:List (α × β)} {k:α} (h:∀ p∈l,p.1≠k):mget l k=none:=by
  induction l with
  | nil=>rfl
  | cons q r ih=>unfold mget;rw[if_neg (h q (List.mem_cons_self ..))];exact ih fun p hp=>h p (List.mem_cons_of_mem _ hp)
theorem mget_mput (l:List (α × β)) (k k':α) (v:β):mget (mput l k v) k'=if k'=k then some v else mget l k':=by
  induction l with
  | nil =>
    unfold mput mget
    by_cases e:k'=k
    · rw[if_pos e,if_pos e.symm]
    · rw[if_neg e,if_neg (fun q=>e q.symm)];rfl
  | cons p r ih =>
    unfold mput
    by_cases e:p.1=k
    · rw [if_pos e]; unfold mget
      by_cases c:k'=k
      · rw[if_pos c,if_pos c.symm]
      · rw[if_neg c,if_neg (fun q=>c q.symm),if_neg (fun q=>c (q.symm.trans e))]
    · rw [if_neg e]; unfold mget
      by_cases c:p.1=k'
      · rw[if_pos c,if_pos c,if_neg (fun q=>e (c.trans q))]
      · rw[if_neg c,if_neg c,ih]
theorem mget_mdel {l:List (α × β)} (h:(l.map (·.1)).Nodup) (k k':α):mget (mdel l k) k'=if k'=k then none else mget l k':=by
  induction l with
  | nil=>unfold mdel mget;split <;> rfl
  | cons p r ih =>
    rw[List.map_cons,List.nodup_cons] at h
    unfold mdel
    by_cases e:p.1=k
    · rw [if_pos e]
      by_cases c:k'=k
      · rw[if_pos c];exact mget_none fun q hq z=>h.1 (List.mem_map.2 ⟨q,hq,z.trans (c.trans e.symm)⟩)
      · rw [if_neg c]; conv => rhs; unfold mget
        rw[if_neg (fun q=>c (q.symm.trans e))]
    · rw [if_neg e]
      conv=>lhs;unfold mget
      conv=>rhs;unfold mget
      by_cases c:p.1=k'
      · rw[if_pos c,if_pos c,if_neg (fun q=>e (c.trans q))]
      · rw[if_neg c,if_neg c,ih h.2]
end
abbrev BK:=List ((List UInt8 × List UInt8) × UInt64)
def bget (B:BK) (a d:List UInt8):UInt64:=(mget B (a,d)).getD 0
def coinsB (B:BK):List Coin:=B.map fun p=>⟨p.1.1,p.1.2,p.2⟩
def ofE (a d:List UInt8) (n:UInt64):Option Er :=
  if(a.length:Int)=0∨16<(a.length:Int)∨a.contains 47=true then some (.step ((#[97,99,99,111,117,110,116]:Array UInt8).toList) a.length (.num 42))
  else if(d.length:Int)=0∨40<(d.length:Int) then some (.step ((#[100,101,110,111,109]:Array UInt8).toList) d.length (.num 43))
  else if n=0 then some (.step ((#[97,109,111,117,110,116]:Array UInt8).toList) 0 (.num 44)) else none
def giE (B:BK) (a d:List UInt8) (n:UInt64):Option Er :=
  if(ofE a d n).isNone=false then ofE a d n
  else if 18446744073709551615 - n<bget B a d then some (.step ((#[98,97,110,107]:Array UInt8).toList) 1 (.num 41)) else none
def giB (B:BK) (a d:List UInt8) (n:UInt64):BK:=if(giE B a d n).isNone=true then mput B (a,d) (bget B a d+n) else B
def taE (B:BK) (a d:List UInt8) (n:UInt64):Option Er :=
  if(ofE a d n).isNone=false then ofE a d n
  else if bget B a d<n then some (.step ((#[98,97,110,107]:Array UInt8).toList) 2 (.num 40)) else none
def taB (B:BK) (a d:List UInt8) (n:UInt64):BK :=
  if(taE B a d n).isNone=false then B
  else if bget B a d - n=0 then mdel (mput B (a,d) (bget B a d - n)) (a,d) else mput B (a,d) (bget B a d - n)
def moE (B:BK) (f t d:List UInt8) (n:UInt64):Option Er :=
  if(taE B f d n).isNone=false then taE B f d n
  else if(giE (taB B f d n) t d n).isNone=false then some (.step ((#[116,111]:Array UInt8).toList) 0 ((giE (taB B f d n) t d n).getD (.num 0))) else none
def moB (B:BK) (f t d:List UInt8) (n:UInt64):BK :=
  if(taE B f d n).isNone=false then B
  else if(giE (taB B f d n) t d n).isNone=false then mput (taB B f d n) (f,d) (bget (taB B f d n) f d+n) else giB (taB B f d n) t d n
def ltC (x y:Coin):Prop:=klt x.account y.account∨(x.account=y.account∧klt x.denom y.denom)
instance (x y:Coin):Decidable (ltC x y):=by unfold ltC;infer_instance
def insC (c:Coin):List Coin→List Coin
  | []=>[c]
  | x::r=>if ltC x c then x::insC c r else c::x::r
def allL (L:List Coin):List Coin:=L.foldl (fun o c=>insC c o) []
def ckey (c:Coin):List UInt8 × List UInt8:=(c.account,c.denom)
theorem ltC_trans {x y z:Coin} (h1:ltC x y) (h2:ltC y z):ltC x z:=by
  rcases h1 with h1 | ⟨e1,h1⟩ <;> rcases h2 with h2 | ⟨e2,h2⟩
  · exact .inl (klt_trans h1 h2)
  · exact .inl (e2 ▸ h1)
  · exact .inl (e1 ▸ h2)
  · exact .inr ⟨e1.trans e2,klt_trans h1 h2⟩
theorem ltC_irr (x:Coin):¬ ltC x x:=by
  rintro (h | ⟨_,h⟩)
  · exact klt_irr _ h
  · exact klt_irr _ h
theorem ltC_tot {x y:Coin} (h:ckey x≠ckey y):ltC x y∨ltC y x:=by
  by_cases e:klt x.account y.account
  · exact .inl (.inl e)
  · rcases kge e with e1 | e1
    · by_cases c : klt x.denom y.denom
      · exact .inl (.inr ⟨e1,c⟩)
      · rcases kge c with c1 | c1
        · exact absurd (by unfold ckey;rw[e1,c1]) h
        · exact .inr (.inr ⟨e1.symm,c1⟩)
    · exact .inr (.inl e1)
theorem insC_perm (c:Coin):∀ l,(insC c l).Perm (c::l)
  | []=>.refl _
  | x :: r => by
    unfold insC;split
    · exact((insC_perm c r).cons x).trans (.swap ..)
    · exact .refl _
theorem insC_srt {c:Coin}:∀ {l:List Coin},l.Pairwise ltC→(∀ x∈l,ckey x≠ckey c)→(insC c l).Pairwise ltC
  | [],_,_=>List.pairwise_singleton ..
  | x :: r, h, hk => by
    obtain⟨h1,h2⟩:=List.pairwise_cons.1 h
    unfold insC;split
    · rename_i hx
      refine List.pairwise_cons.2 ⟨fun y hy=>?_,insC_srt h2 fun y hy=>hk y (List.mem_cons_of_mem _ hy)⟩
      rcases List.mem_cons.1 ((insC_perm c r).subset hy) with rfl | hy
      · exact hx
      · exact h1 y hy
    · rename_i hx
      have hc:ltC c x:=(ltC_tot (hk x (List.mem_cons_self ..))).resolve_left hx
      refine List.pairwise_cons.2 ⟨fun y hy=>?_,h⟩
      rcases List.mem_cons.1 hy with rfl | hy
      · exact hc
      · exact ltC_trans hc (h1 y hy)
theorem allL_go:∀(L o:List Coin),(L.foldl (fun o c=>insC c o) o).Perm (L++o)
  | [],o=>.refl _
  | c :: L, o => by
    refine(allL_go L (insC c o)).trans ?_
    exact((insC_perm c o).append_left L).trans List.perm_middle
theorem allL_perm (L:List Coin):(allL L).Perm L:=by have:=allL_go L [];rwa [List.append_nil] at this
theorem allL_srt_go:∀(L o:List Coin),o.Pairwise ltC→((L++o).map ckey).Nodup→(L.foldl (fun o c=>insC c o) o).Pairwise ltC
  | [],o,h,_=>h
  | c :: L, o, h, hn => by
    have hn':(ckey c::(L++o).map ckey).Nodup:=hn
    rw[List.nodup_cons] at hn'
    refine allL_srt_go L (insC c o) (insC_srt h fun x hx e=>hn'.1 (List.mem_map.2 ⟨x,List.mem_append_right _ hx,e⟩)) ?_
    have:((L++insC c o).map ckey).Perm ((c::(L++o)).map ckey):=((((insC_perm c o).append_left L)).trans List.perm_middle).map _
    exact this.nodup_iff.2 hn
theorem allL_srt {L:List Coin} (h:(L.map ckey).Nodup):(allL L).Pairwise ltC:=allL_srt_go L [] .nil (by rwa [List.append_nil])
theorem srt_unique:∀ {a b:List Coin},a.Perm b→a.Pairwise ltC→b.Pairwise ltC→a=b
  | [],b,h,_,_=>(h.symm.eq_nil).symm
  | x::a,[],h,_,_=>by have:=h.eq_nil;cases this
  | x :: a, y :: b, h, ha, hb => by
    obtain⟨a1,a2⟩:=List.pairwise_cons.1 ha
    obtain⟨b1,b2⟩:=List.pairwise_cons.1 hb
    have e:x=y:=by
      rcases List.mem_cons.1 (h.subset (List.mem_cons_self ..)) with e | e
      · exact e
      · rcases List.mem_cons.1 (h.symm.subset (List.mem_cons_self ..)) with e' | e'
        · exact e'.symm
        · exact absurd (ltC_trans (a1 y e') (b1 x e)) (ltC_irr _)
    subst e
    rw[srt_unique (List.Perm.cons_inv h) a2 b2]
theorem allL_eq {L M:List Coin} (h:L.Perm M) (hn:(L.map ckey).Nodup):allL L=allL M :=
  srt_unique ((allL_perm L).trans (h.trans (allL_perm M).symm)) (allL_srt hn) (allL_srt ((h.map ckey).nodup_iff.1 hn))
structure BOk (B:BK):Prop where
  nd:(B.map (·.1)).Nodup
  nz:∀ p∈B,p.2≠0
  nm:∀ p∈B,(ofE p.1.1 p.1.2 1).isNone=true
theorem BOk.nil:BOk []:=⟨List.nodup_nil,fun p h=>absurd h (List.not_mem_nil),fun p h=>absurd h (List.not_mem_nil)⟩
theorem coins_nd {B:BK} (h:BOk B):((coinsB B).map ckey).Nodup:=by
  have:(coinsB B).map ckey=B.map (·.1):=by unfold coinsB;rw[List.map_map];rfl
  rw[this];exact h.nd
theorem coins_mem {B:BK} {c:Coin}:c∈coinsB B↔((c.account,c.denom),c.amount)∈B:=by
  unfold coinsB;rw[List.mem_map]
  constructor
  · rintro ⟨p,hp,rfl⟩;exact hp
  · intro h;exact⟨_,h,rfl⟩
theorem BOk.put {B:BK} (h:BOk B) {k:List UInt8 × List UInt8} {v:UInt64} (hk:(ofE k.1 k.2 1).isNone=true) (hv:v≠0):BOk (mput B k v) :=
  ⟨mput_nodup h.nd _ _,fun p hp=>by
    rcases(mem_mput h.nd).1 hp with⟨h1,_⟩ | rfl
    · exact h.nz p h1
    · exact hv,fun p hp=>by
    rcases(mem_mput h.nd).1 hp with⟨h1,_⟩ | rfl
    · exact h.nm p h1
    · exact hk⟩
theorem BOk.del {B:BK} (h:BOk B) {k:List UInt8 × List UInt8} {v:UInt64}:BOk (mdel (mput B k v) k) :=
  ⟨(mput_nodup h.nd k v).sublist ((mdel_sub _ _).map _),fun p hp=>by
    obtain⟨h1,h2⟩:=(mem_mdel (mput_nodup h.nd k v)).1 hp
    rcases(mem_mput h.nd).1 h1 with⟨h3,_⟩ | rfl
    · exact h.nz p h3
    · exact absurd rfl h2,fun p hp=>by
    obtain⟨h1,h2⟩:=(mem_mdel (mput_nodup h.nd k v)).1 hp
    rcases(mem_mput h.nd).1 h1 with⟨h3,_⟩ | rfl
    · exact h.nm p h3
    · exact absurd rfl h2⟩
theorem bget_put (B:BK) (a d a' d':List UInt8) (v:UInt64):bget (mput B (a,d) v) a' d'=if a'=a∧d'=d then v else bget B a' d':=by
  unfold bget;rw[mget_mput]
  by_cases h:a'=a∧d'=d
  · rw[if_pos h,if_pos (by rw[h.1,h.2])];rfl
  · rw[if_neg h,if_neg (fun e=>h (by injection e with e1 e2;exact⟨e1,e2⟩))]
theorem bget_del {B:BK} (h:BOk B) (a d a' d':List UInt8) (v:UInt64):bget (mdel (mput B (a,d) v) (a,d)) a' d'=if a'=a∧d'=d then 0 else bget B a' d':=by
  unfold bget;rw[mget_mdel (mput_nodup h.nd _ _),mget_mput]
  by_cases q:a'=a∧d'=d
  · rw[if_pos q,if_pos (by rw[q.1,q.2])];rfl
  · rw[if_neg q,if_neg (fun e=>q (by injection e with e1 e2;exact⟨e1,e2⟩)),if_neg (fun e=>q (by injection e with e1 e2;exact⟨e1,e2⟩))]
def lhas:List Coin→List UInt8→List UInt8→UInt64
  | [],_,_=>0
  | c::r,a,d=>if c.account=a∧c.denom=d then c.amount else lhas r a d
theorem lhas_nil (a d:List UInt8):lhas [] a d=0:=rfl
theorem lhas_cons (c:Coin) (r:List Coin) (a d:List UInt8):lhas (c::r) a d=if c.account=a∧c.denom=d then c.amount else lhas r a d:=rfl
def lset (L:List Coin) (a d:List UInt8) (n:UInt64):List Coin:=(L.filter (fun c=>decide (¬ (c.account=a∧c.denom=d))))++if 0<n then[⟨a,d,n⟩] else[]
def wrI (a d:List UInt8) (n:UInt64):Int :=
  if(a.length:Int)<1∨16<(a.length:Int) then 42 else if a.contains 47=true then 42
  else if(d.length:Int)<1∨40<(d.length:Int) then 43 else if n=0 then 44 else 0
def lgiE (L:List Coin) (a d:List UInt8) (n:UInt64):Int:=if ¬ wrI a d n=0 then wrI a d n else if lhas L a d+n<lhas L a d then 41 else 0
def lgiL (L:List Coin) (a d:List UInt8) (n:UInt64):List Coin:=if ¬ lgiE L a d n=0 then L else lset L a d (lhas L a d+n)
def ltaE (L:List Coin) (a d:List UInt8) (n:UInt64):Int:=if ¬ wrI a d n=0 then wrI a d n else if lhas L a d<n then 40 else 0
def ltaL (L:List Coin) (a d:List UInt8) (n:UInt64):List Coin:=if ¬ ltaE L a d n=0 then L else lset L a d (lhas L a d - n)
def lmoE (L:List Coin) (f t d:List UInt8) (n:UInt64):Int:=if ¬ ltaE L f d n=0 then ltaE L f d n else lgiE (ltaL L f d n) t d n
def lmoL (L:List Coin) (f t d:List UInt8) (n:UInt64):List Coin:=if ¬ lmoE L f t d n=0 then L else lgiL (ltaL L f d n) t d n
structure LOk (L:List Coin):Prop where
  nd:(L.map ckey).Nodup
  nz:∀ c∈L,c.amount≠0
theorem LOk.nil:LOk []:=⟨List.nodup_nil,fun p h=>by cases h⟩
theorem lhas_mem {L:List Coin} (hn:(L.map ckey).Nodup) {c:Coin} (hc:c∈L):lhas L c.account c.denom=c.amount:=by
  induction L with
  | nil=>cases hc
  | cons x r ih =>
    rw[List.map_cons,List.nodup_cons] at hn
    unfold lhas
    rcases List.mem_cons.1 hc with rfl | hc
    · rw[if_pos ⟨rfl,rfl⟩]
    · rw[if_neg (fun e=>hn.1 (List.mem_map.2 ⟨c,hc,by unfold ckey;rw[e.1,e.2]⟩)),ih hn.2 hc]
theorem lhas_some {L:List Coin} {a d:List UInt8} {v:UInt64} (h:lhas L a d=v) (hv:v≠0):(⟨a,d,v⟩:Coin)∈L:=by
  induction L with
  | nil=>exact absurd h.symm hv
  | cons x r ih =>
    unfold lhas at h
    split at h
    · rename_i e;obtain⟨e1,e2⟩:=e;subst e1;subst e2;subst h;exact List.mem_cons_self ..
    · exact List.mem_cons_of_mem _ (ih h)
theorem LOk.mem {L:List Coin} (h:LOk L) {c:Coin}:c∈L↔lhas L c.account c.denom=c.amount∧c.amount≠0 :=
  ⟨fun hc=>⟨lhas_mem h.nd hc,h.nz c hc⟩,fun⟨h1,h2⟩=>lhas_some h1 h2⟩
theorem perm_mem {α:Type} [DecidableEq α]:∀ {l m:List α},l.Nodup→m.Nodup→(∀ x,x∈l↔x∈m)→l.Perm m
  | [], m, _, _, h => by
    cases m with
    | nil=>exact .refl _
    | cons x m=>exact absurd ((h x).2 (List.mem_cons_self ..)) (by simp)
  | a :: l, m, hl, hm, h => by
    rw[List.nodup_cons] at hl
    have ha:a∈m:=(h a).1 (List.mem_cons_self ..)
    refine((perm_mem hl.2 (hm.erase a) fun x=>?_).cons a).trans (List.perm_cons_erase ha).symm
    rw[hm.mem_erase_iff]
    constructor
    · exact fun hx=>⟨fun e=>hl.1 (e ▸ hx),(h x).1 (List.mem_cons_of_mem _ hx)⟩
    · rintro ⟨h1, h2⟩
      exact(List.mem_cons.1 ((h x).2 h2)).resolve_left h1
theorem nodup_of_map {α β:Type} {f:α→β} {l:List α} (h:(l.map f).Nodup):l.Nodup:=by
  rw[List.nodup_iff_pairwise_ne] at h ⊢
  rw[List.pairwise_map] at h
  exact h.imp fun hab e=>hab (by rw[e])
theorem LOk.perm {L M:List Coin} (h:LOk L) (k:LOk M) (e:∀ a d,lhas L a d=lhas M a d):L.Perm M :=
  perm_mem (nodup_of_map h.nd) (nodup_of_map k.nd) fun c=>by rw[h.mem,k.mem,e]
theorem LOk.all {L M:List Coin} (h:LOk L) (k:LOk M) (e:∀ a d,lhas L a d=lhas M a d):allL L=allL M:=allL_eq (h.perm k e) h.nd
theorem LOk.ne {L M:List Coin} (h:LOk L) (k:LOk M) {a d:List UInt8} (e:lhas L a d≠lhas M a d):allL L≠allL M:=fun q=>by
  have hp:L.Perm M:=((allL_perm L).symm.trans (q ▸ List.Perm.refl _)).trans (allL_perm M)
  apply e
  by_cases c:lhas L a d=0
  · by_cases c2 : lhas M a d = 0
    · rw[c,c2]
    · have:=lhas_mem h.nd (hp.symm.subset (lhas_some rfl c2));exact this
  · have:=lhas_mem k.nd (hp.subset (lhas_some rfl c));exact this.symm
theorem lhas_app (l m:List Coin) (a d:List UInt8) (h:∀ c∈l,c.amount≠0):lhas (l++m) a d=if lhas l a d=0 then lhas m a d else lhas l a d:=by
  induction l with
  | nil=>rw[List.nil_append,lhas_nil,if_pos rfl]
  | cons c r ih =>
    rw[List.cons_append,lhas_cons,lhas_cons]
    by_cases e:c.account=a∧c.denom=d
    · rw[if_pos e,if_pos e,if_neg (h c (List.mem_cons_self ..))]
    · rw[if_neg e,if_neg e];exact ih fun x hx=>h x (List.mem_cons_of_mem _ hx)
def notC (a d:List UInt8) (c:Coin):Bool:=decide (¬ (c.account=a∧c.denom=d))
theorem lhas_filter {L:List Coin} {a d:List UInt8} (a' d':List UInt8):lhas (L.filter (notC a d)) a' d'=if a'=a∧d'=d then 0 else lhas L a' d':=by
  induction L with
  | nil=>rw[List.filter_nil,lhas_nil];split <;> rfl
  | cons c r ih =>
    by_cases e:c.account=a∧c.denom=d
    · rw [List.filter_cons_of_neg (by unfold notC; simp [e]), ih, lhas_cons]
      by_cases q:a'=a∧d'=d
      · rw[if_pos q,if_pos q]
      · rw[if_neg q,if_neg q,if_neg (fun z=>q ⟨z.1.symm.trans e.1,z.2.symm.trans e.2⟩)]
    · rw [List.filter_cons_of_pos (by unfold notC; exact decide_eq_true e), lhas_cons, lhas_cons, ih]
      by_cases q:c.account=a'∧c.denom=d'
      · rw[if_pos q,if_neg (fun z=>e ⟨q.1.trans z.1,q.2.trans z.2⟩),if_pos q]
      · rw[if_neg q,if_neg q]
theorem u0 {n:UInt64}:¬ 0<n↔n=0:=by
  rw[UInt64.lt_iff_toNat_lt]
  constructor
  · intro h;apply UInt64.toNat_inj.1;have:(0:UInt64).toNat=0:=rfl;omega
  · intro h;subst h;decide
theorem lset_eq (L:List Coin) (a d:List UInt8) (n:UInt64):lset L a d n=L.filter (notC a d)++if 0<n then[⟨a,d,n⟩] else[]:=rfl
theorem lhas_set {L:List Coin} (h:LOk L) (a d:List UInt8) (n:UInt64) (a' d':List UInt8):lhas (lset L a d n) a' d'=if a'=a∧d'=d then n else lhas L a' d':=by
  rw[lset_eq,lhas_app _ _ _ _ fun c hc=>h.nz c (List.mem_filter.1 hc).1,lhas_filter]
  by_cases e:a'=a∧d'=d
  · rw [if_pos e, if_pos rfl, if_pos e]
    by_cases c:0<n
    · rw[if_pos c,lhas_cons,if_pos ⟨e.1.symm,e.2.symm⟩]
    · rw[if_neg c,lhas_nil];exact(u0.1 c).symm
  · rw [if_neg e, if_neg e]
    by_cases c:0<n
    · have z : ¬ (a = a' ∧ d = d') := fun q => e ⟨q.1.symm, q.2.symm⟩
      rw[if_pos c,lhas_cons,if_neg z,lhas_nil]
      by_cases q:lhas L a' d'=0
      · rw[if_pos q,q]
      · rw[if_neg q]
    · rw [if_neg c, lhas_nil]
      by_cases q:lhas L a' d'=0
      · rw[if_pos q,q]
      · rw[if_neg q]
theorem LOk.set {L:List Coin} (h:LOk L) (a d:List UInt8) (n:UInt64):LOk (lset L a d n):=by
  rw[lset_eq]
  refine⟨?_,fun c hc=>?_⟩
  · rw [List.map_append]
    refine List.nodup_append.2 ⟨h.nd.sublist ((List.filter_sublist ..).map _),by split <;> simp,fun x hx y hy e=>?_⟩
    obtain⟨c,hc,rfl⟩:=List.mem_map.1 hx
    obtain⟨c2,hc2,rfl⟩:=List.mem_map.1 hy
    have h1:=of_decide_eq_true (List.mem_filter.1 hc).2
    split at hc2
    · rw [List.mem_singleton] at hc2; subst hc2
      unfold ckey at e;injection e with e1 e2
      exact h1 ⟨e1,e2⟩
    · cases hc2
  · rcases List.mem_append.1 hc with hc | hc
    · exact h.nz c (List.mem_filter.1 hc).1
    · split at hc
      · rename_i hn; rw [List.mem_singleton] at hc; subst hc
        exact fun e=>u0.2 e hn
      · cases hc
/-- The bank's own state as coins. -/
theorem coins_ok {B:BK} (h:BOk B):LOk (coinsB B):=⟨coins_nd h,fun c hc=>h.nz _ (coins_mem.1 hc)⟩
theorem coins_has {B:BK} (a d:List UInt8):lhas (coinsB B) a d=bget B a d:=by
  unfold bget coinsB
  induction B with
  | nil=>rfl
  | cons p r ih =>
    rw[List.map_cons];unfold lhas mget
    by_cases e:p.1=(a,d)
    · rw[if_pos e,if_pos (by rw[e];exact⟨rfl,rfl⟩)];rfl
    · rw[if_neg e,if_neg (fun q=>e (Prod.ext q.1 q.2))];exact ih
/-- The two banks have the same. -/
structure Rel (B:BK) (L:List Coin):Prop where
  b:BOk B
  l:LOk L
  e:∀ a d,lhas L a d=bget B a d
theorem Rel.nil:Rel [] []:=⟨.nil,.nil,fun _ _=>rfl⟩
theorem Rel.all {B:BK} {L:List Coin} (h:Rel B L):allL (coinsB B)=allL L:=(coins_ok h.b).all h.l fun a d=>by rw[coins_has,h.e]
theorem wr_of (a d:List UInt8) (n:UInt64):wrI a d n=codeO (ofE a d n):=by
  unfold wrI ofE
  by_cases h1:(a.length:Int)=0∨16<(a.length:Int)∨a.contains 47=true
  · rw [if_pos h1]
    by_cases c:(a.length:Int)<1∨16<(a.length:Int)
    · rw[if_pos c];rfl
    · rw[if_neg c,if_pos (by rcases h1 with h | h | h;exact absurd (.inl (by omega)) c;exact absurd (.inr h) c;exact h)];rfl
  · rw [if_neg h1, if_neg (by omega), if_neg (fun q => h1 (.inr (.inr q)))]
    by_cases h2:(d.length:Int)=0∨40<(d.length:Int)
    · rw[if_pos h2,if_pos (by omega)];rfl
    · rw[if_neg h2,if_neg (by omega)];split <;> rfl
theorem of_code (a d:List UInt8) (n:UInt64):(codeO (ofE a d n)=0)=((ofE a d n).isNone=true):=by
  unfold ofE;split
  · simp[codeO,Er.code]
  · split
    · simp[codeO,Er.code]
    · split <;> simp[codeO,Er.code]
theorem of_none {a d:List UInt8} {n:UInt64} (h:¬ (ofE a d n).isNone=false):ofE a d n=none:=by cases e:ofE a d n with | none=>rfl | some _=>rw[e] at h;simp at h
theorem of_n {a d:List UInt8} {n:UInt64} (h:¬ (ofE a d n).isNone=false):n≠0:=by
  intro e;have:=of_none h;unfold ofE at this;subst e
  split at this
  · cases this
  · split at this
    · cases this
    · simp at this
theorem of_1 {a d:List UInt8} {n:UInt64} (h:¬ (ofE a d n).isNone=false):(ofE a d 1).isNone=true:=by
  have:=of_none h;unfold ofE at this ⊢
  split at this
  · cases this
  · rename_i c1; rw [if_neg c1]
    split at this
    · cases this
    · rename_i c2;rw[if_neg c2,if_neg (by decide)];rfl
theorem over_iff (x n:UInt64):x+n<x↔18446744073709551615 - n<x:=by
  rw[UInt64.lt_iff_toNat_lt,UInt64.lt_iff_toNat_lt,UInt64.toNat_add,UInt64.toNat_sub]
  have h1:=x.toNat_lt;have h2:=n.toNat_lt
  have e:(18446744073709551615:UInt64).toNat=18446744073709551615:=rfl
  rw[e];omega
theorem add_nz {x n:UInt64} (hn:n≠0) (h:¬ 18446744073709551615 - n<x):x+n≠0:=by
  rw[← over_iff,UInt64.lt_iff_toNat_lt,UInt64.toNat_add] at h
  intro e
  have h1:=x.toNat_lt;have h2:=n.toNat_lt
  have e':=congrArg UInt64.toNat e
  rw[UInt64.toNat_add] at e'
  have z:(0:UInt64).toNat=0:=rfl
  have:n.toNat≠0:=fun q=>hn (UInt64.toNat_inj.1 (q.trans z.symm))
  omega
section
variable {B:BK} {L:List Coin} {a d t:List UInt8} {n:UInt64}
theorem giE_code (h:Rel B L) (a d:List UInt8) (n:UInt64):codeO (giE B a d n)=lgiE L a d n:=by
  unfold giE lgiE
  rw[h.e,wr_of]
  by_cases c:(ofE a d n).isNone=false
  · rw[if_pos c,if_pos (fun q=>by rw[of_code,c] at q;cases q)]
  · have z : ¬ ¬ codeO (ofE a d n) = 0 := by rw [of_none c]; exact fun q => q rfl
    rw[if_neg c,if_neg z]
    by_cases c2:18446744073709551615 - n<bget B a d
    · rw[if_pos c2,if_pos ((over_iff _ _).2 c2)];rfl
    · rw[if_neg c2,if_neg (fun q=>c2 ((over_iff _ _).1 q))];rfl
theorem taE_code (h:Rel B L) (a d:List UInt8) (n:UInt64):codeO (taE B a d n)=ltaE L a d n:=by
  unfold taE ltaE
  rw[h.e,wr_of]
  by_cases c:(ofE a d n).isNone=false
  · rw[if_pos c,if_pos (fun q=>by rw[of_code,c] at q;cases q)]
  · have z : ¬ ¬ codeO (ofE a d n) = 0 := by rw [of_none c]; exact fun q => q rfl
    rw[if_neg c,if_neg z]
    by_cases c2:bget B a d<n
    · rw[if_pos c2,if_pos c2];rfl
    · rw[if_neg c2,if_neg c2];rfl
theorem giE_none:(codeO (giE B a d n)=0)=((giE B a d n).isNone=true):=by
  unfold giE;split
  · exact of_code a d n
  · split <;> simp[codeO,Er.code]
theorem taE_none:(codeO (taE B a d n)=0)=((taE B a d n).isNone=true):=by
  unfold taE;split
  · exact of_code a d n
  · split <;> simp[codeO,Er.code]
theorem giE_nm (h:(giE B a d n).isNone=true):(ofE a d 1).isNone=true:=by
  unfold giE at h
  split at h
  · rename_i c;rw[c] at h;cases h
  · rename_i c;exact of_1 c
theorem taE_nm (h:¬ (taE B a d n).isNone=false):(ofE a d 1).isNone=true:=by
  unfold taE at h
  split at h
  · rename_i c;exact absurd c h
  · rename_i c;exact of_1 c
theorem giE_ok (h:(giE B a d n).isNone=true):n≠0∧¬ 18446744073709551615 - n<bget B a d:=by
  unfold giE at h
  split at h
  · rename_i c;rw[c] at h;cases h
  · rename_i c; split at h
    · cases h
    · rename_i c2;exact⟨of_n c,c2⟩
theorem taE_ok (h:¬ (taE B a d n).isNone=false):n≠0∧¬ bget B a d<n:=by
  unfold taE at h
  split at h
  · rename_i c;exact absurd c h
  · rename_i c; split at h
    · exact absurd rfl h
    · rename_i c2;exact⟨of_n c,c2⟩
theorem BOk.give (h:BOk B):BOk (giB B a d n):=by
  unfold giB;split
  · rename_i c;obtain⟨h1,h2⟩:=giE_ok c;exact h.put (giE_nm c) (add_nz h1 h2)
  · exact h
theorem BOk.take (h:BOk B):BOk (taB B a d n):=by
  unfold taB;split
  · exact h
  · rename_i c0; split
    · exact h.del
    · rename_i c;exact h.put (taE_nm c0) c
theorem bget_give (B:BK) (a d:List UInt8) (n:UInt64) (a' d':List UInt8):bget (giB B a d n) a' d'=if(giE B a d n).isNone=true∧a'=a∧d'=d then bget B a d+n else bget B a' d':=by
  unfold giB
  by_cases c:(giE B a d n).isNone=true
  · rw [if_pos c, bget_put]
    by_cases e:a'=a∧d'=d
    · rw[if_pos e,if_pos ⟨c,e⟩]
    · rw[if_neg e,if_neg (fun q=>e q.2)]
  · rw[if_neg c,if_neg (fun q=>c q.1)]
theorem bget_take (h:BOk B) (a d:List UInt8) (n:UInt64) (a' d':List UInt8):bget (taB B a d n) a' d'=if(taE B a d n).isNone=true∧a'=a∧d'=d then bget B a d - n else bget B a' d':=by
  unfold taB
  by_cases c:(taE B a d n).isNone=false
  · rw[if_pos c,if_neg (fun q=>by rw[c] at q;cases q.1)]
  · have c' : (taE B a d n).isNone = true := by simpa using c
    rw[if_neg c]
    by_cases z:bget B a d - n=0
    · rw [if_pos z, bget_del h]
      by_cases e:a'=a∧d'=d
      · rw[if_pos e,if_pos ⟨c',e⟩,z]
      · rw[if_neg e,if_neg (fun q=>e q.2)]
    · rw [if_neg z, bget_put]
      by_cases e:a'=a∧d'=d
      · rw[if_pos e,if_pos ⟨c',e⟩]
      · rw[if_neg e,if_neg (fun q=>e q.2)]
theorem Rel.give (h:Rel B L) (a d:List UInt8) (n:UInt64):Rel (giB B a d n) (lgiL L a d n):=by
  have hc:=giE_code h a d n
  refine⟨h.b.give,?_,fun a' d'=>?_⟩
  · unfold lgiL; split
    · exact h.l
    · exact h.l.set ..
  · rw [bget_give]; unfold lgiL
    by_cases c:lgiE L a d n=0
    · have c' : (giE B a d n).isNone = true := by rw [← giE_none, hc]; exact c
      rw[if_neg (fun q=>q c),lhas_set h.l,h.e,h.e]
      by_cases e:a'=a∧d'=d
      · rw[if_pos e,if_pos ⟨c',e⟩]
      · rw[if_neg e,if_neg (fun q=>e q.2)]
    · rw[if_pos c,if_neg (fun q=>c (by rw[← hc,giE_none];exact q.1)),h.e]
theorem Rel.take (h:Rel B L) (a d:List UInt8) (n:UInt64):Rel (taB B a d n) (ltaL L a d n):=by
  have hc:=taE_code h a d n
  refine⟨h.b.take,?_,fun a' d'=>?_⟩
  · unfold ltaL; split
    · exact h.l
    · exact h.l.set ..
  · rw [bget_take h.b]; unfold ltaL
    by_cases c:ltaE L a d n=0
    · have c' : (taE B a d n).isNone = true := by rw [← taE_none, hc]; exact c
      rw[if_neg (fun q=>q c),lhas_set h.l,h.e,h.e]
      by_cases e:a'=a∧d'=d
      · rw[if_pos e,if_pos ⟨c',e⟩]
      · rw[if_neg e,if_neg (fun q=>e q.2)]
    · rw[if_pos c,if_neg (fun q=>c (by rw[← hc,taE_none];exact q.1)),h.e]
theorem nn {o:Option Er} (h:¬ o.isNone=false):o.isNone=true:=by cases o <;> simp_all
theorem ns {o:Option Er} (h:¬ o.isNone=true):o.isNone=false:=by cases o <;> simp_all
theorem giE_f (h:(giE B a d n).isNone=false):∃ e,giE B a d n=some e:=by cases e:giE B a d n with | none=>rw[e] at h;cases h | some x=>exact⟨x,rfl⟩
theorem moE_code (h:Rel B L) (f t d:List UInt8) (n:UInt64):codeO (moE B f t d n)=lmoE L f t d n:=by
  have hc:=taE_code h f d n
  have hr:=h.take f d n
  unfold moE lmoE
  by_cases c:(taE B f d n).isNone=false
  · rw[if_pos c,if_pos (fun q=>by rw[← hc,taE_none,c] at q;cases q),hc]
  · have z : ¬ ¬ ltaE L f d n = 0 := fun q => q (by rw [← hc, taE_none]; exact nn c)
    rw[if_neg c,if_neg z,← giE_code hr t d n]
    by_cases c2:(giE (taB B f d n) t d n).isNone=false
    · rw [if_pos c2]
      obtain⟨e,he⟩:=giE_f c2
      rw[he];rfl
    · rw [if_neg c2]
      have:giE (taB B f d n) t d n=none:=by cases e:giE (taB B f d n) t d n with | none=>rfl | some x=>rw[e] at c2;exact absurd rfl c2
      rw[this]
/-- What is undone is as it was. -/
theorem undo_get (h:BOk B) (hc:(taE B a d n).isNone=true) (a' d':List UInt8):bget (mput (taB B a d n) (a,d) (bget (taB B a d n) a d+n)) a' d'=bget B a' d':=by
  have z:(taE B a d n).isNone=true∧a=a∧d=d:=⟨hc,rfl,rfl⟩
  rw[bget_put,bget_take h,bget_take h,if_pos z]
  by_cases e:a'=a∧d'=d
  · rw[if_pos e,e.1,e.2];exact UInt64.sub_add_cancel ..
  · have z2 : ¬ ((taE B a d n).isNone = true ∧ a' = a ∧ d' = d) := fun q => e q.2
    rw[if_neg e,if_neg z2]
theorem undo_ok (h:BOk B) (hc:(taE B a d n).isNone=true):BOk (mput (taB B a d n) (a,d) (bget (taB B a d n) a d+n)):=by
  refine h.take.put (taE_nm (by rw[hc];decide)) ?_
  rw[bget_take h,if_pos ⟨hc,rfl,rfl⟩,UInt64.sub_add_cancel]
  obtain⟨h1,h2⟩:=taE_ok (B:=B) (a:=a) (d:=d) (n:=n) (by rw[hc];decide)
  intro e;rw[e] at h2
  exact h2 (Decidable.not_not.1 fun q=>h1 (u0.1 q))
theorem BOk.move (h:BOk B):BOk (moB B a t d n):=by
  unfold moB;split
  · exact h
  · rename_i c; split
    · exact undo_ok h (nn c)
    · exact h.take.give
theorem Rel.move (h:Rel B L) (f t d:List UInt8) (n:UInt64):Rel (moB B f t d n) (lmoL L f t d n):=by
  have hc:=moE_code h f t d n
  have hr:=h.take f d n
  have ht:=taE_code h f d n
  unfold moB lmoL
  by_cases c:(taE B f d n).isNone=false
  · have : ¬ lmoE L f t d n = 0 := by unfold lmoE; rw [if_pos (fun q => by rw [← ht, taE_none, c] at q; cases q)]; exact fun q => by rw [← ht, taE_none, c] at q; cases q
    rw[if_pos c,if_pos this];exact h
  · have c0 := nn c
    have el:lmoE L f t d n=lgiE (ltaL L f d n) t d n:=by unfold lmoE;rw[if_neg (fun q=>q (by rw[← ht,taE_none];exact c0))]
    rw[if_neg c]
    by_cases c2:(giE (taB B f d n) t d n).isNone=false
    · rw [if_pos c2, if_pos (fun q => by rw [el, ← giE_code hr, giE_none, c2] at q; cases q)]
      exact⟨undo_ok h.b c0,h.l,fun a' d'=>by rw[undo_get h.b c0,h.e]⟩
    · rw [if_neg c2, if_neg (fun q => q (by rw [el, ← giE_code hr, giE_none]; exact nn c2))]
      exact hr.give t d n
end
abbrev pa (a d:List UInt8) (n:UInt64):List UInt8:=if(ofE a d n).isNone=true then a else[]
abbrev pd (a d:List UInt8) (n:UInt64):List UInt8:=if(ofE a d n).isNone=true then d else[]
section
variable {a d:List UInt8} {n:UInt64} {e:Er}
theorem ofa (h:(a.length:Int)=0∨16<(a.length:Int)∨a.contains 47=true):ofE a d n=some (.step ((#[97,99,99,111,117,110,116]:Array UInt8).toList) a.length (.num 42)):=if_pos h
theorem ofno (h1:¬ (a.length:Int)=0) (h2:¬ 16<(a.length:Int)) (h3:a.contains 47=false):¬ ((a.length:Int)=0∨16<(a.length:Int)∨a.contains 47=true):=by
  rintro (h | h | h)
  · exact h1 h
  · exact h2 h
  · rw[h3] at h;cases h
theorem ofd (h1:¬ (a.length:Int)=0) (h2:¬ 16<(a.length:Int)) (h3:a.contains 47=false) (h:(d.length:Int)=0∨40<(d.length:Int)):ofE a d n=some (.step ((#[100,101,110,111,109]:Array UInt8).toList) d.length (.num 43)):=by unfold ofE;rw[if_neg (ofno h1 h2 h3),if_pos h]
theorem ofdn (h1:¬ (d.length:Int)=0) (h2:¬ 40<(d.length:Int)):¬ ((d.length:Int)=0∨40<(d.length:Int)):=by rintro (h | h);exact h1 h;exact h2 h
theorem ofn (h1:¬ (a.length:Int)=0) (h2:¬ 16<(a.length:Int)) (h3:a.contains 47=false) (h4:¬ (d.length:Int)=0) (h5:¬ 40<(d.length:Int)) (h:n=0):ofE a d n=some (.step ((#[97,109,111,117,110,116]:Array UInt8).toList) 0 (.num 44)):=by unfold ofE;rw[if_neg (ofno h1 h2 h3),if_neg (ofdn h4 h5),if_pos h]
theorem ofz (h1:¬ (a.length:Int)=0) (h2:¬ 16<(a.length:Int)) (h3:a.contains 47=false) (h4:¬ (d.length:Int)=0) (h5:¬ 40<(d.length:Int)) (h:¬ n=0):ofE a d n=none:=by unfold ofE;rw[if_neg (ofno h1 h2 h3),if_neg (ofdn h4 h5),if_neg h]
theorem pa0 (h:ofE a d n=some e):[]=pa a d n:=by unfold pa;rw[h];rfl
theorem pd0 (h:ofE a d n=some e):[]=pd a d n:=by unfold pd;rw[h];rfl
theorem pa1 (h:ofE a d n=none):a=pa a d n:=by unfold pa;rw[h];rfl
theorem pd1 (h:ofE a d n=none):d=pd a d n:=by unfold pd;rw[h];rfl
theorem pe0 (h:ofE a d n=some e):PE (some e)=PE (ofE a d n):=by rw[h]
theorem pn0 (h:ofE a d n=some e):false=(ofE a d n).isNone:=by rw[h];rfl
end
noncomputable def ccU1_9:Code:=(Tryd.f9.body).getD .skip
theorem New_ok:FOk EN 9 ⟨[],[],Unit,fun _=>([.mp 54 [],.bx 56 [.n 0]],.p 1 0),fun _=>True⟩:=by
 refine v_fun Tryd.f9 ccU1_9 MX (fun ν F σ w=>?_) Tryd.func9
 refine v_nl ?_
 exact v_ret () [1,2] ((Eq (α:=List ((List UInt8 × List UInt8) × UInt64)) [] [])) rfl trivial
noncomputable def ccU1_24:Code:=(Tryd.f24.body).getD .skip
theorem of_ok (a d:List UInt8) (n:UInt64):FOk EN 24 ⟨[],[.s a,.s d,.u n],Unit,fun _=>([.pn (PE (ofE a d n)) true (ofE a d n).isNone],.t [.a [.s (pa a d n),.s (pd a d n)],.n 0]),fun _=>True⟩:=by
 refine v_fun Tryd.f24 ccU1_24 MX (fun ν F σ w=>?_) Tryd.func24
 refine v_nl ?_
 refine v_guard 12 (decide ((↑a.length:Int)=0)) True trivial (fun h1=>?_) (fun h1=>?_)
 ·have h1:=of_decide_eq_true h1
  refine v_al [] (al_e1 (42)) True trivial ?_
  refine v_call _ [2] (faultAt2_ok (#[97,99,99,111,117,110,116].toList) (↑a.length) (some (Er.num 42)) rfl) ((#[(97:UInt8),(99:UInt8),(99:UInt8),(111:UInt8),(117:UInt8),(110:UInt8),(116:UInt8)].toList=#[(97:UInt8),(99:UInt8),(99:UInt8),(111:UInt8),(117:UInt8),(110:UInt8),(116:UInt8)].toList)∧((↑a.length:Int)=(↑a.length:Int))∧((42:Int)=(42:Int))∧(PE (some (Er.num 42))=PE (some (Er.num 42)))∧(false=false)) ⟨rfl,rfl,rfl,rfl,rfl⟩ (fun g2 p3=>?_)
  have p3:True:=p3
  exact v_ret () [3] (([]=pa a d n)∧([]=pd a d n)∧(PE (some (Er.step #[97,99,99,111,117,110,116].toList (↑a.length) ((some (Er.num 42)).getD (Er.num 0))))=PE (ofE a d n))∧(false=(ofE a d n).isNone)) ⟨(by exact pa0 (ofa (.inl ‹_›))),(by exact pd0 (ofa (.inl ‹_›))),(by exact pe0 (ofa (.inl ‹_›))),(by exact pn0 (ofa (.inl ‹_›)))⟩ trivial
 ·have h1:=of_decide_eq_false h1
  refine v_guard 17 (decide (16<(↑a.length:Int))) True trivial (fun h4=>?_) (fun h4=>?_)
  ·have h4:=of_decide_eq_true h4
   refine v_al [] (al_e1 (42)) True trivial ?_
   refine v_call _ [2] (faultAt2_ok (#[97,99,99,111,117,110,116].toList) (↑a.length) (some (Er.num 42)) rfl) ((#[(97:UInt8),(99:UInt8),(99:UInt8),(111:UInt8),(117:UInt8),(110:UInt8),(116:UInt8)].toList=#[(97:UInt8),(99:UInt8),(99:UInt8),(111:UInt8),(117:UInt8),(110:UInt8),(116:UInt8)].toList)∧((↑a.length:Int)=(↑a.length:Int))∧((42:Int)=(42:Int))∧(PE (some (Er.num 42))=PE (some (Er.num 42)))∧(false=false)) ⟨rfl,rfl,rfl,rfl,rfl⟩ (fun g5 p6=>?_)
   have p6:True:=p6
   exact v_ret () [3] (([]=pa a d n)∧([]=pd a d n)∧(PE (some (Er.step #[97,99,99,111,117,110,116].toList (↑a.length) ((some (Er.num 42)).getD (Er.num 0))))=PE (ofE a d n))∧(false=(ofE a d n).isNone)) ⟨(by exact pa0 (ofa (.inr (.inl ‹_›)))),(by exact pd0 (ofa (.inr (.inl ‹_›)))),(by exact pe0 (ofa (.inr (.inl ‹_›)))),(by exact pn0 (ofa (.inr (.inl ‹_›))))⟩ trivial
  ·have h4:=of_decide_eq_false h4
   refine v_call _ [] (Contains_ok (a)) ((a=a)∧(#[(47:UInt8)].toList=#[(47:UInt8)].toList)) ⟨rfl,rfl⟩ (fun g7 p8=>?_)
   have p8:True:=p8
   refine v_if (a.contains 47) True trivial (fun h9=>?_) (fun h9=>?_)
   ·skip
    refine v_al [] (al_e1 (42)) True trivial ?_
    refine v_call _ [2] (faultAt2_ok (#[97,99,99,111,117,110,116].toList) (↑a.length) (some (Er.num 42)) rfl) ((#[(97:UInt8),(99:UInt8),(99:UInt8),(111:UInt8),(117:UInt8),(110:UInt8),(116:UInt8)].toList=#[(97:UInt8),(99:UInt8),(99:UInt8),(111:UInt8),(117:UInt8),(110:UInt8),(116:UInt8)].toList)∧((↑a.length:Int)=(↑a.length:Int))∧((42:Int)=(42:Int))∧(PE (some (Er.num 42))=PE (some (Er.num 42)))∧(false=false)) ⟨rfl,rfl,rfl,rfl,rfl⟩ (fun g10 p11=>?_)
    have p11:True:=p11
    exact v_ret () [3] (([]=pa a d n)∧([]=pd a d n)∧(PE (some (Er.step #[97,99,99,111,117,110,116].toList (↑a.length) ((some (Er.num 42)).getD (Er.num 0))))=PE (ofE a d n))∧(false=(ofE a d n).isNone)) ⟨(by exact pa0 (ofa (.inr (.inr ‹_›)))),(by exact pd0 (ofa (.inr (.inr ‹_›)))),(by exact pe0 (ofa (.inr (.inr ‹_›)))),(by exact pn0 (ofa (.inr (.inr ‹_›))))⟩ trivial
   ·skip
    refine v_guard 30 (decide ((↑d.length:Int)=0)) True trivial (fun h12=>?_) (fun h12=>?_)
    ·have h12:=of_decide_eq_true h12
     refine v_al [] (al_e1 (43)) True trivial ?_
     refine v_call _ [2] (faultAt2_ok (#[100,101,110,111,109].toList) (↑d.length) (some (Er.num 43)) rfl) ((#[(100:UInt8),(101:UInt8),(110:UInt8),(111:UInt8),(109:UInt8)].toList=#[(100:UInt8),(101:UInt8),(110:UInt8),(111:UInt8),(109:UInt8)].toList)∧((↑d.length:Int)=(↑d.length:Int))∧((43:Int)=(43:Int))∧(PE (some (Er.num 43))=PE (some (Er.num 43)))∧(false=false)) ⟨rfl,rfl,rfl,rfl,rfl⟩ (fun g13 p14=>?_)
     have p14:True:=p14
     exact v_ret () [3] (([]=pa a d n)∧([]=pd a d n)∧(PE (some (Er.step #[100,101,110,111,109].toList (↑d.length) ((some (Er.num 43)).getD (Er.num 0))))=PE (ofE a d n))∧(false=(ofE a d n).isNone)) ⟨(by exact pa0 (ofd ‹_› ‹_› ‹_› (.inl ‹_›))),(by exact pd0 (ofd ‹_› ‹_› ‹_› (.inl ‹_›))),(by exact pe0 (ofd ‹_› ‹_› ‹_› (.inl ‹_›))),(by exact pn0 (ofd ‹_› ‹_› ‹_› (.inl ‹_›)))⟩ trivial
    ·have h12:=of_decide_eq_false h12
     refine v_if (decide (40<(↑d.length:Int))) True trivial (fun h15=>?_) (fun h15=>?_)
     ·have h15:=of_decide_eq_true h15
      refine v_al [] (al_e1 (43)) True trivial ?_
      refine v_call _ [2] (faultAt2_ok (#[100,101,110,111,109].toList) (↑d.length) (some (Er.num 43)) rfl) ((#[(100:UInt8),(101:UInt8),(110:UInt8),(111:UInt8),(109:UInt8)].toList=#[(100:UInt8),(101:UInt8),(110:UInt8),(111:UInt8),(109:UInt8)].toList)∧((↑d.length:Int)=(↑d.length:Int))∧((43:Int)=(43:Int))∧(PE (some (Er.num 43))=PE (some (Er.num 43)))∧(false=false)) ⟨rfl,rfl,rfl,rfl,rfl⟩ (fun g16 p17=>?_)
      have p17:True:=p17
      exact v_ret () [3] (([]=pa a d n)∧([]=pd a d n)∧(PE (some (Er.step #[100,101,110,111,109].toList (↑d.length) ((some (Er.num 43)).getD (Er.num 0))))=PE (ofE a d n))∧(false=(ofE a d n).isNone)) ⟨(by exact pa0 (ofd ‹_› ‹_› ‹_› (.inr ‹_›))),(by exact pd0 (ofd ‹_› ‹_› ‹_› (.inr ‹_›))),(by exact pe0 (ofd ‹_› ‹_› ‹_› (.inr ‹_›))),(by exact pn0 (ofd ‹_› ‹_› ‹_› (.inr ‹_›)))⟩ trivial
     ·have h15:=of_decide_eq_false h15
      refine v_if (decide (n=0)) True trivial (fun h18=>?_) (fun h18=>?_)
      ·have h18:=of_decide_eq_true h18
       refine v_al [] (al_e1 (44)) True trivial ?_
       refine v_call _ [2] (faultAt2_ok (#[97,109,111,117,110,116].toList) (0) (some (Er.num 44)) rfl) ((#[(97:UInt8),(109:UInt8),(111:UInt8),(117:UInt8),(110:UInt8),(116:UInt8)].toList=#[(97:UInt8),(109:UInt8),(111:UInt8),(117:UInt8),(110:UInt8),(116:UInt8)].toList)∧((0:Int)=(0:Int))∧((44:Int)=(44:Int))∧(PE (some (Er.num 44))=PE (some (Er.num 44)))∧(false=false)) ⟨rfl,rfl,rfl,rfl,rfl⟩ (fun g19 p20=>?_)
       have p20:True:=p20
       exact v_ret () [3] (([]=pa a d n)∧([]=pd a d n)∧(PE (some (Er.step #[97,109,111,117,110,116].toList 0 ((some (Er.num 44)).getD (Er.num 0))))=PE (ofE a d n))∧(false=(ofE a d n).isNone)) ⟨(by exact pa0 (ofn ‹_› ‹_› ‹_› ‹_› ‹_› ‹_›)),(by exact pd0 (ofn ‹_› ‹_› ‹_› ‹_› ‹_› ‹_›)),(by exact pe0 (ofn ‹_› ‹_› ‹_› ‹_› ‹_› ‹_›)),(by exact pn0 (ofn ‹_› ‹_› ‹_› ‹_› ‹_› ‹_›))⟩ trivial
      ·have h18:=of_decide_eq_false h18
       refine v_al [] (al_e0 (ofE a d n) (by exact ofz ‹_› ‹_› ‹_› ‹_› ‹_› ‹_›)) True trivial ?_
       exact v_ret () [2] ((a=pa a d n)∧(d=pd a d n)∧(PE (ofE a d n)=PE (ofE a d n))∧((ofE a d n).isNone=(ofE a d n).isNone)) ⟨(by exact pa1 (ofz ‹_› ‹_› ‹_› ‹_› ‹_› ‹_›)),(by exact pd1 (ofz ‹_› ‹_› ‹_› ‹_› ‹_› ‹_›)),rfl,rfl⟩ trivial
noncomputable def ccU1_21:Code:=(Tryd.f21.body).getD .skip
theorem Hasnil_aux (a d:List UInt8):FOk EN 21 ⟨[],[.v (.pointer none),.s a,.s d],Unit,fun _=>([],.u 0),fun _=>True⟩:=by
 refine v_fun Tryd.f21 ccU1_21 MX (fun ν F σ w=>?_) Tryd.func21
 refine v_nl ?_
 exact v_ret () [] (((0:UInt64)=(0:UInt64))) rfl trivial
noncomputable def ccU1_15:Code:=(Tryd.f15.body).getD .skip
theorem Givenil_aux (a d:List UInt8) (n:UInt64):FOk EN 15 ⟨[],[.v (.pointer none),.s a,.s d,.u n],Unit,fun _=>([.pn (PE (some (.step ((#[98,97,110,107]:Array UInt8).toList) 0 (.num 1)))) true false],.n 0),fun _=>True⟩:=by
 refine v_fun Tryd.f15 ccU1_15 MX (fun ν F σ w=>?_) Tryd.func15
 refine v_nl ?_
 refine v_al [] (al_e1 (1)) True trivial ?_
 refine v_call _ [1] (faultAt2_ok (#[98,97,110,107].toList) (0) (some (Er.num 1)) rfl) ((#[(98:UInt8),(97:UInt8),(110:UInt8),(107:UInt8)].toList=#[(98:UInt8),(97:UInt8),(110:UInt8),(107:UInt8)].toList)∧((0:Int)=(0:Int))∧((1:Int)=(1:Int))∧(PE (some (Er.num 1))=PE (some (Er.num 1)))∧(false=false)) ⟨rfl,rfl,rfl,rfl,rfl⟩ (fun g1 p2=>?_)
 have p2:True:=p2
 exact v_ret () [2] ((PE (some (Er.step #[98,97,110,107].toList 0 ((some (Er.num 1)).getD (Er.num 0))))=PE (some (Er.step #[98,97,110,107].toList 0 (Er.num 1))))∧(false=false)) ⟨rfl,rfl⟩ trivial
noncomputable def ccU1_11:Code:=(Tryd.f11.body).getD .skip
theorem Takenil_aux (a d:List UInt8) (n:UInt64):FOk EN 11 ⟨[],[.v (.pointer none),.s a,.s d,.u n],Unit,fun _=>([.pn (PE (some (.step ((#[98,97,110,107]:Array UInt8).toList) 0 (.num 1)))) true false],.n 0),fun _=>True⟩:=by
 refine v_fun Tryd.f11 ccU1_11 MX (fun ν F σ w=>?_) Tryd.func11
 refine v_nl ?_
 refine v_al [] (al_e1 (1)) True trivial ?_
 refine v_call _ [1] (faultAt2_ok (#[98,97,110,107].toList) (0) (some (Er.num 1)) rfl) ((#[(98:UInt8),(97:UInt8),(110:UInt8),(107:UInt8)].toList=#[(98:UInt8),(97:UInt8),(110:UInt8),(107:UInt8)].toList)∧((0:Int)=(0:Int))∧((1:Int)=(1:Int))∧(PE (some (Er.num 1))=PE (some (Er.num 1)))∧(false=false)) ⟨rfl,rfl,rfl,rfl,rfl⟩ (fun g1 p2=>?_)
 have p2:True:=p2
 exact v_ret () [2] ((PE (some (Er.step #[98,97,110,107].toList 0 ((some (Er.num 1)).getD (Er.num 0))))=PE (some (Er.step #[98,97,110,107].toList 0 (Er.num 1))))∧(false=false)) ⟨rfl,rfl⟩ trivial
theorem Has_ok (B:BK) (a d:List UInt8):FOk EN 21 ⟨[.mp 54 B,.bx 56 [.n 0]],[.p 1 0,.s a,.s d],Unit,fun _=>([.mp 54 B,.bx 56 [.n 0]],.u (bget B a d)),fun _=>True⟩:=by
 refine v_fun Tryd.f21 ccU1_21 MX (fun ν F σ w=>?_) Tryd.func21
 refine v_nl ?_
 exact v_ret () [] (((mget B (a,d)).getD 0=bget B a d)∧(@Eq (List (Prod (Prod (List UInt8) (List UInt8)) UInt64)) B B)) ⟨rfl,rfl⟩ trivial
section
variable {B:BK} {a d t:List UInt8} {n:UInt64}
theorem nz {o:Option Er} (h:o.isNone=true):o=none:=by cases o with | none=>rfl | some _=>cases h
theorem paz (h:(ofE a d n).isNone=true):pa a d n=a:=(pa1 (nz h)).symm
theorem pdz (h:(ofE a d n).isNone=true):pd a d n=d:=(pd1 (nz h)).symm
theorem bgz (h:(ofE a d n).isNone=true):(mget B (pa a d n,pd a d n)).getD 0=bget B a d:=by rw[paz h,pdz h];rfl
theorem giE1 (h:(ofE a d n).isNone=false):giE B a d n=ofE a d n:=by unfold giE;rw[if_pos h]
theorem giE2 (h:(ofE a d n).isNone=true) (h2:18446744073709551615 - n<(mget B (pa a d n,pd a d n)).getD 0):giE B a d n=some (.step ((#[98,97,110,107]:Array UInt8).toList) 1 (.num 41)):=by
  rw[bgz h] at h2;unfold giE;rw[if_neg (by rw[h];decide),if_pos h2]
theorem giE3 (h:(ofE a d n).isNone=true) (h2:¬ 18446744073709551615 - n<(mget B (pa a d n,pd a d n)).getD 0):giE B a d n=none:=by
  rw[bgz h] at h2;unfold giE;rw[if_neg (by rw[h];decide),if_neg h2]
theorem giB1 (h:(ofE a d n).isNone=false):B=giB B a d n:=by unfold giB;rw[giE1 h,h];rfl
theorem giB2 (h:(ofE a d n).isNone=true) (h2:18446744073709551615 - n<(mget B (pa a d n,pd a d n)).getD 0):B=giB B a d n:=by unfold giB;rw[giE2 h h2];rfl
theorem giB3 (h:(ofE a d n).isNone=true) (h2:¬ 18446744073709551615 - n<(mget B (pa a d n,pd a d n)).getD 0):mput B (pa a d n,pd a d n) ((mget B (pa a d n,pd a d n)).getD 0+n)=giB B a d n:=by
  unfold giB;rw[giE3 h h2,bgz h,paz h,pdz h];rfl
end
noncomputable def ccU2_15:Code:=(Tryd.f15.body).getD .skip
theorem Give_ok (B:BK) (a d:List UInt8) (n:UInt64):FOk EN 15 ⟨[.mp 54 B,.bx 56 [.n 0]],[.p 1 0,.s a,.s d,.u n],Unit,fun _=>([.mp 54 (giB B a d n),.bx 56 [.n 0],.pn (PE (giE B a d n)) true (giE B a d n).isNone],.n 2),fun _=>True⟩:=by
 refine v_fun Tryd.f15 ccU2_15 MX (fun ν F σ w=>?_) Tryd.func15
 refine v_nl ?_
 refine v_call _ [] (of_ok (a) (d) (n)) ((a=a)∧(d=d)∧(n=n)) ⟨rfl,rfl,rfl⟩ (fun g1 p2=>?_)
 have p2:True:=p2
 refine v_if (!(ofE a d n).isNone) True trivial (fun h3=>?_) (fun h3=>?_)
 ·have h3:=(nt h3)
  exact v_ret () [3] ((@Eq (List (Prod (Prod (List UInt8) (List UInt8)) UInt64)) B (giB B a d n))∧(PE (ofE a d n)=PE (giE B a d n))∧((ofE a d n).isNone=(giE B a d n).isNone)) ⟨(by exact giB1 ‹_›),(by(rw[giE1 ‹_›])),(by(rw[giE1 ‹_›]))⟩ trivial
 ·have h3:=(nf h3)
  refine v_plan (.fs [0,1,2,3,4,5,6,7,8,9] .e) [0,1,4] True trivial ?_
  refine v_if (decide (18446744073709551615 - n<(mget B (pa a d n,pd a d n)).getD 0)) True trivial (fun h4=>?_) (fun h4=>?_)
  ·have h4:=of_decide_eq_true h4
   refine v_al [] (al_e1 (41)) True trivial ?_
   refine v_call _ [5] (faultAt2_ok (#[98,97,110,107].toList) (1) (some (Er.num 41)) rfl) ((#[(98:UInt8),(97:UInt8),(110:UInt8),(107:UInt8)].toList=#[(98:UInt8),(97:UInt8),(110:UInt8),(107:UInt8)].toList)∧((1:Int)=(1:Int))∧((41:Int)=(41:Int))∧(PE (some (Er.num 41))=PE (some (Er.num 41)))∧(false=false)) ⟨rfl,rfl,rfl,rfl,rfl⟩ (fun g5 p6=>?_)
   have p6:True:=p6
   exact v_ret () [6] ((@Eq (List (Prod (Prod (List UInt8) (List UInt8)) UInt64)) B (giB B a d n))∧(PE (some (Er.step #[98,97,110,107].toList 1 ((some (Er.num 41)).getD (Er.num 0))))=PE (giE B a d n))∧(false=(giE B a d n).isNone)) ⟨(by exact giB2 ‹_› ‹_›),(by(rw[giE2 ‹_› ‹_›];rfl)),(by(rw[giE2 ‹_› ‹_›];rfl))⟩ trivial
  ·have h4:=of_decide_eq_false h4
   refine v_plan (.fs [0,1,2,3,4,6] (.c 5 (.fs [7] (.o 8 (.fs [9] (.o 10 .e)))) (.o 8 (.fs [9] (.o 5 (.fs [7] (.o 10 .e))))))) [1,4] True trivial ?_
   refine v_pick True trivial ?_ ?_
   ·skip
    refine v_al [] (al_e0 (giE B a d n) (by(rw[giE3 ‹_› ‹_›];done))) True trivial ?_
    exact v_ret () [6] ((mput B (pa a d n,pd a d n) ((mget B (pa a d n,pd a d n)).getD 0+n)=giB B a d n)∧(PE (giE B a d n)=PE (giE B a d n))∧((giE B a d n).isNone=(giE B a d n).isNone)) ⟨(by exact giB3 ‹_› ‹_›),rfl,rfl⟩ trivial
   ·skip
    refine v_al [] (al_e0 (giE B a d n) (by(rw[giE3 ‹_› ‹_›];done))) True trivial ?_
    exact v_ret () [6] ((mput B (pa a d n,pd a d n) ((mget B (pa a d n,pd a d n)).getD 0+n)=giB B a d n)∧(PE (giE B a d n)=PE (giE B a d n))∧((giE B a d n).isNone=(giE B a d n).isNone)) ⟨(by exact giB3 ‹_› ‹_›),rfl,rfl⟩ trivial
section
variable {B:BK} {a d t:List UInt8} {n:UInt64}
theorem taE1 (h:(ofE a d n).isNone=false):taE B a d n=ofE a d n:=by unfold taE;rw[if_pos h]
theorem taE2 (h:(ofE a d n).isNone=true) (h2:(mget B (pa a d n,pd a d n)).getD 0<n):taE B a d n=some (.step ((#[98,97,110,107]:Array UInt8).toList) 2 (.num 40)):=by
  rw[bgz h] at h2;unfold taE;rw[if_neg (by rw[h];decide),if_pos h2]
theorem taE3 (h:(ofE a d n).isNone=true) (h2:¬ (mget B (pa a d n,pd a d n)).getD 0<n):taE B a d n=none:=by
  rw[bgz h] at h2;unfold taE;rw[if_neg (by rw[h];decide),if_neg h2]
theorem taB1 (h:(ofE a d n).isNone=false):B=taB B a d n:=by unfold taB;rw[taE1 h,if_pos h]
theorem taB2 (h:(ofE a d n).isNone=true) (h2:(mget B (pa a d n,pd a d n)).getD 0<n):B=taB B a d n:=by unfold taB;rw[taE2 h h2];rfl
theorem mgp (k:List UInt8 × List UInt8) (v:UInt64):(mget (mput B k v) k).getD 0=v:=by rw[mget_mput,if_pos rfl];rfl
theorem taB3 (h:(ofE a d n).isNone=true) (h2:¬ (mget B (pa a d n,pd a d n)).getD 0<n) (h3:(mget (mput B (pa a d n,pd a d n) ((mget B (pa a d n,pd a d n)).getD 0 - n)) (pa a d n,pd a d n)).getD 0=0) :
    mdel (mput B (pa a d n,pd a d n) ((mget B (pa a d n,pd a d n)).getD 0 - n)) (pa a d n,pd a d n)=taB B a d n:=by
  rw[mgp] at h3
  unfold taB;rw[taE3 h h2];rw[bgz h] at *;rw[paz h,pdz h]
  rw[if_neg (by decide),if_pos h3]
theorem taB4 (h:(ofE a d n).isNone=true) (h2:¬ (mget B (pa a d n,pd a d n)).getD 0<n) (h3:¬ (mget (mput B (pa a d n,pd a d n) ((mget B (pa a d n,pd a d n)).getD 0 - n)) (pa a d n,pd a d n)).getD 0=0) :
    mput B (pa a d n,pd a d n) ((mget B (pa a d n,pd a d n)).getD 0 - n)=taB B a d n:=by
  rw[mgp] at h3
  unfold taB;rw[taE3 h h2];rw[bgz h] at *;rw[paz h,pdz h]
  rw[if_neg (by decide),if_neg h3]
end
noncomputable def ccU2_11:Code:=(Tryd.f11.body).getD .skip
theorem Take_ok (B:BK) (a d:List UInt8) (n:UInt64):FOk EN 11 ⟨[.mp 54 B,.bx 56 [.n 0]],[.p 1 0,.s a,.s d,.u n],Unit,fun _=>([.mp 54 (taB B a d n),.bx 56 [.n 0],.pn (PE (taE B a d n)) true (taE B a d n).isNone],.n 2),fun _=>True⟩:=by
 refine v_fun Tryd.f11 ccU2_11 MX (fun ν F σ w=>?_) Tryd.func11
 refine v_nl ?_
 refine v_call _ [] (of_ok (a) (d) (n)) ((a=a)∧(d=d)∧(n=n)) ⟨rfl,rfl,rfl⟩ (fun g1 p2=>?_)
 have p2:True:=p2
 refine v_if (!(ofE a d n).isNone) True trivial (fun h3=>?_) (fun h3=>?_)
 ·have h3:=(nt h3)
  exact v_ret () [3] ((@Eq (List (Prod (Prod (List UInt8) (List UInt8)) UInt64)) B (taB B a d n))∧(PE (ofE a d n)=PE (taE B a d n))∧((ofE a d n).isNone=(taE B a d n).isNone)) ⟨(by exact taB1 ‹_›),(by(rw[taE1 ‹_›])),(by(rw[taE1 ‹_›]))⟩ trivial
 ·have h3:=(nf h3)
  refine v_plan (.fs [0,1,2,3,4,5,6,7,8] .e) [0,1,4] True trivial ?_
  refine v_if (decide ((mget B (pa a d n,pd a d n)).getD 0<n)) True trivial (fun h4=>?_) (fun h4=>?_)
  ·have h4:=of_decide_eq_true h4
   refine v_al [] (al_e1 (40)) True trivial ?_
   refine v_call _ [5] (faultAt2_ok (#[98,97,110,107].toList) (2) (some (Er.num 40)) rfl) ((#[(98:UInt8),(97:UInt8),(110:UInt8),(107:UInt8)].toList=#[(98:UInt8),(97:UInt8),(110:UInt8),(107:UInt8)].toList)∧((2:Int)=(2:Int))∧((40:Int)=(40:Int))∧(PE (some (Er.num 40))=PE (some (Er.num 40)))∧(false=false)) ⟨rfl,rfl,rfl,rfl,rfl⟩ (fun g5 p6=>?_)
   have p6:True:=p6
   exact v_ret () [6] ((@Eq (List (Prod (Prod (List UInt8) (List UInt8)) UInt64)) B (taB B a d n))∧(PE (some (Er.step #[98,97,110,107].toList 2 ((some (Er.num 40)).getD (Er.num 0))))=PE (taE B a d n))∧(false=(taE B a d n).isNone)) ⟨(by exact taB2 ‹_› ‹_›),(by(rw[taE2 ‹_› ‹_›];rfl)),(by(rw[taE2 ‹_› ‹_›];rfl))⟩ trivial
  ·have h4:=of_decide_eq_false h4
   refine v_plan (.fs [0,1,2,3,4,6] (.c 5 (.fs [7] (.o 8 (.fs [9] (.o 10 .e)))) (.o 8 (.fs [9] (.o 5 (.fs [7] (.o 10 .e))))))) [1,4] True trivial ?_
   refine v_pick True trivial ?_ ?_
   ·skip
    refine v_plan (.fs [0,1,2,3,4,5,6] .e) [0,1,4] True trivial ?_
    refine v_if (decide ((mget (mput B (pa a d n,pd a d n) ((mget B (pa a d n,pd a d n)).getD 0 - n)) (pa a d n,pd a d n)).getD 0=0)) True trivial (fun h7=>?_) (fun h7=>?_)
    ·have h7:=of_decide_eq_true h7
     refine v_plan (.fs [0,1,2] (.c 3 (.o 4 (.o 5 .e)) (.o 4 (.o 3 (.o 5 .e))))) [] True trivial ?_
     refine v_pick True trivial ?_ ?_
     ·skip
      refine v_al [] (al_e0 (taE B a d n) (by(rw[taE3 ‹_› ‹_›];done))) True trivial ?_
      exact v_ret () [6] ((mdel (mput B (pa a d n,pd a d n) ((mget B (pa a d n,pd a d n)).getD 0 - n)) (pa a d n,pd a d n)=taB B a d n)∧(PE (taE B a d n)=PE (taE B a d n))∧((taE B a d n).isNone=(taE B a d n).isNone)) ⟨(by exact taB3 ‹_› ‹_› ‹_›),rfl,rfl⟩ trivial
     ·skip
      refine v_al [] (al_e0 (taE B a d n) (by(rw[taE3 ‹_› ‹_›];done))) True trivial ?_
      exact v_ret () [6] ((mdel (mput B (pa a d n,pd a d n) ((mget B (pa a d n,pd a d n)).getD 0 - n)) (pa a d n,pd a d n)=taB B a d n)∧(PE (taE B a d n)=PE (taE B a d n))∧((taE B a d n).isNone=(taE B a d n).isNone)) ⟨(by exact taB3 ‹_› ‹_› ‹_›),rfl,rfl⟩ trivial
    ·have h7:=of_decide_eq_false h7
     refine v_al [] (al_e0 (taE B a d n) (by(rw[taE3 ‹_› ‹_›];done))) True trivial ?_
     exact v_ret () [6] ((mput B (pa a d n,pd a d n) ((mget B (pa a d n,pd a d n)).getD 0 - n)=taB B a d n)∧(PE (taE B a d n)=PE (taE B a d n))∧((taE B a d n).isNone=(taE B a d n).isNone)) ⟨(by exact taB4 ‹_› ‹_› ‹_›),rfl,rfl⟩ trivial
   ·skip
    refine v_plan (.fs [0,1,2,3,4,5,6] .e) [0,1,4] True trivial ?_
    refine v_if (decide ((mget (mput B (pa a d n,pd a d n) ((mget B (pa a d n,pd a d n)).getD 0 - n)) (pa a d n,pd a d n)).getD 0=0)) True trivial (fun h8=>?_) (fun h8=>?_)
    ·have h8:=of_decide_eq_true h8
     refine v_plan (.fs [0,1,2] (.c 3 (.o 4 (.o 5 .e)) (.o 4 (.o 3 (.o 5 .e))))) [] True trivial ?_
     refine v_pick True trivial ?_ ?_
     ·skip
      refine v_al [] (al_e0 (taE B a d n) (by(rw[taE3 ‹_› ‹_›];done))) True trivial ?_
      exact v_ret () [6] ((mdel (mput B (pa a d n,pd a d n) ((mget B (pa a d n,pd a d n)).getD 0 - n)) (pa a d n,pd a d n)=taB B a d n)∧(PE (taE B a d n)=PE (taE B a d n))∧((taE B a d n).isNone=(taE B a d n).isNone)) ⟨(by exact taB3 ‹_› ‹_› ‹_›),rfl,rfl⟩ trivial
     ·skip
      refine v_al [] (al_e0 (taE B a d n) (by(rw[taE3 ‹_› ‹_›];done))) True trivial ?_
      exact v_ret () [6] ((mdel (mput B (pa a d n,pd a d n) ((mget B (pa a d n,pd a d n)).getD 0 - n)) (pa a d n,pd a d n)=taB B a d n)∧(PE (taE B a d n)=PE (taE B a d n))∧((taE B a d n).isNone=(taE B a d n).isNone)) ⟨(by exact taB3 ‹_› ‹_› ‹_›),rfl,rfl⟩ trivial
    ·have h8:=of_decide_eq_false h8
     refine v_al [] (al_e0 (taE B a d n) (by(rw[taE3 ‹_› ‹_›];done))) True trivial ?_
     exact v_ret () [6] ((mput B (pa a d n,pd a d n) ((mget B (pa a d n,pd a d n)).getD 0 - n)=taB B a d n)∧(PE (taE B a d n)=PE (taE B a d n))∧((taE B a d n).isNone=(taE B a d n).isNone)) ⟨(by exact taB4 ‹_› ‹_› ‹_›),rfl,rfl⟩ trivial
section
variable {B:BK} {f t d:List UInt8} {n:UInt64}
theorem moE1 (h:(taE B f d n).isNone=false):moE B f t d n=taE B f d n:=by unfold moE;rw[if_pos h]
theorem moE2 (h:(taE B f d n).isNone=true) (h2:(giE (taB B f d n) t d n).isNone=false):moE B f t d n=some (.step ((#[116,111]:Array UInt8).toList) 0 ((giE (taB B f d n) t d n).getD (.num 0))):=by
  unfold moE;rw[if_neg (by rw[h];decide),if_pos h2]
theorem moE3 (h:(taE B f d n).isNone=true) (h2:(giE (taB B f d n) t d n).isNone=true):moE B f t d n=none:=by
  unfold moE;rw[if_neg (by rw[h];decide),if_neg (by rw[h2];decide)]
theorem moB1 (h:(taE B f d n).isNone=false):taB B f d n=moB B f t d n:=by unfold moB taB;rw[if_pos h,if_pos h]
theorem moB2 (h:(taE B f d n).isNone=true) (h2:(giE (taB B f d n) t d n).isNone=false):mput (giB (taB B f d n) t d n) (f,d) ((mget (giB (taB B f d n) t d n) (f,d)).getD 0+n)=moB B f t d n:=by
  have e:giB (taB B f d n) t d n=taB B f d n:=by unfold giB;rw[if_neg (by rw[h2];decide)]
  unfold moB;rw[if_neg (by rw[h];decide),if_pos h2,e];rfl
theorem moB3 (h:(taE B f d n).isNone=true) (h2:(giE (taB B f d n) t d n).isNone=true):giB (taB B f d n) t d n=moB B f t d n:=by
  unfold moB;rw[if_neg (by rw[h];decide),if_neg (by rw[h2];decide)]
end
noncomputable def ccU3_13:Code:=(Tryd.f13.body).getD .skip
theorem Move_ok (B:BK) (f t d:List UInt8) (n:UInt64):FOk EN 13 ⟨[.mp 54 B,.bx 56 [.n 0]],[.p 1 0,.s f,.s t,.s d,.u n],Unit,fun _=>([.mp 54 (moB B f t d n),.bx 56 [.n 0],.pn (PE (moE B f t d n)) true (moE B f t d n).isNone],.n 2),fun _=>True⟩:=by
 refine v_fun Tryd.f13 ccU3_13 MX (fun ν F σ w=>?_) Tryd.func13
 refine v_nl ?_
 refine v_call _ [0,1] (Take_ok (B) (f) (d) (n)) ((f=f)∧(d=d)∧(n=n)∧(@Eq (List (Prod (Prod (List UInt8) (List UInt8)) UInt64)) B B)) ⟨rfl,rfl,rfl,rfl⟩ (fun g1 p2=>?_)
 have p2:True:=p2
 refine v_if (!(taE B f d n).isNone) True trivial (fun h3=>?_) (fun h3=>?_)
 ·have h3:=(nt h3)
  exact v_ret () [3] ((@Eq (List (Prod (Prod (List UInt8) (List UInt8)) UInt64)) (taB B f d n) (moB B f t d n))∧(PE (taE B f d n)=PE (moE B f t d n))∧((taE B f d n).isNone=(moE B f t d n).isNone)) ⟨(by exact moB1 ‹_›),(by(rw[moE1 ‹_›])),(by(rw[moE1 ‹_›]))⟩ trivial
 ·have h3:=(nf h3)
  refine v_call _ [0,1] (Give_ok (taB B f d n) (t) (d) (n)) ((t=t)∧(d=d)∧(n=n)∧(@Eq (List (Prod (Prod (List UInt8) (List UInt8)) UInt64)) (taB B f d n) (taB B f d n))) ⟨rfl,rfl,rfl,rfl⟩ (fun g4 p5=>?_)
  have p5:True:=p5
  refine v_if (!(giE (taB B f d n) t d n).isNone) True trivial (fun h6=>?_) (fun h6=>?_)
  ·have h6:=(nt h6)
   refine v_plan (.fs [0,1,2,3,4,5,6,8] (.c 7 (.fs [9] (.o 10 (.fs [11] (.o 12 .e)))) (.o 10 (.fs [11] (.o 7 (.fs [9] (.o 12 .e))))))) [1] True trivial ?_
   refine v_pick True trivial ?_ ?_
   ·skip
    refine v_call _ [4] (faultAt2_ok (#[116,111].toList) (0) (giE (taB B f d n) t d n) ‹_›) ((#[(116:UInt8),(111:UInt8)].toList=#[(116:UInt8),(111:UInt8)].toList)∧((0:Int)=(0:Int))∧(PE (giE (taB B f d n) t d n)=PE (giE (taB B f d n) t d n))∧((giE (taB B f d n) t d n).isNone=(giE (taB B f d n) t d n).isNone)) ⟨rfl,rfl,rfl,rfl⟩ (fun g7 p8=>?_)
    have p8:True:=p8
    exact v_ret () [6] ((mput (giB (taB B f d n) t d n) (f,d) ((mget (giB (taB B f d n) t d n) (f,d)).getD 0+n)=moB B f t d n)∧(PE (some (Er.step #[116,111].toList 0 ((giE (taB B f d n) t d n).getD (Er.num 0))))=PE (moE B f t d n))∧(false=(moE B f t d n).isNone)) ⟨(by exact moB2 ‹_› ‹_›),(by(rw[moE2 ‹_› ‹_›])),(by(rw[moE2 ‹_› ‹_›];rfl))⟩ trivial
   ·skip
    refine v_call _ [4] (faultAt2_ok (#[116,111].toList) (0) (giE (taB B f d n) t d n) ‹_›) ((#[(116:UInt8),(111:UInt8)].toList=#[(116:UInt8),(111:UInt8)].toList)∧((0:Int)=(0:Int))∧(PE (giE (taB B f d n) t d n)=PE (giE (taB B f d n) t d n))∧((giE (taB B f d n) t d n).isNone=(giE (taB B f d n) t d n).isNone)) ⟨rfl,rfl,rfl,rfl⟩ (fun g9 p10=>?_)
    have p10:True:=p10
    exact v_ret () [6] ((mput (giB (taB B f d n) t d n) (f,d) ((mget (giB (taB B f d n) t d n) (f,d)).getD 0+n)=moB B f t d n)∧(PE (some (Er.step #[116,111].toList 0 ((giE (taB B f d n) t d n).getD (Er.num 0))))=PE (moE B f t d n))∧(false=(moE B f t d n).isNone)) ⟨(by exact moB2 ‹_› ‹_›),(by(rw[moE2 ‹_› ‹_›])),(by(rw[moE2 ‹_› ‹_›];rfl))⟩ trivial
  ·have h6:=(nf h6)
   refine v_al [] (al_e0 (moE B f t d n) (by(rw[moE3 ‹_› ‹_›];done))) True trivial ?_
   exact v_ret () [5] ((@Eq (List (Prod (Prod (List UInt8) (List UInt8)) UInt64)) (giB (taB B f d n) t d n) (moB B f t d n))∧(PE (moE B f t d n)=PE (moE B f t d n))∧((moE B f t d n).isNone=(moE B f t d n).isNone)) ⟨(by exact moB3 ‹_› ‹_›),rfl,rfl⟩ trivial
theorem Hasnil_ok (a d:List UInt8):FOk EN 21 ⟨[],[.v (.pointer none),.s a,.s d],Unit,fun _=>([],.u 0),fun _=>True⟩:=Hasnil_aux a d
theorem Givenil_ok (a d:List UInt8) (n:UInt64):FOk EN 15 ⟨[],[.v (.pointer none),.s a,.s d,.u n],Unit,fun _=>([.pn (PE (some (.step ((#[98,97,110,107]:Array UInt8).toList) 0 (.num 1)))) true false],.n 0),fun _=>True⟩:=Givenil_aux a d n
theorem Takenil_ok (a d:List UInt8) (n:UInt64):FOk EN 11 ⟨[],[.v (.pointer none),.s a,.s d,.u n],Unit,fun _=>([.pn (PE (some (.step ((#[98,97,110,107]:Array UInt8).toList) 0 (.num 1)))) true false],.n 0),fun _=>True⟩:=Takenil_aux a d n
theorem Movenil_ok (f t d:List UInt8) (n:UInt64):FOk EN 13 ⟨[],[.v (.pointer none),.s f,.s t,.s d,.u n],Unit,fun _=>([.pn (PE (some (.step ((#[98,97,110,107]:Array UInt8).toList) 0 (.num 1)))) true false],.n 0),fun _=>True⟩:=by
 refine v_fun Tryd.f13 ccU3_13 MX (fun ν F σ w=>?_) Tryd.func13
 refine v_nl ?_
 refine v_call _ [] (Takenil_ok (f) (d) (n)) ((Value.pointer none=Value.pointer none)∧(f=f)∧(d=d)∧(n=n)) ⟨rfl,rfl,rfl,rfl⟩ (fun g1 p2=>?_)
 have p2:True:=p2
 refine v_if (!false) True trivial (fun h3=>?_) (fun h3=>?_)
 ·have h3:=(nt h3)
  exact v_ret () [1] ((PE (some (Er.step #[98,97,110,107].toList 0 (Er.num 1)))=PE (some (Er.step #[98,97,110,107].toList 0 (Er.num 1))))∧(false=false)) ⟨rfl,rfl⟩ trivial
 ·have h3:=(nf h3)
  contradiction
abbrev nm (k:UInt8) (raw:List UInt8):List UInt8:=if k % 16=15 then raw else[97+k % 5]
abbrev aw1:BK:=giB [] ((#[97]:Array UInt8).toList) ((#[120]:Array UInt8).toList) 5
abbrev aw2:BK:=moB aw1 ((#[97]:Array UInt8).toList) ((#[98]:Array UInt8).toList) ((#[120]:Array UInt8).toList) 3
noncomputable def ccV1_8:Code:=(Tryd.f8.body).getD .skip
theorem Awake12_aux (e1:(giE [] ((#[97]:Array UInt8).toList) ((#[120]:Array UInt8).toList) 5).isNone=true) (e2:(moE aw1 ((#[97]:Array UInt8).toList) ((#[98]:Array UInt8).toList) ((#[120]:Array UInt8).toList) 3).isNone=true) (v1:bget aw2 ((#[97]:Array UInt8).toList) ((#[120]:Array UInt8).toList)=2) (v2:bget aw2 ((#[98]:Array UInt8).toList) ((#[120]:Array UInt8).toList)=3) (t1:codeO (taE aw2 ((#[97]:Array UInt8).toList) ((#[120]:Array UInt8).toList) 3)=40) (d1:depO (taE aw2 ((#[97]:Array UInt8).toList) ((#[120]:Array UInt8).toList) 3)≤3):FOk EN 8 ⟨[.pr etP],[],Unit,fun _=>([.pr etP],.b true),fun _=>True⟩:=by
 refine v_fun Tryd.f8 ccV1_8 MX (fun ν F σ w=>?_) Tryd.func8
 refine v_nl ?_
 refine v_call _ [] (New_ok) True trivial (fun g1 p2=>?_)
 have p2:True:=p2
 refine v_call _ [2,3] (Give_ok ([]) (#[97].toList) (#[120].toList) (5)) ((#[(97:UInt8)].toList=#[(97:UInt8)].toList)∧(#[(120:UInt8)].toList=#[(120:UInt8)].toList)∧((5:UInt64)=(5:UInt64))∧(Eq (α:=List ((List UInt8 × List UInt8) × UInt64)) [] [])) ⟨rfl,rfl,rfl,rfl⟩ (fun g3 p4=>?_)
 have p4:True:=p4
 refine v_call _ [2,3] (Move_ok (giB [] #[97].toList #[120].toList 5) (#[97].toList) (#[98].toList) (#[120].toList) (3)) ((#[(97:UInt8)].toList=#[(97:UInt8)].toList)∧(#[(98:UInt8)].toList=#[(98:UInt8)].toList)∧(#[(120:UInt8)].toList=#[(120:UInt8)].toList)∧((3:UInt64)=(3:UInt64))∧(giB [] #[(97:UInt8)].toList #[(120:UInt8)].toList (5:UInt64)=giB [] #[(97:UInt8)].toList #[(120:UInt8)].toList (5:UInt64))) ⟨rfl,rfl,rfl,rfl,rfl⟩ (fun g5 p6=>?_)
 have p6:True:=p6
 refine v_guard 11 ((giE [] #[97].toList #[120].toList 5).isNone) True trivial (fun h7=>?_) (fun h7=>?_)
 ·skip
  refine v_guard 15 ((moE (giB [] #[97].toList #[120].toList 5) #[97].toList #[98].toList #[120].toList 3).isNone) True trivial (fun h8=>?_) (fun h8=>?_)
  ·skip
   refine v_call _ [2,3] (Has_ok (moB (giB [] #[97].toList #[120].toList 5) #[97].toList #[98].toList #[120].toList 3) (#[97].toList) (#[120].toList)) ((#[(97:UInt8)].toList=#[(97:UInt8)].toList)∧(#[(120:UInt8)].toList=#[(120:UInt8)].toList)∧(moB (giB [] #[(97:UInt8)].toList #[(120:UInt8)].toList (5:UInt64)) #[(97:UInt8)].toList #[(98:UInt8)].toList #[(120:UInt8)].toList (3:UInt64)=moB (giB [] #[(97:UInt8)].toList #[(120:UInt8)].toList (5:UInt64)) #[(97:UInt8)].toList #[(98:UInt8)].toList #[(120:UInt8)].toList (3:UInt64))) ⟨rfl,rfl,rfl⟩ (fun g9 p10=>?_)
   have p10:True:=p10
   refine v_guard 20 (decide (bget (moB (giB [] #[97].toList #[120].toList 5) #[97].toList #[98].toList #[120].toList 3) #[97].toList #[120].toList=2)) True trivial (fun h11=>?_) (fun h11=>?_)
   ·have h11:=of_decide_eq_true h11
    refine v_call _ [2,3] (Has_ok (moB (giB [] #[97].toList #[120].toList 5) #[97].toList #[98].toList #[120].toList 3) (#[98].toList) (#[120].toList)) ((#[(98:UInt8)].toList=#[(98:UInt8)].toList)∧(#[(120:UInt8)].toList=#[(120:UInt8)].toList)∧(moB (giB [] #[(97:UInt8)].toList #[(120:UInt8)].toList (5:UInt64)) #[(97:UInt8)].toList #[(98:UInt8)].toList #[(120:UInt8)].toList (3:UInt64)=moB (giB [] #[(97:UInt8)].toList #[(120:UInt8)].toList (5:UInt64)) #[(97:UInt8)].toList #[(98:UInt8)].toList #[(120:UInt8)].toList (3:UInt64))) ⟨rfl,rfl,rfl⟩ (fun g12 p13=>?_)
    have p13:True:=p13
    refine v_guard 25 (decide (bget (moB (giB [] #[97].toList #[120].toList 5) #[97].toList #[98].toList #[120].toList 3) #[98].toList #[120].toList=3)) True trivial (fun h14=>?_) (fun h14=>?_)
    ·have h14:=of_decide_eq_true h14
     refine v_call _ [2,3] (Take_ok (moB (giB [] #[97].toList #[120].toList 5) #[97].toList #[98].toList #[120].toList 3) (#[97].toList) (#[120].toList) (3)) ((#[(97:UInt8)].toList=#[(97:UInt8)].toList)∧(#[(120:UInt8)].toList=#[(120:UInt8)].toList)∧((3:UInt64)=(3:UInt64))∧(moB (giB [] #[(97:UInt8)].toList #[(120:UInt8)].toList (5:UInt64)) #[(97:UInt8)].toList #[(98:UInt8)].toList #[(120:UInt8)].toList (3:UInt64)=moB (giB [] #[(97:UInt8)].toList #[(120:UInt8)].toList (5:UInt64)) #[(97:UInt8)].toList #[(98:UInt8)].toList #[(120:UInt8)].toList (3:UInt64))) ⟨rfl,rfl,rfl,rfl⟩ (fun g15 p16=>?_)
     have p16:True:=p16
     refine v_call _ [0,6] (Code_ok (taE (moB (giB [] #[97].toList #[120].toList 5) #[97].toList #[98].toList #[120].toList 3) #[97].toList #[120].toList 3) (by decide)) ((etP=etP)∧(PE (taE (moB (giB [] #[97].toList #[120].toList 5) #[97].toList #[98].toList #[120].toList 3) #[97].toList #[120].toList 3)=PE (taE (moB (giB [] #[97].toList #[120].toList 5) #[97].toList #[98].toList #[120].toList 3) #[97].toList #[120].toList 3))∧((taE (moB (giB [] #[97].toList #[120].toList 5) #[97].toList #[98].toList #[120].toList 3) #[97].toList #[120].toList 3).isNone=(taE (moB (giB [] #[97].toList #[120].toList 5) #[97].toList #[98].toList #[120].toList 3) #[97].toList #[120].toList 3).isNone)) ⟨rfl,rfl,rfl⟩ (fun g17 p18=>?_)
     have p18:True:=p18
     exact v_ret () [] ((decide (codeO (taE (moB (giB [] #[97].toList #[120].toList 5) #[97].toList #[98].toList #[120].toList 3) #[97].toList #[120].toList 3)=40)=true)∧(etP=etP)) ⟨rfl,rfl⟩ trivial
    ·have h14:=of_decide_eq_false h14
     contradiction
   ·have h11:=of_decide_eq_false h11
    contradiction
  ·skip
   contradiction
 ·skip
  contradiction
theorem Awake12_ok:FOk EN 8 ⟨[.pr etP],[],Unit,fun _=>([.pr etP],.b true),fun _=>True⟩:=Awake12_aux (by decide) (by decide) (by decide) (by decide) (by decide) (by decide)
noncomputable def ccV2_19:Code:=(Tryd.f19.body).getD .skip
theorem Allnil_ok:FOk EN 19 ⟨[],[.v (.pointer none)],Unit,fun _=>([],.v (.slice none 0 0)),fun _=>True⟩:=by
 refine v_fun Tryd.f19 ccV2_19 MX (fun ν F σ w=>?_) Tryd.func19
 refine v_nl ?_
 exact v_ret () [] ((Value.slice none 0 0=Value.slice none 0 0)) rfl trivial
noncomputable def ccV2_6:Code:=(Tryd.f6.body).getD .skip
theorem BankNil_ok (a c d:List UInt8) (n:UInt64):FOk EN 6 ⟨[.pr etP],[.s a,.s c,.s d,.u n],Unit,fun _=>([.pr etP],.b true),fun _=>True⟩:=by
 refine v_fun Tryd.f6 ccV2_6 MX (fun ν F σ w=>?_) Tryd.func6
 refine v_nl ?_
 refine v_call _ [0] (Awake12_ok) ((etP=etP)) rfl (fun g1 p2=>?_)
 have p2:True:=p2
 refine v_if (!true) True trivial (fun h3=>?_) (fun h3=>?_)
 ·have h3:=(nt h3)
  contradiction
 ·have h3:=(nf h3)
  refine v_call _ [] (Hasnil_ok (a) (d)) ((Value.pointer none=Value.pointer none)∧(a=a)∧(d=d)) ⟨rfl,rfl,rfl⟩ (fun g4 p5=>?_)
  have p5:True:=p5
  refine v_guard 17 (decide ((0:UInt64)=(0:UInt64))) True trivial (fun h6=>?_) (fun h6=>?_)
  ·have h6:=of_decide_eq_true h6
   refine v_call _ [] (Givenil_ok (a) (d) (n)) ((Value.pointer none=Value.pointer none)∧(a=a)∧(d=d)∧(n=n)) ⟨rfl,rfl,rfl,rfl⟩ (fun g7 p8=>?_)
   have p8:True:=p8
   refine v_call _ [0,2] (Code_ok (some (Er.step #[98,97,110,107].toList 0 (Er.num 1))) (by decide)) ((etP=etP)∧(PE (some (Er.step #[98,97,110,107].toList 0 (Er.num 1)))=PE (some (Er.step #[98,97,110,107].toList 0 (Er.num 1))))∧(false=false)) ⟨rfl,rfl,rfl⟩ (fun g9 p10=>?_)
   have p10:True:=p10
   refine v_guard 26 (decide (codeO (some (Er.step #[98,97,110,107].toList 0 (Er.num 1)))=1)) True trivial (fun h11=>?_) (fun h11=>?_)
   ·have h11:=of_decide_eq_true h11
    refine v_call _ [] (Takenil_ok (a) (d) (n)) ((Value.pointer none=Value.pointer none)∧(a=a)∧(d=d)∧(n=n)) ⟨rfl,rfl,rfl,rfl⟩ (fun g12 p13=>?_)
    have p13:True:=p13
    refine v_call _ [0,3] (Code_ok (some (Er.step #[98,97,110,107].toList 0 (Er.num 1))) (by decide)) ((etP=etP)∧(PE (some (Er.step #[98,97,110,107].toList 0 (Er.num 1)))=PE (some (Er.step #[98,97,110,107].toList 0 (Er.num 1))))∧(false=false)) ⟨rfl,rfl,rfl⟩ (fun g14 p15=>?_)
    have p15:True:=p15
    refine v_guard 35 (decide (codeO (some (Er.step #[98,97,110,107].toList 0 (Er.num 1)))=1)) True trivial (fun h16=>?_) (fun h16=>?_)
    ·have h16:=of_decide_eq_true h16
     refine v_call _ [] (Movenil_ok (a) (c) (d) (n)) ((Value.pointer none=Value.pointer none)∧(a=a)∧(c=c)∧(d=d)∧(n=n)) ⟨rfl,rfl,rfl,rfl,rfl⟩ (fun g17 p18=>?_)
     have p18:True:=p18
     refine v_call _ [0,4] (Code_ok (some (Er.step #[98,97,110,107].toList 0 (Er.num 1))) (by decide)) ((etP=etP)∧(PE (some (Er.step #[98,97,110,107].toList 0 (Er.num 1)))=PE (some (Er.step #[98,97,110,107].toList 0 (Er.num 1))))∧(false=false)) ⟨rfl,rfl,rfl⟩ (fun g19 p20=>?_)
     have p20:True:=p20
     refine v_guard 45 (decide (codeO (some (Er.step #[98,97,110,107].toList 0 (Er.num 1)))=1)) True trivial (fun h21=>?_) (fun h21=>?_)
     ·have h21:=of_decide_eq_true h21
      refine v_call _ [] (Allnil_ok) ((Value.pointer none=Value.pointer none)) rfl (fun g22 p23=>?_)
      have p23:True:=p23
      exact v_ret () [] ((decide ((↑(0:Nat):Int)=(0:Int))=true)∧(etP=etP)) ⟨rfl,rfl⟩ trivial
     ·have h21:=of_decide_eq_false h21
      omega
    ·have h16:=of_decide_eq_false h16
     omega
   ·have h11:=of_decide_eq_false h11
    contradiction
  ·have h6:=of_decide_eq_false h6
   contradiction
end Go.Proofs.YtblnnkkelkjbiaaDoor.X
