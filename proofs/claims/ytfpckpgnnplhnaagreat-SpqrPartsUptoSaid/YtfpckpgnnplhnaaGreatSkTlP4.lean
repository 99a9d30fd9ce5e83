/- Plain texts of this claim, part 4. By an AI agent. -/
import Derived.Test.YtfpckpgnnplhnaaGreatSkTlP3
import Derived.RowKit
import Derived.Shelf.SlSortCmp.Whole1
import Derived.Shelf.Slices.CompactI
import Derived.Shelf.Slices.SearchI
import Derived.Shelf.Sort.Plain
set_option linter.all false
namespace TL
open Go
def mT(f:Fr)(val:Nat->Value)(S:List Nat):Fr:=λt=>bif S.contains t then val t else f t
theorem sV{f:Fr}{val:Nat->Value}{S S':List Nat}(h:∀t,t∈S↔t∈S'):mT f val S=mT f val S':=by
 funext t
 unfold mT
 have:S.contains t=S'.contains t:=by
   rw[Bool.eq_iff_iff]
   simp only[List.contains_iff_mem];exact h t
 rw[this]
theorem zk{f:Fr}{val:Nat->Value}{S:List Nat}{d:Nat}{v:Value}(hd:d∉S):gg (mT f val S) (some d) v=mT f (λt=>if t=d then v else val t) (d::S):=by
 funext t
 unfold gg mT
 simp only
 by_cases c:t=d
 · subst c
   have e1:(t::S).contains t=true:=by simp
   rw[e1,Nat.beq_refl];simp
 · have e1:Nat.beq t d=false:=by
     cases h:Nat.beq t d with
     |false=>rfl
     |true=>exact absurd (Nat.eq_of_beq_eq_true h) c
   have e2:(d::S).contains t=S.contains t:=by
     rw[Bool.eq_iff_iff]
     simp[c]
   rw[e1,e2,if_neg c];rfl
def pJ{α:Type}:List α->List (List α)
 |[]=>[[]]
 |a::l=>pJ l++(pJ l).map (a:: ·)
theorem lu{α:Type}(p:α->Bool):∀l:List α,l.filter p∈pJ l
 |[]=>List.mem_singleton.2 rfl
 |a::l=>by
   have ih:=lu p l
   unfold pJ
   rw[List.filter_cons]
   split
   · exact List.mem_append_right _ (List.mem_map.2 ⟨_,ih,rfl⟩)
   · exact List.mem_append_left _ ih
theorem jE:∀(D A:List (Nat×Nat)),D.Nodup->(∀p∈D,p∈A)->D.length<=A.length
 |[],A,_,_=>Nat.zero_le _
 |a::D,A,hn,hs=>by
   have hn':=List.nodup_cons.1 hn
   have ha:=hs a (List.mem_cons_self ..)
   have h3:=jE D (A.erase a) hn'.2 (λx hx=>by
     have hne:x≠a:=λe=>hn'.1 (by rw[<-e];exact hx)
     exact(List.mem_erase_of_ne hne).2 (hs x (List.mem_cons_of_mem _ hx)))
   have h4:=List.length_erase_of_mem ha
   have h5:=List.length_pos_of_mem ha
   rw[List.length_cons];omega
theorem mF:∀{A:List (Nat×Nat)},(A.map Prod.fst).Nodup->A.Nodup
 |[],_=>List.nodup_nil
 |a::A,h=>by
   rw[List.map_cons,List.nodup_cons] at h
   exact List.nodup_cons.2 ⟨λk=>h.1 (List.mem_map.2 ⟨a,k,rfl⟩),mF h.2⟩
theorem mS{A:List (Nat×Nat)}(h:(A.map Prod.snd).Nodup){p q:Nat×Nat}(hp:p∈A)(hq:q∈A)(e:p.2=q.2):p=q:=by
 induction A with
 |nil=>exact absurd hp List.not_mem_nil
 |cons a A ih=>
   rw[List.map_cons,List.nodup_cons] at h
   rcases List.mem_cons.1 hp with e1|e1
   · rcases List.mem_cons.1 hq with e2|e2
     · rw[e1,e2]
     · exact absurd (List.mem_map.2 ⟨q,e2,by rw[<-e,e1]⟩) h.1
   · rcases List.mem_cons.1 hq with e2|e2
     · exact absurd (List.mem_map.2 ⟨p,e1,by rw[e,e2]⟩) h.1
     · exact ih h.2 e1 e2
section
variable{P:Program}{n:Nat}{l:List Oper}{qs:List Nat}{K:Fr->World->Prop}{f:Fr}{w:World}{done:List Nat}{fuel:Nat}
theorem mG{n:Nat}{d d':List Nat}(h:∀t,t∈d↔t∈d'):c9 n d=c9 n d':=by
 unfold c9
 congr 1
 apply List.map_congr_left
 intro t _
 rw[decide_eq_decide];exact h t
theorem sQ{done':List Nat}(h:∀t,t∈done↔t∈done')(hw:gP P n l qs K fuel done f w):gP P n l qs K fuel done' f w:=by
 unfold gP at*
 rw[<-mG h];exact hw
def xS(dep:Nat->List Nat)(D:List (Nat×Nat)):Bool:=D.all λp=>(dep p.2).all λt=>(D.map Prod.snd).contains t
def qf(dep:Nat->List Nat)(A D:List (Nat×Nat)):List (Nat×Nat):=A.filter λp=> !(D.map Prod.fst).contains p.1&&(dep p.2).all λt=>(D.map Prod.snd).contains t
def BK(l:List Oper)(done:List Nat)(dep:Nat->List Nat)(A:List (Nat×Nat)):Bool:=(pJ A).all λD=>decide (D.length=A.length)||(xS dep D).not||(decide (Region.ready .any l.toArray (c9 l.length (D.map Prod.fst++done))=(qf dep A D).map Prod.fst)&& !(qf dep A D).isEmpty)
theorem AJ(A:List (Nat×Nat))(dep:Nat->List Nat)(Φ:Nat->List Value->aw->World->Value->Prop)(γ:aw)
    (hst:∀p∈A,∀vs γ w γ' w' v,aU no γ w γ' w'->Φ p.2 vs γ w v->Φ p.2 vs γ' w' v)
    (hnd:(A.map Prod.snd).Nodup)(hnf:(A.map Prod.fst).Nodup)
    (hrd:BK l done dep A=true)
    (hop:∀p∈A,qs.contains p.1=false/\∃o,l[p.1]? =some o/\o.dst=some p.2/\jJ n o=true/\∀(f':Fr) (val:Nat->Value),(∀t,(A.map Prod.snd).contains t=false->f' t=f t)->(∀t∈dep p.2,f' t=val t)->cR l o f'=true/\∀γ w,(∀t∈dep p.2,Φ t ((dep t).map val) γ w (val t))->fv P o f' w λv w'=>∃γ',aU no γ w γ' w'/\Φ p.2 ((dep p.2).map val) γ' w' v)
    (hk:∀val γ' w',aU no γ w γ' w'->(∀p∈A,Φ p.2 ((dep p.2).map val) γ' w' (val p.2))->gP P n l qs K fuel (A.map Prod.fst++done) (mT f val (A.map Prod.snd)) w'):gP P n l qs K (fuel+A.length) done f w:=by
  have main:∀(m:Nat) (D:List (Nat×Nat)) (val:Nat->Value) (γ':aw) (w':World),D.Nodup->(∀p∈D,p∈A)->(∀p∈D,∀t∈dep p.2,t∈D.map Prod.snd)->D.length+m=A.length->aU no γ w γ' w'->(∀p∈D,Φ p.2 ((dep p.2).map val) γ' w' (val p.2))->gP P n l qs K (fuel+m) (D.map Prod.fst++done) (mT f val (D.map Prod.snd)) w':=by
    have hAn:A.Nodup:=mF hnf
    intro m
    induction m with
    |zero=>
      intro D val γ' w' hD hsub hcl hl hc hF
      have hmem:∀p,p∈A↔p∈D:=by
        intro p
        refine⟨λhp=>?_,hsub p⟩
        by_cases c:p∈D
        · exact c
        · exfalso
          have:=jE (p::D) A (List.nodup_cons.2 ⟨c,hD⟩) (λq hq=>(List.mem_cons.1 hq).elim (λe=>by rw[e];exact hp) (hsub q))
          rw[List.length_cons] at this;omega
      have h1:=hk val γ' w' hc (λp hp=>hF p ((hmem p).1 hp))
      have e1:∀t,t∈A.map Prod.fst++done↔t∈D.map Prod.fst++done:=λt=>by
        simp only[List.mem_append,List.mem_map]
        constructor
        · rintro(⟨p,hp,rfl⟩|h)
          · exact .inl ⟨p,(hmem p).1 hp,rfl⟩
          · exact .inr h
        · rintro(⟨p,hp,rfl⟩|h)
          · exact .inl ⟨p,(hmem p).2 hp,rfl⟩
          · exact .inr h
      have e2:mT f val (A.map Prod.snd)=mT f val (D.map Prod.snd):=sV λt=>by
        simp only[List.mem_map]
        constructor
        · rintro⟨p,hp,rfl⟩;exact⟨p,(hmem p).1 hp,rfl⟩
        · rintro⟨p,hp,rfl⟩;exact⟨p,(hmem p).2 hp,rfl⟩
      rw[e2] at h1
      exact sQ e1 h1
    |succ m ih=>
      intro D val γ' w' hD hsub hcl hl hc hF
      let D':=A.filter λp=>decide (p∈D)
      have hD':∀p,p∈D'↔p∈D:=λp=>by
        show p∈A.filter _↔_
        rw[List.mem_filter,decide_eq_true_iff]
        exact⟨λh=>h.2,λh=>⟨hsub p h,h⟩⟩
      have hD1:∀t,t∈D'.map Prod.fst↔t∈D.map Prod.fst:=λt=>by
        simp only[List.mem_map]
        exact⟨λ⟨p,hp,e⟩=>⟨p,(hD' p).1 hp,e⟩,λ⟨p,hp,e⟩=>⟨p,(hD' p).2 hp,e⟩⟩
      have hD2:∀t,t∈D'.map Prod.snd↔t∈D.map Prod.snd:=λt=>by
        simp only[List.mem_map]
        exact⟨λ⟨p,hp,e⟩=>⟨p,(hD' p).1 hp,e⟩,λ⟨p,hp,e⟩=>⟨p,(hD' p).2 hp,e⟩⟩
      have hlD:D'.length≠A.length:=by
        have h1:=jE D' D (hAn.filter _) (λp hp=>(hD' p).1 hp)
        omega
      have hcD:xS dep D'=true:=by
        unfold xS
        simp only[List.all_eq_true,List.contains_iff_mem]
        exact λp hp t ht=>(hD2 t).2 (hcl p ((hD' p).1 hp) t ht)
      have hr0:=List.all_eq_true.1 hrd D' (lu _ A)
      rw[decide_eq_false hlD,hcD] at hr0
      simp only[Bool.not_true,Bool.or_false,Bool.false_or,Bool.and_eq_true] at hr0
      obtain⟨hr1,hne⟩:=hr0
      have hr:=of_decide_eq_true hr1
      have em:c9 l.length (D'.map Prod.fst++done)=c9 l.length (D.map Prod.fst++done):=mG λt=>by
        simp only[List.mem_append];rw[hD1 t]
      rw[em] at hr
      have hnx:∀p,p∈qf dep A D'->p∈A/\p∉D/\∀t∈dep p.2,t∈D.map Prod.snd:=λp hp=>by
        unfold qf at hp
        rw[List.mem_filter,Bool.and_eq_true,List.all_eq_true] at hp
        obtain⟨h1,h2,h3⟩:=hp
        refine⟨h1,λk=>?_,λt ht=>(hD2 t).1 (List.contains_iff_mem.1 (h3 t ht))⟩
        have:p.1∈D'.map Prod.fst:=List.mem_map.2 ⟨p,(hD' p).2 k,rfl⟩
        simp[this] at h2
      intro a ha
      refine⟨λh0=>?_,λk hk2=>?_⟩
      · rw[hr] at h0
        have h5:qf dep A D'=[]:=List.map_eq_nil_iff.1 h0
        rw[h5] at hne;cases hne
      · rw[hr] at hk2
        obtain⟨p,hp0,rfl⟩:=List.mem_map.1 hk2
        obtain⟨hp,hpD,hdp⟩:=hnx p hp0
        obtain⟨hq,o,hi,hdst,hdk,ho⟩:=hop p hp
        have hlt:p.1<l.length:=(List.getElem?_eq_some_iff.1 hi).1
        have hq':decide (p.1∈qs)=false:=by simpa using hq
        have hd2:p.2∉D.map Prod.snd:=by
          intro k
          obtain⟨q,hq2,e⟩:=List.mem_map.1 k
          have:q=p:=mS hnd (hsub q hq2) hp e
          rw[this] at hq2;exact hpD hq2
        obtain⟨hw1,hw2⟩:=ho (mT f val (D.map Prod.snd)) val (λt ht=>by
          unfold mT
          have:(D.map Prod.snd).contains t=false:=by
            cases hc2:(D.map Prod.snd).contains t with
            |false=>rfl
            |true=>
              obtain⟨q,hq2,e⟩:=List.mem_map.1 (List.contains_iff_mem.1 hc2)
              have:(A.map Prod.snd).contains t=true:=List.contains_iff_mem.2 (List.mem_map.2 ⟨q,hsub q hq2,e⟩)
              rw[this] at ht;cases ht
          rw[this];rfl) (λt ht=>by
          unfold mT
          rw[List.contains_iff_mem.2 (hdp t ht)];rfl)
        simp only[hq',Bool.false_eq_true,if_false]
        refine eY ha hi hw1 (hw2 γ' w' (λt ht=>?_)) λv w2 ⟨γ2,c2,h2⟩=>?_
        · obtain⟨q,hq2,e⟩:=List.mem_map.1 (hdp t ht)
          rw[<-e];exact hF q hq2
        rw[cY _ hlt]
        have hc2:aU no γ w γ2 w2:=hc.trans c2 (λ_ _ h=>h.elim id id)
        have hval:∀q:Nat×Nat,(∀t∈dep q.2,t∈D.map Prod.snd)->(dep q.2).map (λt=>if t=p.2 then v else val t)=(dep q.2).map val:=λq hq2=>List.map_congr_left λt ht=>by
          rw[if_neg]
          intro e
          exact hd2 (by rw[<-e];exact hq2 t ht)
        have hnext:=ih (p::D) (λt=>if t=p.2 then v else val t) γ2 w2 (List.nodup_cons.2 ⟨hpD,hD⟩) (λq hq2=>(List.mem_cons.1 hq2).elim (λe=>by rw[e];exact hp) (hsub q)) (λq hq2 t ht=>by
          rw[List.map_cons]
          rcases List.mem_cons.1 hq2 with e|e
          · rw[e] at ht;exact List.mem_cons_of_mem _ (hdp t ht)
          · exact List.mem_cons_of_mem _ (hcl q e t ht)) (by rw[List.length_cons];omega) hc2 (λq hq2=>by
          rcases List.mem_cons.1 hq2 with e|e
          · rw[e,if_pos rfl,hval p hdp];exact h2
          · have hne:q.2≠p.2:=λk=>hd2 (by rw[<-k];exact List.mem_map.2 ⟨q,e,rfl⟩)
            rw[if_neg hne,hval q (hcl q e)]
            exact hst q (hsub q e) _ _ _ _ _ _ c2 (hF q e))
        have ef:gg (mT f val (D.map Prod.snd)) o.dst v=mT f (λt=>if t=p.2 then v else val t) ((p::D).map Prod.snd):=by
          rw[hdst,zk hd2];rfl
        have:=hnext (a.put o.dst v) (by rw[<-ef];exact ha.put hdk v)
        exact this
  have h0:=main A.length [] (λ_=>undef) γ w List.nodup_nil (λp hp=>absurd hp List.not_mem_nil) (λp hp=>absurd hp List.not_mem_nil) (by simp) (aU.refl _ _ _) (λp hp=>absurd hp List.not_mem_nil)
  have e0:mT f (λ_=>undef) (([]:List (Nat×Nat)).map Prod.snd)=f:=by
    funext t;rfl
  rw[e0] at h0
  exact h0
end
end TL
namespace TL
open Go
structure Mk where
  op:Nat
  slot:Nat
  dep:List Nat
  ok:List Value->aw->World->Value->Prop
def zu:List Mk->Prop
 |[]=>True
 |p::r=>(∀vs γ w γ' w' v,aU no γ w γ' w'->p.ok vs γ w v->p.ok vs γ' w' v)/\zu r
def gZ:List Mk->Nat->List Nat
 |[],_=>[]
 |p::r,t=>bif Nat.beq t p.slot then p.dep else gZ r t
def lB:List Mk->Nat->List Value->aw->World->Value->Prop
 |[],_=>λ_ _ _ _=>False
 |p::r,t=>bif Nat.beq t p.slot then p.ok else lB r t
def yw(P:Program)(n:Nat)(l:List Oper)(qs:List Nat)(f:Fr)(L:List Mk)(S:List Nat):List Mk->Prop
  |[]=>True
  |p::r=>(qs.contains p.op=false/\∃o,l[p.op]? =some o/\o.dst=some p.slot/\jJ n o=true/\∀(f':Fr) (val:Nat->Value),(∀t,S.contains t=false->f' t=f t)->(∀t∈p.dep,f' t=val t)->cR l o f'=true/\∀γ w,(∀t∈p.dep,lB L t ((gZ L t).map val) γ w (val t))->fv P o f' w λv w'=>∃γ',aU no γ w γ' w'/\p.ok (p.dep.map val) γ' w' v)/\yw P n l qs f L S r
theorem zu.mem{L:List Mk}(h:zu L):∀p∈L,∀vs γ w γ' w' v,aU no γ w γ' w'->p.ok vs γ w v->p.ok vs γ' w' v:=by
 induction L with
 |nil=>intro p hp;exact absurd hp List.not_mem_nil
 |cons a L ih=>
   intro p hp
   rcases List.mem_cons.1 hp with e|e
   · rw[e];exact h.1
   · exact ih h.2 p e
theorem nB{a b:Nat}(h:a≠b):Nat.beq a b=false:=by
 cases k:Nat.beq a b with
 |false=>rfl
 |true=>exact absurd (Nat.eq_of_beq_eq_true k) h
theorem kw:∀{L:List Mk},(L.map Mk.slot).Nodup->∀p∈L,gZ L p.slot=p.dep/\lB L p.slot=p.ok
 |[],_,p,hp=>absurd hp List.not_mem_nil
 |a::L,h,p,hp=>by
   rw[List.map_cons,List.nodup_cons] at h
   rcases List.mem_cons.1 hp with e|e
   · rw[e];unfold gZ lB;rw[Nat.beq_refl];exact⟨rfl,rfl⟩
   · have hne:p.slot≠a.slot:=λk=>h.1 (by rw[<-k];exact List.mem_map.2 ⟨p,e,rfl⟩)
     unfold gZ lB
     rw[nB hne];exact kw h.2 p e
def kD(K:Fr->Prop)(γ:aw)(w:World):List Mk->List (Nat×Value)->Fr->Prop
  |[],_,f=>K f
  |p::r,env,f=>∀v,p.ok (p.dep.map λt=>(env.lookup t).getD undef) γ w v->kD K γ w r ((p.slot,v)::env) (gg f (some p.slot) v)
def si:List Mk->List Nat->Bool
 |[],_=>true
 |p::r,S=>(p.dep.all λt=>S.contains t)&&si r (p.slot::S)
theorem uI{f:Fr}{val:Nat->Value}{d:Nat}{S:List Nat}:mT (gg f (some d) (val d)) val S=mT f val (d::S):=by
 funext t
 unfold mT gg
 simp only
 by_cases c:t=d
 · subst c
   have e1:(t::S).contains t=true:=by simp
   rw[e1,Nat.beq_refl];cases S.contains t<;>rfl
 · have e1:Nat.beq t d=false:=nB c
   have e2:(d::S).contains t=S.contains t:=by
     rw[Bool.eq_iff_iff]
     simp[c]
   rw[e1,e2];rfl
theorem kD.use{K:Fr->Prop}{γ:aw}{w:World}{val:Nat->Value}:∀{L:List Mk} {env:List (Nat×Value)} {f:Fr},kD K γ w L env f->(∀t∈env.map Prod.fst,(env.lookup t).getD undef=val t)->si L (env.map Prod.fst)=true->(∀p∈L,p.ok (p.dep.map val) γ w (val p.slot))->K (mT f val (L.map Mk.slot))
 |[],_,f,h,_,_,_=>by
   have:mT f val (([]:List Mk).map Mk.slot)=f:=by funext t;rfl
   rw[this];exact h
 |p::L,env,f,h,he,ht,hF=>by
   unfold si at ht
   rw[Bool.and_eq_true,List.all_eq_true] at ht
   have e1:p.dep.map (λt=>(env.lookup t).getD undef)=p.dep.map val:=List.map_congr_left λt h1=>he t (List.contains_iff_mem.1 (ht.1 t h1))
   have h2:=h (val p.slot) (by rw[e1];exact hF p (List.mem_cons_self ..))
   have:=kD.use h2 (λt h3=>by
     rw[List.lookup_cons]
     by_cases c:t=p.slot
     · rw[c];simp
     · have:(t==p.slot)=false:=by simpa using c
       rw[this]
       exact he t ((List.mem_cons.1 h3).resolve_left c)) ht.2 (λq hq=>hF q (List.mem_cons_of_mem _ hq))
   rw[uI] at this;exact this
section
variable{P:Program}{n:Nat}{l:List Oper}{qs:List Nat}{K:Fr->World->Prop}{f:Fr}{w:World}{done:List Nat}{fuel:Nat}{S:List Nat}
theorem yw.mem{L M:List Mk}(h:yw P n l qs f M S L):∀p∈L,qs.contains p.op=false/\∃o,l[p.op]? =some o/\o.dst=some p.slot/\jJ n o=true/\∀(f':Fr) (val:Nat->Value),(∀t,S.contains t=false->f' t=f t)->(∀t∈p.dep,f' t=val t)->cR l o f'=true/\∀γ w,(∀t∈p.dep,lB M t ((gZ M t).map val) γ w (val t))->fv P o f' w λv w'=>∃γ',aU no γ w γ' w'/\p.ok (p.dep.map val) γ' w' v:=by
 induction L with
 |nil=>intro p hp;exact absurd hp List.not_mem_nil
 |cons a L ih=>
   intro p hp
   rcases List.mem_cons.1 hp with e|e
   · rw[e];exact h.1
   · exact ih h.2 p e
theorem zJ(γ:aw)(L:List Mk)(A:List (Nat×Nat))(fu:Nat)(hA:L.map (λp=>(p.op,p.slot))=A)(hst:zu L)(hnd0:(A.map Prod.snd).Nodup)(hnf:(A.map Prod.fst).Nodup)
    (hrd:BK l done (gZ L) A=true)(htp:si L []=true)
    (hfu:fu=fuel+A.length)(hop:yw P n l qs f L (A.map Prod.snd) L)
    (hk:∀γ' w',aU no γ w γ' w'->kD (λf'=>gP P n l qs K fuel (A.map Prod.fst++done) f' w') γ' w' L [] f):gP P n l qs K fu done f w:=by
  subst hfu
  have e1:A.map Prod.snd=L.map Mk.slot:=by rw[<-hA,List.map_map];rfl
  have hnd:(L.map Mk.slot).Nodup:=by rw[<-e1];exact hnd0
  refine AJ A (gZ L) (lB L) γ (λq hq=>?_) hnd0 hnf hrd (λq hq=>?_) (λval γ' w' hc hF=>?_)
  · rw[<-hA] at hq
    obtain⟨p,hp,rfl⟩:=List.mem_map.1 hq
    intro vs γ w γ' w' v hc
    show lB L p.slot vs γ w v->lB L p.slot vs γ' w' v
    rw[(kw hnd p hp).2];exact hst.mem p hp vs γ w γ' w' v hc
  · rw[<-hA] at hq
    obtain⟨p,hp,rfl⟩:=List.mem_map.1 hq
    obtain⟨a,o,b,c,d,e⟩:=hop.mem p hp
    show qs.contains p.op=false/\∃o,l[p.op]? =some o/\o.dst=some p.slot/\jJ n o=true/\∀(f':Fr) (val:Nat->Value),(∀t,(A.map Prod.snd).contains t=false->f' t=f t)->(∀t∈gZ L p.slot,f' t=val t)->cR l o f'=true/\∀γ w,(∀t∈gZ L p.slot,lB L t ((gZ L t).map val) γ w (val t))->fv P o f' w λv w'=>∃γ',aU no γ w γ' w'/\lB L p.slot ((gZ L p.slot).map val) γ' w' v
    rw[(kw hnd p hp).1,(kw hnd p hp).2]
    exact⟨a,o,b,c,d,e⟩
  · have h1:=(hk γ' w' hc).use (val:=val) (λt ht=>absurd ht List.not_mem_nil) htp (λp hp=>by
      have:=hF (p.op,p.slot) (by rw[<-hA];exact List.mem_map.2 ⟨p,hp,rfl⟩)
      have h2:lB L p.slot ((gZ L p.slot).map val) γ' w' (val p.slot):=this
      rw[(kw hnd p hp).1,(kw hnd p hp).2] at h2;exact h2)
    rw[e1];exact h1
theorem vW{o:Oper}{v:Value}{N:Value->World->Prop}(h:(execOp (ev f) o).run P w= .ok (.value v) w)(hk:N v w):fv P o f w N:=by unfold fv;rw[h];exact hk
end
theorem jf{t:Nat}{l:List Nat}(h:l.contains t=true):t∈l:=List.contains_iff_mem.1 h
theorem qi{f:Fr}{i:Nat}{x:Operand}{xs:List (Nat×Operand)}{v:Value}{vs:List (Nat×Value)}(h:ev f x=v)(h2:xs.map (λx=>(x.1,ev f x.2))=vs):((i,x)::xs).map (λx=>(x.1,ev f x.2))=(i,v)::vs:=by subst h h2;rfl
end TL
set_option linter.all false
namespace TL
open Go Go.Proofs Go.Shelf Go.Sort Go.Lib
section
variable{α:Type}[Inhabited α]{γ:aw}{w:World}{j b:Nat}
theorem xe(enc:α->Value)(hb:is j (γ b))(m:Nat)(d:Array α)(os:Array Obj):aU (is j) γ w γ (sortWorld enc w b 0 m d os):=by
 refine⟨rfl,rfl,rfl,?_,λ_ _ _=>rfl,λk hk hn=>?_,?_⟩
 · unfold sortWorld;rw[size_grow,Go.Sort.size_putRow];simp only[heap_ahead];omega
 · unfold sortWorld
   rw[heap_grow_old _ _ (by rw[Go.Sort.size_putRow];exact hk)]
   have:b≠k:=λe=>hn (by subst e;exact hb)
   simp[putRow,mapBlock,Array.getElem?_modify,this]
 · show w.drawn<=w.drawn+m
   omega
theorem sP(enc:α->Value){c:Array Value}{e:TypeId}{fr:Nat×Nat}(h:w.heap[b]? =some (.cells c e fr))(m:Nat)(d:Array α)(os:Array Obj):(sortWorld enc w b 0 m d os).heap[b]? =some (.cells (putCells enc 0 d c) e fr):=by
 unfold sortWorld
 rw[heap_grow_old _ _ (by rw[Go.Sort.size_putRow];exact cX h)]
 simp[putRow,mapBlock,Array.getElem?_modify,h,onCells]
theorem ld(enc:α->Value){d:Array α}{c:Array Value}{k:Nat}(h:k<d.size)(hc:k<c.size):(putCells enc 0 d c)[k]? =some (enc d[k]!):=by
 simp[putCells,h,hc]
end
end TL
set_option linter.all false
namespace TL
open Go Go.Proofs Go.Shelf Go.Sort Go.Lib
section
variable{γ:aw}{w:World}{j b:Nat}
theorem ut(hb:is j (γ b))(q:Nat)(d:Array Int):aU (is j) γ w γ (putRow (Value.int .i64) (Sort.ahead w q) b 0 d):=by
 refine⟨rfl,rfl,rfl,?_,λ_ _ _=>rfl,λk hk hn=>?_,?_⟩
 · rw[Go.Sort.size_putRow];simp only[heap_ahead];omega
 · have:b≠k:=λe=>hn (by subst e;exact hb)
   simp[putRow,mapBlock,Array.getElem?_modify,this]
 · show w.drawn<=w.drawn+q
   omega
theorem tI{c:Array Value}{e:TypeId}{fr:Nat×Nat}(h:w.heap[b]? =some (.cells c e fr))(q:Nat)(d:Array Int):(putRow (Value.int .i64) (Sort.ahead w q) b 0 d).heap[b]? =some (.cells (putCells (Value.int .i64) 0 d c) e fr):=by
 simp[putRow,mapBlock,Array.getElem?_modify,h,onCells]
end
theorem pS(zs:List Int):(compact zs).length<=zs.length:=by
 unfold compact compactUpTo
 rw[List.length_map]
 have:=List.length_filter_le (keeps zs.toArray) (List.range zs.length)
 rw[List.length_range] at this
 exact this
theorem mQ{P:Program}{ρ:Ren}(L:Lays2.n20 P ρ){γ:aw}{w:World}{j:Nat}{v:Value}{zs:List Int}(hl:Ow γ (is j) (is j) w v zs):
   Calls P (ρ.f 20) #[v] w λe w'=>∃v',e= .returned v'/\aU (is j) γ w γ w'/\Ow γ (is j) (is j) w' v' (compact zs):=by
 by_cases h0:zs=[]
 · subst h0
   obtain⟨a,cp,hv⟩:∃a cp,v= .slice a 0 cp:=by
     rcases hl with⟨h,_⟩|⟨b,cap,c,e,h,_⟩
     · exact⟨_,_,h⟩
     · exact⟨_,_,h⟩
   have ec:compact ([]:List Int)=[]:=List.eq_nil_of_length_eq_zero (by have:=pS [];simpa using this)
   have key:=Any.slices_Compact_int_empty L a cp w
   rw[<-hv] at key
   refine key.mono λe w' ⟨h1,h2⟩=>⟨v,h1,?_⟩
   subst h2
   rw[ec]
   exact⟨aU.refl _ _ _,hl⟩
 · rcases hl with⟨_,h⟩|⟨b,cap,c,e,rfl,hcap,hm,hJ,hb,hcs,hx⟩
   · exact absurd h h0
   · have hsz1:Rp.sz Int=1:=rfl
     rw[hsz1,Nat.mul_one] at hcs
     have hbs:=cX hb
     have hget:∀i,i<zs.length->c[i]? =some (Value.int .i64 zs.toArray[i]!):=λi hi=>by
       obtain⟨cs,h1,h2⟩:=hx i zs[i] (by simp[hi])
       have h2:cs=[Value.int .i64 zs[i]]:=h2
       have h1:=h1 0 (by decide)
       rw[h2] at h1
       simp only[hsz1,Nat.mul_one,Nat.add_zero] at h1
       rw[h1]
       simp[hi]
     have hH:Holds (Value.int .i64) w b 0 zs.toArray:=λi hi=>by
       have hi:i<zs.length:=by simpa using hi
       constructor
       · have:=hget i hi
         simp only[World.cell?,hb,Nat.zero_add]
         exact this
       · simp[World.frozen?,hb]
     have key:=Any.slices_Compact_int L b 0 cap zs w hH (by omega) hcap.1
     have hcl:=pS zs
     refine key.mono λe' w' ⟨h1,q,hw⟩=>⟨_,h1,?_,?_⟩
     · rw[hw];exact ut hJ q _
     · generalize compact zs=ds at hcl hw
       refine .inr ⟨b,cap,_,e,rfl,by omega,hm,hJ,by rw[hw];exact tI hb q _,by rw[hsz1,Nat.mul_one];simpa[putCells] using hcs,λi x hi=>?_⟩
       have hi':i<ds.length:=(List.getElem?_eq_some_iff.1 hi).1
       refine⟨[Value.int .i64 x],λq hq=>?_,rfl⟩
       have:q=0:=by have:q<1:=hq;omega
       subst this
       have hsz:i<(ds++List.replicate (zs.length-ds.length) 0).toArray.size:=by simp;omega
       have eg:(ds++List.replicate (zs.length-ds.length) 0).toArray[i]! =ds[i]:=by
         rw[getElem!_pos _ i hsz]
         simp only[List.getElem_toArray]
         rw[List.getElem_append_left hi']
       rw[hsz1,Nat.mul_one,Nat.add_zero,ld _ hsz (by rw[hcs];omega),eg]
       simp[hi'] at hi
       simp[hi]
theorem oq{P:Program}{ρ:Ren}(L:Lays2.n25 P ρ){γ:aw}{S:cx->Prop}{w:World}{v:Value}{zs:List Int}(x:Int)(hl:Sl γ S w v zs)(h0:0<zs.length)(hs:zs.Pairwise (· < ·)):
   Calls P (ρ.f 25) #[v,.int .i64 x] w λe w'=>e= .returned (.tuple #[.int .i64 ((zs.countP (· <x):Nat):Int),.bool (decide (x∈zs))])/\eJ w.heap.size w w':=by
 rcases hl with⟨_,h⟩|⟨b,off,cap,rfl,hcap,hx⟩
 · rw[h] at h0;simp at h0
 · have hsz1:Rp.sz Int=1:=rfl
   have hc:∀j,j<zs.length->w.cell? ⟨b,off+j,none⟩=some (.int .i64 (zs.getD j 0)):=λi hi=>by
     obtain⟨_,_,cs,h1,h2⟩:=hx i zs[i] (by simp[hi])
     have h2:cs=[Value.int .i64 zs[i]]:=h2
     have h1:=h1 0 (by decide)
     rw[h2] at h1
     simp only[hsz1,Nat.mul_one,Nat.add_zero] at h1
     rw[h1]
     simp[hi]
   have key:=Any.slices_BinarySearch_int L b off zs.length cap zs x w (Nat.le_refl _) (by omega) hc (by rw[List.take_length];exact hs.imp λh=>Int.le_of_lt h)
   rw[List.take_length] at key
   refine key.mono λe w' ⟨h1,q,hw⟩=>⟨?_,?_⟩
   · rw[h1]
     congr 4
     · simp
   · rw[hw]
     exact⟨rfl,rfl,rfl,Nat.le_refl _,λ_ _=>rfl,by show w.drawn<=w.drawn+q;omega⟩
theorem ze{P:Program}{ρ:Ren}(L:Lays.n189 P ρ){γ:aw}{w:World}{j:Nat}{v:Value}{zs:List Int}(hl:Ow γ (is j) (is j) w v zs)(h0:zs≠[]):
   Calls P (ρ.f 189) #[v] w λe w'=>e= .returned (.tuple #[])/\aU (is j) γ w γ w'/\Ow γ (is j) (is j) w' v (zs.mergeSort λx y=>decide (x<=y)):=by
 rcases hl with⟨_,h⟩|⟨b,cap,c,e,rfl,hcap,hm,hJ,hb,hcs,hx⟩
 · exact absurd h h0
 · have hsz1:Rp.sz Int=1:=rfl
   rw[hsz1,Nat.mul_one] at hcs
   have hbs:=cX hb
   have hget:∀i,i<zs.length->c[i]? =some (Value.int .i64 zs.toArray[i]!):=λi hi=>by
     obtain⟨cs,h1,h2⟩:=hx i zs[i] (by simp[hi])
     have h2:cs=[Value.int .i64 zs[i]]:=h2
     have h1:=h1 0 (by decide)
     rw[h2] at h1
     simp only[hsz1,Nat.mul_one,Nat.add_zero] at h1
     rw[h1]
     simp[hi]
   have hH:Holds (Value.int .i64) w b 0 zs.toArray:=λi hi=>by
     have hi:i<zs.length:=by simpa using hi
     constructor
     · have:=hget i hi
       simp only[World.cell?,hb,Nat.zero_add]
       exact this
     · simp[World.frozen?,hb]
   have key:=Any.slices_Sort_int L b 0 cap zs w hH hbs (by omega)
   refine key.mono λe' w' ⟨h1,n,os,hw⟩=>⟨h1,?_,?_⟩
   · rw[hw];exact xe _ hJ n _ os
   · have hd:(zs.mergeSort λx y=>decide (x<=y)).length=zs.length:=List.length_mergeSort _
     generalize(zs.mergeSort λx y=>decide (x<=y))=ds at hd hw
     refine .inr ⟨b,cap,_,e,by rw[hd],by rw[hd];exact hcap,hm,hJ,by rw[hw];exact sP (Value.int .i64) hb n ds.toArray os,by rw[hsz1,Nat.mul_one];simpa[putCells] using hcs,λi x hi=>?_⟩
     have hi':i<ds.length:=(List.getElem?_eq_some_iff.1 hi).1
     refine⟨[Value.int .i64 x],λq hq=>?_,rfl⟩
     have:q=0:=by have:q<1:=hq;omega
     subst this
     rw[hsz1,Nat.mul_one,Nat.add_zero,ld _ (by simpa using hi') (by rw[hcs];omega),getElem!_pos ds.toArray _ (by simpa using hi')]
     simp[hi'] at hi
     simp[hi]
end TL
set_option linter.all false
namespace TL
open Go
section
variable{P:Program}{n:Nat}{l:List Oper}{qs:List Nat}{K:Fr->World->Prop}{f:Fr}{w:World}{done D:List Nat}{fuel:Nat}
theorem dw{σ:Type}(D:List Nat)(fD:Nat)(Mid:σ->Fr->World->Prop)(hN:∀s f w,Mid s f w->gP P n l qs K fD D f w)(h:(∀s f w,Mid s f w->gP P n l qs K fD D f w)->gP P n l qs K fuel done f w):gP P n l qs K fuel done f w:=h hN
theorem bK(h:decide (c9 l.length done=c9 l.length D)=true)(hk:gP P n l qs K fuel D f w):gP P n l qs K fuel done f w:=by
 unfold gP at hk ⊢
 rw[of_decide_eq_true h]
 exact hk
end
end TL
set_option linter.all false
namespace TL
section
variable{V:List du}{J:List Int×List Bool}{i:Nat}{of1:List Int}{gone:List Bool}{X:du}{G:List (Int×du)}{F F':Int->Int}{out out':List Pp}{B B':n3}{u:Pp}{m:Nat}{r c:Int}
def zQ(V:List du)(J:List Int×List Bool)(i:Nat)(r c:Int)(F:Int->Int)(out:List Pp)(B:n3):Prop:=
 ∃(G:List (Int×du)) (u:Pp),kq G F out B/\(F r=(u.n:Int)+1/\u∈out)/\(G=ft V J i\/(r∉(ft V J i).map (·.1)/\G=ft V J i++[(r,((c,[]):du))]))
theorem zQ.old(h:kq (ft V J i) F out B)(hr:F r=(u.n:Int)+1)(hu:u∈out):zQ V J i r c F out B:=⟨_,u,h,⟨hr,hu⟩,.inl rfl⟩
theorem zQ.new(h0:kq (ft V J i) F out B)(hz:F r=0)(h:kq (ft V J i++[(r,(c,[]))]) F' out' B')(hr:F' r=(u.n:Int)+1)(hu:u∈out'):zQ V J i r c F' out' B':=⟨_,u,h,⟨hr,hu⟩,.inr ⟨(h0.f0 _).1 hz,rfl⟩⟩
theorem yZ{names:Int}(h:kq G F out B)(hu:u∈out)(hG:G=ft V J i\/(r∉(ft V J i).map (·.1)/\G=ft V J i++[(r,((c,[]):du))]))(hn:nY V names)(hi:(i:Int)<=V.length):((bo B u).2.length:Int)<=100000*(i:Int):=
 An h hu (hG.imp id λq=>⟨_,_,q.2⟩) hn hi
theorem Au(h1:of1=J.1)(h2:gone=J.2)(hv:gI V (i:Int)=X)(h:kq G F out B)(hG:G=ft V J i\/(dg of1 (i:Int)∉(ft V J i).map (·.1)/\G=ft V J i++[(dg of1 (i:Int),((X.1,[]):du))]))(hr:F (dg of1 (i:Int))=(u.n:Int)+1)(hu:u∈out)(hm:¬(m:Int)<X.2.length):
   kq (ft V J (i+1)) F out (B.1,B.2.set (B.1.idxOf u) ((bo B u).1,(bo B u).2++ip gone (X.2.take m))):=by
 rcases hG with e|⟨e1,e⟩
 · rw[e] at h
   exact AW h1 h2 hv h hr hu hm
 · rw[e] at h
   rw[List.take_of_length_le (by omega)]
   have:=h.put (p:=X) (bs:=ip gone X.2) hr hu (h.in_ hr)
   rw[pi e1] at this
   subst h1;subst h2;subst hv
   exact this
end
end TL
set_option linter.all false
namespace TL
end TL
namespace TL
end TL
namespace TL
open Go
theorem AX{P:Program}{f:Fr}{w:World}{dst:Option Tmp}{ty:TypeId}{pos:String}{after:Array Edge}{g:Option (Nat×Bool)}{t t':TypeId}{x y:Operand}{op:BinOp}{k:IntKind}{m n r:Int}(hx:ev f x= .int k m)(hy:ev f y= .int k n)(h:binOp op t (.int k m) (.int k n)=pure (.int k r)):(execOp (ev f) ⟨dst,.binOp op t x y t',ty,pos,after,g⟩).run P w= .ok (.value (.int k r)) w:=
 d3 op x y hx hy (by rw[h];rfl)
end TL
namespace TL
end TL
namespace TL
open Go Go.Proofs Go.ChangeShapes Go.WideShapes Go.RowKit
def rH(P:Program)(ts:List TypeId):Bool:=ts.all λt=>P.readableRec t&&decide (t<P.types.size)
theorem nr{H:Type}{enc:TypeId×Value->H}{P:Program}(hl:laidOutB P=true){W W':World}(hb:Below W.heap.size W W')(sp:Nat->Bool):
   ∀{ts:List TypeId} {vs:List Value} {ds:List (DataW H)} {ps:List MemPlace},rH P ts=true->DataW.TrodAll enc P W 0 (λ_=>true) true ts vs ds ps->(∀p∈ps,p.block<W.heap.size)->(∀p∈ps,sp p.block=true)->DataW.TrodAll enc P W' 0 sp true ts vs ds ps
 |[],[],[],_,_,h,_,_=>h
 |[],[],_::_,_,_,h,_,_=>h.elim
 |[],_::_,_,_,_,h,_,_=>by cases‹List (DataW H)›<;>exact h.elim
 |_::_,[],_,_,_,h,_,_=>by cases‹List (DataW H)›<;>exact h.elim
 |_::_,_::_,[],_,_,h,_,_=>h.elim
 |t::ts,v::vs,d::ds,ps,hr,h,hlt,hsp=>by
   obtain⟨p,q,h1,h2,rfl⟩:=h
   simp only[rH,List.all_cons,Bool.and_eq_true,decide_eq_true_eq] at hr
   exact⟨p,q,WideElems.Trod_stays hl hr.1.1 hr.1.2 h1 (λx hx=>hb.same (hlt x (by simp[hx]))) (λx hx=>hsp x (by simp[hx])),
     nr hl hb sp hr.2 h2 (λx hx=>hlt x (by simp[hx])) (λx hx=>hsp x (by simp[hx])),rfl⟩
theorem uo{H:Type}{enc:TypeId×Value->H}{P:Program}{f:Func}{s:ChangeSpec}{W W':World}{args:Array Value}{ds gs:List (DataW H)}{before:List MemPlace}{tb:TypeId}
   (hl:laidOutB P=true)(hr:rH P f.params.toList=true)(hv:s.vars=[])(hrt:f.resultTypes= #[tb])(htb:P.underlying tb=some .bool)
   (hW:DataW.Whole enc P f.params.toList s.vars false W args.toList ds gs before)(hfn:s.fn H (ds++gs)={results:=[.lit (.bool true)],args:=ds})(hB:Below W.heap.size W W'):
   s.post enc P f false true false false W args (.bool true) W':=by
 have hlt:=hW.lt
 have hW0:=hW
 obtain⟨p,q,hA,hV,rfl,hfz,_⟩:=hW
 rw[hv] at hV
 obtain⟨rfl,rfl⟩:=trodVars_none hV
 simp only[List.append_nil] at hlt hfz hW0 hfn
 have hres:∀(b:Nat) (sp:Nat->Bool) (hd:Bool),DataW.TrodAll enc P W' b sp hd f.resultTypes.toList ((Value.bool true).resultList f.resultTypes.size) (s.fn H (ds++[])).results []:=λb sp hd=>by
   rw[hrt,List.append_nil,hfn]
   exact trodAll_cons_mk (shut_bool htb true) trodAll_mk0
 have hargs:∀sp:Nat->Bool,(∀x∈p,sp x.block=true)->DataW.TrodAll enc P W' 0 sp true f.params.toList args.toList (s.fn H (ds++[])).args p:=λsp hsp=>by
   rw[List.append_nil,hfn]
   exact nr hl hB sp hr hA hlt hsp
 have hvars:∀sp:Nat->Bool,DataW.TrodVars enc P W' sp s.vars (s.fn H (ds++[])).vars []:=λsp=>by
   rw[List.append_nil,hfn,hv]
   rfl
 refine⟨ds,[],p,[],p,[],hW0,hres _ _ _,hargs _ (λx hx=>by simpa using hlt x hx),hvars _,World.keptBut_mono (λx hx=>⟨hx,Or.inr (by simpa using hx)⟩) (hB.frame _),λ_=>?_⟩
 refine⟨?_,_,_,([]++p)++[],⟨[]++p,[],trodAll_append (hargs _ (λ_ _=>rfl)) (hres _ _ _),hvars _,rfl,?_,?_⟩,?_⟩
 · exact ok_one hrt rfl (okWide_bool_mk htb true)
 · intro b off hp
   have hp':MemPlace.cell b off∈p:=by simpa using hp
   rw[hB.frozen (p:=⟨b,off,none⟩) (hlt _ hp')]
   exact hfz b off hp'
 · intro ha;cases ha
 · intro x hx _
   simpa using hx
end TL
set_option linter.all false
namespace TL
open Go Go.Proofs Go.ChangeShapes Go.WideShapes Go.Joins Go.Deep
theorem zf{P:Program}{t e:TypeId}{f0 f1 f2 f3:Field}(hs:P.underlying t=some (.struct #[f0,f1,f2,f3]))(hone:oneCellFields P #[f0,f1,f2,f3]=true)(hC:P.cellsOf t=4)(h0:f0.type=e)(h1:f1.type=e)(h2:f2.type=e)(h3:f3.type=e)(he:P.underlying e=some (.int .i64)):Bj (Int×Int×Int×Int) P t:=by
 intro H enc w fuel cs x h
 obtain⟨y0,y1,y2,y3,n,_,hl,k0,k1,k2,k3⟩:=trod_struct4 hs h
 obtain⟨o0,c0⟩:=hone_of hone 0 f0 rfl
 obtain⟨o1,c1⟩:=hone_of hone 1 f1 rfl
 obtain⟨o2,c2⟩:=hone_of hone 2 f2 rfl
 obtain⟨o3,c3⟩:=hone_of hone 3 f3 rfl
 rw[hC] at hl
 match cs,hl with
 |[v0,v1,v2,v3],_=>
   have k0':DataW.trod enc P w 0 (λ_=>true) true n f0.type [v0]=some y0:=by simpa[o0,c0] using k0
   have k1':DataW.trod enc P w 0 (λ_=>true) true n f1.type [v1]=some y1:=by simpa[o1,c1] using k1
   have k2':DataW.trod enc P w 0 (λ_=>true) true n f2.type [v2]=some y2:=by simpa[o2,c2] using k2
   have k3':DataW.trod enc P w 0 (λ_=>true) true n f3.type [v3]=some y3:=by simpa[o3,c3] using k3
   rw[h0] at k0'
   rw[h1] at k1'
   rw[h2] at k2'
   rw[h3] at k3'
   obtain⟨a,ha⟩:=k8 he enc w n [v0] y0 k0'
   obtain⟨b,hb⟩:=k8 he enc w n [v1] y1 k1'
   obtain⟨c,hc⟩:=k8 he enc w n [v2] y2 k2'
   obtain⟨d,hd⟩:=k8 he enc w n [v3] y3 k3'
   exact⟨(a,b,c,d),[v0],[v1,v2,v3],rfl,ha,[v1],[v2,v3],rfl,hb,[v2],[v3],rfl,hc,hd⟩
end TL
set_option linter.all false
namespace TL
open Go Go.Proofs Go.ChangeShapes Go.WideShapes Go.Joins Go.Deep
def Av(α:Type)[Rp α](Q:α->Prop)(P:Program)(t:TypeId):Prop:=
  ∀{H:Type} (enc:TypeId×Value->H) (w:World) (f:DataW H->Nat) (hf:kr f) (fuel:Nat) (cs:List Value) (x:DataW H×List MemPlace),DataW.trod enc P w 0 (λ_=>true) true fuel t cs=some x->f x.1<=1048576->∃y:α,Rp.rep c0 any w cs y/\Q y
theorem tc{α:Type}[Rp α][Inhabited α]{Q:α->Prop}{P:Program}{t e:TypeId}(ht:P.underlying t=some (.slice e))(hc:P.cellsOf e=Rp.sz α)(hz:0<Rp.sz α)(he:Av α Q P e)
   {H:Type}{enc:TypeId×Value->H}{w:World}{f:DataW H->Nat}(hf:kr f){fuel:Nat}{v:Value}{x:DataW H×List MemPlace}
   (hs:∀a len cap,v= .slice (some a) len cap->a.spot=none)(h:DataW.trod enc P w 0 (λ_=>true) true fuel t [v]=some x)(hb:f x.1<=1048576):∃xs:List α,Ro w v xs/\(∀y∈xs,Q y)/\xs.length<=1048576:=by
 rcases Deep.open_slice ht h with⟨h0,_⟩|⟨a,len,cap,m,n,D,Pl,h0,_,hlc,_,hm,hd,hx⟩
 · obtain rfl:v= .slice none 0 0:=by simpa using h0
   exact⟨[],.inl ⟨⟨_,rfl⟩,rfl⟩,λy hy=>(by cases hy),by simp⟩
 · obtain rfl:v= .slice (some a) len cap:=by simpa using h0
   have hsp:=hs a len cap rfl
   obtain⟨b,off,spot⟩:=a
   obtain rfl:spot=none:=hsp
   simp only[if_true] at hm
   subst hm hd
   have hbound:=Nat.le_trans (hf.slice _ _) hb
   obtain⟨Y,hY⟩:=Deep.choose_lt (α:=α) (n:=len) (p:=λi y=>(∃cs,(∀j,j<Rp.sz α->w.cell? ⟨b,off+i*Rp.sz α+j,none⟩=cs[j]?)/\Rp.rep c0 any w cs y)/\Q y) (λi hi=>by
     obtain⟨cs',h1,h2⟩:=hx i (by omega)
     obtain⟨y,hy,hq⟩:=he enc w f hf n cs' _ h2 (Nat.le_trans (hf.elem _ _ _ (by simp;exact⟨i,hi,rfl⟩)) hb)
     refine⟨y,⟨cs',λj hj=>?_,hy⟩,hq⟩
     obtain⟨_,hl,hcell⟩:=World.cells?_some h1
     have:=hcell j (by omega)
     rw[Deep.add_add,hc] at this
     rw[<-this]
     unfold Addr.add
     by_cases hij:i*Rp.sz α+j=0
     · rw[if_pos hij,Nat.add_assoc,hij];rfl
     · rw[if_neg hij,Nat.add_assoc])
   have hlen:((List.range len).map Y).length=len:=by simp
   have hll:len<=1048576:=by simp at hbound;omega
   refine⟨(List.range len).map Y,.inr ⟨b,off,m,by rw[hlen],⟨by omega,by omega⟩,λi y hi=>?_⟩,λy hy=>?_,by omega⟩
   · have hil:i<len:=by
       have:=(List.getElem?_eq_some_iff.1 hi).1
       omega
     obtain rfl:Y i=y:=by simpa[hil] using hi
     obtain⟨⟨cs,h1,h2⟩,_⟩:=hY i hil
     refine⟨?_,trivial,cs,h1,h2⟩
     have h3:=h1 0 hz
     have h4:=Rp.len h2
     have h5:0<cs.length:=by omega
     rw[List.getElem?_eq_getElem h5] at h3
     by_cases hbl:b<w.heap.size
     · exact hbl
     · have:w.heap[b]? =none:=Array.getElem?_eq_none (by omega)
       simp[World.cell?,this] at h3
   · obtain⟨i,hi,rfl⟩:=List.mem_map.1 hy
     exact(hY i (List.mem_range.1 hi)).2
theorem yV{P:Program}{t e:TypeId}{f0 f1 f2 f3:Field}(hs:P.underlying t=some (.struct #[f0,f1,f2,f3]))(hone:oneCellFields P #[f0,f1,f2,f3]=true)(hC:P.cellsOf t=4)(h0:f0.type=e)(h1:f1.type=e)(h2:f2.type=e)(h3:f3.type=e)(he:P.underlying e=some (.int .i64)):ya (Int×Int×Int×Int) (λ_=>True) P t:=by
 intro H enc w fuel cs x h
 obtain⟨y,hy⟩:=zf hs hone hC h0 h1 h2 h3 he enc w fuel cs x h
 exact⟨y,hy,trivial⟩
def Bb(p:Int×List Int×List (Int×Int×Int×Int)):Prop:=(p.2.1.length:Int)<=1048576/\(p.2.2.length:Int)<=1048576
theorem yC{P:Program}{t t0 t1 t2 e1 e2:TypeId}{f0 f1 f2:Field}(hs:P.underlying t=some (.struct #[f0,f1,f2]))(hone:oneCellFields P #[f0,f1,f2]=true)(hC:P.cellsOf t=3)
   (h0:f0.type=t0)(h1:f1.type=t1)(h2:f2.type=t2)(hi:P.underlying t0=some (.int .i64))(ht1:P.underlying t1=some (.slice e1))(hc1:P.cellsOf e1=1)(he1:P.underlying e1=some (.int .i64))
   (ht2:P.underlying t2=some (.slice e2))(hc2:P.cellsOf e2=4)(he2:ya (Int×Int×Int×Int) (λ_=>True) P e2):Av (Int×List Int×List (Int×Int×Int×Int)) Bb P t:=by
 intro H enc w f hf fuel cs x h hb
 obtain⟨y0,y1,y2,n,hx,hl,k0,k1,k2⟩:=trod_struct3 hs h
 obtain⟨o0,c0'⟩:=hone_of hone 0 f0 rfl
 obtain⟨o1,c1⟩:=hone_of hone 1 f1 rfl
 obtain⟨o2,c2⟩:=hone_of hone 2 f2 rfl
 rw[hC] at hl
 match cs,hl with
 |[v0,v1,v2],_=>
   have k0':DataW.trod enc P w 0 (λ_=>true) true n f0.type [v0]=some y0:=by simpa[o0,c0'] using k0
   have k1':DataW.trod enc P w 0 (λ_=>true) true n f1.type [v1]=some y1:=by simpa[o1,c1] using k1
   have k2':DataW.trod enc P w 0 (λ_=>true) true n f2.type [v2]=some y2:=by simpa[o2,c2] using k2
   rw[h0] at k0'
   rw[h1] at k1'
   rw[h2] at k2'
   subst hx
   obtain⟨a,ha⟩:=k8 hi enc w n [v0] y0 k0'
   obtain⟨xs,hx1,_,hx2⟩:=nn (α:=Int) ht1 hc1 (by decide) (yJ he1) hf k1' (Nat.le_trans (hf.part _ _ (by simp)) hb)
   obtain⟨ys,hy1,_,hy2⟩:=nn (α:=Int×Int×Int×Int) ht2 hc2 (by decide) he2 hf k2' (Nat.le_trans (hf.part _ _ (by simp)) hb)
   exact⟨(a,xs,ys),⟨[v0],[v1,v2],rfl,ha,[v1],[v2],rfl,⟨v1,rfl,hx1⟩,v2,rfl,hy1⟩,by show(xs.length:Int)<=_;omega,by show(ys.length:Int)<=_;omega⟩
theorem xJ{α:Type}[Rp α][Inhabited α]{Q:α->Prop}{P:Program}{t e:TypeId}(ht:P.underlying t=some (.slice e))(hc:P.cellsOf e=Rp.sz α)(hz:0<Rp.sz α)(he:Av α Q P e)
    {H:Type}{enc:TypeId×Value->H}{w:World}{f:DataW H->Nat}(hf:kr f){base:Nat}{v:Value}{d:DataW H}{p:List MemPlace}
    (hval:Value.okWide P w .any base t v)(h:DataW.Trod enc P w 0 (λ_=>true) true t v d p)(hb:f d<=1048576):∃xs:List α,Ro w v xs/\(xs.length:Int)<=1048576/\∀y∈xs,Q y:=by
  obtain⟨a,len,cap,rfl⟩:=okWide_slice ht hval
  obtain⟨fuel,hfu⟩:=h
  obtain⟨xs,h1,h2,h3⟩:=tc ht hc hz he hf (om (w:=w) (base:=base) ht (by simpa[Value.okWide,ht] using hval)) (x:=(d,p)) hfu hb
  exact⟨xs,h1,by omega,h2⟩
end TL
