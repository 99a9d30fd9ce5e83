/- Plain texts of this claim, part 3. By an AI agent. -/
import Derived.Test.YtmaclbnodbcniaaFxTlP2
import Derived.RowKit
/-
  TlPerm: several new objects that are made in whatever order is drawn: all orders end alike.
  By an AI agent.
-/
set_option linter.all false
namespace TL
open Go
def iR(f:Fr)(val:Nat->Value)(S:List Nat):Fr:=λt=>bif S.contains t then val t else f t
theorem mp{f:Fr}{val:Nat->Value}{S S':List Nat}(h:∀t,t∈S↔t∈S'):iR f val S=iR f val S':=by
 funext t
 unfold iR
 have:S.contains t=S'.contains t:=by
   rw[Bool.eq_iff_iff]
   simp only[List.contains_iff_mem];exact h t
 rw[this]
theorem pm{f:Fr}{val:Nat->Value}{S:List Nat}{d:Nat}{v:Value}(hd:d∉S):dN (iR f val S) (some d) v=iR f (λt=>if t=d then v else val t) (d::S):=by
 funext t
 unfold dN iR
 simp only
 by_cases c:t=d
 · subst c
   have e1:(t::S).contains t=true:=by simp
   rw[e1,Nat.beq_refl];simp
 · have e1:Nat.beq t d=false:=by
     cases h:Nat.beq t d with
     |false=>rfl
     |true=>exact absurd (Nat.eq_of_beq_eq_true h) c
   have e2:(d::S).contains t=S.contains t:=by
     rw[Bool.eq_iff_iff]
     simp[c]
   rw[e1,e2,if_neg c];rfl
def kd{α:Type}:List α->List (List α)
 |[]=>[[]]
 |a::l=>kd l++(kd l).map (a:: ·)
theorem gx{α:Type}(p:α->Bool):∀l:List α,l.filter p∈kd l
 |[]=>List.mem_singleton.2 rfl
 |a::l=>by
   have ih:=gx p l
   unfold kd
   rw[List.filter_cons]
   split
   · exact List.mem_append_right _ (List.mem_map.2 ⟨_,ih,rfl⟩)
   · exact List.mem_append_left _ ih
theorem fh:∀(D A:List (Nat×Nat)),D.Nodup->(∀p∈D,p∈A)->D.length<=A.length
 |[],A,_,_=>Nat.zero_le _
 |a::D,A,hn,hs=>by
   have hn':=List.nodup_cons.1 hn
   have ha:=hs a (List.mem_cons_self ..)
   have h3:=fh D (A.erase a) hn'.2 (λx hx=>by
     have hne:x≠a:=λe=>hn'.1 (by rw[<-e];exact hx)
     exact(List.mem_erase_of_ne hne).2 (hs x (List.mem_cons_of_mem _ hx)))
   have h4:=List.length_erase_of_mem ha
   have h5:=List.length_pos_of_mem ha
   rw[List.length_cons];omega
theorem i7:∀{A:List (Nat×Nat)},(A.map Prod.fst).Nodup->A.Nodup
 |[],_=>List.nodup_nil
 |a::A,h=>by
   rw[List.map_cons,List.nodup_cons] at h
   exact List.nodup_cons.2 ⟨λk=>h.1 (List.mem_map.2 ⟨a,k,rfl⟩),i7 h.2⟩
theorem j2{A:List (Nat×Nat)}(h:(A.map Prod.snd).Nodup){p q:Nat×Nat}(hp:p∈A)(hq:q∈A)(e:p.2=q.2):p=q:=by
 induction A with
 |nil=>exact absurd hp List.not_mem_nil
 |cons a A ih=>
   rw[List.map_cons,List.nodup_cons] at h
   rcases List.mem_cons.1 hp with e1|e1
   · rcases List.mem_cons.1 hq with e2|e2
     · rw[e1,e2]
     · exact absurd (List.mem_map.2 ⟨q,e2,by rw[<-e,e1]⟩) h.1
   · rcases List.mem_cons.1 hq with e2|e2
     · exact absurd (List.mem_map.2 ⟨p,e1,by rw[e,e2]⟩) h.1
     · exact ih h.2 e1 e2
section
variable{P:Program}{n:Nat}{l:List Oper}{qs:List Nat}{K:Fr->World->Prop}{f:Fr}{w:World}{done:List Nat}{fuel:Nat}
theorem ia{n:Nat}{d d':List Nat}(h:∀t,t∈d↔t∈d'):bA n d=bA n d':=by
 unfold bA
 congr 1
 apply List.map_congr_left
 intro t _
 rw[decide_eq_decide];exact h t
theorem mj{done':List Nat}(h:∀t,t∈done↔t∈done')(hw:g5 P n l qs K fuel done f w):g5 P n l qs K fuel done' f w:=by
 unfold g5 at*
 rw[<-ia h];exact hw
def nw(dep:Nat->List Nat)(D:List (Nat×Nat)):Bool:=D.all λp=>(dep p.2).all λt=>(D.map Prod.snd).contains t
def km(dep:Nat->List Nat)(A D:List (Nat×Nat)):List (Nat×Nat):=A.filter λp=> !(D.map Prod.fst).contains p.1&&(dep p.2).all λt=>(D.map Prod.snd).contains t
def s7(l:List Oper)(done:List Nat)(dep:Nat->List Nat)(A:List (Nat×Nat)):Bool:=(kd A).all λD=>decide (D.length=A.length)||(nw dep D).not||(decide (Region.ready .any l.toArray (bA l.length (D.map Prod.fst++done))=(km dep A D).map Prod.fst)&& !(km dep A D).isEmpty)
theorem qk(A:List (Nat×Nat))(dep:Nat->List Nat)(Φ:Nat->List Value->aC->World->Value->Prop)(γ:aC)
    (hst:∀p∈A,∀vs γ w γ' w' v,bR no γ w γ' w'->Φ p.2 vs γ w v->Φ p.2 vs γ' w' v)
    (hnd:(A.map Prod.snd).Nodup)(hnf:(A.map Prod.fst).Nodup)
    (hrd:s7 l done dep A=true)
    (hop:∀p∈A,qs.contains p.1=false/\∃o,l[p.1]? =some o/\o.dst=some p.2/\gD n o=true/\∀(f':Fr) (val:Nat->Value),(∀t,(A.map Prod.snd).contains t=false->f' t=f t)->(∀t∈dep p.2,f' t=val t)->c8 l o f'=true/\∀γ w,(∀t∈dep p.2,Φ t ((dep t).map val) γ w (val t))->dY P o f' w λv w'=>∃γ',bR no γ w γ' w'/\Φ p.2 ((dep p.2).map val) γ' w' v)
    (hk:∀val γ' w',bR no γ w γ' w'->(∀p∈A,Φ p.2 ((dep p.2).map val) γ' w' (val p.2))->g5 P n l qs K fuel (A.map Prod.fst++done) (iR f val (A.map Prod.snd)) w'):g5 P n l qs K (fuel+A.length) done f w:=by
  have main:∀(m:Nat) (D:List (Nat×Nat)) (val:Nat->Value) (γ':aC) (w':World),D.Nodup->(∀p∈D,p∈A)->(∀p∈D,∀t∈dep p.2,t∈D.map Prod.snd)->D.length+m=A.length->bR no γ w γ' w'->(∀p∈D,Φ p.2 ((dep p.2).map val) γ' w' (val p.2))->g5 P n l qs K (fuel+m) (D.map Prod.fst++done) (iR f val (D.map Prod.snd)) w':=by
    have hAn:A.Nodup:=i7 hnf
    intro m
    induction m with
    |zero=>
      intro D val γ' w' hD hsub hcl hl hc hF
      have hmem:∀p,p∈A↔p∈D:=by
        intro p
        refine⟨λhp=>?_,hsub p⟩
        by_cases c:p∈D
        · exact c
        · exfalso
          have:=fh (p::D) A (List.nodup_cons.2 ⟨c,hD⟩) (λq hq=>(List.mem_cons.1 hq).elim (λe=>by rw[e];exact hp) (hsub q))
          rw[List.length_cons] at this;omega
      have h1:=hk val γ' w' hc (λp hp=>hF p ((hmem p).1 hp))
      have e1:∀t,t∈A.map Prod.fst++done↔t∈D.map Prod.fst++done:=λt=>by
        simp only[List.mem_append,List.mem_map]
        constructor
        · rintro(⟨p,hp,rfl⟩|h)
          · exact .inl ⟨p,(hmem p).1 hp,rfl⟩
          · exact .inr h
        · rintro(⟨p,hp,rfl⟩|h)
          · exact .inl ⟨p,(hmem p).2 hp,rfl⟩
          · exact .inr h
      have e2:iR f val (A.map Prod.snd)=iR f val (D.map Prod.snd):=mp λt=>by
        simp only[List.mem_map]
        constructor
        · rintro⟨p,hp,rfl⟩;exact⟨p,(hmem p).1 hp,rfl⟩
        · rintro⟨p,hp,rfl⟩;exact⟨p,(hmem p).2 hp,rfl⟩
      rw[e2] at h1
      exact mj e1 h1
    |succ m ih=>
      intro D val γ' w' hD hsub hcl hl hc hF
      let D':=A.filter λp=>decide (p∈D)
      have hD':∀p,p∈D'↔p∈D:=λp=>by
        show p∈A.filter _↔_
        rw[List.mem_filter,decide_eq_true_iff]
        exact⟨λh=>h.2,λh=>⟨hsub p h,h⟩⟩
      have hD1:∀t,t∈D'.map Prod.fst↔t∈D.map Prod.fst:=λt=>by
        simp only[List.mem_map]
        exact⟨λ⟨p,hp,e⟩=>⟨p,(hD' p).1 hp,e⟩,λ⟨p,hp,e⟩=>⟨p,(hD' p).2 hp,e⟩⟩
      have hD2:∀t,t∈D'.map Prod.snd↔t∈D.map Prod.snd:=λt=>by
        simp only[List.mem_map]
        exact⟨λ⟨p,hp,e⟩=>⟨p,(hD' p).1 hp,e⟩,λ⟨p,hp,e⟩=>⟨p,(hD' p).2 hp,e⟩⟩
      have hlD:D'.length≠A.length:=by
        have h1:=fh D' D (hAn.filter _) (λp hp=>(hD' p).1 hp)
        omega
      have hcD:nw dep D'=true:=by
        unfold nw
        simp only[List.all_eq_true,List.contains_iff_mem]
        exact λp hp t ht=>(hD2 t).2 (hcl p ((hD' p).1 hp) t ht)
      have hr0:=List.all_eq_true.1 hrd D' (gx _ A)
      rw[decide_eq_false hlD,hcD] at hr0
      simp only[Bool.not_true,Bool.or_false,Bool.false_or,Bool.and_eq_true] at hr0
      obtain⟨hr1,hne⟩:=hr0
      have hr:=of_decide_eq_true hr1
      have em:bA l.length (D'.map Prod.fst++done)=bA l.length (D.map Prod.fst++done):=ia λt=>by
        simp only[List.mem_append];rw[hD1 t]
      rw[em] at hr
      have hnx:∀p,p∈km dep A D'->p∈A/\p∉D/\∀t∈dep p.2,t∈D.map Prod.snd:=λp hp=>by
        unfold km at hp
        rw[List.mem_filter,Bool.and_eq_true,List.all_eq_true] at hp
        obtain⟨h1,h2,h3⟩:=hp
        refine⟨h1,λk=>?_,λt ht=>(hD2 t).1 (List.contains_iff_mem.1 (h3 t ht))⟩
        have:p.1∈D'.map Prod.fst:=List.mem_map.2 ⟨p,(hD' p).2 k,rfl⟩
        simp[this] at h2
      intro a ha
      refine⟨λh0=>?_,λk hk2=>?_⟩
      · rw[hr] at h0
        have h5:km dep A D'=[]:=List.map_eq_nil_iff.1 h0
        rw[h5] at hne;cases hne
      · rw[hr] at hk2
        obtain⟨p,hp0,rfl⟩:=List.mem_map.1 hk2
        obtain⟨hp,hpD,hdp⟩:=hnx p hp0
        obtain⟨hq,o,hi,hdst,hdk,ho⟩:=hop p hp
        have hlt:p.1<l.length:=(List.getElem?_eq_some_iff.1 hi).1
        have hq':decide (p.1∈qs)=false:=by simpa using hq
        have hd2:p.2∉D.map Prod.snd:=by
          intro k
          obtain⟨q,hq2,e⟩:=List.mem_map.1 k
          have:q=p:=j2 hnd (hsub q hq2) hp e
          rw[this] at hq2;exact hpD hq2
        obtain⟨hw1,hw2⟩:=ho (iR f val (D.map Prod.snd)) val (λt ht=>by
          unfold iR
          have:(D.map Prod.snd).contains t=false:=by
            cases hc2:(D.map Prod.snd).contains t with
            |false=>rfl
            |true=>
              obtain⟨q,hq2,e⟩:=List.mem_map.1 (List.contains_iff_mem.1 hc2)
              have:(A.map Prod.snd).contains t=true:=List.contains_iff_mem.2 (List.mem_map.2 ⟨q,hsub q hq2,e⟩)
              rw[this] at ht;cases ht
          rw[this];rfl) (λt ht=>by
          unfold iR
          rw[List.contains_iff_mem.2 (hdp t ht)];rfl)
        simp only[hq',Bool.false_eq_true,if_false]
        refine dp ha hi hw1 (hw2 γ' w' (λt ht=>?_)) λv w2 ⟨γ2,c2,h2⟩=>?_
        · obtain⟨q,hq2,e⟩:=List.mem_map.1 (hdp t ht)
          rw[<-e];exact hF q hq2
        rw[cr _ hlt]
        have hc2:bR no γ w γ2 w2:=hc.trans c2 (λ_ _ h=>h.elim id id)
        have hval:∀q:Nat×Nat,(∀t∈dep q.2,t∈D.map Prod.snd)->(dep q.2).map (λt=>if t=p.2 then v else val t)=(dep q.2).map val:=λq hq2=>List.map_congr_left λt ht=>by
          rw[if_neg]
          intro e
          exact hd2 (by rw[<-e];exact hq2 t ht)
        have hnext:=ih (p::D) (λt=>if t=p.2 then v else val t) γ2 w2 (List.nodup_cons.2 ⟨hpD,hD⟩) (λq hq2=>(List.mem_cons.1 hq2).elim (λe=>by rw[e];exact hp) (hsub q)) (λq hq2 t ht=>by
          rw[List.map_cons]
          rcases List.mem_cons.1 hq2 with e|e
          · rw[e] at ht;exact List.mem_cons_of_mem _ (hdp t ht)
          · exact List.mem_cons_of_mem _ (hcl q e t ht)) (by rw[List.length_cons];omega) hc2 (λq hq2=>by
          rcases List.mem_cons.1 hq2 with e|e
          · rw[e,if_pos rfl,hval p hdp];exact h2
          · have hne:q.2≠p.2:=λk=>hd2 (by rw[<-k];exact List.mem_map.2 ⟨q,e,rfl⟩)
            rw[if_neg hne,hval q (hcl q e)]
            exact hst q (hsub q e) _ _ _ _ _ _ c2 (hF q e))
        have ef:dN (iR f val (D.map Prod.snd)) o.dst v=iR f (λt=>if t=p.2 then v else val t) ((p::D).map Prod.snd):=by
          rw[hdst,pm hd2];rfl
        have:=hnext (a.put o.dst v) (by rw[<-ef];exact ha.put hdk v)
        exact this
  have h0:=main A.length [] (λ_=>undef) γ w List.nodup_nil (λp hp=>absurd hp List.not_mem_nil) (λp hp=>absurd hp List.not_mem_nil) (by simp) (bR.refl _ _ _) (λp hp=>absurd hp List.not_mem_nil)
  have e0:iR f (λ_=>undef) (([]:List (Nat×Nat)).map Prod.snd)=f:=by
    funext t;rfl
  rw[e0] at h0
  exact h0
end
end TL
namespace TL
open Go
structure Mk where
  op:Nat
  slot:Nat
  dep:List Nat
  ok:List Value->aC->World->Value->Prop
def oA:List Mk->Prop
 |[]=>True
 |p::r=>(∀vs γ w γ' w' v,bR no γ w γ' w'->p.ok vs γ w v->p.ok vs γ' w' v)/\oA r
def dZ:List Mk->Nat->List Nat
 |[],_=>[]
 |p::r,t=>bif Nat.beq t p.slot then p.dep else dZ r t
def gF:List Mk->Nat->List Value->aC->World->Value->Prop
 |[],_=>λ_ _ _ _=>False
 |p::r,t=>bif Nat.beq t p.slot then p.ok else gF r t
def pv(P:Program)(n:Nat)(l:List Oper)(qs:List Nat)(f:Fr)(L:List Mk)(S:List Nat):List Mk->Prop
  |[]=>True
  |p::r=>(qs.contains p.op=false/\∃o,l[p.op]? =some o/\o.dst=some p.slot/\gD n o=true/\∀(f':Fr) (val:Nat->Value),(∀t,S.contains t=false->f' t=f t)->(∀t∈p.dep,f' t=val t)->c8 l o f'=true/\∀γ w,(∀t∈p.dep,gF L t ((dZ L t).map val) γ w (val t))->dY P o f' w λv w'=>∃γ',bR no γ w γ' w'/\p.ok (p.dep.map val) γ' w' v)/\pv P n l qs f L S r
theorem oA.mem{L:List Mk}(h:oA L):∀p∈L,∀vs γ w γ' w' v,bR no γ w γ' w'->p.ok vs γ w v->p.ok vs γ' w' v:=by
 induction L with
 |nil=>intro p hp;exact absurd hp List.not_mem_nil
 |cons a L ih=>
   intro p hp
   rcases List.mem_cons.1 hp with e|e
   · rw[e];exact h.1
   · exact ih h.2 p e
theorem j4{a b:Nat}(h:a≠b):Nat.beq a b=false:=by
 cases k:Nat.beq a b with
 |false=>rfl
 |true=>exact absurd (Nat.eq_of_beq_eq_true k) h
theorem ga:∀{L:List Mk},(L.map Mk.slot).Nodup->∀p∈L,dZ L p.slot=p.dep/\gF L p.slot=p.ok
 |[],_,p,hp=>absurd hp List.not_mem_nil
 |a::L,h,p,hp=>by
   rw[List.map_cons,List.nodup_cons] at h
   rcases List.mem_cons.1 hp with e|e
   · rw[e];unfold dZ gF;rw[Nat.beq_refl];exact⟨rfl,rfl⟩
   · have hne:p.slot≠a.slot:=λk=>h.1 (by rw[<-k];exact List.mem_map.2 ⟨p,e,rfl⟩)
     unfold dZ gF
     rw[j4 hne];exact ga h.2 p e
def kD(K:Fr->Prop)(γ:aC)(w:World):List Mk->List (Nat×Value)->Fr->Prop
  |[],_,f=>K f
  |p::r,env,f=>∀v,p.ok (p.dep.map λt=>(env.lookup t).getD undef) γ w v->kD K γ w r ((p.slot,v)::env) (dN f (some p.slot) v)
def lF:List Mk->List Nat->Bool
 |[],_=>true
 |p::r,S=>(p.dep.all λt=>S.contains t)&&lF r (p.slot::S)
theorem nu{f:Fr}{val:Nat->Value}{d:Nat}{S:List Nat}:iR (dN f (some d) (val d)) val S=iR f val (d::S):=by
 funext t
 unfold iR dN
 simp only
 by_cases c:t=d
 · subst c
   have e1:(t::S).contains t=true:=by simp
   rw[e1,Nat.beq_refl];cases S.contains t<;>rfl
 · have e1:Nat.beq t d=false:=j4 c
   have e2:(d::S).contains t=S.contains t:=by
     rw[Bool.eq_iff_iff]
     simp[c]
   rw[e1,e2];rfl
theorem kD.use{K:Fr->Prop}{γ:aC}{w:World}{val:Nat->Value}:∀{L:List Mk} {env:List (Nat×Value)} {f:Fr},kD K γ w L env f->(∀t∈env.map Prod.fst,(env.lookup t).getD undef=val t)->lF L (env.map Prod.fst)=true->(∀p∈L,p.ok (p.dep.map val) γ w (val p.slot))->K (iR f val (L.map Mk.slot))
 |[],_,f,h,_,_,_=>by
   have:iR f val (([]:List Mk).map Mk.slot)=f:=by funext t;rfl
   rw[this];exact h
 |p::L,env,f,h,he,ht,hF=>by
   unfold lF at ht
   rw[Bool.and_eq_true,List.all_eq_true] at ht
   have e1:p.dep.map (λt=>(env.lookup t).getD undef)=p.dep.map val:=List.map_congr_left λt h1=>he t (List.contains_iff_mem.1 (ht.1 t h1))
   have h2:=h (val p.slot) (by rw[e1];exact hF p (List.mem_cons_self ..))
   have:=kD.use h2 (λt h3=>by
     rw[List.lookup_cons]
     by_cases c:t=p.slot
     · rw[c];simp
     · have:(t==p.slot)=false:=by simpa using c
       rw[this]
       exact he t ((List.mem_cons.1 h3).resolve_left c)) ht.2 (λq hq=>hF q (List.mem_cons_of_mem _ hq))
   rw[nu] at this;exact this
section
variable{P:Program}{n:Nat}{l:List Oper}{qs:List Nat}{K:Fr->World->Prop}{f:Fr}{w:World}{done:List Nat}{fuel:Nat}{S:List Nat}
theorem pv.mem{L M:List Mk}(h:pv P n l qs f M S L):∀p∈L,qs.contains p.op=false/\∃o,l[p.op]? =some o/\o.dst=some p.slot/\gD n o=true/\∀(f':Fr) (val:Nat->Value),(∀t,S.contains t=false->f' t=f t)->(∀t∈p.dep,f' t=val t)->c8 l o f'=true/\∀γ w,(∀t∈p.dep,gF M t ((dZ M t).map val) γ w (val t))->dY P o f' w λv w'=>∃γ',bR no γ w γ' w'/\p.ok (p.dep.map val) γ' w' v:=by
 induction L with
 |nil=>intro p hp;exact absurd hp List.not_mem_nil
 |cons a L ih=>
   intro p hp
   rcases List.mem_cons.1 hp with e|e
   · rw[e];exact h.1
   · exact ih h.2 p e
theorem dY.mono{o:Oper}{N N':Value->World->Prop}(h:dY P o f w N)(hN:∀v w,N v w->N' v w):dY P o f w N':=by
 unfold dY at*
 generalize(execOp (ev f) o).run P w=r at*
 cases r with
 |halt x w'=>exact h.elim
 |ok nx w'=>
   cases nx<;>simp only[lN] at h ⊢
   case value v=>exact hN _ _ h
   case skip=>exact hN _ _ h
   case enter g args=>
     refine h.mono λe w'' he=>?_
     cases e with
     |returned v=>exact hN _ _ he
     |panicked c=>exact he.elim
     |outgrown=>exact he.elim
theorem lV(γ:aC)(L:List Mk)(A:List (Nat×Nat))(fu:Nat)(hA:L.map (λp=>(p.op,p.slot))=A)(hst:oA L)(hnd0:(A.map Prod.snd).Nodup)(hnf:(A.map Prod.fst).Nodup)
    (hrd:s7 l done (dZ L) A=true)(htp:lF L []=true)
    (hfu:fu=fuel+A.length)(hop:pv P n l qs f L (A.map Prod.snd) L)
    (hk:∀γ' w',bR no γ w γ' w'->kD (λf'=>g5 P n l qs K fuel (A.map Prod.fst++done) f' w') γ' w' L [] f):g5 P n l qs K fu done f w:=by
  subst hfu
  have e1:A.map Prod.snd=L.map Mk.slot:=by rw[<-hA,List.map_map];rfl
  have hnd:(L.map Mk.slot).Nodup:=by rw[<-e1];exact hnd0
  refine qk A (dZ L) (gF L) γ (λq hq=>?_) hnd0 hnf hrd (λq hq=>?_) (λval γ' w' hc hF=>?_)
  · rw[<-hA] at hq
    obtain⟨p,hp,rfl⟩:=List.mem_map.1 hq
    intro vs γ w γ' w' v hc
    show gF L p.slot vs γ w v->gF L p.slot vs γ' w' v
    rw[(ga hnd p hp).2];exact hst.mem p hp vs γ w γ' w' v hc
  · rw[<-hA] at hq
    obtain⟨p,hp,rfl⟩:=List.mem_map.1 hq
    obtain⟨a,o,b,c,d,e⟩:=hop.mem p hp
    show qs.contains p.op=false/\∃o,l[p.op]? =some o/\o.dst=some p.slot/\gD n o=true/\∀(f':Fr) (val:Nat->Value),(∀t,(A.map Prod.snd).contains t=false->f' t=f t)->(∀t∈dZ L p.slot,f' t=val t)->c8 l o f'=true/\∀γ w,(∀t∈dZ L p.slot,gF L t ((dZ L t).map val) γ w (val t))->dY P o f' w λv w'=>∃γ',bR no γ w γ' w'/\gF L p.slot ((dZ L p.slot).map val) γ' w' v
    rw[(ga hnd p hp).1,(ga hnd p hp).2]
    exact⟨a,o,b,c,d,e⟩
  · have h1:=(hk γ' w' hc).use (val:=val) (λt ht=>absurd ht List.not_mem_nil) htp (λp hp=>by
      have:=hF (p.op,p.slot) (by rw[<-hA];exact List.mem_map.2 ⟨p,hp,rfl⟩)
      have h2:gF L p.slot ((dZ L p.slot).map val) γ' w' (val p.slot):=this
      rw[(ga hnd p hp).1,(ga hnd p hp).2] at h2;exact h2)
    rw[e1];exact h1
end
end TL
/-
  TlPost: what is owed behind a law that returns true and writes nothing of the caller's.
  By an AI agent.
-/
namespace TL
open Go Go.Proofs Go.ChangeShapes Go.WideShapes Go.RowKit
def lH(P:Program)(ts:List TypeId):Bool:=ts.all λt=>P.readableRec t&&decide (t<P.types.size)
theorem j3{H:Type}{enc:TypeId×Value->H}{P:Program}(hl:laidOutB P=true){W W':World}(hb:Below W.heap.size W W')(sp:Nat->Bool):
   ∀{ts:List TypeId} {vs:List Value} {ds:List (DataW H)} {ps:List MemPlace},lH P ts=true->DataW.TrodAll enc P W 0 (λ_=>true) true ts vs ds ps->(∀p∈ps,p.block<W.heap.size)->(∀p∈ps,sp p.block=true)->DataW.TrodAll enc P W' 0 sp true ts vs ds ps
 |[],[],[],_,_,h,_,_=>h
 |[],[],_::_,_,_,h,_,_=>h.elim
 |[],_::_,_,_,_,h,_,_=>by cases‹List (DataW H)›<;>exact h.elim
 |_::_,[],_,_,_,h,_,_=>by cases‹List (DataW H)›<;>exact h.elim
 |_::_,_::_,[],_,_,h,_,_=>h.elim
 |t::ts,v::vs,d::ds,ps,hr,h,hlt,hsp=>by
   obtain⟨p,q,h1,h2,rfl⟩:=h
   simp only[lH,List.all_cons,Bool.and_eq_true,decide_eq_true_eq] at hr
   exact⟨p,q,WideElems.Trod_stays hl hr.1.1 hr.1.2 h1 (λx hx=>hb.same (hlt x (by simp[hx]))) (λx hx=>hsp x (by simp[hx])),
     j3 hl hb sp hr.2 h2 (λx hx=>hlt x (by simp[hx])) (λx hx=>hsp x (by simp[hx])),rfl⟩
theorem nH{H:Type}{enc:TypeId×Value->H}{P:Program}{f:Func}{s:ChangeSpec}{W W':World}{args:Array Value}{ds gs:List (DataW H)}{before:List MemPlace}{tb:TypeId}
   (hl:laidOutB P=true)(hr:lH P f.params.toList=true)(hv:s.vars=[])(hrt:f.resultTypes= #[tb])(htb:P.underlying tb=some .bool)
   (hW:DataW.Whole enc P f.params.toList s.vars false W args.toList ds gs before)(hfn:s.fn H (ds++gs)={results:=[.lit (.bool true)],args:=ds})(hB:Below W.heap.size W W'):
   s.post enc P f false true false false W args (.bool true) W':=by
 have hlt:=hW.lt
 have hW0:=hW
 obtain⟨p,q,hA,hV,rfl,hfz,_⟩:=hW
 rw[hv] at hV
 obtain⟨rfl,rfl⟩:=trodVars_none hV
 simp only[List.append_nil] at hlt hfz hW0 hfn
 have hres:∀(b:Nat) (sp:Nat->Bool) (hd:Bool),DataW.TrodAll enc P W' b sp hd f.resultTypes.toList ((Value.bool true).resultList f.resultTypes.size) (s.fn H (ds++[])).results []:=λb sp hd=>by
   rw[hrt,List.append_nil,hfn]
   exact trodAll_cons_mk (shut_bool htb true) trodAll_mk0
 have hargs:∀sp:Nat->Bool,(∀x∈p,sp x.block=true)->DataW.TrodAll enc P W' 0 sp true f.params.toList args.toList (s.fn H (ds++[])).args p:=λsp hsp=>by
   rw[List.append_nil,hfn]
   exact j3 hl hB sp hr hA hlt hsp
 have hvars:∀sp:Nat->Bool,DataW.TrodVars enc P W' sp s.vars (s.fn H (ds++[])).vars []:=λsp=>by
   rw[List.append_nil,hfn,hv]
   rfl
 refine⟨ds,[],p,[],p,[],hW0,hres _ _ _,hargs _ (λx hx=>by simpa using hlt x hx),hvars _,World.keptBut_mono (λx hx=>⟨hx,Or.inr (by simpa using hx)⟩) (hB.frame _),λ_=>?_⟩
 refine⟨?_,_,_,([]++p)++[],⟨[]++p,[],trodAll_append (hargs _ (λ_ _=>rfl)) (hres _ _ _),hvars _,rfl,?_,?_⟩,?_⟩
 · exact ok_one hrt rfl (okWide_bool_mk htb true)
 · intro b off hp
   have hp':MemPlace.cell b off∈p:=by simpa using hp
   rw[hB.frozen (p:=⟨b,off,none⟩) (hlt _ hp')]
   exact hfz b off hp'
 · intro ha;cases ha
 · intro x hx _
   simpa using hx
end TL
/-
  TlOpenT: arguments that are tasks, or flows.
  By an AI agent.
-/
set_option linter.all false
namespace TL
open Go Go.Proofs Go.ChangeShapes Go.WideShapes Go.Joins Go.Deep
theorem po{P:Program}{t e:TypeId}{f0 f1 f2 f3:Field}(hs:P.underlying t=some (.struct #[f0,f1,f2,f3]))(hone:oneCellFields P #[f0,f1,f2,f3]=true)(hC:P.cellsOf t=4)(h0:f0.type=e)(h1:f1.type=e)(h2:f2.type=e)(h3:f3.type=e)(he:P.underlying e=some (.int .i64)):pa (Int×Int×Int×Int) P t:=by
 intro H enc w fuel cs x h
 obtain⟨y0,y1,y2,y3,n,_,hl,k0,k1,k2,k3⟩:=trod_struct4 hs h
 obtain⟨o0,c0⟩:=hone_of hone 0 f0 rfl
 obtain⟨o1,c1⟩:=hone_of hone 1 f1 rfl
 obtain⟨o2,c2⟩:=hone_of hone 2 f2 rfl
 obtain⟨o3,c3⟩:=hone_of hone 3 f3 rfl
 rw[hC] at hl
 match cs,hl with
 |[v0,v1,v2,v3],_=>
   have k0':DataW.trod enc P w 0 (λ_=>true) true n f0.type [v0]=some y0:=by simpa[o0,c0] using k0
   have k1':DataW.trod enc P w 0 (λ_=>true) true n f1.type [v1]=some y1:=by simpa[o1,c1] using k1
   have k2':DataW.trod enc P w 0 (λ_=>true) true n f2.type [v2]=some y2:=by simpa[o2,c2] using k2
   have k3':DataW.trod enc P w 0 (λ_=>true) true n f3.type [v3]=some y3:=by simpa[o3,c3] using k3
   rw[h0] at k0'
   rw[h1] at k1'
   rw[h2] at k2'
   rw[h3] at k3'
   obtain⟨a,ha⟩:=fQ he enc w n [v0] y0 k0'
   obtain⟨b,hb⟩:=fQ he enc w n [v1] y1 k1'
   obtain⟨c,hc⟩:=fQ he enc w n [v2] y2 k2'
   obtain⟨d,hd⟩:=fQ he enc w n [v3] y3 k3'
   exact⟨(a,b,c,d),[v0],[v1,v2,v3],rfl,ha,[v1],[v2,v3],rfl,hb,[v2],[v3],rfl,hc,hd⟩
theorem nF{α:Type}[Rp α][Inhabited α]{P:Program}{t t0 t1 t2 e q:TypeId}{f0 f1 f2:Field}(hs:P.underlying t=some (.struct #[f0,f1,f2]))(hone:oneCellFields P #[f0,f1,f2]=true)(hC:P.cellsOf t=3)(hts:P.cellTypes P.depth t=some [t0,t1,t2])
    (h0:f0.type=t0)(h1:f1.type=t1)(h2:f2.type=t2)(hi:P.underlying t0=some (.int .i64))(ht:P.underlying t1=some (.slice e))(hc:P.cellsOf e=Rp.sz α)(hz:0<Rp.sz α)(he:pa α P e)
    (ht2:P.underlying t2=some (.slice q))(hcq:P.cellsOf q=1)(hq:P.underlying q=some (.int .i64))
    {H:Type}{enc:TypeId×Value->H}{w:World}{f:DataW H->Nat}(hf:kX f){base:Nat}{v:Value}{d:DataW H}{p:List MemPlace}
    (hval:Value.okWide P w .any base t v)(h:DataW.Trod enc P w 0 (λ_=>true) true t v d p)(hb:f d<=1048576):∃(n:Int) (u u2:Value) (xs:List α) (ys:List Int),v= .agg #[.int .i64 n,u,u2]/\Ro w u xs/\Ro w u2 ys:=by
  obtain⟨v0,v1,v2,y0,y1,y2,n,rfl,rfl,rfl,r0,r1,r2⟩:=open_agg3 hs hone hC hval h
  subst h0 h1 h2
  obtain⟨k,hk,_,_⟩:=DataW.trod_int hi r0
  obtain rfl:v0= .int .i64 k:=by simpa using hk
  simp only[Value.okWide,hs] at hval
  obtain⟨cs,hcs,_,ts,h3,_,h4⟩:=hval
  rw[hts] at h3
  obtain rfl:=Option.some.inj h3
  obtain rfl: #[Value.int .i64 k,v1,v2]=cs:=by simpa using hcs
  obtain⟨a1,hu1,hk1⟩:=h4 1 v1 rfl
  obtain⟨a2,hu2,hk2⟩:=h4 2 v2 rfl
  simp at hu1 hu2
  subst hu1 hu2
  obtain⟨xs,hx⟩:=j6 ht hc hz he hf (fL ht hk1) (x:=y1) r1 (Nat.le_trans (hf.part _ _ (by simp)) hb)
  obtain⟨ys,hy⟩:=j6 (α:=Int) ht2 hcq (by decide) (fQ hq) hf (fL ht2 hk2) (x:=y2) r2 (Nat.le_trans (hf.part _ _ (by simp)) hb)
  exact⟨k,v1,v2,xs,ys,rfl,hx,hy⟩
theorem nM{P:Program}{t:TypeId}(ht:P.underlying t=some (.int .u8)){H:Type}{enc:TypeId×Value->H}{w:World}{base:Nat}{v:Value}{d:DataW H}{p:List MemPlace}
    (hval:Value.okWide P w .any base t v)(h:DataW.Trod enc P w 0 (λ_=>true) true t v d p):∃n:Int,v= .int .u8 n/\0<=n/\n<=255:=by
  obtain⟨n,rfl⟩:=okWide_int ht hval
  obtain⟨fuel,hf⟩:=h
  obtain⟨m,hm,_,hw⟩:=DataW.trod_int ht hf
  have e:n=m:=by simpa[Value.cells] using hm
  subst e
  simp only[Lit.wf,Bool.and_eq_true,decide_eq_true_eq] at hw
  have e1:IntKind.u8.min=0:=by decide
  have e2:IntKind.u8.max=255:=by decide
  exact⟨n,rfl,by omega,by omega⟩
end TL
