/- Plain texts of this claim, part 1. By an AI agent. -/
import Derived.Test.YtmakonaaojadbaaTlP0
import Derived.Laws.Externs
import Derived.Laws.FloatArith
import Derived.Laws.FloatBits
import Derived.Laws.NewFold
import Derived.Laws.StructEq
import Derived.OrdersHeld
/-
  TlDraw: regions that draw their order, taken operation by operation.
  By an AI agent.
-/
set_option linter.all false
namespace TL
open Go
def bx(n:Nat)(done:List Nat):Array Bool:=((List.range n).map λi=>decide (i∈done)).toArray
theorem cq(n:Nat)(done:List Nat)(j:Nat)(d:Bool):(bx n done).getD j d=if j<n then decide (j∈done) else d:=by
 unfold bx
 by_cases h:j<n
 · simp[h]
 · simp[h]
theorem bY{n i:Nat}(done:List Nat)(hi:i<n):(bx n done).setIfInBounds i true=bx n (i::done):=by
 apply Array.ext
 · simp[bx]
 · intro j h1 h2
   have hj:j<n:=by simpa[bx] using h2
   simp only[bx]
   by_cases hij:i=j
   · subst hij;simp
   · have:¬j=i:=λh=>hij h.symm
     simp[Array.getElem_setIfInBounds,hij,this]
section
variable{P:Program}{ops:Array Oper}{Q:Exit->Act->World->Prop}{md:Region.Mode}{qs:Nat->Bool}
def gO(P:Program)(md:Region.Mode)(ops:Array Oper)(qs:Nat->Bool)(Q:Exit->Act->World->Prop):Nat->Array Bool->Act->World->Prop
  |0,listed,a,w=>Region.ready md ops listed=[]/\Q .normal a w
  |fuel+1,listed,a,w=>(Region.ready md ops listed=[]->Q .normal a w)/\
    ∀i∈Region.ready md ops listed,if qs i then stOp P ops w i (λa'=>gO P md ops qs Q fuel (listed.setIfInBounds i true) a' w) a
      else wpOp P ops Q i (gO P md ops qs Q fuel (listed.setIfInBounds i true)) a w
theorem dK:∀(fuel:Nat) (listed:Array Bool) (a:Act) (w:World),gO P md ops qs Q fuel listed a w->wpAny P md ops Q fuel listed a w
 |0,_,_,_,h=>h
 |fuel+1,listed,a,w,h=>by
   refine⟨h.1,λi hi=>?_⟩
   have h2:=h.2 i hi
   cases hq:qs i with
   |true=>
     simp only[hq,if_true] at h2
     exact wpOp_of_stOp (λa' h'=>dK fuel _ a' w h') h2
   |false=>
     simp only[hq,Bool.false_eq_true,if_false] at h2
     exact wpOp_mono (λa' w' h'=>dK fuel _ a' w' h') h2
theorem jb{i:Nat}{oi:Oper}{v:Value}{w:World}{M D:Array Bool}(hi:ops[i]? =some oi)(hsel:∀(j:Nat) (o:Oper) cs b,ops[j]? =some o->o.op≠ .select cs b)(hqi:qs i=true)
    (hM:∀j oj,ops[j]? =some oj->M.getD j false=false->j≠i->∃e∈oj.after,Region.binds md e=true/\M.getD e.on false=false)
    (hMq:∀j oj,ops[j]? =some oj->M.getD j false=true->D.getD j true=false->j≠i->qs j=true):
    ∀(fuel:Nat) (listed:Array Bool) (a:Act),listed.size=ops.size->(∀j,listed.getD j false=true->M.getD j false=true)->(∀j,listed.getD j true=false->D.getD j true=false)->
      (∀j oj,ops[j]? =some oj->j≠i->listed.getD j true=false->(∀e∈oj.after,Region.binds md e=true->e.on≠i)->oi.apart ops oj=true)->
      i∈Region.ready md ops listed->YieldsAt P ops w oi v a->
      gO P md ops qs Q fuel (listed.setIfInBounds i true) (a.put oi.dst v) w->gO P md ops qs Q (fuel+1) listed a w:=by
  intro fuel
  induction fuel with
  |zero=>
    intro listed a _ _ _ _ hr hy H
    refine⟨λh=>(by rw[h] at hr;cases hr),λj hj=>?_⟩
    by_cases hji:j=i
    · subst hji;rw[if_pos hqi];exact hy.stOp hi H
    · have:=ready_mono hj hji
      rw[H.1] at this
      cases this
  |succ fuel ih=>
    intro listed a hsz hsub hD hfree hr hy H
    refine⟨λh=>(by rw[h] at hr;cases hr),λj hj=>?_⟩
    by_cases hji:j=i
    · subst hji;rw[if_pos hqi];exact hy.stOp hi H
    · obtain⟨hjun,oj,hoj,hall⟩:=mem_ready.1 hj
      have hMj:M.getD j false=true:=by
        cases hm:M.getD j false with
        |true=>rfl
        |false=>
          obtain⟨e,he,hb,hn⟩:=hM j oj hoj hm hji
          have:=hsub _ (hall e he hb)
          rw[hn] at this;cases this
      have hqj:=hMq j oj hoj hMj (hD j hjun) hji
      have h1:=H.2 j (ready_mono hj hji)
      rw[if_pos hqj] at h1 ⊢
      have hnot:∀e∈oj.after,Region.binds md e=true->e.on≠i:=λe he hb heq=>by
        have h1:=hall e he hb
        have h0:=(mem_ready.1 hr).1
        rw[heq] at h1
        rw[getD_both h0] at h1
        cases h1
      have h2:=stOp_put hoj (hfree j oj hoj hji hjun hnot) (λcs b=>hsel i oi cs b hi) (λcs b=>hsel j oj cs b hoj) hy h1
      have hfree':∀k ok,ops[k]? =some ok->k≠i->(listed.setIfInBounds j true).getD k true=false->
          (∀e∈ok.after,Region.binds md e=true->e.on≠i)->oi.apart ops ok=true:=λk ok hk hki hun hno=>by
        refine hfree k ok hk hki ?_ hno
        by_cases hjk:j=k
        · subst hjk;exact hjun
        · rw[getD_set_ne true hjk] at hun;exact hun
      have hsub':∀k,(listed.setIfInBounds j true).getD k false=true->M.getD k false=true:=λk hk=>by
        by_cases hjk:j=k
        · subst hjk;exact hMj
        · rw[getD_set_ne false hjk] at hk;exact hsub k hk
      have hD':∀k,(listed.setIfInBounds j true).getD k true=false->D.getD k true=false:=λk hk=>by
        by_cases hjk:j=k
        · subst hjk;exact hD j hjun
        · rw[getD_set_ne true hjk] at hk;exact hD k hk
      refine stOp_mono (λa' h3=>ih (listed.setIfInBounds j true) a' (by simpa using hsz) hsub' hD' hfree' (ready_mono hr (Ne.symm hji)) h3.1 ?_) h2
      rw[Array.setIfInBounds_comm _ _ hji]
      exact h3.2
def ao{α:Type}(s:Sem α):Prop:=∀(P:Program) (w:World) (x:α) (w':World),s.run P w= .ok x w'->d6 w.heap.size w w'
theorem ao.bind{α β:Type}{s:Sem α}{f:α->Sem β}(h:ao s)(hf:∀a,ao (f a)):ao (s>>=f):=by
 intro P w x w' hr
 rw[Sem.run_bind] at hr
 cases h1:s.run P w with
 |halt e w1=>rw[h1] at hr;cases hr
 |ok a w1=>
   rw[h1] at hr
   have k1:=h P w a w1 h1
   have k2:=hf a P w1 x w' hr
   exact k1.trans (k2.mono k1.size)
theorem ao.pure{α:Type}(a:α):ao (Pure.pure a:Sem α):=λP w x w' h=>by
 simp only[Sem.run_pure] at h
 cases h;exact d6.refl _ _
theorem ao.halt{α:Type}(e:Halt):ao (Sem.halt e:Sem α):=λP w x w' h=>by cases h
theorem ao.stuck{α:Type}(e:String):ao (Go.stuck e:Sem α):=ao.halt _
theorem ao.unsupported{α:Type}(e:Unsupported):ao (Go.unsupported e:Sem α):=ao.halt _
theorem ao.program:ao Go.program:=λP w x w' h=>by
 simp only[run_program] at h
 cases h;exact d6.refl _ _
theorem ao.new(o:Obj):ao (newObj o):=λP w x w' h=>by
 simp only[run_newObj] at h
 cases h
 exact(d6.refl _ w).alloc (Nat.le_refl _) o
theorem ao.typeInfo(t:TypeId):ao (Go.typeInfo t):=ao.bind ao.program λp=>by
 cases p.info? t with
 |some i=>exact ao.pure i
 |none=>exact ao.stuck _
theorem ao.underlying(t:TypeId):ao (Go.underlying t):=ao.bind ao.program λp=>by
 cases p.underlying t with
 |some i=>exact ao.pure i
 |none=>exact ao.stuck _
theorem ao.sizeOf(t:TypeId):ao (Go.sizeOf t):=ao.bind (ao.typeInfo t) λi=>ao.pure _
theorem ao.zeroValue(t:TypeId):ao (Go.zeroValue t):=ao.bind (ao.typeInfo t) λi=>by
 cases i.zero with
 |some v=>exact ao.pure v
 |none=>exact ao.unsupported _
theorem ao.newVar(t:TypeId)(v:Value):ao (Go.newVar t v):=ao.bind (ao.new _) λ_=>ao.pure _
theorem fN(t:TypeId)(len:Nat)(parts:Array (Nat×Value)):ao (Instr.buildSlice t len parts):=by
 unfold Instr.buildSlice
 refine ao.bind (ao.underlying t) λd=>?_
 split
 · refine ao.bind (ao.sizeOf _) λsize=>?_
   have tail:∀(elem:TypeId) (zero:Array Value),ao (match Instr.fill (λi=>some (i*size,size)) ((Array.range (len*size)).map (zero[· %zero.size]!)) parts.toList with
       |some cells=>(do pure (Value.slice (some (<-newRow elem cells)) len len):Sem Value)
       |_=>Go.stuck "buildSlice: a part of the wrong size"):=λelem zero=>by
     split
     · exact ao.bind (ao.bind (ao.new _) λ_=>ao.pure _) λ_=>ao.pure _
     · exact ao.stuck _
   by_cases h1:len*size>2^24
   · simp only[h1,if_true]
     refine ao.bind (ao.unsupported _) λx=>?_
     by_cases h2:len*size=0
     · rw[if_pos h2]
       exact ao.bind (ao.pure _) λzero=>tail _ zero
     · simp only[h2,if_false]
       exact ao.bind (ao.zeroValue _) λ_=>ao.bind (ao.pure _) λzero=>tail _ zero
   · simp only[h1,if_false]
     by_cases h2:len*size=0
     · rw[if_pos h2]
       exact ao.bind (ao.pure _) λzero=>tail _ zero
     · simp only[h2,if_false]
       exact ao.bind (ao.zeroValue _) λ_=>ao.bind (ao.pure _) λzero=>tail _ zero
 · exact ao.stuck _
theorem lg{P:Program}{w w':World}{s:Sem Value}{nx:Next}(h:(do pure (Next.value (<-s)):Sem Next).run P w= .ok nx w'):∃u,nx= .value u:=by
 rw[Sem.run_bind] at h
 cases hs:s.run P w with
 |ok a w1=>rw[hs] at h;cases h;exact⟨a,rfl⟩
 |halt e w1=>rw[hs] at h;cases h
theorem ao.load(a:Addr)(m:Mode):ao (Go.load a m):=λP w x w' h=>by
 simp only[Go.load,Sem.run] at h
 split at h
 · cases h;exact d6.refl _ _
 · split at h
   · cases h;exact d6.refl _ _
   · cases h
theorem ao.cells(a:Addr):∀(n i:Nat) (acc:Array Value),ao (loadCellsFrom a i n acc)
 |0,_,_=>ao.pure _
 |n+1,i,_=>ao.bind (ao.load _ _) λ_=>ao.cells a n (i+1) _
theorem ao.isAgg(t:TypeId):ao (Go.isAgg t):=ao.bind (ao.underlying t) λd=>by
 split<;>exact ao.pure _
theorem ao.error{α:Type}(m:String):ao (runtimePanic (.error m):Sem α):=ao.bind ao.program λp=>ao.halt _
theorem ao.asIntOf(v:Value):ao (Go.asIntOf v):=by
 unfold Go.asIntOf
 split
 · exact ao.pure _
 · exact ao.unsupported _
 · exact ao.stuck _
theorem ao.asInt(v:Value):ao (Go.asInt v):=ao.bind (ao.asIntOf v) λ_=>ao.pure _
theorem ao.choose(q:Question):ao (Go.choose q):=λP w x w' h=>by
 simp only[Go.choose,Sem.run] at h
 split at h
 · cases h;exact d6.refl _ _
 · cases h;exact⟨rfl,rfl,rfl,Nat.le_refl _,λ_ _=>rfl,Nat.le_succ _⟩
theorem ao.room(n:Nat):ao (askRoom n):=λP w x w' h=>by
 unfold askRoom at h
 split at h
 · simp only[Go.mark,Sem.run] at h
   cases h;exact⟨rfl,rfl,rfl,Nat.le_refl _,λ_ _=>rfl,Nat.le_refl _⟩
 · cases h;exact d6.refl _ _
theorem i7(t:TypeId)(a:Value):ao (Instr.loadAt t a):=by
 unfold Instr.loadAt
 refine ao.bind ?_ λb=>?_
 · unfold Instr.sureAddr
   split
   · exact ao.pure _
   · exact ao.stuck _
 · unfold loadVar
   refine ao.bind (ao.isAgg t) λc=>?_
   split
   · exact ao.bind (ao.sizeOf t) λn=>ao.bind (ao.cells _ _ _ _) λ_=>ao.pure _
   · exact ao.load _ _
theorem g8(t:TypeId)(a b:Value):ao (Instr.makeSlice t a b):=by
 unfold Instr.makeSlice
 refine ao.bind (ao.underlying t) λd=>?_
 split
 · refine ao.bind (ao.asInt _) λl=>ao.bind (ao.asInt _) λc=>ao.bind (ao.typeInfo _) λi=>?_
   have tail:∀(c:Int) (l:Int) (elem:TypeId),ao (do
       let n:=c.toNat*(<-sizeOf elem)
       let zero<-if n=0 then pure #[] else do pure (<-zeroValue elem).cells
       let a<-newRow elem ((Array.range n).map (zero[· %zero.size]!))
       pure (Value.slice (some a) l.toNat c.toNat)):=λc l elem=>by
     refine ao.bind (ao.sizeOf _) λn=>?_
     have last:∀zero:Array Value,ao (do
       let a<-newRow elem ((Array.range (c.toNat*n)).map (zero[· %zero.size]!))
       pure (Value.slice (some a) l.toNat c.toNat)):=λzero=>ao.bind (ao.bind (ao.new _) λ_=>ao.pure _) λ_=>ao.pure _
     by_cases h:c.toNat*n=0
     · simp only[h,if_true]
       have:=last #[]
       simp only[h] at this
       exact ao.bind (ao.pure _) λ_=>ao.bind (ao.bind (ao.new _) λ_=>ao.pure _) λ_=>ao.pure _
     · simp only[h,if_false]
       exact ao.bind (ao.zeroValue _) λ_=>ao.bind (ao.pure _) λz=>last z
   dsimp only
   repeat' (first
     |exact ao.error _
     |exact ao.choose _
     |exact ao.room _
     |exact tail _ _ _
     |exact ao.pure _
     |refine ao.bind ?_ λ_=>?_
     |split)
 · exact ao.stuck _
def eB:Op->Bool
 | .alloc _| .box .. | .buildSlice .. | .load .. | .makeSlice .. =>true
 |_=>false
theorem jh{ρ:Operand->Value}{o:Oper}(h:eB o.op=true):ao (execOp ρ o):=by
 obtain⟨dst,op,ty,pos,after,g⟩:=o
 cases op<;>simp only[eB,Bool.false_eq_true] at h
 case alloc e=>exact ao.bind (ao.bind (ao.zeroValue _) λ_=>ao.bind (ao.newVar _ _) λ_=>ao.pure _) λ_=>ao.pure _
 case box e x=>exact ao.bind (ao.bind (ao.newVar _ _) λ_=>ao.pure _) λ_=>ao.pure _
 case buildSlice t n ps=>exact ao.bind (fN _ _ _) λ_=>ao.pure _
 case load t a=>exact ao.bind (i7 _ _) λ_=>ao.pure _
 case makeSlice t a b=>exact ao.bind (g8 _ _ _) λ_=>ao.pure _
theorem kB{i:Nat}{oi:Oper}{v:Value}{w0:World}{M D:Array Bool}(hi:ops[i]? =some oi)(hsel:∀(j:Nat) (o:Oper) cs b,ops[j]? =some o->o.op≠ .select cs b)(hqi:qs i=true)
    (hQ:∀c a w,Q (.panic c) (a.put oi.dst v) w->Q (.panic c) a w)
    (hM:∀j oj,ops[j]? =some oj->M.getD j false=false->j≠i->∃e∈oj.after,Region.binds md e=true/\M.getD e.on false=false)
    (hMq:∀j oj,ops[j]? =some oj->M.getD j false=true->D.getD j true=false->j≠i->qs j=true\/eB oj.op=true):
    ∀(fuel:Nat) (listed:Array Bool) (a:Act) (w:World),d6 w0.heap.size w0 w->(∀j,listed.getD j false=true->M.getD j false=true)->(∀j,listed.getD j true=false->D.getD j true=false)->
      (∀j oj,ops[j]? =some oj->j≠i->listed.getD j true=false->(∀e∈oj.after,Region.binds md e=true->e.on≠i)->oi.apart ops oj=true)->
      i∈Region.ready md ops listed->(∀w,d6 w0.heap.size w0 w->YieldsAt P ops w oi v a)->
      gO P md ops qs Q fuel (listed.setIfInBounds i true) (a.put oi.dst v) w->gO P md ops qs Q (fuel+1) listed a w:=by
  intro fuel
  induction fuel with
  |zero=>
    intro listed a w hw _ _ _ hr hy H
    refine⟨λh=>(by rw[h] at hr;cases hr),λj hj=>?_⟩
    by_cases hji:j=i
    · subst hji;rw[if_pos hqi];exact(hy w hw).stOp hi H
    · have:=ready_mono hj hji
      rw[H.1] at this
      cases this
  |succ fuel ih=>
    intro listed a w hw hsub hD hfree hr hy H
    refine⟨λh=>(by rw[h] at hr;cases hr),λj hj=>?_⟩
    by_cases hji:j=i
    · subst hji;rw[if_pos hqi];exact(hy w hw).stOp hi H
    · obtain⟨hjun,oj,hoj,hall⟩:=mem_ready.1 hj
      have hMj:M.getD j false=true:=by
        cases hm:M.getD j false with
        |true=>rfl
        |false=>
          obtain⟨e,he,hb,hn⟩:=hM j oj hoj hm hji
          have:=hsub _ (hall e he hb)
          rw[hn] at this;cases this
      have hqj:=hMq j oj hoj hMj (hD j hjun) hji
      have h1:=H.2 j (ready_mono hj hji)
      have hnot:∀e∈oj.after,Region.binds md e=true->e.on≠i:=λe he hb heq=>by
        have h1:=hall e he hb
        have h0:=(mem_ready.1 hr).1
        rw[heq] at h1
        rw[getD_both h0] at h1
        cases h1
      have hap:=hfree j oj hoj hji hjun hnot
      have hfree':∀k ok,ops[k]? =some ok->k≠i->(listed.setIfInBounds j true).getD k true=false->
          (∀e∈ok.after,Region.binds md e=true->e.on≠i)->oi.apart ops ok=true:=λk ok hk hki hun hno=>by
        refine hfree k ok hk hki ?_ hno
        by_cases hjk:j=k
        · subst hjk;exact hjun
        · rw[getD_set_ne true hjk] at hun;exact hun
      have hsub':∀k,(listed.setIfInBounds j true).getD k false=true->M.getD k false=true:=λk hk=>by
        by_cases hjk:j=k
        · subst hjk;exact hMj
        · rw[getD_set_ne false hjk] at hk;exact hsub k hk
      have hD':∀k,(listed.setIfInBounds j true).getD k true=false->D.getD k true=false:=λk hk=>by
        by_cases hjk:j=k
        · subst hjk;exact hD j hjun
        · rw[getD_set_ne true hjk] at hk;exact hD k hk
      obtain⟨g1,g2,g3⟩:=Oper.apart_spec hap
      have keep:∀u w,d6 w0.heap.size w0 w->YieldsAt P ops w oi v (a.put oj.dst u):=λu w hw=>
        (hy w hw).of_same (execOp_put oi (λcs b=>hsel i oi cs b hi) a oj.dst u g3) (wanted_put oi a oj.dst u g3)
      cases hqj':qs j with
      |true=>
        simp only[hqj',if_true] at h1 ⊢
        obtain⟨u,hyu,hK⟩:=yieldsAt_of_stOp hoj h1
        have hyj:YieldsAt P ops w oj u a:=by
          rcases hyu with⟨k1,k2⟩|⟨k1,k2⟩
          · refine .inl ⟨by rw[<-wanted_put oj a oi.dst v g1];exact k1,?_⟩
            rw[execOp_put oj (λcs b=>hsel j oj cs b hoj) a oi.dst v g1] at k2
            exact k2
          · exact .inr ⟨by rw[<-wanted_put oj a oi.dst v g1];exact k1,k2⟩
        refine hyj.stOp hoj (ih (listed.setIfInBounds j true) (a.put oj.dst u) w hw hsub' hD' hfree' (ready_mono hr (Ne.symm hji)) (keep u) ?_)
        rw[<-Act.put_comm a v u g2,Array.setIfInBounds_comm _ _ hji]
        exact hK
      |false=>
        have hkk:=hqj.resolve_left (by rw[hqj'];simp)
        simp only[hqj',Bool.false_eq_true,if_false] at h1 ⊢
        unfold wpOp at h1 ⊢
        simp only[hoj] at h1 ⊢
        rw[wanted_put oj a oi.dst v g1] at h1
        cases hwt:Region.wanted oj (yielded ops a.tmps) with
        |false=>
          simp only[hwt,Bool.false_eq_true,if_false] at h1 ⊢
          refine ih (listed.setIfInBounds j true) (a.put oj.dst undef) w hw hsub' hD' hfree' (ready_mono hr (Ne.symm hji)) (keep undef) ?_
          rw[<-Act.put_comm a v undef g2,Array.setIfInBounds_comm _ _ hji]
          exact h1
        |true=>
          simp only[hwt,if_true] at h1 ⊢
          have hke:=jh (ρ:=a.eval) hkk P w
          rcases h1 with h1|⟨h1,h2⟩
          · left
            unfold Oper.wp at h1 ⊢
            rw[execOp_put oj (λcs b=>hsel j oj cs b hoj) a oi.dst v g1] at h1
            obtain⟨dst,op,ty,pos,after,gd⟩:=oj
            cases hrun:(execOp a.eval ⟨dst,op,ty,pos,after,gd⟩).run P w with
            |halt x w'=>
              rw[hrun] at h1
              cases x<;>simp only[Oper.upon] at h1 ⊢
              case panic u=>exact hQ _ _ _ h1
            |ok nx w'=>
              rw[hrun] at h1
              have hb:=hke nx w' hrun
              have hw':d6 w0.heap.size w0 w':=hw.trans (hb.mono hw.size)
              -- these operations yield values alone
              have hval:∃u,nx= .value u:=by
                cases op<;>simp only[eB,Bool.false_eq_true] at hkk
                all_goals exact lg hrun
              obtain⟨u,rfl⟩:=hval
              simp only[Oper.upon] at h1 ⊢
              refine ih (listed.setIfInBounds j true) (a.put dst u) w' hw' hsub' hD' hfree' (ready_mono hr (Ne.symm hji)) (keep u) ?_
              have h3:=h1
              rw[show(a.put oi.dst v).put dst u=(a.put dst u).put oi.dst v from Act.put_comm a v u g2,Array.setIfInBounds_comm _ _ (Ne.symm hji)] at h3
              exact h3
          · right
            refine⟨?_,h2⟩
            unfold Oper.asks at*
            rw[execOp_put oj (λcs b=>hsel j oj cs b hoj) a oi.dst v g1] at h1
            exact h1
theorem gX{i:Nat}{oi:Oper}{v:Value}(hi:ops[i]? =some oi)(hsel:∀(j:Nat) (o:Oper) cs b,ops[j]? =some o->o.op≠ .select cs b)(hqi:qs i=true)
    (hQ:∀c a w,Q (.panic c) (a.put oi.dst v) w->Q (.panic c) a w):
    ∀(fuel:Nat) (listed:Array Bool) (a:Act) (w:World),
      (∀j oj,ops[j]? =some oj->j≠i->listed.getD j true=false->(∀e∈oj.after,Region.binds md e=true->e.on≠i)->oi.apart ops oj=true)->
      i∈Region.ready md ops listed->Yields P ops oi v a->
      gO P md ops qs Q fuel (listed.setIfInBounds i true) (a.put oi.dst v) w->gO P md ops qs Q (fuel+1) listed a w:=by
  have hat:∀{a:Act} {w:World},Yields P ops oi v a->YieldsAt P ops w oi v a:=λ {a w} hy=>by
    rcases hy with⟨h1,h2⟩|⟨h1,h2⟩
    · exact .inl ⟨h1,.inl (h2 w)⟩
    · exact .inr ⟨h1,h2⟩
  intro fuel
  induction fuel with
  |zero=>
    intro listed a w _ hr hy H
    refine⟨λh=>(by rw[h] at hr;cases hr),λj hj=>?_⟩
    by_cases hji:j=i
    · subst hji;rw[if_pos hqi];exact(hat hy).stOp hi H
    · have:=ready_mono hj hji
      rw[H.1] at this
      cases this
  |succ fuel ih=>
    intro listed a w hfree hr hy H
    refine⟨λh=>(by rw[h] at hr;cases hr),λj hj=>?_⟩
    by_cases hji:j=i
    · subst hji;rw[if_pos hqi];exact(hat hy).stOp hi H
    · obtain⟨hjun,oj,hoj,hall⟩:=mem_ready.1 hj
      have h1:=H.2 j (ready_mono hj hji)
      have hnot:∀e∈oj.after,Region.binds md e=true->e.on≠i:=λe he hb heq=>by
        have h1:=hall e he hb
        have h0:=(mem_ready.1 hr).1
        rw[heq] at h1
        rw[getD_both h0] at h1
        cases h1
      have hap:=hfree j oj hoj hji hjun hnot
      have hfree':∀k ok,ops[k]? =some ok->k≠i->(listed.setIfInBounds j true).getD k true=false->
          (∀e∈ok.after,Region.binds md e=true->e.on≠i)->oi.apart ops ok=true:=λk ok hk hki hun hno=>by
        refine hfree k ok hk hki ?_ hno
        by_cases hjk:j=k
        · subst hjk;exact hjun
        · rw[getD_set_ne true hjk] at hun;exact hun
      cases hqj:qs j with
      |true=>
        simp only[hqj,if_true] at h1 ⊢
        -- a step that leaves the world
        have hy':=hy
        obtain⟨g1,g2,g3⟩:=Oper.apart_spec hap
        have keep:∀(a:Act),Yields P ops oi v a->∀u,Yields P ops oi v (a.put oj.dst u):=λa hy u=>
          hy.of_same (execOp_put oi (λcs b=>hsel i oi cs b hi) a oj.dst u g3) (wanted_put oi a oj.dst u g3)
        obtain⟨u,hyu,hK⟩:=yieldsAt_of_stOp hoj h1
        have hyj:YieldsAt P ops w oj u a:=by
          rcases hyu with⟨k1,k2⟩|⟨k1,k2⟩
          · refine .inl ⟨by rw[<-wanted_put oj a oi.dst v g1];exact k1,?_⟩
            rw[execOp_put oj (λcs b=>hsel j oj cs b hoj) a oi.dst v g1] at k2
            exact k2
          · exact .inr ⟨by rw[<-wanted_put oj a oi.dst v g1];exact k1,k2⟩
        refine hyj.stOp hoj (ih (listed.setIfInBounds j true) (a.put oj.dst u) w hfree' (ready_mono hr (Ne.symm hji)) (keep a hy u) ?_)
        rw[<-Act.put_comm a v u g2,Array.setIfInBounds_comm _ _ hji]
        exact hK
      |false=>
        simp only[hqj,Bool.false_eq_true,if_false] at h1 ⊢
        have h2:=wpOp_put hoj hap (λcs b=>hsel i oi cs b hi) (λcs b=>hsel j oj cs b hoj) hQ hy h1
        refine wpOp_mono (λa' w' h3=>ih (listed.setIfInBounds j true) a' w' hfree' (ready_mono hr (Ne.symm hji)) h3.1 ?_) h2
        rw[Array.setIfInBounds_comm _ _ hji]
        exact h3.2
end
section
variable{P:Program}{n:Nat}{l:List Oper}{qs:List Nat}{K:Fr->World->Prop}{f:Fr}{w:World}{done:List Nat}{fuel:Nat}
def eU(P:Program)(n:Nat)(l:List Oper)(qs:List Nat)(K:Fr->World->Prop)(fuel:Nat)(done:List Nat)(f:Fr)(w:World):Prop:=
  ∀a,Ag n a f->gO P .any l.toArray (λi=>decide (i∈qs)) (λe a' w'=>e= .normal/\∃f',Ag n a' f'/\K f' w') fuel (bx l.length done) a w
theorem aP{fid:Nat}{R:Ending->World->Prop}{k:List Item}{id:Nat}(γ:av)(qs:List Nat)(hm:P.follows .mixedOrders=true)
   (h:∀w1,aM no γ w γ w1->eU P n l qs (du P fid n R k) l.length [] f w1):du P fid n R (.code (.region id l.toArray true)::k) f w:=
 eJ λa ha=>wp_region_any hm (by
   have h0:=dK _ _ _ _ (h _ (aM.refl _ _ _).drew a ha)
   have hmask:bx l.length []=Array.replicate l.toArray.size false:=by
     apply Array.ext
     · simp[bx]
     · intro j h1 h2;simp[bx]
   rw[hmask] at h0
   simpa using h0)
theorem c5{fid:Nat}{R:Ending->World->Prop}{k:List Item}{id:Nat}{σ:Type}(Mid:σ->Fr->World->Prop)(γ:av)(qs:List Nat)(hm:P.follows .mixedOrders=true)
    (h:(∀s f w,Mid s f w->du P fid n R k f w)->∀w1,aM no γ w γ w1->eU P n l qs (du P fid n R k) l.length [] f w1)(hk:∀s f w,Mid s f w->du P fid n R k f w):du P fid n R (.code (.region id l.toArray true)::k) f w:=
  aP γ qs hm (h hk)
def dB(l:List Oper)(done:List Nat)(i:Nat):Bool:=
 !done.contains i&&match l[i]? with
   |some o=>o.after.all λe=> !Region.binds .any e||done.contains e.on&&decide (e.on<l.length)
   |none=>false
def eF(l:List Oper)(done:List Nat)(i:Nat):Bool:=
 match l[i]? with
 |none=>false
 |some oi=>(List.range l.length).all λj=>j==i||done.contains j||match l[j]? with
     |some oj=>oj.after.any (λe=>Region.binds .any e&&e.on==i)||oi.apart l.toArray oj
     |none=>true
def ij(l:List Oper)(qs done M:List Nat)(i:Nat):Bool:=
  ((List.range l.length).all λj=>M.contains j||j==i||match l[j]? with
      |some oj=>oj.after.any λe=>Region.binds .any e&& !M.contains e.on
      |none=>true)&&
  (M.all λj=>j==i||done.contains j||qs.contains j)&&(done.all λj=>M.contains j&&decide (j<l.length))&&M.all λj=>decide (j<l.length)
def dJ(l:List Oper):Bool:=Region.noSelect l.toArray
theorem dl{i:Nat}(h:dB l done i=true):i<l.length/\i∈Region.ready .any l.toArray (bx l.length done):=by
 unfold dB at h
 simp only[Bool.and_eq_true,Bool.not_eq_true'] at h
 obtain⟨h1,h2⟩:=h
 split at h2
 · rename_i o ho
   have hlt:i<l.length:=(List.getElem?_eq_some_iff.1 ho).1
   refine⟨hlt,mem_ready.2 ⟨by rw[cq];simp[hlt];simpa using h1,o,by simpa using ho,λe he hb=>?_⟩⟩
   have h3:=Array.all_eq_true_iff_forall_mem.1 h2 e he
   simp only[hb,Bool.not_true,Bool.false_or,Bool.and_eq_true,decide_eq_true_eq] at h3
   rw[cq,if_pos h3.2]
   simpa using h3.1
 · cases h2
theorem dD{i:Nat}{oi:Oper}(hi:l[i]? =some oi)(h:eF l done i=true)(j:Nat)(oj:Oper)(hj:l.toArray[j]? =some oj)(hne:j≠i)(hun:(bx l.length done).getD j true=false)
   (hno:∀e∈oj.after,Region.binds .any e=true->e.on≠i):oi.apart l.toArray oj=true:=by
 have hj':l[j]? =some oj:=by simpa using hj
 have hlt:j<l.length:=(List.getElem?_eq_some_iff.1 hj').1
 unfold eF at h
 simp only[hi,List.all_eq_true,List.mem_range] at h
 have h1:=h j hlt
 rw[cq,if_pos hlt] at hun
 have hd:done.contains j=false:=by simpa using hun
 simp only[hj',Bool.or_eq_true,beq_iff_eq,hne,false_or,hd,Bool.false_eq_true] at h1
 rcases h1 with h1|h1
 · obtain⟨e,he,hb⟩:=Array.any_eq_true'.1 h1
   simp only[Bool.and_eq_true,beq_iff_eq] at hb
   exact absurd hb.2 (hno e he hb.1)
 · exact h1
theorem eu(h:dJ l=true):∀(j:Nat) (o:Oper) cs b,l.toArray[j]? =some o->o.op≠ .select cs b:=Region.noSelect_spec h
theorem fM{i:Nat}(h:qs.contains i=true):decide (i∈qs)=true:=by simpa using h
variable{dst:Option Tmp}{op:Op}{ty:TypeId}{pos:String}{after:Array Edge}{g:Option (Nat×Bool)}{v:Value}
theorem c8(i:Nat)(M:List Nat)(hi:l[i]? =some ⟨dst,op,ty,pos,after,g⟩)(hn:dJ l=true)(hc:(qs.contains i&&dB l done i&&eF l done i&&ij l qs done M i&&fH n ⟨dst,op,ty,pos,after,g⟩)=true)
    (hw:bS l ⟨dst,op,ty,pos,after,g⟩ f=true)(h:(execOp (ev f) ⟨dst,op,ty,pos,after,g⟩).run P w= .ok (.value v) w)(hk:eU P n l qs K fuel (i::done) (dw f dst v) w):eU P n l qs K (fuel+1) done f w:=by
  simp only[Bool.and_eq_true] at hc
  obtain⟨⟨⟨⟨hq,hr⟩,hf⟩,hb⟩,hd⟩:=hc
  obtain⟨hlt,hr'⟩:=dl hr
  intro a ha
  unfold ij at hb
  simp only[Bool.and_eq_true,List.all_eq_true,List.mem_range] at hb
  obtain⟨⟨⟨b1,b2⟩,b3⟩,b4⟩:=hb
  have hgM:∀j,(bx l.length M).getD j false=true↔j∈M:=λj=>by
    rw[cq]
    by_cases hjl:j<l.length
    · simp[hjl]
    · simp only[hjl,if_false,Bool.false_eq_true,false_iff]
      exact λhm=>hjl (by simpa using b4 j hm)
  refine jb (v:=v) (M:=bx l.length M) (D:=bx l.length done) (by simpa using hi) (eu hn) (fM hq) (λj oj hj hm hne=>?_) (λj oj hj hm hD hne=>?_) fuel _ a (by simp[bx]) (λj hj=>?_) (λj hj=>hj) (dD hi hf) hr' ?_ ?_
  · have hj':l[j]? =some oj:=by simpa using hj
    have hjl:j<l.length:=(List.getElem?_eq_some_iff.1 hj').1
    have h1:=b1 j hjl
    have hmM:M.contains j=false:=by
      cases hc:M.contains j with
      |false=>rfl
      |true=>have h9:=(hgM j).2 (by simpa using hc);rw[hm] at h9;cases h9
    simp only[hmM,hj',Bool.false_or,Bool.or_eq_true,beq_iff_eq,hne,false_or] at h1
    obtain⟨e,he,hbb⟩:=Array.any_eq_true'.1 h1
    simp only[Bool.and_eq_true,Bool.not_eq_true'] at hbb
    refine⟨e,he,hbb.1,?_⟩
    cases hc:(bx l.length M).getD e.on false with
    |false=>rfl
    |true=>
      have:=(hgM _).1 hc
      have h2:=hbb.2
      simp[this] at h2
  · have h1:=b2 j ((hgM j).1 hm)
    have hj':l[j]? =some oj:=by simpa using hj
    have hjl:j<l.length:=(List.getElem?_eq_some_iff.1 hj').1
    rw[cq,if_pos hjl] at hD
    have hd:done.contains j=false:=by simpa using hD
    simp only[Bool.or_eq_true,beq_iff_eq,hne,hd,false_or,Bool.false_eq_true] at h1
    exact fM h1
  · rw[cq] at hj
    split at hj
    · have h1:=b3 j (by simpa using hj)
      exact(hgM j).2 (by simpa using h1.1)
    · cases hj
  · refine .inl ⟨?_,.inl ?_⟩
    · rw[ha.yielded];exact hw
    · rw[ha.eval];exact h
  · rw[bY done hlt]
    exact hk _ (ha.put hd v)
def hT(l:List Oper)(qs done M:List Nat)(i:Nat):Bool:=
 ((List.range l.length).all λj=>M.contains j||j==i||match l[j]? with
     |some oj=>oj.after.any λe=>Region.binds .any e&& !M.contains e.on
     |none=>true)&&
 (M.all λj=>j==i||done.contains j||qs.contains j||match l[j]? with
     |some oj=>eB oj.op
     |none=>false)&&(done.all λj=>M.contains j&&decide (j<l.length))&&M.all λj=>decide (j<l.length)
theorem nl(i:Nat)(M:List Nat)(hi:l[i]? =some ⟨dst,op,ty,pos,after,g⟩)(hn:dJ l=true)(hc:(qs.contains i&&dB l done i&&eF l done i&&hT l qs done M i&&fH n ⟨dst,op,ty,pos,after,g⟩)=true)
    (hw:bS l ⟨dst,op,ty,pos,after,g⟩ f=true)(h:∀w',d6 w.heap.size w w'->(execOp (ev f) ⟨dst,op,ty,pos,after,g⟩).run P w'= .ok (.value v) w')(hk:eU P n l qs K fuel (i::done) (dw f dst v) w):eU P n l qs K (fuel+1) done f w:=by
  simp only[Bool.and_eq_true] at hc
  obtain⟨⟨⟨⟨hq,hr⟩,hf⟩,hb⟩,hd⟩:=hc
  obtain⟨hlt,hr'⟩:=dl hr
  intro a ha
  unfold hT at hb
  simp only[Bool.and_eq_true,List.all_eq_true,List.mem_range] at hb
  obtain⟨⟨⟨b1,b2⟩,b3⟩,b4⟩:=hb
  have hgM:∀j,(bx l.length M).getD j false=true↔j∈M:=λj=>by
    rw[cq]
    by_cases hjl:j<l.length
    · simp[hjl]
    · simp only[hjl,if_false,Bool.false_eq_true,false_iff]
      exact λhm=>hjl (by simpa using b4 j hm)
  refine kB (v:=v) (w0:=w) (M:=bx l.length M) (D:=bx l.length done) (by simpa using hi) (eu hn) (fM hq) (λc a w h=>by cases h.1) (λj oj hj hm hne=>?_) (λj oj hj hm hD hne=>?_) fuel _ a w (d6.refl _ _) (λj hj=>?_) (λj hj=>hj) (dD hi hf) hr' (λw' hw'=>?_) ?_
  · have hj':l[j]? =some oj:=by simpa using hj
    have hjl:j<l.length:=(List.getElem?_eq_some_iff.1 hj').1
    have h1:=b1 j hjl
    have hmM:M.contains j=false:=by
      cases hc:M.contains j with
      |false=>rfl
      |true=>have h9:=(hgM j).2 (by simpa using hc);rw[hm] at h9;cases h9
    simp only[hmM,hj',Bool.false_or,Bool.or_eq_true,beq_iff_eq,hne,false_or] at h1
    obtain⟨e,he,hbb⟩:=Array.any_eq_true'.1 h1
    simp only[Bool.and_eq_true,Bool.not_eq_true'] at hbb
    refine⟨e,he,hbb.1,?_⟩
    cases hc:(bx l.length M).getD e.on false with
    |false=>rfl
    |true=>
      have:=(hgM _).1 hc
      have h2:=hbb.2
      simp[this] at h2
  · have h1:=b2 j ((hgM j).1 hm)
    have hj':l[j]? =some oj:=by simpa using hj
    have hjl:j<l.length:=(List.getElem?_eq_some_iff.1 hj').1
    rw[cq,if_pos hjl] at hD
    have hd:done.contains j=false:=by simpa using hD
    simp only[hj',Bool.or_eq_true,beq_iff_eq,hne,hd,false_or,Bool.false_eq_true] at h1
    rcases h1 with h1|h1
    · exact .inl (fM h1)
    · exact .inr h1
  · rw[cq] at hj
    split at hj
    · have h1:=b3 j (by simpa using hj)
      exact(hgM j).2 (by simpa using h1.1)
    · cases hj
  · refine .inl ⟨?_,.inl ?_⟩
    · rw[ha.yielded];exact hw
    · rw[ha.eval];exact h w' hw'
  · rw[bY done hlt]
    exact hk _ (ha.put hd v)
theorem aX(i:Nat)(hi:l[i]? =some ⟨dst,op,ty,pos,after,g⟩)(hn:dJ l=true)(hc:(qs.contains i&&dB l done i&&eF l done i&&fH n ⟨dst,op,ty,pos,after,g⟩)=true)
    (hw:bS l ⟨dst,op,ty,pos,after,g⟩ f=true)(h:∀w,(execOp (ev f) ⟨dst,op,ty,pos,after,g⟩).run P w= .ok (.value v) w)(hk:eU P n l qs K fuel (i::done) (dw f dst v) w):eU P n l qs K (fuel+1) done f w:=by
  simp only[Bool.and_eq_true] at hc
  obtain⟨⟨⟨hq,hr⟩,hf⟩,hd⟩:=hc
  obtain⟨hlt,hr'⟩:=dl hr
  intro a ha
  refine gX (v:=v) (by simpa using hi) (eu hn) (fM hq) (λc a w h=>by cases h.1) fuel _ a w (dD hi hf) hr' (.inl ⟨by rw[ha.yielded];exact hw,λw=>by rw[ha.eval];exact h w⟩) ?_
  rw[bY done hlt]
  exact hk _ (ha.put hd v)
theorem ap(i:Nat)(hi:l[i]? =some ⟨dst,op,ty,pos,after,g⟩)(hn:dJ l=true)(hc:(qs.contains i&&dB l done i&&eF l done i&&fH n ⟨dst,op,ty,pos,after,g⟩)=true)
   (hw:bS l ⟨dst,op,ty,pos,after,g⟩ f=false)(hk:eU P n l qs K fuel (i::done) (dw f dst undef) w):eU P n l qs K (fuel+1) done f w:=by
 simp only[Bool.and_eq_true] at hc
 obtain⟨⟨⟨hq,hr⟩,hf⟩,hd⟩:=hc
 obtain⟨hlt,hr'⟩:=dl hr
 intro a ha
 refine gX (v:=undef) (by simpa using hi) (eu hn) (fM hq) (λc a w h=>by cases h.1) fuel _ a w (dD hi hf) hr' (.inr ⟨by rw[ha.yielded];exact hw,rfl⟩) ?_
 rw[bY done hlt]
 exact hk _ (ha.put hd undef)
theorem dk{i:Nat}{o:Oper}{a:Act}{K':Act->World->Prop}{Q:Exit->Act->World->Prop}{N:Value->World->Prop}(ha:Ag n a f)(hi:l[i]? =some o)(hw:bS l o f=true)(h:dv P o f w N)(hN:∀v w',N v w'->K' (a.put o.dst v) w'):wpOp P l.toArray Q i K' a w:=by
 unfold wpOp
 have hi':l.toArray[i]? =some o:=by simpa using hi
 simp only[hi']
 have hw':Region.wanted o (yielded l.toArray a.tmps)=true:=by rw[ha.yielded];exact hw
 simp only[hw',if_true]
 refine .inl ?_
 unfold Oper.wp
 rw[ha.eval]
 unfold dv at h
 generalize(execOp (ev f) o).run P w=r at*
 cases r with
 |halt x w'=>exact h.elim
 |ok nx w'=>
   cases nx<;>simp only[k7] at h<;>simp only[Oper.upon]
   case value v=>exact hN _ _ h
   case skip=>exact hN _ _ h
   case enter g args=>
     refine h.mono λe w'' he=>?_
     cases e with
     |returned v=>exact hN _ _ he
     |panicked c=>exact he.elim
     |outgrown=>exact he.elim
theorem aR(i:Nat)(hi:l[i]? =some ⟨dst,op,ty,pos,after,g⟩)(hc:(decide (Region.ready .any l.toArray (bx l.length done)=[i])&& !qs.contains i&&fH n ⟨dst,op,ty,pos,after,g⟩)=true)
    (hw:bS l ⟨dst,op,ty,pos,after,g⟩ f=true)(h:dv P ⟨dst,op,ty,pos,after,g⟩ f w (λv w'=>eU P n l qs K fuel (i::done) (dw f dst v) w')):eU P n l qs K (fuel+1) done f w:=by
  simp only[Bool.and_eq_true,decide_eq_true_eq,Bool.not_eq_true'] at hc
  obtain⟨⟨hr,hq⟩,hd⟩:=hc
  have hlt:i<l.length:=(List.getElem?_eq_some_iff.1 hi).1
  intro a ha
  refine⟨λh0=>(by rw[hr] at h0;cases h0),λj hj=>?_⟩
  rw[hr] at hj
  obtain rfl:j=i:=by simpa using hj
  have hq':decide (j∈qs)=false:=by simpa using hq
  simp only[hq',Bool.false_eq_true,if_false]
  refine dk ha hi hw h λv w' hk=>?_
  rw[bY done hlt]
  exact hk _ (ha.put hd v)
theorem my(i:Nat)(hi:l[i]? =some ⟨dst,op,ty,pos,after,g⟩)(hc:(decide (Region.ready .any l.toArray (bx l.length done)=[i])&& !qs.contains i&&fH n ⟨dst,op,ty,pos,after,g⟩)=true)
    (hw:bS l ⟨dst,op,ty,pos,after,g⟩ f=false)(hk:eU P n l qs K fuel (i::done) (dw f dst undef) w):eU P n l qs K (fuel+1) done f w:=by
  simp only[Bool.and_eq_true,decide_eq_true_eq,Bool.not_eq_true'] at hc
  obtain⟨⟨hr,hq⟩,hd⟩:=hc
  have hlt:i<l.length:=(List.getElem?_eq_some_iff.1 hi).1
  intro a ha
  refine⟨λh0=>(by rw[hr] at h0;cases h0),λj hj=>?_⟩
  rw[hr] at hj
  obtain rfl:j=i:=by simpa using hj
  have hq':decide (j∈qs)=false:=by simpa using hq
  simp only[hq',Bool.false_eq_true,if_false]
  unfold wpOp
  have hi':l.toArray[j]? =some ⟨dst,op,ty,pos,after,g⟩:=by simpa using hi
  simp only[hi']
  have hw':Region.wanted ⟨dst,op,ty,pos,after,g⟩ (yielded l.toArray a.tmps)=false:=by rw[ha.yielded];exact hw
  simp only[hw',Bool.false_eq_true,if_false]
  rw[bY done hlt]
  exact hk _ (ha.put hd undef)
theorem eg(i j:Nat){dst':Option Tmp}{op':Op}{ty':TypeId}{pos':String}{after':Array Edge}{g':Option (Nat×Bool)}(hi:l[i]? =some ⟨dst,op,ty,pos,after,g⟩)(hj:l[j]? =some ⟨dst',op',ty',pos',after',g'⟩)
    (hc:(decide (Region.ready .any l.toArray (bx l.length done)=[i,j])&& !qs.contains i&& !qs.contains j&&fH n ⟨dst,op,ty,pos,after,g⟩&&fH n ⟨dst',op',ty',pos',after',g'⟩)=true)
    (hw:bS l ⟨dst,op,ty,pos,after,g⟩ f=true)(hw':bS l ⟨dst',op',ty',pos',after',g'⟩ f=true)
    (h:dv P ⟨dst,op,ty,pos,after,g⟩ f w (λv w'=>eU P n l qs K fuel (i::done) (dw f dst v) w'))(h':dv P ⟨dst',op',ty',pos',after',g'⟩ f w (λv w'=>eU P n l qs K fuel (j::done) (dw f dst' v) w')):eU P n l qs K (fuel+1) done f w:=by
  simp only[Bool.and_eq_true,decide_eq_true_eq,Bool.not_eq_true'] at hc
  obtain⟨⟨⟨⟨hr,hq⟩,hq2⟩,hd⟩,hd'⟩:=hc
  have hlt:i<l.length:=(List.getElem?_eq_some_iff.1 hi).1
  have hlt':j<l.length:=(List.getElem?_eq_some_iff.1 hj).1
  intro a ha
  refine⟨λh0=>(by rw[hr] at h0;cases h0),λk hk=>?_⟩
  rw[hr] at hk
  have hk':k=i\/k=j:=by simpa using hk
  rcases hk' with rfl|rfl
  · have hq':decide (k∈qs)=false:=by simpa using hq
    simp only[hq',Bool.false_eq_true,if_false]
    refine dk ha hi hw h λv w' hk=>?_
    rw[bY done hlt]
    exact hk _ (ha.put hd v)
  · have hq':decide (k∈qs)=false:=by simpa using hq2
    simp only[hq',Bool.false_eq_true,if_false]
    refine dk ha hj hw' h' λv w' hk=>?_
    rw[bY done hlt']
    exact hk _ (ha.put hd' v)
theorem bp(hr:decide (Region.ready .any l.toArray (bx l.length done)=[])=true)(h:K f w):eU P n l qs K 0 done f w:=λ_ ha=>⟨of_decide_eq_true hr,rfl,f,ha,h⟩
end
end TL
/-
  TlHold: regions that draw their order, where what is read stays: on the kit's OrdersHeld.
  By an AI agent.
-/
set_option linter.all false
namespace TL
open Go
section
variable{P:Program}{n:Nat}{l:List Oper}{S:World->Prop}{K:Fr->World->Prop}{f:Fr}{w:World}{done:List Nat}{fuel:Nat}
def kJ(P:Program)(n:Nat)(l:List Oper)(S:World->Prop)(K:Fr->World->Prop)(fuel:Nat)(done:List Nat)(f:Fr)(w:World):Prop:=
  ∀a,Ag n a f->wpAnyH P .any l.toArray (λe a' w'=>e= .normal/\∃f',Ag n a' f'/\K f' w') S fuel (bx l.length done) a w
theorem aM.same{J:bI->Prop}{γ γ':av}{w w':World}(h:aM J γ w γ' w'):aM J γ w γ w':=⟨h.os,h.tape,h.output,h.size,λ_ _ _=>rfl,h.keep,h.drawn⟩
theorem hP{fid:Nat}{R:Ending->World->Prop}{k:List Item}{id:Nat}(γ:av)(J:bI->Prop)(hm:P.follows .mixedOrders=true)
   (h:∀w1,aM no γ w γ w1->kJ P n l (λw'=>aM J γ w1 γ w') (du P fid n R k) l.length [] f w1):du P fid n R (.code (.region id l.toArray true)::k) f w:=
 eJ λa ha=>wp_region_held hm (by
   have h0:=h _ (aM.refl _ _ _).drew a ha
   have hmask:bx l.length []=Array.replicate l.toArray.size false:=by
     apply Array.ext
     · simp[bx]
     · intro j h1 h2;simp[bx]
   rw[hmask] at h0
   simpa using h0)
theorem cw{fid:Nat}{R:Ending->World->Prop}{k:List Item}{id:Nat}{σ:Type}(Mid:σ->Fr->World->Prop)(γ:av)(J:bI->Prop)(hm:P.follows .mixedOrders=true)
    (h:(∀s f w,Mid s f w->du P fid n R k f w)->∀w1,aM no γ w γ w1->kJ P n l (λw'=>aM J γ w1 γ w') (du P fid n R k) l.length [] f w1)(hk:∀s f w,Mid s f w->du P fid n R k f w):du P fid n R (.code (.region id l.toArray true)::k) f w:=
  hP γ J hm (h hk)
variable{dst:Option Tmp}{op:Op}{ty:TypeId}{pos:String}{after:Array Edge}{g:Option (Nat×Bool)}{v:Value}
theorem n7(i:Nat)(hi:l[i]? =some ⟨dst,op,ty,pos,after,g⟩)(hn:dJ l=true)(hc:(dB l done i&&eF l done i&&fH n ⟨dst,op,ty,pos,after,g⟩)=true)
   (hw:bS l ⟨dst,op,ty,pos,after,g⟩ f=true)(hS:S w)(h:∀w,S w->(execOp (ev f) ⟨dst,op,ty,pos,after,g⟩).run P w= .ok (.value v) w)(hk:kJ P n l S K fuel (i::done) (dw f dst v) w):kJ P n l S K (fuel+1) done f w:=by
 simp only[Bool.and_eq_true] at hc
 obtain⟨⟨hr,hf⟩,hd⟩:=hc
 obtain⟨hlt,hr'⟩:=dl hr
 intro a ha
 refine wpAnyH_first (v:=v) (by simpa using hi) (eu hn) (λc a w h=>by cases h.1) fuel _ a w (dD hi hf) hr' (.inl ⟨by rw[ha.yielded];exact hw,λw hs=>by rw[ha.eval];exact h w hs⟩) hS ?_
 rw[bY done hlt]
 exact hk _ (ha.put hd v)
def ni(P:Program)(n:Nat)(l:List Oper)(S:World->Prop)(K:Fr->World->Prop)(fuel:Nat)(done:List Nat)(f:Fr)(w:World)(i:Nat):Prop:=
  ∃o,l[i]? =some o/\i<l.length/\(bS l o f=true/\fH n o=true/\dv P o f w (λv w'=>S w'/\kJ P n l S K fuel (i::done) (dw f o.dst v) w'))
theorem bP(i:Nat)(hi:l[i]? =some ⟨dst,op,ty,pos,after,g⟩)(hc:fH n ⟨dst,op,ty,pos,after,g⟩=true)(hw:bS l ⟨dst,op,ty,pos,after,g⟩ f=true)
   (h:dv P ⟨dst,op,ty,pos,after,g⟩ f w (λv w'=>S w'/\kJ P n l S K fuel (i::done) (dw f dst v) w')):ni P n l S K fuel done f w i:=
 ⟨_,hi,(List.getElem?_eq_some_iff.1 hi).1,hw,hc,h⟩
def lW(P:Program)(n:Nat)(l:List Oper)(S:World->Prop)(K:Fr->World->Prop)(fuel:Nat)(done:List Nat)(f:Fr)(w:World):List Nat->Prop
 |[]=>True
 |i::r=>ni P n l S K fuel done f w i/\lW P n l S K fuel done f w r
theorem lW.mem{L:List Nat}(h:lW P n l S K fuel done f w L):∀i∈L,ni P n l S K fuel done f w i:=by
 induction L with
 |nil=>intro i hi;cases hi
 |cons j r ih=>
   intro i hi
   rcases List.mem_cons.1 hi with rfl|hi
   · exact h.1
   · exact ih h.2 i hi
theorem bW(i:Nat)(L:List Nat)(hr:decide (Region.ready .any l.toArray (bx l.length done)=i::L)=true)(h:lW P n l S K fuel done f w (i::L)):kJ P n l S K (fuel+1) done f w:=by
 have hr:=of_decide_eq_true hr
 intro a ha
 refine⟨λh0=>(by rw[hr] at h0;cases h0),λk hk=>?_⟩
 rw[hr] at hk
 obtain⟨o,hi,hlt,hw,hd,ho⟩:=h.mem k (by simpa using hk)
 obtain⟨dst,op,ty,pos,after,g⟩:=o
 refine dk ha hi hw ho λv w' hk=>⟨hk.1,?_⟩
 rw[bY done hlt]
 exact hk.2 _ (ha.put hd v)
theorem aF(i:Nat)(hi:l[i]? =some ⟨dst,op,ty,pos,after,g⟩)(hc:(decide (Region.ready .any l.toArray (bx l.length done)=[i])&&fH n ⟨dst,op,ty,pos,after,g⟩)=true)
   (hw:bS l ⟨dst,op,ty,pos,after,g⟩ f=true)(h:dv P ⟨dst,op,ty,pos,after,g⟩ f w (λv w'=>S w'/\kJ P n l S K fuel (i::done) (dw f dst v) w')):kJ P n l S K (fuel+1) done f w:=by
 simp only[Bool.and_eq_true] at hc
 exact bW i [] hc.1 ⟨bP i hi hc.2 hw h,trivial⟩
theorem bJ(hr:decide (Region.ready .any l.toArray (bx l.length done)=[])=true)(h:K f w):kJ P n l S K 0 done f w:=λ_ ha=>⟨of_decide_eq_true hr,rfl,f,ha,h⟩
end
end TL
namespace TL
open Go
end TL
/-
  TlNet: nets, and what layer 3 says of them, as plain functions.
  By an AI agent.
-/
set_option linter.all false
namespace TL
abbrev bK:=Int×List (Int×Int)
def j4(n:Int)(e:Int×Int):Prop:=(0<=e.1/\e.1<n)/\0<=e.2/\e.2<n
instance (n:Int)(e:Int×Int):Decidable (j4 n e):=by unfold j4;infer_instance
def bw(g:bK):Prop:=0<=g.1/\g.1<=1024/\g.2.length<=3072/\∀e∈g.2,j4 g.1 e
instance (g:bK):Decidable (bw g):=by unfold bw;infer_instance
def c6(g:bK):Bool:=decide (bw g)
theorem hG{g:bK}(h:bw g):c6 g=true:=decide_eq_true h
theorem bO{g:bK}(h:¬bw g):c6 g=false:=decide_eq_false h
end TL
namespace TL
theorem dg{α:Type}[Inhabited α]{xs:List α}{i j:Int}{y:α}(hi:0<=i)(hi':i<xs.length)(hj:0<=j):gI (xs.set i.toNat y) j=if j=i then y else gI xs j:=by
 unfold gI
 by_cases h:j=i
 · subst h
   have:j.toNat<xs.length:=by omega
   simp[this]
 · have:i.toNat≠j.toNat:=by omega
   simp[h,List.getElem?_set_ne this]
theorem n4{α:Type}[Inhabited α]{n:Nat}{x:α}{i:Int}(h0:0<=i)(h1:i<n):gI (List.replicate n x) i=x:=by
 have:i.toNat<n:=by omega
 simp[gI,this]
end TL
namespace TL
end TL
namespace TL
end TL
namespace TL
def bA(g:bK)(h:Int):Int:=pI (gI g.2 (h/2)) (h%2)
def fi(g:bK)(v:Int)(k:Nat):List Int:=((List.range (2*k)).map (λ(i:Nat)=>(i:Int))).filter λh=>decide (bA g h=v)
def kr(g:bK)(v:Int):List Int:=fi g v g.2.length
theorem gC(g:bK)(k:Nat):bA g (2*(k:Int))=(gI g.2 k).1:=by
 unfold bA
 have h1:2*(k:Int)/2=k:=by omega
 have h2:2*(k:Int)%2=0:=by omega
 rw[h1,h2];rfl
theorem h8(g:bK)(k:Nat):bA g (2*(k:Int)+1)=(gI g.2 k).2:=by
 unfold bA
 have h1:(2*(k:Int)+1)/2=k:=by omega
 have h2:(2*(k:Int)+1)%2=1:=by omega
 rw[h1,h2];rfl
theorem ja(g:bK)(v:Int)(k:Nat):fi g v (k+1)=fi g v k++((if(gI g.2 k).1=v then[2*(k:Int)] else[])++(if(gI g.2 k).2=v then[2*(k:Int)+1] else[])):=by
 unfold fi
 rw[show 2*(k+1)=2*k+1+1 by omega,List.range_succ,List.range_succ]
 simp only[List.map_append,List.filter_append,List.map_cons,List.map_nil,List.append_assoc]
 congr 1
 have e1:((2*k:Nat):Int)=2*(k:Int):=by omega
 have e2:((2*k+1:Nat):Int)=2*(k:Int)+1:=by omega
 rw[e1,e2]
 congr 1
 · by_cases h:(gI g.2 (k:Int)).1=v
   · simp[gC,h]
   · simp[gC,h]
 · by_cases h:(gI g.2 (k:Int)).2=v
   · simp[h8,h]
   · simp[h8,h]
theorem kC(g:bK)(v:Int)(k:Nat):(fi g v k).length<=2*k:=by
 unfold fi
 have:=List.length_filter_le (λh=>decide (bA g h=v)) ((List.range (2*k)).map (λ(i:Nat)=>(i:Int)))
 simpa using this
end TL
namespace TL
theorem iz{α:Type}[Inhabited α]{l l':List α}(hl:l.length=l'.length)(h:∀i:Nat,i<l.length->gI l i=gI l' i):l=l':=by
 apply List.ext_getElem hl
 intro i h1 h2
 have:=h i h1
 simpa[gI,h1,h2] using this
end TL
namespace TL
end TL
namespace TL
end TL
namespace TL
section
variable{l0 l1:Int}{F:Int×Int->Int}{g:bK}{k:Nat}
end
end TL
/-
  TlNetSums: degrees' sum; all edges, all nodes; moved there and back.
  By an AI agent.
-/
set_option linter.all false
namespace TL
def c7(n:Nat):List Int:=(List.range n).map λ(i:Nat)=>(i:Int)
theorem cJ(n:Nat):c7 (n+1)=c7 n++[(n:Int)]:=by simp[c7,List.range_succ]
theorem eC{n:Nat}{x:Int}:x∈c7 n↔0<=x/\x<n:=by
 unfold c7
 rw[List.mem_map]
 constructor
 · rintro⟨i,hi,rfl⟩
   have:=List.mem_range.1 hi
   omega
 · rintro⟨h1,h2⟩
   exact⟨x.toNat,List.mem_range.2 (by omega),by omega⟩
theorem jq(n:Nat):(c7 n).Nodup:=by
 induction n with
 |zero=>simp[c7]
 |succ n ih=>
   rw[cJ,List.nodup_append]
   refine⟨ih,by simp,λa ha b hb=>?_⟩
   have:=eC.1 ha
   have:=List.mem_singleton.1 hb
   omega
theorem kS:∀(n:Nat) (l:List Int),l.Nodup->(∀x∈l,0<=x/\x<(n:Int))->l.length<=n
 |0,l,_,h=>by
   cases l with
   |nil=>simp
   |cons a l=>have:=h a (by simp);omega
 |n+1,l,hn,h=>by
   have h1:(l.erase (n:Int)).Nodup:=hn.erase _
   have h2:=kS n (l.erase (n:Int)) h1 (λx hx=>by
     have h3:=hn.mem_erase_iff.1 hx
     have:=h x h3.2
     omega)
   by_cases hm:(n:Int)∈l
   · have:=List.length_erase_of_mem hm
     omega
   · rw[List.erase_of_not_mem hm] at h2
     omega
end TL
/-
  TlKeep: rows of an own list given away one by one while the list stays readable; rows with a mark behind each.
  By an AI agent.
-/
set_option linter.all false
namespace TL
open Go
def j3(q i k:Nat):bI->Prop:=λc=>c.1=q\/(c.1=i/\c.2=0)\/c.1=k
theorem aM.l3{L:List Nat}{q i k:Nat}{γ γ':av}{w w':World}(h:aM (j3 q i k) γ w γ' w')(h1:L.contains q=true)(h2:L.contains i=true)(h3:L.contains k=true):aM (inl L) γ w γ' w':=h.mono λc hc=>by
 unfold inl
 rcases hc with hc|hc|hc
 · rw[hc];exact h1
 · rw[hc.1];exact h2
 · rw[hc];exact h3
section
variable{P:Program}{w:World}{t t':TypeId}{f:Fr}{x y:Operand}{dst:Option Tmp}{ty:TypeId}{pos:String}{after:Array Edge}{g:Option (Nat×Bool)}{N:Value->World->Prop}{α:Type}[Rp α]{γ:av}{v u:Value}{xss:List (List α)}{l:List α}{i k j:Nat}
end
section
variable{α:Type}[Rp α][Fl α]{γ γ':av}{w w':World}{v:Value}{us:List Vc}{xss:List (List α)}{i k j q:Nat}
end
inductive Rw where
  |mk (l:List Int) (m:Int)
  |pl (l:List Int)
instance:Inhabited Rw:=⟨.pl []⟩
theorem kj{α:Type}[Rp α]{γ:av}{S:bI->Prop}{w:World}{v:Value}{xs:List α}{m:α}(h:Sl γ S w (o1 v) (xs++[m])):∃a l c,v= .slice a l c:=by
 rcases h with⟨_,h0⟩|⟨b,off,cap,hv,_⟩
 · simp at h0
 · cases v<;>simp[o1] at hv
   exact⟨_,_,_,rfl⟩
def nw(γ:av)(S:bI->Prop)(w:World)(v:Value):Rw->Prop
  | .mk l m=>Sl γ S w (o1 v) (l++[m])
  | .pl l=>Sl γ S w v l
theorem nw.one{γ:av}{S:bI->Prop}{w:World}{v:Value}{x:Rw}(h:nw γ S w v x):v.oneCell'=true:=by
 cases x with
 |mk l m=>
   obtain⟨a,b,c,rfl⟩:=kj h
   rfl
 |pl l=>
   rcases h with⟨⟨_,rfl⟩,_⟩|⟨b,off,cap,rfl,_⟩<;>rfl
theorem nw.tr{γ γ':av}{S S':bI->Prop}{w w':World}{v:Value}{x:Rw}(hsz:w.heap.size<=w'.heap.size)(h:∀b,b<w.heap.size->S (γ b)->w'.heap[b]? =w.heap[b]? /\S' (γ' b))(hx:nw γ S w v x):nw γ' S' w' v x:=by
 cases x with
 |mk l m=>exact Sl.tr h hx hsz
 |pl l=>exact Sl.tr h hx hsz
instance:Rp Rw where
 sz:=1
 rep γ S w cs x:=∃v,cs=[v]/\nw γ S w v x
 len:=by rintro _ _ _ _ _ ⟨v,rfl,_⟩;rfl
 one:=by
   rintro _ _ _ _ _ ⟨v,rfl,h⟩ u hu
   obtain rfl:u=v:=by simpa using hu
   exact h.one
 tr:=by
   rintro _ _ _ _ _ _ _ _ hs h ⟨v,rfl,hv⟩
   exact⟨v,rfl,hv.tr hs h⟩
section
variable{P:Program}{w:World}{t t':TypeId}{f:Fr}{x y:Operand}{dst:Option Tmp}{ty:TypeId}{pos:String}{after:Array Edge}{g:Option (Nat×Bool)}{N:Value->World->Prop}{γ:av}{v u:Value}{xss:List (List Int)}{l:List Int}{i:Nat}
end
end TL
/-
  TlEq: structs compared; a pointer looked at for nil; a bit turned.
  By an AI agent.
-/
set_option linter.all false
namespace TL
open Go
section
variable{P:Program}{f:Fr}{w:World}{dst:Option Tmp}{ty:TypeId}{pos:String}{after:Array Edge}{g:Option (Nat×Bool)}{t t' e:TypeId}{x y:Operand}
theorem aa{a:Addr}(hx:ev f x= .pointer (some a)):(execOp (ev f) ⟨dst,.nilCheck x,ty,pos,after,g⟩).run P w= .ok (.value (.pointer (some a))) w:=by
 simp only[execOp,hx,Sem.run_pure]
end
end TL
namespace TL
open Go
section
variable{P:Program}{f:Fr}{w:World}{dst:Option Tmp}{ty:TypeId}{pos:String}{after:Array Edge}{g:Option (Nat×Bool)}{t:TypeId}{x:Operand}
end
end TL
namespace TL
open Go
section
variable{P:Program}{f:Fr}{w:World}{dst:Option Tmp}{ty:TypeId}{pos:String}{after:Array Edge}{g:Option (Nat×Bool)}{t t':TypeId}{x y:Operand}{m n:Int}
end
end TL
namespace TL
open Go
theorem nL{f:Fr}{x:Operand}{xs:List Operand}{v:Value}{vs:List Value}(h:ev f x=v)(h2:xs.map (ev f)=vs):(x::xs).map (ev f)=v::vs:=by subst h h2;rfl
end TL
/-
  TlRot: rotations: which may be, turned to their least, faces.
  By an AI agent.
-/
set_option linter.all false
namespace TL
abbrev gM:=List (List Int)
def nz(g:bK)(r:gM):Prop:=(r.length:Int)=g.1/\(∀v:Nat,v<r.length->∀h∈gI r (v:Int),(0<=h/\h<2*(g.2.length:Int))/\bA g h=v)/\r.flatten.Nodup/\(r.flatten.length:Int)=2*g.2.length
instance (g:bK)(r:gM):Decidable (nz g r):=by unfold nz;infer_instance
section
variable{seen:List Bool}{n:Int}{g:bK}{r:gM}{k i:Nat}
end
end TL
namespace TL
end TL
/-
  TlMap: maps that the call makes.
  By an AI agent.
-/
set_option linter.all false
namespace TL
open Go
class Ky (K:Type) where
  val:K->Value
structure gZ(P:Program)(kt:TypeId)(K:Type)[DecidableEq K][Ky K]:Prop where
 check:∀(b:Bool) (k:K) (w:World),(Instr.checkKey b 10000 kt (Ky.val k)).run P w= .ok () w
 find:∀(k:K) (es:List MapEntry) (ks:List K) (w:World),es.map (·.key)=ks.map Ky.val->(Instr.findKey kt (Ky.val k) es).run P w= .ok ((ks.findIdx? (· =k)).bind λi=>(es[i]?).map λe=>(i,e.val)) w
 bits:∀k:K,Instr.sameBits 10000 (Ky.val k) (Ky.val k)=true
structure cK(K:Type) where
  key:K
  val:Int
  born:Nat
def cR{K:Type}[Ky K](e:cK K):MapEntry:={key:=Ky.val e.key,val:=.int .i64 e.val,born:=e.born}
def dq{K:Type}[DecidableEq K](es:List (cK K))(k:K):Int:=((es.find? λe=>decide (e.key=k)).map (·.val)).getD 0
structure o4{K:Type}(es:List (cK K))(clock:Nat):Prop where
 keys:(es.map (·.key)).Nodup
 born:(es.map (·.born)).Nodup
 lt:∀e∈es,e.born<clock
def Mp{K:Type}[DecidableEq K][Ky K](γ:av)(J:bI->Prop)(w:World)(v:Value)(F:K->Int):Prop:=
  ∃(r:Nat) (es:List (cK K)) (clock:Nat),v= .map (some r)/\J (γ r)/\w.heap[r]? =some (.map (es.map cR).toArray clock)/\o4 es clock/\F=dq es
def j6{K:Type}[DecidableEq K][Ky K](γ:av)(J:bI->Prop)(w:World)(v:Value)(F:K->Int)(s:Int)(k:K):Prop:=
  ∃(r:Nat) (es:List (cK K)) (clock:Nat),v= .map (some r)/\J (γ r)/\w.heap[r]? =some (.map (es.map cR).toArray clock)/\o4 es clock/\F=dq es/\∃(i:Nat) (e:cK K),es[i]? =some e/\e.key=k/\(e.born:Int)=s
theorem Mp.chg{K:Type}[DecidableEq K][Ky K]{γ γ':av}{J J':bI->Prop}{w w':World}{v:Value}{F:K->Int}(h:Mp γ J w v F)(hc:aM J' γ w γ' w')(hJ:∀c,J c->¬J' c):Mp γ' J w' v F:=by
 obtain⟨r,es,clock,h1,h2,h3,h4⟩:=h
 exact⟨r,es,clock,h1,by rw[hc.col r (cb h3) (hJ _ h2)];exact h2,by rw[hc.keep r (cb h3) (hJ _ h2)];exact h3,h4⟩
theorem j6.chg{K:Type}[DecidableEq K][Ky K]{γ γ':av}{J J':bI->Prop}{w w':World}{v:Value}{F:K->Int}{s:Int}{k:K}(h:j6 γ J w v F s k)(hc:aM J' γ w γ' w')(hJ:∀c,J c->¬J' c):j6 γ' J w' v F s k:=by
 obtain⟨r,es,clock,h1,h2,h3,h4⟩:=h
 exact⟨r,es,clock,h1,by rw[hc.col r (cb h3) (hJ _ h2)];exact h2,by rw[hc.keep r (cb h3) (hJ _ h2)];exact h3,h4⟩
theorem Mp.bel{K:Type}[DecidableEq K][Ky K]{γ:av}{J:bI->Prop}{w w':World}{v:Value}{F:K->Int}(h:Mp γ J w v F)(hc:d6 w.heap.size w w'):Mp γ J w' v F:=by
 obtain⟨r,es,clock,h1,h2,h3,h4⟩:=h
 exact⟨r,es,clock,h1,h2,by rw[hc.block r (cb h3)];exact h3,h4⟩
theorem eL{K:Type}[DecidableEq K][Ky K](es:List (cK K))(k:K):(((es.map (·.key)).findIdx? (· =k)).bind λi=>((es.map cR)[i]?).map λe=>(i,e.val))=((es.map (·.key)).findIdx? (· =k)).map λi=>(i,Value.int .i64 (dq es k)):=by
 cases h:(es.map (·.key)).findIdx? (· =k) with
 |none=>rfl
 |some i=>
   obtain⟨hi,hk,hlt⟩:=List.findIdx?_eq_some_iff_getElem.1 h
   have hi':i<es.length:=by simpa using hi
   have hke:es[i].key=k:=by simpa using hk
   have hf:es.find? (λe=>decide (e.key=k))=some es[i]:=by
     rw[List.find?_eq_some_iff_getElem]
     refine⟨by simpa using hke,i,hi',rfl,λj hj=>?_⟩
     have:=hlt j hj
     simpa using this
   simp[hi',cR,dq,hf]
section
variable{P:Program}{f:Fr}{w:World}{dst:Option Tmp}{ty:TypeId}{pos:String}{after:Array Edge}{g:Option (Nat×Bool)}{t:TypeId}{x y z:Operand}{N:Value->World->Prop}
theorem bD{r:Nat}{es:Array MapEntry}{clock:Nat}(h:w.heap[r]? =some (.map es clock)):(getObj r).run P w= .ok (.map es clock) w:=by
 simp[getObj,Sem.run,h]
theorem cN{r:Nat}{es:Array MapEntry}{clock:Nat}{o:Obj}(h:w.heap[r]? =some (.map es clock)):(setObj r o).run P w= .ok () {w with heap:=w.heap.setIfInBounds r o}:=by
 simp[setObj,Sem.run,h]
theorem dF(γ:av){r:Nat}(o:Obj){J:bI->Prop}(hJ:J (γ r)):aM J γ w γ {w with heap:=w.heap.setIfInBounds r o}:=
 ⟨rfl,rfl,rfl,by simp,λ_ _ _=>rfl,λk _ hk=>by
   have:r≠k:=λh=>hk (h▸hJ)
   simp[Array.getElem?_setIfInBounds_ne this],Nat.le_refl _⟩
theorem dj{r:Nat}{o o':Obj}(h:w.heap[r]? =some o'):({w with heap:=w.heap.setIfInBounds r o}:World).heap[r]? =some o:=by
 have:=cb h
 simp[this]
theorem kx{K:Type}[DecidableEq K][Ky K](γ:av)(J:bI->Prop)(c:bI)(hJ:J c)(hk:∀γ' w' v,aM no γ w γ' w'->Mp (K:=K) γ' J w' v (λ_=>0)->N v w'):dv P ⟨dst,.makeMap t none,ty,pos,after,g⟩ f w N:=by
 refine ak (v:=.map (some w.heap.size)) (w':=w.alloc (.map #[] 0)) (by simp[execOp,Instr.makeMap]) (hk (ek γ w.heap.size c) _ _ (dx γ w _ c) ⟨w.heap.size,[],0,rfl,by simpa[ek] using hJ,by rw[cj];rfl,⟨by simp,by simp,by simp⟩,?_⟩)
 funext k;simp[dq]
theorem aH{K:Type}[DecidableEq K][Ky K]{γ:av}{J:bI->Prop}{v u:Value}{F:K->Int}{kt et size bytes:Nat}{agg:Bool}(k:K)(ht:P.underlying t=some (.map kt et))(hk:gZ P kt K)(he:Tp P et agg size bytes (.int .i64 0))(hx:ev f x=v)(hm:Mp γ J w v F)(hy:ev f y=u)(hu:u=Ky.val k):
   (execOp (ev f) ⟨dst,.lookup t x y false,ty,pos,after,g⟩).run P w= .ok (.value (.int .i64 (F k))) w:=by
 obtain⟨r,es,clock,rfl,hJ,hb,hok,rfl⟩:=hm
 obtain⟨i,hi,_,_,hz⟩:=he.info
 subst hu
 have hf:=hk.find k (es.map cR) (es.map (·.key)) w (by simp[cR,Function.comp_def])
 rw[eL] at hf
 cases h:(es.map (·.key)).findIdx? (· =k) with
 |none=>
   rw[h] at hf
   have h0:dq es k=0:=by
     have hn:es.find? (λe=>decide (e.key=k))=none:=by
       rw[List.find?_eq_none]
       intro e he
       have:=List.findIdx?_eq_none_iff.1 h (e.key) (List.mem_map_of_mem he)
       simpa using this
     simp[dq,hn]
   simp[execOp,hx,hy,Instr.lookup,ax ht,bD hb,hk.check,hf,cT hi hz,h0]
 |some i=>
   rw[h] at hf
   simp[execOp,hx,hy,Instr.lookup,ax ht,bD hb,hk.check,hf]
theorem bf{K:Type}[DecidableEq K][Ky K]{γ:av}{J:bI->Prop}{v u:Value}{F:K->Int}{kt et size bytes:Nat}{agg:Bool}(k:K)(ht:P.underlying t=some (.map kt et))(hk:gZ P kt K)(he:Tp P et agg size bytes (.int .i64 0))(hx:ev f x=v)(hm:Mp γ J w v F)(hy:ev f y=u)(hu:u=Ky.val k)
   (hn:∀w' s,aM J γ w γ w'->j6 γ J w' v F s k->N (.tuple (List.toArray [.int .i64 (F k),.int .i64 s])) w'):dv P ⟨dst,.mapEntry t x y,ty,pos,after,g⟩ f w N:=by
 obtain⟨r,es,clock,rfl,hJ,hb,hok,rfl⟩:=hm
 obtain⟨q,hi,_,_,hz⟩:=he.info
 subst hu
 have hf:=hk.find k (es.map cR) (es.map (·.key)) w (by simp[cR,Function.comp_def])
 rw[eL] at hf
 cases h:(es.map (·.key)).findIdx? (· =k) with
 |none=>
   rw[h] at hf
   have hnk:∀e∈es,e.key≠k:=λe he=>by
     have:=List.findIdx?_eq_none_iff.1 h (e.key) (List.mem_map_of_mem he)
     simpa using this
   have h0:dq es k=0:=by
     have hn:es.find? (λe=>decide (e.key=k))=none:=by
       rw[List.find?_eq_none]
       intro e he
       simpa using hnk e he
     simp[dq,hn]
   refine ak (v:=.tuple (List.toArray [.int .i64 (dq es k),.int .i64 (clock:Int)])) (w':={w with heap:=w.heap.setIfInBounds r (.map ((es++[(⟨k,0,clock⟩:cK K)]).map cR).toArray (clock+1))}) ?_ ?_
   rotate_left
   · refine hn _ _ (dF γ _ hJ) ⟨r,es++[⟨k,0,clock⟩],clock+1,rfl,hJ,dj hb,⟨?_,?_,?_⟩,?_,es.length,⟨k,0,clock⟩,by simp,rfl,rfl⟩
     rotate_left 3
     · funext k'
       simp only[dq,List.find?_append]
       by_cases hkk:k=k'
       · subst hkk
         have hn:es.find? (λe=>decide (e.key=k))=none:=by
           rw[List.find?_eq_none]
           intro e he
           simpa using hnk e he
         simp[hn]
       · cases es.find? (λe=>decide (e.key=k'))<;>simp[hkk]
     · rw[List.map_append,List.nodup_append]
       refine⟨hok.keys,by simp,λa ha b hb=>?_⟩
       obtain⟨e,he,rfl⟩:=List.mem_map.1 ha
       have:b=k:=by simpa using hb
       subst this;exact hnk e he
     · rw[List.map_append,List.nodup_append]
       refine⟨hok.born,by simp,λa ha b hb=>?_⟩
       obtain⟨e,he,rfl⟩:=List.mem_map.1 ha
       have:b=clock:=by simpa using hb
       subst this;exact Nat.ne_of_lt (hok.lt e he)
     · intro e he
       rcases List.mem_append.1 he with h|h
       · exact Nat.lt_succ_of_lt (hok.lt e h)
       · obtain rfl:=List.mem_singleton.1 h;exact Nat.lt_succ_self _
   · simp[execOp,hx,hy,Instr.mapEntry,ax ht,bD hb,hk.check,hf,cT hi hz,cN hb,h0,cR,goInt]
 |some i=>
   rw[h] at hf
   obtain⟨hil,hke,_⟩:=List.findIdx?_eq_some_iff_getElem.1 h
   have hi':i<es.length:=by simpa using hil
   have hke':es[i].key=k:=by simpa using hke
   have hsame:(es.map cR).modify i (λe=>{e with key:=Ky.val k})=es.map cR:=by
     apply List.ext_getElem?
     intro j
     rw[List.getElem?_modify]
     by_cases hij:i=j
     · subst hij;simp[hi',cR,hke']
     · simp[hij]
   refine ak (v:=.tuple (List.toArray [.int .i64 (dq es k),.int .i64 ((es[i].born:Nat):Int)])) (w':={w with heap:=w.heap.setIfInBounds r (.map (es.map cR).toArray clock)}) ?_
     (hn _ _ (dF γ _ hJ) ⟨r,es,clock,rfl,hJ,dj hb,hok,rfl,i,es[i],by simp,hke',rfl⟩)
   have hkb:=hk.bits k
   have hold:(Instr.keyThatStays (Ky.val k) (Ky.val k)).run P w= .ok (Ky.val k) w:=by simp[Instr.keyThatStays,hkb]
   simp[execOp,hx,hy,Instr.mapEntry,ax ht,bD hb,hk.check,hf,hi',cR,hke',hold,cN hb,goInt]
   rw[hsame]
theorem aU{K:Type}[DecidableEq K][Ky K]{γ:av}{J:bI->Prop}{v:Value}{F:K->Int}{s m:Int}{k:K}(hx:ev f x=v)(hm:j6 γ J w v F s k)(hy:ev f y= .int .i64 s)(hz:ev f z= .int .i64 m)
   (hn:∀w',aM J γ w γ w'->Mp γ J w' v (λk'=>if k'=k then m else F k')->N undef w'):dv P ⟨dst,.entryStore t x y z,ty,pos,after,g⟩ f w N:=by
 obtain⟨r,es,clock,rfl,hJ,hb,hok,rfl,i,e,hie,rfl,rfl⟩:=hm
 have hi':i<es.length:=(List.getElem?_eq_some_iff.1 hie).1
 have hei:es[i]=e:=(List.getElem?_eq_some_iff.1 hie).2
 have hfi:((es.map cR).toArray.findIdx? (λq=>(q.born:Int)==(e.born:Int)))=some i:=by
   rw[List.findIdx?_toArray,List.findIdx?_eq_some_iff_getElem]
   refine⟨by simpa using hi',by simp[cR,hei],λj hj=>?_⟩
   have hj':j<es.length:=by omega
   have hne:es[j].born≠e.born:=λh=>by
     have h1:(es.map (·.born))[j]'(by simpa using hj')=(es.map (·.born))[i]'(by simpa using hi'):=by simp[hei,h]
     have:=(List.getElem_inj hok.born).1 h1
     omega
   simp[cR]
   omega
 have hmod:(es.map cR).modify i (λq=>{q with val:=.int .i64 m})=(es.modify i (λq=>{q with val:=m})).map cR:=by
   apply List.ext_getElem?
   intro j
   rw[List.getElem?_modify,List.getElem?_map,List.getElem?_map,List.getElem?_modify]
   by_cases hij:i=j
   · subst hij;simp[hi',cR]
   · simp[hij]
 have hkeys:(es.modify i (λq=>{q with val:=m})).map (·.key)=es.map (·.key):=by
   apply List.ext_getElem?
   intro j
   rw[List.getElem?_map,List.getElem?_map,List.getElem?_modify]
   by_cases hij:i=j
   · subst hij;simp[hi']
   · simp[hij]
 have hborn:(es.modify i (λq=>{q with val:=m})).map (·.born)=es.map (·.born):=by
   apply List.ext_getElem?
   intro j
   rw[List.getElem?_map,List.getElem?_map,List.getElem?_modify]
   by_cases hij:i=j
   · subst hij;simp[hi']
   · simp[hij]
 refine dY (w':={w with heap:=w.heap.setIfInBounds r (.map ((es.modify i (λq=>{q with val:=m})).map cR).toArray clock)}) ?_
   (hn _ (dF γ _ hJ) ⟨r,es.modify i (λq=>{q with val:=m}),clock,rfl,hJ,dj hb,⟨by rw[hkeys];exact hok.keys,by rw[hborn];exact hok.born,λq hq=>?_⟩,?_⟩)
 · simp[execOp,hx,hy,hz,Instr.entryStore,bD hb,asInt,asIntOf,hfi,cN hb]
   rw[<-hmod]
 · have:q.born∈es.map (·.born):=by rw[<-hborn];exact List.mem_map_of_mem hq
   obtain⟨q',hq',he'⟩:=List.mem_map.1 this
   rw[<-he'];exact hok.lt q' hq'
 · funext k'
   -- the entry of k' in the changed list
   have hfind:∀(l:List (cK K)),(l.map (·.key)).Nodup->∀j (hj:j<l.length),dq l l[j].key=l[j].val:=by
     intro l hl j hj
     have hf:l.find? (λe=>decide (e.key=l[j].key))=some l[j]:=by
       rw[List.find?_eq_some_iff_getElem]
       refine⟨by simp,j,hj,rfl,λq hq=>?_⟩
       have hne:l[q].key≠l[j].key:=λh=>by
         have h1:(l.map (·.key))[q]'(by simp;omega)=(l.map (·.key))[j]'(by simpa using hj):=by simp[h]
         have:=(List.getElem_inj hl).1 h1
         omega
       simpa using hne
     simp[dq,hf]
   by_cases hkk:k'=e.key
   · subst hkk
     rw[if_pos rfl]
     have h1:=hfind (es.modify i (λq=>{q with val:=m})) (by rw[hkeys];exact hok.keys) i (by simpa using hi')
     simp[List.getElem_modify,hei] at h1
     exact h1.symm
   · rw[if_neg hkk]
     have hfe:(es.modify i (λq=>{q with val:=m})).find? (λe=>decide (e.key=k'))=es.find? (λe=>decide (e.key=k')):=by
       have hgen:∀(l:List (cK K)) (i:Nat) (e:cK K),l[i]? =some e->k'≠e.key->(l.modify i (λq=>{q with val:=m})).find? (λe=>decide (e.key=k'))=l.find? (λe=>decide (e.key=k')):=by
         intro l
         induction l with
         |nil=>intro i e h;simp at h
         |cons a l ih=>
           intro i e h hne
           cases i with
           |zero=>
             obtain rfl:a=e:=by simpa using h
             have:decide (a.key=k')=false:=by simpa using λh=>hne h.symm
             simp[List.find?_cons,this]
           |succ i=>
             have h':l[i]? =some e:=by simpa using h
             simp only[List.modify_succ_cons,List.find?_cons,ih i e h' hne]
       exact hgen es i e hie hkk
     simp[dq,hfe]
end
instance:Ky Int where
 val k:=.int .i64 k
instance:Ky (Int×Int) where
 val k:=.agg (List.toArray [.int .i64 k.1,.int .i64 k.2])
theorem ay{P:Program}{kt e bytes:Nat}{z:Value}(ht:P.underlying kt=some (.array 2 e))(he:P.underlying e=some (.int .i64))(hp:Tp P e false 1 bytes z):gZ P kt (Int×Int) where
 check b k w:=by
   obtain⟨i,hi,hs,_⟩:=hp.info
   have h0:=λ(x y:Int)=>dP (P:=P) (w:=w) (cs:= #[.int .i64 x,.int .i64 y]) (o:=0) hp (v:=.int .i64 x) (by rfl)
   have h1:=λ(x y:Int)=>dP (P:=P) (w:=w) (cs:= #[.int .i64 x,.int .i64 y]) (o:=1) hp (v:=.int .i64 y) (by rfl)
   have hr:(List.range' 0 2 1)=[0,1]:=rfl
   have hc:∀x:Int,(Instr.checkKey b 9999 e (.int .i64 x)).run P w= .ok () w:=λx=>by
     rw[Instr.checkKey]
     simp only[Sem.run_bind,ax he,Result.andThen_ok]
     rfl
   show(Instr.checkKey b (9999+1) kt _).run P w=_
   rw[Instr.checkKey]
   simp only[Ky.val,Sem.run_bind,ax ht,Result.andThen_ok]
   rw[Std.Legacy.Range.forIn_eq_forIn_range']
   simp only[Std.Legacy.Range.size,Nat.sub_zero,Nat.reduceAdd,Nat.reduceSub,Nat.div_one,hr]
   simp[bN hi,hs,h0,h1,hc]
 find k es ks w hm:=by
   have hfn:∀(es:List MapEntry) (i:Nat),es≠[]->(∀e∈es,∃c,e.key= .agg c)->Instr.findNow (.array 2 e) (Ky.val k) es i=none:=by
     intro es i h0 _
     cases es with
     |nil=>exact absurd rfl h0
     |cons a l=>simp[Instr.findNow,Instr.sameNow]
   have hask:∀(es:List MapEntry) (ks:List (Int×Int)) (i:Nat),es.map (·.key)=ks.map Ky.val->(Instr.findAsking kt (Ky.val k) es i).run P w= .ok ((ks.findIdx? (· =k)).bind λj=>(es[j]?).map λe=>(i+j,e.val)) w:=by
     intro es
     induction es with
     |nil=>
       intro ks i h
       have:ks=[]:=by cases ks<;>simp at h ⊢
       subst this;simp[Instr.findAsking]
     |cons a l ih=>
       intro ks i h
       cases ks with
       |nil=>simp at h
       |cons q ks=>
         simp only[List.map_cons,List.cons.injEq] at h
         obtain⟨ha,hl⟩:=h
         have heq:=i6 (P:=P) (w:=w) (a:=k) (b:=q) ht he hp
         have heq':(Op.equal kt (Ky.val k) a.key).run P w= .ok (decide (k=q)) w:=by rw[ha];exact heq
         by_cases hkq:k=q
         · subst hkq
           simp[Instr.findAsking,heq',List.findIdx?_cons]
         · have hqk:¬q=k:=λh=>hkq h.symm
           have ih':=ih ks (i+1) hl
           simp[Instr.findAsking,heq',hkq,List.findIdx?_cons,hqk,ih']
           cases ks.findIdx? (λx=>decide (x=k)) with
           |none=>rfl
           |some j=>simp[Nat.add_comm 1 j,Nat.add_assoc]
   simp only[Instr.findKey,Sem.run_bind,ax ht,Result.andThen_ok]
   cases es with
   |nil=>
     have:ks=[]:=by cases ks<;>simp at hm ⊢
     subst this;simp[Instr.findNow]
   |cons a l=>
     rw[hfn (a::l) 0 (by simp) (λe he=>by
       have:e.key∈(a::l).map (·.key):=List.mem_map_of_mem he
       rw[hm] at this
       obtain⟨q,_,hq⟩:=List.mem_map.1 this
       exact⟨_,hq.symm⟩)]
     simp only[hask (a::l) ks 0 hm,Nat.zero_add]
 bits k:=by
   show Instr.sameBits (9999+1) _ _=true
   simp[Ky.val,Instr.sameBits]
theorem b9{P:Program}{kt:Nat}(ht:P.underlying kt=some (.int .i64)):gZ P kt Int where
 check b k w:=by
   show(Instr.checkKey b (9999+1) kt _).run P w=_
   rw[Instr.checkKey]
   simp only[Ky.val,Sem.run_bind,ax ht,Result.andThen_ok]
   rfl
 find k es ks w hm:=by
   have hnow:∀(es:List MapEntry) (ks:List Int) (i:Nat),es.map (·.key)=ks.map Ky.val->Instr.findNow (.int .i64) (Ky.val k) es i=some ((ks.findIdx? (· =k)).bind λj=>(es[j]?).map λe=>(i+j,e.val)):=by
     intro es
     induction es with
     |nil=>
       intro ks i h
       have:ks=[]:=by cases ks<;>simp at h ⊢
       subst this;simp[Instr.findNow]
     |cons a l ih=>
       intro ks i h
       cases ks with
       |nil=>simp at h
       |cons q ks=>
         simp only[List.map_cons,List.cons.injEq] at h
         obtain⟨ha,hl⟩:=h
         have hs:Instr.sameNow (.int .i64) (Ky.val k) a.key=some (k==q):=by rw[ha];simp[Ky.val,Instr.sameNow]
         by_cases hkq:k=q
         · subst hkq
           simp[Instr.findNow,hs,List.findIdx?_cons]
         · have hqk:¬q=k:=λh=>hkq h.symm
           have ih':=ih ks (i+1) hl
           have hb:(k==q)=false:=by simpa using hkq
           simp[Instr.findNow,hs,hb,List.findIdx?_cons,hqk,ih']
           cases ks.findIdx? (λx=>decide (x=k)) with
           |none=>rfl
           |some j=>simp[Nat.add_comm 1 j,Nat.add_assoc]
   simp only[Instr.findKey,Sem.run_bind,ax ht,Result.andThen_ok,hnow es ks 0 hm,Nat.zero_add]
   rfl
 bits k:=by
   show Instr.sameBits (9999+1) _ _=true
   simp[Ky.val,Instr.sameBits]
end TL
namespace TL
open Go
theorem j6.mp{K:Type}[DecidableEq K][Ky K]{γ:av}{J:bI->Prop}{w:World}{v:Value}{F:K->Int}{s:Int}{k:K}(h:j6 γ J w v F s k):Mp γ J w v F:=by
 obtain⟨r,es,clock,h1,h2,h3,h4,h5,_⟩:=h
 exact⟨r,es,clock,h1,h2,h3,h4,h5⟩
end TL
/-
  TlMapD: maps that the call makes, with the keys that they have.
  By an AI agent.
-/
set_option linter.all false
namespace TL
open Go
def Md{K:Type}[DecidableEq K][Ky K](γ:av)(J:bI->Prop)(w:World)(v:Value)(F:K->Int)(D:List K):Prop:=
 ∃(r:Nat) (es:List (cK K)) (clock:Nat),v= .map (some r)/\J (γ r)/\w.heap[r]? =some (.map (es.map cR).toArray clock)/\o4 es clock/\F=dq es/\D=es.map (·.key)
variable{K:Type}[DecidableEq K][Ky K]
theorem Md.chg{γ γ':av}{J J':bI->Prop}{w w':World}{v:Value}{F:K->Int}{D:List K}(h:Md γ J w v F D)(hc:aM J' γ w γ' w')(hJ:∀c,J c->¬J' c):Md γ' J w' v F D:=by
 obtain⟨r,es,clock,h1,h2,h3,h4⟩:=h
 exact⟨r,es,clock,h1,by rw[hc.col r (cb h3) (hJ _ h2)];exact h2,by rw[hc.keep r (cb h3) (hJ _ h2)];exact h3,h4⟩
theorem Md.mp{γ:av}{J:bI->Prop}{w:World}{v:Value}{F:K->Int}{D:List K}(h:Md γ J w v F D):Mp γ J w v F:=by
 obtain⟨r,es,clock,h1,h2,h3,h4,h5,_⟩:=h
 exact⟨r,es,clock,h1,h2,h3,h4,h5⟩
theorem Md.bel{γ:av}{J:bI->Prop}{w w':World}{v:Value}{F:K->Int}{D:List K}(h:Md γ J w v F D)(hc:d6 w.heap.size w w'):Md γ J w' v F D:=by
 obtain⟨r,es,clock,h1,h2,h3,h4⟩:=h
 exact⟨r,es,clock,h1,h2,by rw[hc.block r (cb h3)];exact h3,h4⟩
section
variable{P:Program}{f:Fr}{w:World}{dst:Option Tmp}{ty:TypeId}{pos:String}{after:Array Edge}{g:Option (Nat×Bool)}{t:TypeId}{x y z:Operand}{N:Value->World->Prop}
theorem gE(γ:av)(J:bI->Prop)(c:bI)(hJ:J c)(hk:∀γ' w' v,aM no γ w γ' w'->Md (K:=K) γ' J w' v (λ_=>0) []->N v w'):dv P ⟨dst,.makeMap t none,ty,pos,after,g⟩ f w N:=by
 refine ak (v:=.map (some w.heap.size)) (w':=w.alloc (.map #[] 0)) (by simp[execOp,Instr.makeMap]) (hk (ek γ w.heap.size c) _ _ (dx γ w _ c) ⟨w.heap.size,[],0,rfl,by simpa[ek] using hJ,by rw[cj];rfl,⟨by simp,by simp,by simp⟩,?_,rfl⟩)
 funext k;simp[dq]
theorem il{γ:av}{J:bI->Prop}{v u:Value}{F:K->Int}{D:List K}{kt et size bytes:Nat}{agg:Bool}(k:K)(ht:P.underlying t=some (.map kt et))(hk:gZ P kt K)(he:Tp P et agg size bytes (.int .i64 0))(hx:ev f x=v)(hm:Md γ J w v F D)(hy:ev f y=u)(hu:u=Ky.val k):
   (execOp (ev f) ⟨dst,.lookup t x y true,ty,pos,after,g⟩).run P w= .ok (.value (.tuple #[.int .i64 (F k),.bool (decide (k∈D))])) w:=by
 obtain⟨r,es,clock,rfl,hJ,hb,hok,rfl,rfl⟩:=hm
 obtain⟨i,hi,_,_,hz⟩:=he.info
 subst hu
 have hf:=hk.find k (es.map cR) (es.map (·.key)) w (by simp[cR,Function.comp_def])
 rw[eL] at hf
 cases h:(es.map (·.key)).findIdx? (· =k) with
 |none=>
   rw[h] at hf
   have hnk:k∉es.map (·.key):=λhmm=>by
     have:=List.findIdx?_eq_none_iff.1 h k hmm
     simp at this
   have h0:dq es k=0:=by
     have hn:es.find? (λe=>decide (e.key=k))=none:=by
       rw[List.find?_eq_none]
       intro e he
       have:=List.findIdx?_eq_none_iff.1 h (e.key) (List.mem_map_of_mem he)
       simpa using this
     simp[dq,hn]
   rw[decide_eq_false hnk]
   simp[execOp,hx,hy,Instr.lookup,ax ht,bD hb,hk.check,hf,cT hi hz,h0]
 |some i=>
   rw[h] at hf
   obtain⟨hil,hke,_⟩:=List.findIdx?_eq_some_iff_getElem.1 h
   have hke':(es.map (·.key))[i]=k:=by simpa using hke
   have hmm:k∈es.map (·.key):=by rw[<-hke'];exact List.getElem_mem hil
   rw[decide_eq_true hmm]
   simp[execOp,hx,hy,Instr.lookup,ax ht,bD hb,hk.check,hf]
theorem gW{γ:av}{J:bI->Prop}{v:Value}{F:K->Int}{D:List K}{kt et:Nat}(ht:P.underlying t=some (.map kt et))(hx:ev f x=v)(hm:Md γ J w v F D):
   (execOp (ev f) ⟨dst,.call {callee:=.builtin .len,args:= #[x],argTypes:= #[t]},ty,pos,after,g⟩).run P w= .ok (.value (.int .i64 (D.length:Int))) w:=by
 obtain⟨r,es,clock,rfl,hJ,hb,hok,rfl,rfl⟩:=hm
 simp[execOp,resolve,invoke,builtin,hx,Builtin.len_,ax ht,bD hb,goInt]
end
end TL
namespace TL
open Go
variable{K:Type}[DecidableEq K][Ky K]
theorem iW{es:List (cK K)}{m:Int}(hn:(es.map (·.key)).Nodup){i:Nat}{e:cK K}(hie:es[i]? =some e):dq (es.modify i (λq=>{q with val:=m}))=λk'=>if k'=e.key then m else dq es k':=by
 have hi':i<es.length:=(List.getElem?_eq_some_iff.1 hie).1
 have hei:es[i]=e:=(List.getElem?_eq_some_iff.1 hie).2
 have hkeys:(es.modify i (λq=>{q with val:=m})).map (·.key)=es.map (·.key):=by
   apply List.ext_getElem?
   intro j
   rw[List.getElem?_map,List.getElem?_map,List.getElem?_modify]
   by_cases hij:i=j
   · subst hij;simp[hi']
   · simp[hij]
 funext k'
 have hfind:∀(l:List (cK K)),(l.map (·.key)).Nodup->∀j (hj:j<l.length),dq l l[j].key=l[j].val:=by
   intro l hl j hj
   have hf:l.find? (λe=>decide (e.key=l[j].key))=some l[j]:=by
     rw[List.find?_eq_some_iff_getElem]
     refine⟨by simp,j,hj,rfl,λq hq=>?_⟩
     have hne:l[q].key≠l[j].key:=λh=>by
       have h1:(l.map (·.key))[q]'(by simp;omega)=(l.map (·.key))[j]'(by simpa using hj):=by simp[h]
       have:=(List.getElem_inj hl).1 h1
       omega
     simpa using hne
   simp[dq,hf]
 by_cases hkk:k'=e.key
 · subst hkk
   rw[if_pos rfl]
   have h1:=hfind (es.modify i (λq=>{q with val:=m})) (by rw[hkeys];exact hn) i (by simpa using hi')
   simp[List.getElem_modify,hei] at h1
   exact h1
 · rw[if_neg hkk]
   have hfe:(es.modify i (λq=>{q with val:=m})).find? (λe=>decide (e.key=k'))=es.find? (λe=>decide (e.key=k')):=by
     have hgen:∀(l:List (cK K)) (i:Nat) (e:cK K),l[i]? =some e->k'≠e.key->(l.modify i (λq=>{q with val:=m})).find? (λe=>decide (e.key=k'))=l.find? (λe=>decide (e.key=k')):=by
       intro l
       induction l with
       |nil=>intro i e h;simp at h
       |cons a l ih=>
         intro i e h hne
         cases i with
         |zero=>
           obtain rfl:a=e:=by simpa using h
           have:decide (a.key=k')=false:=by simpa using λh=>hne h.symm
           simp[List.find?_cons,this]
         |succ i=>
           have h':l[i]? =some e:=by simpa using h
           simp only[List.modify_succ_cons,List.find?_cons,ih i e h' hne]
     exact hgen es i e hie hkk
   simp[dq,hfe]
section
variable{P:Program}{f:Fr}{w:World}{dst:Option Tmp}{ty:TypeId}{pos:String}{after:Array Edge}{g:Option (Nat×Bool)}{t:TypeId}{x y z:Operand}{N:Value->World->Prop}
theorem fe{γ:av}{J:bI->Prop}{v u:Value}{F:K->Int}{D:List K}{kt et:Nat}{m:Int}(k:K)(ht:P.underlying t=some (.map kt et))(hk:gZ P kt K)(hx:ev f x=v)(hm:Md γ J w v F D)(hy:ev f y=u)(hu:u=Ky.val k)(hz:ev f z= .int .i64 m)
   (hn:∀w',aM J γ w γ w'->Md γ J w' v (λk'=>if k'=k then m else F k') (if k∈D then D else D++[k])->N undef w'):dv P ⟨dst,.mapUpdate t x y z,ty,pos,after,g⟩ f w N:=by
 obtain⟨r,es,clock,rfl,hJ,hb,hok,rfl,rfl⟩:=hm
 subst hu
 have hf:=hk.find k (es.map cR) (es.map (·.key)) w (by simp[cR,Function.comp_def])
 rw[eL] at hf
 cases h:(es.map (·.key)).findIdx? (· =k) with
 |none=>
   rw[h] at hf
   have hnk:∀e∈es,e.key≠k:=λe he=>by
     have:=List.findIdx?_eq_none_iff.1 h (e.key) (List.mem_map_of_mem he)
     simpa using this
   have hnD:k∉es.map (·.key):=λhmm=>by obtain⟨e,he,hke⟩:=List.mem_map.1 hmm;exact hnk e he hke
   refine dY (w':={w with heap:=w.heap.setIfInBounds r (.map ((es++[(⟨k,m,clock⟩:cK K)]).map cR).toArray (clock+1))}) ?_
     (hn _ (dF γ _ hJ) ⟨r,es++[⟨k,m,clock⟩],clock+1,rfl,hJ,dj hb,⟨?_,?_,?_⟩,?_,by rw[if_neg hnD];simp⟩)
   · simp[execOp,hx,hy,hz,Instr.mapUpdate,ax ht,bD hb,hk.check,hf,cN hb,cR]
   · rw[List.map_append,List.nodup_append]
     refine⟨hok.keys,by simp,λa ha b hb=>?_⟩
     have:b=k:=by simpa using hb
     subst this;intro e;subst e;exact hnD ha
   · rw[List.map_append,List.nodup_append]
     refine⟨hok.born,by simp,λa ha b hb=>?_⟩
     obtain⟨e,he,rfl⟩:=List.mem_map.1 ha
     have:b=clock:=by simpa using hb
     subst this;exact Nat.ne_of_lt (hok.lt e he)
   · intro e he
     rcases List.mem_append.1 he with h|h
     · exact Nat.lt_succ_of_lt (hok.lt e h)
     · obtain rfl:=List.mem_singleton.1 h;exact Nat.lt_succ_self _
   · funext k'
     simp only[dq,List.find?_append]
     by_cases hkk:k'=k
     · subst hkk
       have hn:es.find? (λe=>decide (e.key=k'))=none:=by
         rw[List.find?_eq_none]
         intro e he
         simpa using hnk e he
       simp[hn]
     · have hkk':¬k=k':=λe=>hkk e.symm
       rw[if_neg hkk]
       cases es.find? (λe=>decide (e.key=k'))<;>simp[hkk']
 |some i=>
   rw[h] at hf
   obtain⟨hil,hke,_⟩:=List.findIdx?_eq_some_iff_getElem.1 h
   have hi':i<es.length:=by simpa using hil
   have hke':es[i].key=k:=by simpa using hke
   have hmod:(es.map cR).modify i (λq=>{q with key:=Ky.val k,val:=.int .i64 m})=(es.modify i (λq=>{q with val:=m})).map cR:=by
     apply List.ext_getElem?
     intro j
     rw[List.getElem?_modify,List.getElem?_map,List.getElem?_map,List.getElem?_modify]
     by_cases hij:i=j
     · subst hij;simp[hi',cR,hke']
     · simp[hij]
   have hkeys:(es.modify i (λq=>{q with val:=m})).map (·.key)=es.map (·.key):=by
     apply List.ext_getElem?
     intro j
     rw[List.getElem?_map,List.getElem?_map,List.getElem?_modify]
     by_cases hij:i=j
     · subst hij;simp[hi']
     · simp[hij]
   have hborn:(es.modify i (λq=>{q with val:=m})).map (·.born)=es.map (·.born):=by
     apply List.ext_getElem?
     intro j
     rw[List.getElem?_map,List.getElem?_map,List.getElem?_modify]
     by_cases hij:i=j
     · subst hij;simp[hi']
     · simp[hij]
   have hkb:=hk.bits k
   have hold:(Instr.keyThatStays (Ky.val k) (Ky.val k)).run P w= .ok (Ky.val k) w:=by simp[Instr.keyThatStays,hkb]
   refine dY (w':={w with heap:=w.heap.setIfInBounds r (.map ((es.modify i (λq=>{q with val:=m})).map cR).toArray clock)}) ?_
     (hn _ (dF γ _ hJ) ⟨r,es.modify i (λq=>{q with val:=m}),clock,rfl,hJ,dj hb,⟨by rw[hkeys];exact hok.keys,by rw[hborn];exact hok.born,λq hq=>?_⟩,?_,by rw[if_pos (by rw[<-hke'];exact List.mem_map_of_mem (List.getElem_mem hi')),hkeys]⟩)
   · simp[execOp,hx,hy,hz,Instr.mapUpdate,ax ht,bD hb,hk.check,hf,hi',cR,hke',hold,cN hb]
     rw[<-hmod]
   · have:q.born∈es.map (·.born):=by rw[<-hborn];exact List.mem_map_of_mem hq
     obtain⟨q',hq',he'⟩:=List.mem_map.1 this
     rw[<-he'];exact hok.lt q' hq'
   · rw[iW hok.keys (e:=es[i]) (by simp),hke']
end
end TL
/-
  TlShort: short names for the commonest steps (used by packed claims only).
  By an AI agent.
-/
set_option linter.all false
namespace TL
open Go
abbrev vi(x:Int):Value:=Value.int .i64 x
abbrev vp(b o:Nat):Value:=Value.pointer (some ⟨b,o,none⟩)
abbrev vn:Value:=Value.slice none 0 0
abbrev vt(l:List Value):Value:=Value.tuple (List.toArray l)
abbrev vg(l:List Value):Value:=Value.agg (List.toArray l)
theorem cg(L:List Nat){γ γ':av}{w w':World}(h:aM (inl L) γ w γ' w'):aM (inl L) γ w γ' w':=h
theorem dt{p:Prop}[Decidable p](h:p):decide p=true:=decide_eq_true h
theorem df{p:Prop}[Decidable p](h:¬p):decide p=false:=decide_eq_false h
section
variable{P:Program}{all rest:List Oper}{K:Fr->World->Prop}{f:Fr}{w w':World}{x:Operand}
variable{dst:Option Tmp}{op:Op}{ty:TypeId}{pos:String}{after:Array Edge}{g:Option (Nat×Bool)}{o:Oper}
theorem lv(v:Value)(hw:bS all ⟨dst,op,ty,pos,after,g⟩ f=true)(h:(execOp (ev f) ⟨dst,op,ty,pos,after,g⟩).run P w= .ok (.value v) w')(hk:eS P all rest K (dw f dst v) w'):eS P all (⟨dst,op,ty,pos,after,g⟩::rest) K f w:=fV hw h hk
theorem lx{v:Value}(h:(execOp (ev f) ⟨dst,op,ty,pos,after,none⟩).run P w= .ok (.value v) w')(hk:eS P all rest K (dw f dst v) w'):eS P all (⟨dst,op,ty,pos,after,none⟩::rest) K f w:=fV rfl h hk
theorem lw(v:Value)(h:(execOp (ev f) ⟨dst,op,ty,pos,after,none⟩).run P w= .ok (.value v) w')(hk:eS P all rest K (dw f dst v) w'):eS P all (⟨dst,op,ty,pos,after,none⟩::rest) K f w:=fV rfl h hk
theorem mv(v:Value)(hk:eS P all rest K (dw f dst v) w)(h:ev f x=v:=by exact rfl):eS P all (⟨dst,.move x,ty,pos,after,none⟩::rest) K f w:=fV rfl (ah h) hk
theorem ma(v:Value)(hk:eS P all rest K (dw f dst v) w)(h:ev f x=v:=by exact rfl):eS P all (⟨dst,.assign x,ty,pos,after,none⟩::rest) K f w:=fV rfl (c9 h) hk
theorem mi(v:Int)(hk:eS P all rest K (dw f dst (.int .i64 v)) w)(h:ev f x= .int .i64 v:=by exact rfl):eS P all (⟨dst,.move x,ty,pos,after,none⟩::rest) K f w:=fV rfl (ah h) hk
theorem ai(v:Int)(hk:eS P all rest K (dw f dst (.int .i64 v)) w)(h:ev f x= .int .i64 v:=by exact rfl):eS P all (⟨dst,.assign x,ty,pos,after,none⟩::rest) K f w:=fV rfl (c9 h) hk
theorem mz{v:Value}(h:ev f x=v)(hk:eS P all rest K (dw f dst v) w):eS P all (⟨dst,.move x,ty,pos,after,none⟩::rest) K f w:=fV rfl (ah h) hk
theorem lo(h:dv P ⟨dst,op,ty,pos,after,none⟩ f w (λv w'=>eS P all rest K (dw f dst v) w')):eS P all (⟨dst,op,ty,pos,after,none⟩::rest) K f w:=dG rfl h
theorem wy{j:Nat}{x:Bool}{d:Nat}{b:Bool}(hx:b=x)(hg:o.guard=some (j,x):=by exact rfl)(hj:(all[j]?).bind (·.dst)=some d:=by exact rfl)(hb:f d= .bool b:=by exact rfl):bS all o f=true:=nk hg hj hb hx
theorem wn{j:Nat}{x:Bool}{d:Nat}{b:Bool}(hx:b= !x)(hg:o.guard=some (j,x):=by exact rfl)(hj:(all[j]?).bind (·.dst)=some d:=by exact rfl)(hb:f d= .bool b:=by exact rfl):bS all o f=false:=ns hg hj hb hx
variable{C:World->Prop}{KQ:Fr->Prop}
theorem qv(v:Value)(h:∀w,C w->(execOp (ev f) ⟨dst,op,ty,pos,after,none⟩).run P w= .ok (.value v) w)(hk:gk P all C rest KQ (dw f dst v)):gk P all C (⟨dst,op,ty,pos,after,none⟩::rest) KQ f:=bu rfl h hk
theorem qx{v:Value}(h:∀w,C w->(execOp (ev f) ⟨dst,op,ty,pos,after,none⟩).run P w= .ok (.value v) w)(hk:gk P all C rest KQ (dw f dst v)):gk P all C (⟨dst,op,ty,pos,after,none⟩::rest) KQ f:=bu rfl h hk
theorem qm(v:Value)(hk:gk P all C rest KQ (dw f dst v))(h:ev f x=v:=by exact rfl):gk P all C (⟨dst,.move x,ty,pos,after,none⟩::rest) KQ f:=bu rfl (λ_ _=>ah h) hk
theorem qz{v:Value}(h:ev f x=v)(hk:gk P all C rest KQ (dw f dst v)):gk P all C (⟨dst,.move x,ty,pos,after,none⟩::rest) KQ f:=bu rfl (λ_ _=>ah h) hk
end
section
variable{P:Program}{n:Nat}{l:List Oper}{S:World->Prop}{K:Fr->World->Prop}{f:Fr}{w:World}{done:List Nat}{fuel:Nat}{qs:List Nat}
variable{dst:Option Tmp}{op:Op}{ty:TypeId}{pos:String}{after:Array Edge}{g:Option (Nat×Bool)}{v:Value}
theorem ht(i:Nat)(hi:l[i]? =some ⟨dst,op,ty,pos,after,none⟩)(hS:S w)(h:∀w,S w->(execOp (ev f) ⟨dst,op,ty,pos,after,none⟩).run P w= .ok (.value v) w)(hk:kJ P n l S K fuel (i::done) (dw f dst v) w)(hn:dJ l=true:=by kernel_rfl)(hc:(dB l done i&&eF l done i&&fH n ⟨dst,op,ty,pos,after,none⟩)=true:=by kernel_rfl):kJ P n l S K (fuel+1) done f w:=n7 i hi hn hc rfl hS h hk
theorem xv(i:Nat)(M:List Nat)(hi:l[i]? =some ⟨dst,op,ty,pos,after,none⟩)(h:(execOp (ev f) ⟨dst,op,ty,pos,after,none⟩).run P w= .ok (.value v) w)(hk:eU P n l qs K fuel (i::done) (dw f dst v) w)(hn:dJ l=true:=by kernel_rfl)(hc:(qs.contains i&&dB l done i&&eF l done i&&ij l qs done M i&&fH n ⟨dst,op,ty,pos,after,none⟩)=true:=by kernel_rfl):eU P n l qs K (fuel+1) done f w:=c8 i M hi hn hc rfl h hk
theorem xh(i:Nat)(M:List Nat)(hi:l[i]? =some ⟨dst,op,ty,pos,after,none⟩)(h:∀w',d6 w.heap.size w w'->(execOp (ev f) ⟨dst,op,ty,pos,after,none⟩).run P w'= .ok (.value v) w')(hk:eU P n l qs K fuel (i::done) (dw f dst v) w)(hn:dJ l=true:=by kernel_rfl)(hc:(qs.contains i&&dB l done i&&eF l done i&&hT l qs done M i&&fH n ⟨dst,op,ty,pos,after,none⟩)=true:=by kernel_rfl):eU P n l qs K (fuel+1) done f w:=nl i M hi hn hc rfl h hk
theorem xp(i:Nat)(hi:l[i]? =some ⟨dst,op,ty,pos,after,none⟩)(h:∀w,(execOp (ev f) ⟨dst,op,ty,pos,after,none⟩).run P w= .ok (.value v) w)(hk:eU P n l qs K fuel (i::done) (dw f dst v) w)(hn:dJ l=true:=by kernel_rfl)(hc:(qs.contains i&&dB l done i&&eF l done i&&fH n ⟨dst,op,ty,pos,after,none⟩)=true:=by kernel_rfl):eU P n l qs K (fuel+1) done f w:=aX i hi hn hc rfl h hk
end
section
variable{γ γ':av}{w w':World}{v:Value}{j k:Nat}{L:List Nat}
theorem bd.ca{w0:World}(h:bd w0 γ w)(hc:aM (inl L) γ w γ' w')(hj:L.contains 0=false:=by exact rfl):bd w0 γ' w':=h.chg hc (bq hj)
theorem bd.ce{w0:World}(h:bd w0 γ w)(hc:aM (is k) γ w γ' w')(hj:Nat.beq 0 k=false:=by exact rfl):bd w0 γ' w':=h.chg hc (dV hj)
theorem bd.cn{w0:World}(h:bd w0 γ w)(hc:aM no γ w γ' w'):bd w0 γ' w':=h.chg hc (bv _)
theorem Bx.ca{b:Nat}{cs:List Value}(h:Bx γ (is j) w b cs)(hc:aM (inl L) γ w γ' w')(hj:L.contains j=false:=by exact rfl):Bx γ' (is j) w' b cs:=h.chg hc (bq hj)
theorem Bx.ce{b:Nat}{cs:List Value}(h:Bx γ (is j) w b cs)(hc:aM (is k) γ w γ' w')(hj:Nat.beq j k=false:=by exact rfl):Bx γ' (is j) w' b cs:=h.chg hc (dV hj)
theorem Bx.cn{J:bI->Prop}{b:Nat}{cs:List Value}(h:Bx γ J w b cs)(hc:aM no γ w γ' w'):Bx γ' J w' b cs:=h.chg hc (bv _)
theorem Sl.ca{α:Type}[Rp α]{xs:List α}(h:Sl γ (is j) w v xs)(hc:aM (inl L) γ w γ' w')(hj:L.contains j=false:=by exact rfl):Sl γ' (is j) w' v xs:=h.chg hc (bq hj)
theorem Sl.ce{α:Type}[Rp α]{xs:List α}(h:Sl γ (is j) w v xs)(hc:aM (is k) γ w γ' w')(hj:Nat.beq j k=false:=by exact rfl):Sl γ' (is j) w' v xs:=h.chg hc (dV hj)
theorem Sl.cn{α:Type}[Rp α]{S:bI->Prop}{xs:List α}(h:Sl γ S w v xs)(hc:aM no γ w γ' w'):Sl γ' S w' v xs:=h.chg hc (bv _)
theorem Ow.ca{α:Type}[Rp α]{xs:List α}(h:Ow γ (is j) (is j) w v xs)(hc:aM (inl L) γ w γ' w')(hj:L.contains j=false:=by exact rfl):Ow γ' (is j) (is j) w' v xs:=h.chg hc (bq hj) (bq hj)
theorem Ow.ce{α:Type}[Rp α]{xs:List α}(h:Ow γ (is j) (is j) w v xs)(hc:aM (is k) γ w γ' w')(hj:Nat.beq j k=false:=by exact rfl):Ow γ' (is j) (is j) w' v xs:=h.chg hc (dV hj) (dV hj)
theorem Ow.cn{α:Type}[Rp α]{J S:bI->Prop}{xs:List α}(h:Ow γ J S w v xs)(hc:aM no γ w γ' w'):Ow γ' J S w' v xs:=h.chg hc (bv _) (bv _)
theorem cA.ca{α:Type}[Rp α]{xs:List (List α)}(h:cA γ j w v xs)(hc:aM (inl L) γ w γ' w')(hj:L.contains j=false:=by exact rfl):cA γ' j w' v xs:=h.chg hc (bq hj)
theorem cA.ce{α:Type}[Rp α]{xs:List (List α)}(h:cA γ j w v xs)(hc:aM (is k) γ w γ' w')(hj:Nat.beq j k=false:=by exact rfl):cA γ' j w' v xs:=h.chg hc (dV hj)
theorem cA.cn{α:Type}[Rp α]{xs:List (List α)}(h:cA γ j w v xs)(hc:aM no γ w γ' w'):cA γ' j w' v xs:=h.chg hc (bv _)
theorem dI.ca{α:Type}[Rp α]{h0:Nat}{xs:List (List α)}(h:dI γ j h0 w v xs)(hc:aM (inl L) γ w γ' w')(hj:L.contains j=false:=by exact rfl):dI γ' j h0 w' v xs:=h.chg hc (bq hj)
theorem dI.ce{α:Type}[Rp α]{h0:Nat}{xs:List (List α)}(h:dI γ j h0 w v xs)(hc:aM (is k) γ w γ' w')(hj:Nat.beq j k=false:=by exact rfl):dI γ' j h0 w' v xs:=h.chg hc (dV hj)
theorem dI.cn{α:Type}[Rp α]{h0:Nat}{xs:List (List α)}(h:dI γ j h0 w v xs)(hc:aM no γ w γ' w'):dI γ' j h0 w' v xs:=h.chg hc (bv _)
def nW(δ g:av)(w:World)(ren:Nat->Nat):Prop:=(∀{α:Type} [Rp α] {i:Nat} {v:Value} {xs:List α},Ow δ (is i) (is i) w v xs->∀k:Nat,Nat.beq i 0=false->ren i=k->Ow g (is k) (is k) w v xs)/\(∀{α:Type} [Rp α] {i:Nat} {v:Value} {xs:List (List α)},cA δ i w v xs->∀k:Nat,Nat.beq i 0=false->ren i=k->cA g k w v xs)
theorem jT{δ:av}(γ:av)(fr:fg w δ w')(ren:Nat->Nat):∃g,aM no γ w g w'/\nW δ g w' ren:=
 ⟨_,lD fr.below γ δ ren,λh k hi hr=>h.glue fr.col hi hr,λh k hi hr=>h.glue fr.col hi hr⟩
theorem Ow.gl{α:Type}[Rp α]{δ g:av}{ren:Nat->Nat}{i:Nat}{xs:List α}(h:Ow δ (is i) (is i) w v xs)(G:nW δ g w ren)(k:Nat)(hi:Nat.beq i 0=false:=by exact rfl)(hr:ren i=k:=by exact rfl):Ow g (is k) (is k) w v xs:=G.1 h k hi hr
theorem cA.gl{α:Type}[Rp α]{δ g:av}{ren:Nat->Nat}{i:Nat}{xs:List (List α)}(h:cA δ i w v xs)(G:nW δ g w ren)(k:Nat)(hi:Nat.beq i 0=false:=by exact rfl)(hr:ren i=k:=by exact rfl):cA g k w v xs:=G.2 h k hi hr
end
section
variable{K:Type}[DecidableEq K][Ky K]
theorem Md.ca{γ γ':av}{j:Nat}{L:List Nat}{w w':World}{v:Value}{F:K->Int}{D:List K}(h:Md γ (is j) w v F D)(hc:aM (inl L) γ w γ' w')(hj:L.contains j=false:=by exact rfl):Md γ' (is j) w' v F D:=h.chg hc (bq hj)
theorem Md.ce{γ γ':av}{j k:Nat}{w w':World}{v:Value}{F:K->Int}{D:List K}(h:Md γ (is j) w v F D)(hc:aM (is k) γ w γ' w')(hj:Nat.beq j k=false:=by exact rfl):Md γ' (is j) w' v F D:=h.chg hc (dV hj)
theorem Md.cn{γ γ':av}{J:bI->Prop}{w w':World}{v:Value}{F:K->Int}{D:List K}(h:Md γ J w v F D)(hc:aM no γ w γ' w'):Md γ' J w' v F D:=h.chg hc (bv _)
theorem Mp.ca{γ γ':av}{j:Nat}{L:List Nat}{w w':World}{v:Value}{F:K->Int}(h:Mp γ (is j) w v F)(hc:aM (inl L) γ w γ' w')(hj:L.contains j=false:=by exact rfl):Mp γ' (is j) w' v F:=h.chg hc (bq hj)
theorem Mp.ce{γ γ':av}{j k:Nat}{w w':World}{v:Value}{F:K->Int}(h:Mp γ (is j) w v F)(hc:aM (is k) γ w γ' w')(hj:Nat.beq j k=false:=by exact rfl):Mp γ' (is j) w' v F:=h.chg hc (dV hj)
theorem Mp.cn{γ γ':av}{J:bI->Prop}{w w':World}{v:Value}{F:K->Int}(h:Mp γ J w v F)(hc:aM no γ w γ' w'):Mp γ' J w' v F:=h.chg hc (bv _)
theorem j6.ca{γ γ':av}{j:Nat}{L:List Nat}{w w':World}{v:Value}{F:K->Int}{s:Int}{k:K}(h:j6 γ (is j) w v F s k)(hc:aM (inl L) γ w γ' w')(hj:L.contains j=false:=by exact rfl):j6 γ' (is j) w' v F s k:=h.chg hc (bq hj)
theorem j6.ce{γ γ':av}{j q:Nat}{w w':World}{v:Value}{F:K->Int}{s:Int}{k:K}(h:j6 γ (is j) w v F s k)(hc:aM (is q) γ w γ' w')(hj:Nat.beq j q=false:=by exact rfl):j6 γ' (is j) w' v F s k:=h.chg hc (dV hj)
theorem j6.cn{γ γ':av}{J:bI->Prop}{w w':World}{v:Value}{F:K->Int}{s:Int}{k:K}(h:j6 γ J w v F s k)(hc:aM no γ w γ' w'):j6 γ' J w' v F s k:=h.chg hc (bv _)
end
end TL
/-
  TlGeom: points with whole coordinates: turns, segments, how they meet.
  By an AI agent.
-/
set_option linter.all false
namespace TL
abbrev Pt:=Int×Int
def db(x y:Int):Int:=if x<y then-1 else if y<x then 1 else 0
def nR(a b:Pt):Int:=a.1*b.2-a.2*b.1
def nN(b a:Pt):Pt:=(b.1-a.1,b.2-a.2)
def kp(a b c:Pt):Int:=db (nR (nN b a) (nN c a)) 0
def nt(a b p:Pt):Prop:=(min a.1 b.1<=p.1/\p.1<=max a.1 b.1)/\min a.2 b.2<=p.2/\p.2<=max a.2 b.2
instance (a b p:Pt):Decidable (nt a b p):=by unfold nt;infer_instance
def kN(a b p:Pt):Prop:=kp a b p=0/\nt a b p
instance (a b p:Pt):Decidable (kN a b p):=by unfold kN;infer_instance
def iZ(a b:Pt):Int:=if db a.1 b.1≠0 then db a.1 b.1 else db a.2 b.2
def nD(a b c d:Pt):Int:=
 let a':=if 0<iZ a b then b else a
 let b':=if 0<iZ a b then a else b
 let c':=if 0<iZ c d then d else c
 let d':=if 0<iZ c d then c else d
 let low:=if 0<iZ c' a' then c' else a'
 let high:=if iZ d' b'<0 then d' else b'
 if 0<iZ low high then 0 else if iZ low high=0 then 2 else 3
def eT(a b c d:Pt):Int:=
 if kp a b c=0/\kp a b d=0/\kp c d a=0/\kp c d b=0 then nD a b c d
 else if kp a b c*kp a b d<0/\kp c d a*kp c d b<0 then 1
 else if kN a b c\/kN a b d\/kN c d a\/kN c d b then 2 else 0
def key(p:Pt):Int:=p.1*1073741824+p.2
end TL
namespace TL
def nY(p:Pt):Prop:=(-1048576<=p.1/\p.1<=1048576)/\ -1048576<=p.2/\p.2<=1048576
instance (p:Pt):Decidable (nY p):=by unfold nY;infer_instance
def o7(ps:List Pt):Prop:=ps.length<=4096/\∀p∈ps,nY p
instance (ps:List Pt):Decidable (o7 ps):=by unfold o7;infer_instance
def jX(p:Pt):Int:=if 0<p.1\/p.1=0/\0<p.2 then 0 else 1
section
variable{a b c d:Pt}
end
end TL
/-
  TlGeomR: what is told of many points: areas, boxes, whether a polyline is simple.
  By an AI agent.
-/
set_option linter.all false
namespace TL
def ib(ps:List Pt):Prop:=4<=(ps.length:Int)/\gI ps 0=gI ps ((ps.length:Int)-1)
instance (ps:List Pt):Decidable (ib ps):=by unfold ib;infer_instance
def kb(ps:List Pt)(i k:Nat):Prop:=k=i+1\/i=0/\(k:Int)=(ps.length:Int)-2/\ib ps
instance (ps:List Pt)(i k:Nat):Decidable (kb ps i k):=by unfold kb;infer_instance
def oc(ps:List Pt)(i k:Nat):Int:=eT (gI ps (i:Int)) (gI ps ((i:Int)+1)) (gI ps (k:Int)) (gI ps ((k:Int)+1))
def np(ps:List Pt)(i k:Nat):Prop:=kb ps i k/\oc ps i k=3\/¬kb ps i k/\oc ps i k≠0
instance (ps:List Pt)(i k:Nat):Decidable (np ps i k):=by unfold np;infer_instance
def n6(ps:List Pt)(i:Nat):Prop:=gI ps (i:Int)≠gI ps ((i:Int)+1)/\∀k<ps.length,i<k->(k:Int)<=(ps.length:Int)-2->¬np ps i k
instance (ps:List Pt)(i:Nat):Decidable (n6 ps i):=by unfold n6;infer_instance
def nI(ps:List Pt):Prop:=∀i<ps.length,(i:Int)<=(ps.length:Int)-2->n6 ps i
instance (ps:List Pt):Decidable (nI ps):=by unfold nI;infer_instance
section
variable{ps:List Pt}
variable{i k:Nat}
end
end TL
/-
  TlConv: whole numbers turned to another kind, a string's byte, functions that bear values.
  By an AI agent.
-/
set_option linter.all false
namespace TL
open Go
section
variable{P:Program}{w:World}{f:Fr}{dst:Option Tmp}{ty:TypeId}{pos:String}{after:Array Edge}{g:Option (Nat×Bool)}{x y:Operand}{s d t:TypeId}{m:Int}{k k0:IntKind}
theorem j9{us:TypeDesc}(hs:P.underlying s=some us)(hd:P.underlying d=some (.int k))(hx:ev f x= .int k0 m)(hw:k.wrap m=m):(execOp (ev f) ⟨dst,.convert s d x,ty,pos,after,g⟩).run P w= .ok (.value (.int k m)) w:=by
 simp[execOp,convert,hx,ax hs,ax hd,Conv.intToInt,hw]
theorem iA{i r:Int}{b:UInt8}{str:ByteArray}(ht:P.underlying t=some .string)(hx:ev f x= .string str)(hy:ev f y= .int k i)(h0:0<=i)(hb:str[i.toNat]? =some b)(hr:(b.toNat:Int)=r):(execOp (ev f) ⟨dst,.index t x y,ty,pos,after,g⟩).run P w= .ok (.value (.int .u8 r)) w:=by
 simp[execOp,Instr.index,asIntOf,hx,hy,ax ht,h0,hb,hr]
theorem gz{fid:Nat}{cs:List Operand}{vals:List Value}(h:cs.map (ev f)=vals):(execOp (ev f) ⟨dst,.makeFunc (.func fid) #[] cs.toArray,ty,pos,after,g⟩).run P w= .ok (.value (.func (.func fid) #[] vals.toArray)) w:=by
 have h:cs.toArray.map (ev f)=vals.toArray:=by rw[<-h];simp
 simp[execOp,Instr.makeFunc,h]
theorem gc{fid:Nat}{fn:Func}{c:Operand}{args:List Operand}{at_:Array TypeId}{vals caps:List Value}(hc:ev f c= .func (.func fid) #[] caps.toArray)(hf:P.funcs[fid]? =some fn)(hb:fn.body.isNone=false)(hn:(fn.name== "runtime.NumGoroutine")=false)(ha:args.map (ev f)=vals):
   (execOp (ev f) ⟨dst,.call {callee:=.value c,args:=args.toArray,argTypes:=at_},ty,pos,after,g⟩).run P w= .ok (.enter fid (vals++caps).toArray) w:=by
 have ha:args.toArray.map (ev f)=vals.toArray:=by rw[<-ha];simp
 simp only[execOp,resolve,hc,Deferred.ofValue,invoke,callFunc,ha,Sem.run_bind,Sem.run_pure,Result.andThen_ok,run_program,hf,hn,hb,Bool.false_eq_true,if_false,Array.append_empty,Array.empty_append]
 simp
end
end TL
namespace TL
open Go
section
variable{P:Program}{w:World}{f:Fr}{dst:Option Tmp}{ty:TypeId}{pos:String}{after:Array Edge}{g:Option (Nat×Bool)}{x y:Operand}{t t':TypeId}
end
end TL
namespace TL
open Go
section
variable{P:Program}{w:World}{f:Fr}{dst:Option Tmp}{ty:TypeId}{pos:String}{after:Array Edge}{g:Option (Nat×Bool)}{x y:Operand}{t t':TypeId}
end
end TL
/-
  TlGeomM: meeting segments: moved, turned, named another way about; what ends they share.
  By an AI agent.
-/
set_option linter.all false
namespace TL
section
variable{a b c d:Pt}
def iv(a b c d e:Pt):Prop:=kN a b e/\kN c d e
instance (a b c d e:Pt):Decidable (iv a b c d e):=by unfold iv;infer_instance
def ld(a b c d:Pt):Prop:=kp a b c*kp a b d<0/\kp c d a*kp c d b<0
instance (a b c d:Pt):Decidable (ld a b c d):=by unfold ld;infer_instance
end
end TL
/-
  TlGeomS: polylines gone back, and two of them named the other way about.
  By an AI agent.
-/
set_option linter.all false
namespace TL
abbrev Sg:=Pt×Pt
def lC(ps:List Pt):Nat->List Sg
 |0=>[]
 |k+1=>lC ps k++[(gI ps (k:Int),gI ps ((k:Int)+1))]
def mS(ps:List Pt):List Sg:=if ps.length=1 then[(gI ps 0,gI ps 0)] else lC ps (ps.length-1)
def mY(ps:List Pt):Pt:=gI ps ((ps.length:Int)-1)
def n8(ps:List Pt)(p:Pt):Prop:=p=gI ps 0\/p=mY ps
instance (ps:List Pt)(p:Pt):Decidable (n8 ps p):=by unfold n8;infer_instance
def m3(q:List Pt)(s t:Sg)(x:Pt):Prop:=n8 q x/\kN s.1 s.2 x/\kN t.1 t.2 x
instance (q:List Pt)(s t:Sg)(x:Pt):Decidable (m3 q s t x):=by unfold m3;infer_instance
def lP(p q:List Pt)(s t:Sg):Prop:=m3 q s t (gI p 0)\/m3 q s t (mY p)
instance (p q:List Pt)(s t:Sg):Decidable (lP p q s t):=by unfold lP;infer_instance
def nr(p q:List Pt)(s t:Sg):Prop:=eT s.1 s.2 t.1 t.2=3\/eT s.1 s.2 t.1 t.2≠0/\¬lP p q s t
instance (p q:List Pt)(s t:Sg):Decidable (nr p q s t):=by unfold nr;infer_instance
def nA(p q:List Pt):Prop:=∀s∈mS p,∀t∈mS q,¬nr p q s t
instance (p q:List Pt):Decidable (nA p q):=by unfold nA;infer_instance
section
variable{p q:List Pt}
end
end TL
namespace TL
section
variable{p q:List Pt}{i k:Nat}
variable{s t:Sg}
end
end TL
namespace TL
section
variable{p q:List Pt}{s t:Sg}{i:Nat}
end
end TL
/-
  TlGeomX: polylines: the document's way and the code's.
  By an AI agent.
-/
set_option linter.all false
namespace TL
section
variable{a b c d:Pt}
end
section
variable{ps:List Pt}{i k:Nat}
end
def nZ(but:List Pt)(s t:Sg):Prop:=eT s.1 s.2 t.1 t.2=3\/(eT s.1 s.2 t.1 t.2=1/\¬∃x∈but,iv s.1 s.2 t.1 t.2 x)\/((eT s.1 s.2 t.1 t.2≠0/\eT s.1 s.2 t.1 t.2≠1)/\∃e∈[s.1,s.2,t.1,t.2],iv s.1 s.2 t.1 t.2 e/\e∉but)
instance (but:List Pt)(s t:Sg):Decidable (nZ but s t):=by unfold nZ;infer_instance
def nC(p q but:List Pt):Prop:=∃s∈mS p,∃t∈mS q,nZ but s t
instance (p q but:List Pt):Decidable (nC p q but):=by unfold nC;infer_instance
section
variable{p q B:List Pt}
end
end TL
namespace TL
section
variable{p q but:List Pt}{i k:Nat}
variable{s t:Sg}
end
end TL
/-
  TlAround: points round another one: the order, its laws, the list that is sorted by it.
  By an AI agent.
-/
set_option linter.all false
namespace TL
def nQ(p:Pt):Int:=p.1*p.1+p.2*p.2
def og(a b:Pt)(i k:Int):Prop:=jX a<jX b\/jX a=jX b/\(nR a b<0\/nR a b=0/\(nQ a<nQ b\/nQ a=nQ b/\i<k))
def vA(o:Pt)(ps:List Pt)(i:Int):Pt:=nN (gI ps i) o
def ol(o:Pt)(ps:List Pt)(i k:Int):Prop:=og (vA o ps i) (vA o ps k) i k
def oh(o:Pt)(ps:List Pt)(k:Nat)(l:List Int):Prop:=l.Pairwise (ol o ps)/\∀x,x∈l↔0<=x/\x<(k:Int)
section
variable{o:Pt}{ps:List Pt}{k:Nat}{l l':List Int}
open Classical in
noncomputable def arL (o:Pt) (ps:List Pt):List Int:=if h:∃l,oh o ps ps.length l then choose h else[]
end
section
variable{o:Pt}{ps:List Pt}{k:Nat}{l:List Int}{q:Int}
end
section
variable{o:Pt}{ps:List Pt}
end
end TL
/-
  TlFace: half-edges' next ones, faces.
  By an AI agent.
-/
set_option linter.all false
namespace TL
end TL
namespace TL
structure cx(out:List (List Int))(g:bK)(k:Nat):Prop where
  len:(out.length:Int)=g.1
  at_:∀v,0<=v->v<g.1->gI out v=fi g v k
theorem cx.start{g:bK}(h:0<=g.1):cx (List.replicate g.1.toNat []) g 0:=⟨by simp;omega,λv h0 h1=>by rw[n4 h0 (by omega)];simp[fi]⟩
theorem cx.next{out:List (List Int)}{g:bK}{k:Nat}(h:cx out g k)(h1:0<=(gI g.2 k).1)(h2:(gI g.2 k).1<g.1)(h3:0<=(gI g.2 k).2)(h4:(gI g.2 k).2<g.1){a b:Int}(ha:a=2*(k:Int))(hb:b=2*(k:Int)+1):
   cx ((out.set (gI g.2 k).1.toNat (gI out (gI g.2 k).1++[a])).set (gI g.2 k).2.toNat (gI (out.set (gI g.2 k).1.toNat (gI out (gI g.2 k).1++[a])) (gI g.2 k).2++[b])) g (k+1):=by
 have hl:=h.len
 refine⟨by simpa using hl,λv h5 h6=>?_⟩
 rw[dg h3 (by simp;omega) h5,dg h1 (by omega) h3,dg h1 (by omega) h5,ja,h.at_ _ h1 h2,h.at_ _ h3 h4,h.at_ v h5 h6,ha,hb]
 by_cases e2:v=(gI g.2 (k:Int)).2
 · by_cases e1:v=(gI g.2 (k:Int)).1
   · rw[<-e1,<-e2];simp
   · have e3:¬(gI g.2 (k:Int)).2=(gI g.2 (k:Int)).1:=λh=>e1 (e2.trans h)
     have e6:¬(gI g.2 (k:Int)).1=(gI g.2 (k:Int)).2:=λh=>e3 h.symm
     simp[e2,e3,e6]
 · have e4:¬(gI g.2 (k:Int)).2=v:=λh=>e2 h.symm
   by_cases e1:v=(gI g.2 (k:Int)).1
   · rw[if_neg e2,if_pos e1,if_neg e4,if_pos e1.symm,<-e1];simp
   · have e5:¬(gI g.2 (k:Int)).1=v:=λh=>e1 h.symm
     rw[if_neg e2,if_neg e1,if_neg e4,if_neg e5];simp
end TL
namespace TL
end TL
/-
  TlWalk: going through a net breadth first, and its components, as the program does.
  By an AI agent.
-/
set_option linter.all false
namespace TL
def dE(g:bK)(h:Int):Int:=pI (gI g.2 (h/2)) (1-h%2)
theorem fE{g:bK}(hm:bw g){h:Int}(h0:0<=h)(h1:h<2*(g.2.length:Int)):0<=dE g h/\dE g h<g.1:=by
 have hok:=hm.2.2.2 _ (bV (xs:=g.2) (i:=h/2) (by omega) (by omega))
 unfold j4 at hok
 unfold dE pI
 split<;>omega
structure Bf where
 order:List Int
 by_:List Int
 far:List Int
end TL
namespace TL
theorem hH{g:bK}{v h:Int}(hh:h∈kr g v):(0<=h/\h<2*(g.2.length:Int))/\bA g h=v:=by
 unfold kr fi at hh
 obtain⟨h1,h2⟩:=List.mem_filter.1 hh
 obtain⟨k,hk,rfl⟩:=List.mem_map.1 h1
 have:=List.mem_range.1 hk
 exact⟨by omega,by simpa using h2⟩
end TL
namespace TL
theorem cx.rl{out:List (List Int)}{g:bK}{k:Nat}(h:cx out g k){v:Int}(h0:0<=v)(h1:v<g.1):((gI out v).length:Int)<=2*(k:Int):=by
 rw[h.at_ v h0 h1]
 have:=kC g v k
 omega
theorem cx.rl2{out:List (List Int)}{g:bK}{k:Nat}(h:cx out g k){u v:Int}(h2:0<=u)(h3:u<g.1)(h0:0<=v)(h1:v<g.1)(a:Int):((gI (out.set u.toNat (gI out u++[a])) v).length:Int)<=2*(k:Int)+1:=by
 have hl:=h.len
 rw[dg h2 (by omega) h0]
 split
 · have:=h.rl h2 h3;simp;omega
 · have:=h.rl h0 h1;omega
theorem cx.done{out:List (List Int)}{g:bK}{k:Nat}(h:cx out g k)(hk:k=g.2.length):∀v,0<=v->v<g.1->gI out v=kr g v:=λv h0 h1=>by
 subst hk;exact h.at_ v h0 h1
end TL
namespace TL
end TL
namespace TL
end TL
/-
  TlRot2: rotations: faces of half-edges, first ones, parts, moved ones.
  By an AI agent.
-/
set_option linter.all false
namespace TL
def aY(g:bK):gM:=(List.range g.1.toNat).map λ(v:Nat)=>kr g (v:Int)
theorem cx.first{out:gM}{g:bK}{k:Nat}(h:cx out g k)(hk:k=g.2.length):out=aY g:=by
 have hl:=h.len
 apply iz
 · simp[aY];omega
 · intro i hi
   rw[h.done hk _ (by omega) (by omega)]
   have:i<g.1.toNat:=by omega
   simp[aY,gI,this]
end TL
/-
  TlJudge: plots: their flaws, as the code and the document gather them.
  By an AI agent.
-/
set_option linter.all false
namespace TL
abbrev ov:=Int×Int×Int
abbrev gL:=List Pt×List (List Pt)
section
variable{β:Type}{f h:Nat->List β}{k n:Nat}{x:β}{F B:List β}
end
section
variable{β:Type}{p:Prop}[Decidable p]{x:β}
end
def oa(l:List Pt):Prop:=2<=(l.length:Int)/\o7 l
instance (l:List Pt):Decidable (oa l):=by unfold oa;infer_instance
def mV(g:bK)(p:gL)(e:Int):Prop:=gI (gI p.2 e) 0=gI p.1 (gI g.2 e).1/\gI (gI p.2 e) (((gI p.2 e).length:Int)-1)=gI p.1 (gI g.2 e).2
instance (g:bK)(p:gL)(e:Int):Decidable (mV g p e):=by unfold mV;infer_instance
def mT(l:List Pt)(q:Pt):Prop:=∃s∈lC l (l.length-1),kN s.1 s.2 q
instance (l:List Pt)(q:Pt):Decidable (mT l q):=by unfold mT;infer_instance
def lI(s t:Sg)(but:List Pt):Prop:=eT s.1 s.2 t.1 t.2=0\/(eT s.1 s.2 t.1 t.2=1\/eT s.1 s.2 t.1 t.2=2)/\∃x∈but,iv s.1 s.2 t.1 t.2 x
instance (s t:Sg)(but:List Pt):Decidable (lI s t but):=by unfold lI;infer_instance
def nM(a b but:List Pt):Prop:=∀s∈lC a (a.length-1),∀t∈lC b (b.length-1),lI s t but
instance (a b but:List Pt):Decidable (nM a b but):=by unfold nM;infer_instance
section
variable{g:bK}{p:gL}
end
end TL
namespace TL
section
variable{l:List Pt}{p:Pt}{i:Nat}
end
section
variable{a b c d:Pt}{but:List Pt}{k:Nat}{m:Int}
end
def o3(p:gL)(h:Int):Pt:=if h%2=0 then gI (gI p.2 (h/2)) 1 else gI (gI p.2 (h/2)) (((gI p.2 (h/2)).length:Int)-2)
def o6(u v:Pt):Int:=u.1*v.1+u.2*v.2
def lK(u v:Pt):Prop:=nR u v=0/\0<o6 u v
instance (u v:Pt):Decidable (lK u v):=by unfold lK;infer_instance
end TL
namespace TL
end TL
namespace TL
section
variable{g:bK}{p:gL}{F G B:List ov}{v e k i:Nat}
end
section
variable{g:bK}{p:gL}{e f:Int}
end
section
variable{a b but:List Pt}{i k:Nat}
end
section
variable{g:bK}{p:gL}{e f:Nat}{b:Bool}
end
end TL
/-
  TlFloat: floating numbers that are no NaN and have no sign: their bits, as a natural number, stand as they do; sums, roots and quotients of such.
  By an AI agent.
-/
set_option linter.all false
namespace TL
open Ieee
def pl(x:Nat):Nat:=x/4503599627370496-1
end TL
/-
  TlFl: floating numbers in a walk: what each operation comes to.
  By an AI agent.
-/
set_option linter.all false
namespace TL
open Go
instance:Rp Nat where
 sz:=1
 rep _ _ _ cs x:=cs=[.float .f64 x]
 len h:=by subst h;rfl
 one h:=by subst h;simp[Value.oneCell']
 tr _ _ h:=h
instance:Fl Nat where
 cells x:=[.float .f64 x]
 rep_iff:=Iff.rfl
section
variable{P:Program}{f:Fr}{w:World}{dst:Option Tmp}{ty:TypeId}{pos:String}{after:Array Edge}{g:Option (Nat×Bool)}{t t' s d:TypeId}{x y:Operand}{a b r:Nat}
variable{N:Value->World->Prop}
end
end TL
/-
  TlJudge2: what is told of a plot; its rotation.
  By an AI agent.
-/
set_option linter.all false
namespace TL
section
variable{p:gL}{l:List Pt}{a b:Bool}{i k:Nat}
end
section
variable{g:bK}{p:gL}
end
def nT(p:gL)(l:List Int):List Pt:=l.map (o3 p)
def n3(p:gL)(o:Pt)(l:List Int):Prop:=∃j:Nat,j<l.length/\0<j/\lK (nN (gI (nT p l) (gI (arL o (nT p l)) ((j:Int)-1))) o) (nN (gI (nT p l) (gI (arL o (nT p l)) (j:Int))) o)
noncomputable instance (p:gL) (o:Pt) (l:List Int):Decidable (n3 p o l):=by unfold n3;infer_instance
def nE(g:bK)(p:gL):Prop:=∃v:Nat,v<g.1.toNat/\n3 p (gI p.1 (v:Int)) (kr g (v:Int))
noncomputable instance (g:bK) (p:gL):Decidable (nE g p):=by unfold nE;infer_instance
end TL
/-
  TlZf: weights: floating numbers that are at least 0, of either sign of 0: in sums and comparisons such a one stands for its magnitude (zf).
  By an AI agent.
-/
set_option linter.all false
namespace TL
open Ieee
def zf(x:Nat):Nat:=x%9223372036854775808
open Go
end TL
/-
  TlPq: a heap of places (how far, which node), as container/heap keeps it: what is taken is the least, and nothing else is lost.
  By an AI agent.
-/
set_option linter.all false
namespace TL
abbrev Pl:=Nat×Int
def nU(a b:Pl):Prop:=a.1<b.1\/a.1=b.1/\a.2<b.2
instance (a b:Pl):Decidable (nU a b):=by unfold nU;infer_instance
def nS(xs:List Pl)(i:Nat):Pl:=gI xs (i:Int)
def ou(xs:List Pl)(i j:Nat):List Pl:=(xs.set i (nS xs j)).set j (nS xs i)
def up:Nat->List Pl->Nat->List Pl
 |0,xs,_=>xs
 |k+1,xs,j=>if(j-1)/2=j\/¬nU (nS xs j) (nS xs ((j-1)/2)) then xs else up k (ou xs ((j-1)/2) j) ((j-1)/2)
end TL
namespace TL
end TL
/-
  TlWay: ways of the least weight (package path): what From tells, as the document does it (the nearest node that is not settled, again and again), and that a heap of waiting nodes finds the same.
  By an AI agent.
-/
set_option linter.all false
namespace TL
abbrev FS:=List Nat×List Int
-- what is picked
-- once all are settled no more rounds matter
end TL
namespace TL
end TL
/-
  TlDfs: components found by a stack: the document's way.
  By an AI agent.
-/
set_option linter.all false
namespace TL
theorem e7{g:bK}{v:Int}(h0:0<=v)(h1:v<g.1):gI (aY g) v=kr g v:=by
 unfold aY gI
 have:v.toNat<g.1.toNat:=by omega
 simp[List.getD_eq_getElem?_getD,this]
 congr 1
 omega
section
variable{g:bK}{c0 c todo x:List Int}{n s:Int}
variable{v:Int}{k M:Nat}
end
end TL
/-
  TlBlk: blocks by a walk depth first with a stack of edges, as the program does it, and what its walk may rely on.
  By an AI agent.
-/
set_option linter.all false
namespace TL
structure Bs where
 place:List Int
 low:List Int
 by_:List Int
 next:List Int
 found:Int
 edges:List Int
 laid:List Bool
 block:List Int
 count:Int
def iQ(l:List Int)(x:Int):Nat:=l.length-1-l.reverse.idxOf x
def dp(s:Bs)(first:Int):Bs:=
 {s with block:=(s.edges.drop (iQ s.edges first)).foldl (λb e=>b.set e.toNat s.count) s.block,edges:=s.edges.take (iQ s.edges first),count:=s.count+1}
def gH(s:Bs)(v:Int):Bs:={s with found:=s.found+1,place:=s.place.set v.toNat (s.found+1),low:=s.low.set v.toNat (s.found+1)}
def j8(s:Bs)(e:Int):Bs:={s with laid:=s.laid.set e.toNat true,edges:=s.edges++[e]}
def dW(g:bK)(s:Bs)(v h:Int):Bs×Int×Bool:=
 if gI s.laid (h/2)=true then(s,0,false)
 else if dE g h=v then(dp (j8 s (h/2)) (h/2),0,false)
 else if gI s.place (dE g h)=0 then(gH {j8 s (h/2) with by_:=s.by_.set (dE g h).toNat h} (dE g h),dE g h,true)
 else({j8 s (h/2) with low:=s.low.set v.toNat (min (gI s.low v) (gI s.place (dE g h)))},0,false)
def ea(g:bK)(s:Bs)(v:Int):Bs:=
 if gI s.by_ v<0 then s
 else
   let u:=bA g (gI s.by_ v)
   let s1:Bs:={s with low:=s.low.set u.toNat (min (gI s.low u) (gI s.low v))}
   if gI s1.place u<=gI s1.low v then dp s1 (gI s.by_ v/2) else s1
def cZ(g:bK)(s:Bs)(path:List Int)(u:Int):Bs×List Int:=
 if gI s.next u=((gI (aY g) u).length:Int) then(ea g s u,path.dropLast)
 else
   let h:=gI (gI (aY g) u) (gI s.next u)
   let t:=dW g {s with next:=s.next.set u.toNat (gI s.next u+1)} u h
   (t.1,if t.2.2=true then path++[t.2.1] else path)
def nf(g:bK):Nat->Bs->List Int->Bs
 |0,s,_=>s
 |n+1,s,path=>if path=[] then s else nf g n (cZ g s path (gI path ((path.length:Int)-1))).1 (cZ g s path (gI path ((path.length:Int)-1))).2
def b5(g:bK)(s:Bs)(path:List Int):Nat:=2*(((c7 g.1.toNat).map λv=>((gI (aY g) v).length-(gI s.next v).toNat)).sum)+path.length
def cF(g:bK)(s:Bs)(v:Int):Bs:=nf g (b5 g (gH s v) [v]) (gH s v) [v]
def ec(g:bK):Bs:=⟨List.replicate g.1.toNat 0,List.replicate g.1.toNat 0,List.replicate g.1.toNat (-1),List.replicate g.1.toNat 0,0,[],List.replicate g.2.length false,List.replicate g.2.length 0,0⟩
def cO(g:bK)(k:Nat):Bs:=(c7 k).foldl (λs v=>if gI s.place v=0 then cF g s v else s) (ec g)
def de(by_:List Int)(path:List Int):List Int:=path.tail.map λv=>gI by_ v/2
structure dc(g:bK)(s:Bs)(path:List Int):Prop where
  l1:(s.place.length:Int)=g.1
  l2:(s.low.length:Int)=g.1
  l3:(s.by_.length:Int)=g.1
  l4:(s.next.length:Int)=g.1
  l5:(s.laid.length:Int)=g.2.length
  l6:(s.block.length:Int)=g.2.length
  nx:∀v,0<=v->v<g.1->0<=gI s.next v/\gI s.next v<=((gI (aY g) v).length:Int)
  pl:∀v,0<=v->v<g.1->0<=gI s.place v/\gI s.place v<=s.found
  f0:0<=s.found
  fn:s.found+(s.place.count 0:Int)=g.1
  by_:∀v,0<=v->v<g.1->gI s.by_ v= -1\/((0<=gI s.by_ v/\gI s.by_ v<2*(g.2.length:Int))/\dE g (gI s.by_ v)=v/\gI s.place v≠0)
  en:s.edges.Nodup
  el:∀e∈s.edges,(0<=e/\e<(g.2.length:Int))/\gI s.laid e=true
  ct:0<=s.count
  cl:s.count+(s.edges.length:Int)<=(s.laid.count true:Int)
  pn:path.Nodup
  pr:∀v∈path,(0<=v/\v<g.1)/\gI s.place v≠0
  p0:∀v,path.head? =some v->gI s.by_ v= -1
  pt:∀v∈path.tail,0<=gI s.by_ v
  pe:(de s.by_ path).Sublist s.edges
variable{g:bK}{s:Bs}{path:List Int}{e v w u hh:Int}
theorem lq{x:Int}{n:Nat}{v:Int}(h0:0<=v)(h1:v<n):gI (List.replicate n x) v=x:=by
 obtain⟨k,rfl⟩:∃k:Nat,v=(k:Int):=⟨v.toNat,by omega⟩
 have:k<n:=by omega
 simp[gI,this]
theorem eQ{l:List Int}{i:Nat}(hi:i<l.length){x:Int}(h0:l[i]=0)(hx:x≠0):(l.set i x).count 0+1=l.count 0:=by
 have hp:0<l.count 0:=List.count_pos_iff.2 (h0▸List.getElem_mem hi)
 rw[List.count_set hi,h0]
 simp[hx]
 omega
theorem gB{l:List Bool}{i:Nat}(hi:i<l.length)(h0:l[i]=false):(l.set i true).count true=l.count true+1:=by
 rw[List.count_set hi,h0]
 simp
theorem mH{l:List Bool}{i:Int}(h0:0<=i)(h1:i<l.length):∃h:i.toNat<l.length,gI l i=l[i.toNat]:=⟨by omega,by
 have:i.toNat<l.length:=by omega
 simp[gI,this]⟩
theorem kd{l:List Int}{i:Int}(h0:0<=i)(h1:i<l.length):∃h:i.toNat<l.length,gI l i=l[i.toNat]:=⟨by omega,by
 have:i.toNat<l.length:=by omega
 simp[gI,this]⟩
theorem dc.start(hm:bw g):dc g (ec g) []:=by
 have h0:=hm.1
 have r0:∀{x:Int} {v:Int},0<=v->v<g.1->gI (List.replicate g.1.toNat x) v=x:=λa b=>lq a (by omega)
 refine⟨by simp[ec];omega,by simp[ec];omega,by simp[ec];omega,by simp[ec];omega,by simp[ec],by simp[ec],λv a b=>?_,λv a b=>?_,Int.le_refl _,?_,λv a b=>.inl (r0 a b),List.nodup_nil,λe he=>absurd he List.not_mem_nil,Int.le_refl _,?_,List.nodup_nil,λv hv=>absurd hv List.not_mem_nil,λv hv=>by simp at hv,λv hv=>absurd hv List.not_mem_nil,List.Sublist.refl _⟩
 · show 0<=gI (List.replicate g.1.toNat (0:Int)) v/\_<=_
   rw[show gI (ec g).next v=gI (List.replicate g.1.toNat (0:Int)) v from rfl,r0 a b];omega
 · show 0<=gI (List.replicate g.1.toNat (0:Int)) v/\gI (List.replicate g.1.toNat (0:Int)) v<=0
   rw[r0 a b];omega
 · show(0:Int)+((List.replicate g.1.toNat (0:Int)).count 0:Int)=g.1
   rw[List.count_replicate];simp;omega
 · show(0:Int)+((([]:List Int)).length:Int)<=((List.replicate g.2.length false).count true:Int)
   simp
theorem dc.lay(h:dc g s path)(e0:0<=e)(e1:e<(g.2.length:Int))(hl:¬gI s.laid e=true):dc g (j8 s e) path/\e∉s.edges:=by
  have hl5:=h.l5
  obtain⟨hi,hg⟩:=mH (l:=s.laid) e0 (by omega)
  have hne:e∉s.edges:=λk=>hl (h.el e k).2
  have hf:s.laid[e.toNat]=false:=by rw[<-hg];simpa using hl
  have hc:=gB hi hf
  refine⟨⟨h.l1,h.l2,h.l3,h.l4,by show((s.laid.set e.toNat true).length:Int)=_;rw[List.length_set];exact hl5,h.l6,h.nx,h.pl,h.f0,h.fn,h.by_,?_,λx hx=>?_,h.ct,?_,h.pn,h.pr,h.p0,h.pt,h.pe.trans (List.sublist_append_left ..)⟩,hne⟩
  · show(s.edges++[e]).Nodup
    rw[List.nodup_append]
    exact⟨h.en,by simp,λa ha b hb=>by rw[List.mem_singleton.1 hb];exact λk=>hne (by rw[<-k];exact ha)⟩
  · show(0<=x/\x<_)/\gI (s.laid.set e.toNat true) x=true
    rcases List.mem_append.1 hx with k|k
    · obtain⟨a,b⟩:=h.el x k
      refine⟨a,?_⟩
      rw[dg e0 (by omega) a.1]
      split
      · rfl
      · exact b
    · rw[List.mem_singleton.1 k]
      exact⟨⟨e0,e1⟩,by rw[dg e0 (by omega) e0,if_pos rfl]⟩
  · show s.count+((s.edges++[e]).length:Int)<=((s.laid.set e.toNat true).count true:Int)
    rw[hc,List.length_append,List.length_singleton]
    have:=h.cl;omega
theorem kW{A B:List Int}{x:Int}(hB:x∉B):iQ (A++x::B) x=A.length:=by
 unfold iQ
 rw[List.reverse_append,List.reverse_cons,List.append_assoc,List.idxOf_append]
 rw[if_neg (by simpa using hB)]
 simp
theorem j7{l:List Int}{x:Int}(hn:l.Nodup)(hx:x∈l):∃A B,l=A++x::B/\x∉A/\x∉B/\iQ l x=A.length:=by
 obtain⟨A,B,e⟩:=List.append_of_mem hx
 have hn':=hn
 rw[e,List.nodup_append] at hn'
 have h1:x∉B:=(List.nodup_cons.1 hn'.2.1).1
 have h2:x∉A:=λk=>hn'.2.2 x k x (List.mem_cons_self ..) rfl
 exact⟨A,B,e,h2,h1,by rw[e];exact kW h1⟩
theorem gF(c:Int):∀(l b:List Int),(l.foldl (λb e=>b.set e.toNat c) b).length=b.length
 |[],b=>rfl
 |x::l,b=>by rw[List.foldl_cons,gF c l,List.length_set]
theorem dc.close(h:dc g s path)(he:e∈s.edges)(hp:(de s.by_ path).Sublist (s.edges.take (iQ s.edges e))):dc g (dp s e) path:=by
  obtain⟨A,B,e1,_,_,e2⟩:=j7 h.en he
  have hlt:iQ s.edges e<s.edges.length:=by rw[e2,e1];simp
  have hs:(s.edges.take (iQ s.edges e)).Sublist s.edges:=List.take_sublist _ _
  refine⟨h.l1,h.l2,h.l3,h.l4,h.l5,?_,h.nx,h.pl,h.f0,h.fn,h.by_,hs.nodup h.en,λx hx=>h.el x (hs.subset hx),by show 0<=s.count+1;have:=h.ct;omega,?_,h.pn,h.pr,h.p0,h.pt,hp⟩
  · show(((s.edges.drop (iQ s.edges e)).foldl (λb x=>b.set x.toNat s.count) s.block).length:Int)=_
    rw[gF];exact h.l6
  · show s.count+1+((s.edges.take (iQ s.edges e)).length:Int)<=(s.laid.count true:Int)
    rw[List.length_take]
    have:=h.cl;omega
theorem dc.lows(h:dc g s path)(x:Int)(k:Nat):dc g {s with low:=s.low.set k x} path:=
  {h with l2:=by show((s.low.set k x).length:Int)=_;rw[List.length_set];exact h.l2}
theorem dc.nexts(h:dc g s path)(u0:0<=u)(u1:u<g.1)(hn:¬gI s.next u=((gI (aY g) u).length:Int)):dc g {s with next:=s.next.set u.toNat (gI s.next u+1)} path:=
  {h with
    l4:=by show((s.next.set u.toNat _).length:Int)=_;rw[List.length_set];exact h.l4
    nx:=λx a b=>by
      show 0<=gI (s.next.set u.toNat (gI s.next u+1)) x/\gI (s.next.set u.toNat (gI s.next u+1)) x<=_
      rw[dg u0 (by have:=h.l4;omega) a]
      obtain⟨c,d⟩:=h.nx x a b
      split
      · rename_i k
        subst k
        obtain⟨c,d⟩:=h.nx x u0 u1
        omega
      · exact⟨c,d⟩}
theorem i9{b b':List Int}{p:List Int}(h:∀x∈p.tail,gI b x=gI b' x):de b p=de b' p:=by
 unfold de
 exact List.map_congr_left λx hx=>by rw[h x hx]
theorem fW{b:List Int}{p:List Int}(hp:p≠[])(x:Int):de b (p++[x])=de b p++[gI b x/2]:=by
 unfold de
 cases p with
 |nil=>exact absurd rfl hp
 |cons a l=>simp
theorem dc.grow(h:dc g s path)(hp:path≠[])(w0:0<=w)(w1:w<g.1)(hw:gI s.place w=0)(h0:0<=hh)(h1:hh<2*(g.2.length:Int))(ht:dE g hh=w)(he:(de s.by_ path++[hh/2]).Sublist s.edges):
    dc g (gH {s with by_:=s.by_.set w.toNat hh} w) (path++[w]):=by
  have l1:=h.l1
  have l2:=h.l2
  have l3:=h.l3
  have f0:=h.f0
  have hwp:w∉path:=λk=>(h.pr w k).2 hw
  have gp:∀x,0<=x->gI (s.place.set w.toNat (s.found+1)) x=if x=w then s.found+1 else gI s.place x:=λx a=>dg w0 (by omega) a
  have gb:∀x,0<=x->gI (s.by_.set w.toNat hh) x=if x=w then hh else gI s.by_ x:=λx a=>dg w0 (by omega) a
  obtain⟨hi,hg⟩:=kd (l:=s.place) w0 (by omega)
  have hc:=eQ hi (x:=s.found+1) (by rw[<-hg];exact hw) (by omega)
  refine⟨by show((s.place.set _ _).length:Int)=_;rw[List.length_set];exact l1,by show((s.low.set _ _).length:Int)=_;rw[List.length_set];exact l2,by show((s.by_.set _ _).length:Int)=_;rw[List.length_set];exact l3,h.l4,h.l5,h.l6,h.nx,λx a b=>?_,by show 0<=s.found+1;omega,?_,λx a b=>?_,h.en,h.el,h.ct,h.cl,?_,λx hx=>?_,λx hx=>?_,λx hx=>?_,?_⟩
  · show 0<=gI (s.place.set w.toNat (s.found+1)) x/\gI (s.place.set w.toNat (s.found+1)) x<=s.found+1
    rw[gp x a]
    have:=h.pl x a b
    split<;>omega
  · show s.found+1+((s.place.set w.toNat (s.found+1)).count 0:Int)=g.1
    have:=h.fn;omega
  · show gI (s.by_.set w.toNat hh) x= -1\/(0<=gI (s.by_.set w.toNat hh) x/\gI (s.by_.set w.toNat hh) x<_)/\dE g (gI (s.by_.set w.toNat hh) x)=x/\gI (s.place.set w.toNat (s.found+1)) x≠0
    rw[gb x a,gp x a]
    by_cases k:x=w
    · rw[if_pos k,if_pos k]
      exact .inr ⟨⟨h0,h1⟩,by rw[ht,k],by omega⟩
    · rw[if_neg k,if_neg k];exact h.by_ x a b
  · rw[List.nodup_append]
    exact⟨h.pn,by simp,λa ha b hb=>by rw[List.mem_singleton.1 hb];exact λk=>hwp (by rw[<-k];exact ha)⟩
  · show(0<=x/\x<g.1)/\gI (s.place.set w.toNat (s.found+1)) x≠0
    rcases List.mem_append.1 hx with k|k
    · obtain⟨a,b⟩:=h.pr x k
      refine⟨a,?_⟩
      rw[gp x a.1];split
      · omega
      · exact b
    · rw[List.mem_singleton.1 k]
      exact⟨⟨w0,w1⟩,by rw[gp w w0,if_pos rfl];omega⟩
  · show gI (s.by_.set w.toNat hh) x= -1
    cases hpe:path with
    |nil=>exact absurd hpe hp
    |cons a l=>
      rw[hpe] at hx
      have hxa:a=x:=by simpa using hx
      have hxp:x∈path:=by rw[hpe,<-hxa];exact List.mem_cons_self ..
      rw[gb x (h.pr x hxp).1.1,if_neg (λk=>hwp (by rw[<-k];exact hxp))]
      exact h.p0 x (by rw[hpe,hxa];rfl)
  · show 0<=gI (s.by_.set w.toNat hh) x
    have hx2:x∈path.tail\/x=w:=by
      cases hpe:path with
      |nil=>exact absurd hpe hp
      |cons a l=>
        rw[hpe] at hx
        simpa using hx
    rcases hx2 with k|k
    · have hxp:x∈path:=List.mem_of_mem_tail k
      rw[gb x (h.pr x hxp).1.1,if_neg (λj=>hwp (by rw[<-j];exact hxp))]
      exact h.pt x k
    · rw[k,gb w w0,if_pos rfl];exact h0
  · show(de (s.by_.set w.toNat hh) (path++[w])).Sublist s.edges
    rw[fW hp,gb w w0,if_pos rfl,i9 (b':=s.by_) (λx hx=>?_)]
    · exact he
    · have hxp:x∈path:=List.mem_of_mem_tail hx
      rw[gb x (h.pr x hxp).1.1,if_neg (λj=>hwp (by rw[<-j];exact hxp))]
theorem dc.first(h:dc g s [])(v0:0<=v)(v1:v<g.1)(hv:gI s.place v=0):dc g (gH s v) [v]:=by
  have l1:=h.l1
  have l2:=h.l2
  have f0:=h.f0
  have gp:∀x,0<=x->gI (s.place.set v.toNat (s.found+1)) x=if x=v then s.found+1 else gI s.place x:=λx a=>dg v0 (by omega) a
  obtain⟨hi,hg⟩:=kd (l:=s.place) v0 (by omega)
  have hc:=eQ hi (x:=s.found+1) (by rw[<-hg];exact hv) (by omega)
  refine⟨by show((s.place.set _ _).length:Int)=_;rw[List.length_set];exact l1,by show((s.low.set _ _).length:Int)=_;rw[List.length_set];exact l2,h.l3,h.l4,h.l5,h.l6,h.nx,λx a b=>?_,by show 0<=s.found+1;omega,?_,λx a b=>?_,h.en,h.el,h.ct,h.cl,by simp,λx hx=>?_,λx hx=>?_,λx hx=>absurd hx List.not_mem_nil,List.nil_sublist _⟩
  · show 0<=gI (s.place.set v.toNat (s.found+1)) x/\gI (s.place.set v.toNat (s.found+1)) x<=s.found+1
    rw[gp x a]
    have:=h.pl x a b
    split<;>omega
  · show s.found+1+((s.place.set v.toNat (s.found+1)).count 0:Int)=g.1
    have:=h.fn;omega
  · show gI s.by_ x= -1\/(0<=gI s.by_ x/\gI s.by_ x<_)/\dE g (gI s.by_ x)=x/\gI (s.place.set v.toNat (s.found+1)) x≠0
    rcases h.by_ x a b with k|⟨k1,k2,k3⟩
    · exact .inl k
    · refine .inr ⟨k1,k2,?_⟩
      rw[gp x a];split
      · omega
      · exact k3
  · rw[List.mem_singleton.1 hx]
    exact⟨⟨v0,v1⟩,by show gI (s.place.set v.toNat (s.found+1)) v≠0;rw[gp v v0,if_pos rfl];omega⟩
  · have:v=x:=by simpa using hx
    rw[<-this]
    rcases h.by_ v v0 v1 with k|⟨_,_,k⟩
    · exact k
    · exact absurd hv k
theorem fF(hp:path≠[]):path=path.dropLast++[gI path ((path.length:Int)-1)]:=by
 have e:gI path ((path.length:Int)-1)=path.getLast hp:=by
   have h:0<path.length:=List.length_pos_iff.2 hp
   have e1:((path.length:Int)-1).toNat=path.length-1:=by omega
   have h2:path.length-1<path.length:=by omega
   unfold gI
   rw[e1,List.getLast_eq_getElem,List.getD_eq_getElem?_getD,List.getElem?_eq_getElem h2]
   rfl
 rw[e];exact(List.dropLast_concat_getLast hp).symm
theorem dc.drop(h:dc g s path):dc g s path.dropLast:=by
  have hs:(path.dropLast).Sublist path:=List.dropLast_sublist _
  have ht:(path.dropLast.tail).Sublist path.tail:=hs.tail
  refine {h with pn:=hs.nodup h.pn,pr:=λv hv=>h.pr v (hs.subset hv),p0:=λv hv=>h.p0 v ?_,pt:=λv hv=>h.pt v (ht.subset hv),pe:=?_}
  · cases hp:path with
    |nil=>rw[hp] at hv;simp at hv
    |cons a l=>
      rw[hp] at hv
      cases l with
      |nil=>simp at hv
      |cons b l=>simpa using hv
  · unfold de
    exact(ht.map _).trans h.pe
theorem kQ{X A B:List Int}{x:Int}(h:(X++[x]).Sublist (A++x::B))(hA:x∉A)(hB:x∉B):X.Sublist A:=by
 obtain⟨l1,l2,e,h1,h2⟩:=List.sublist_append_iff.1 h
 by_cases hl2:l2=[]
 · subst hl2
   rw[List.append_nil] at e
   exact absurd (h1.subset (by rw[<-e];simp)) hA
 · obtain⟨l,y,rfl⟩:∃l y,l2=l++[y]:=⟨l2.dropLast,l2.getLast hl2,(List.dropLast_concat_getLast hl2).symm⟩
   have e2:X++[x]=(l1++l)++[y]:=by rw[e,List.append_assoc]
   obtain⟨e3,e4⟩:=List.append_inj' e2 rfl
   have ey:y=x:=by simpa using e4.symm
   subst ey
   cases l with
   |nil=>rw[e3,List.append_nil];exact h1
   |cons z l=>
     exfalso
     rw[List.cons_append] at h2
     rcases List.sublist_cons_iff.1 h2 with k|⟨r,k1,k2⟩
     · exact hB (k.subset (by simp))
     · have:r=l++[y]:=by
         injection k1 with _ q
         exact q.symm
       rw[this] at k2
       exact hB (k2.subset (by simp))
theorem dc.top(h:dc g s path)(hp:path≠[])(hv:v=gI path ((path.length:Int)-1))(hb:¬gI s.by_ v<0):gI s.by_ v/2∈s.edges/\(de s.by_ path.dropLast).Sublist (s.edges.take (iQ s.edges (gI s.by_ v/2))):=by
  have e0:=fF hp
  rw[<-hv] at e0
  have hd:path.dropLast≠[]:=by
    intro k
    rw[k] at e0
    have:=h.p0 v (by rw[e0];rfl)
    omega
  have pe:=h.pe
  rw[e0,fW hd] at pe
  have hm:gI s.by_ v/2∈s.edges:=pe.subset (by simp)
  obtain⟨A,B,e1,hA,hB,e2⟩:=j7 h.en hm
  refine⟨hm,?_⟩
  have:s.edges.take (iQ s.edges (gI s.by_ v/2))=A:=by
    rw[e2]
    conv=>lhs;rw[e1]
    simp
  rw[this]
  rw[e1] at pe
  exact kQ pe hA hB
theorem dc.leave(hm:bw g)(h:dc g s path)(hp:path≠[])(hv:v=gI path ((path.length:Int)-1)):dc g (ea g s v) path.dropLast:=by
 unfold ea
 by_cases c:gI s.by_ v<0
 · rw[if_pos c];exact h.drop
 · rw[if_neg c]
   obtain⟨h1,h2⟩:=h.top hp hv c
   simp only
   have hl:=h.lows (min (gI s.low (bA g (gI s.by_ v))) (gI s.low v)) (bA g (gI s.by_ v)).toNat
   split
   · exact hl.drop.close (s:={s with low:=s.low.set (bA g (gI s.by_ v)).toNat (min (gI s.low (bA g (gI s.by_ v))) (gI s.low v))}) h1 h2
   · exact hl.drop
theorem dc.take(hm:bw g)(h:dc g s path)(hp:path≠[])(h0:0<=hh)(h1:hh<2*(g.2.length:Int)):dc g (dW g s v hh).1 (if(dW g s v hh).2.2=true then path++[(dW g s v hh).2.1] else path):=by
 have ht:=fE hm h0 h1
 unfold dW
 by_cases c:gI s.laid (hh/2)=true
 · rw[if_pos c];exact h
 · rw[if_neg c]
   obtain⟨hl,hn⟩:=h.lay (e:=hh/2) (by omega) (by omega) c
   by_cases c2:dE g hh=v
   · rw[if_pos c2]
     show dc g (dp (j8 s (hh/2)) (hh/2)) path
     refine hl.close (by show hh/2∈s.edges++[hh/2];simp) ?_
     have e:iQ (s.edges++[hh/2]) (hh/2)=s.edges.length:=kW (A:=s.edges) (B:=[]) List.not_mem_nil
     show(de s.by_ path).Sublist ((s.edges++[hh/2]).take (iQ (s.edges++[hh/2]) (hh/2)))
     rw[e,List.take_left']
     · exact h.pe
     · rfl
   · rw[if_neg c2]
     by_cases c3:gI s.place (dE g hh)=0
     · rw[if_pos c3]
       show dc g (gH {j8 s (hh/2) with by_:=s.by_.set (dE g hh).toNat hh} (dE g hh)) (path++[dE g hh])
       exact hl.grow hp ht.1 ht.2 c3 h0 h1 rfl (h.pe.append (List.Sublist.refl _))
     · rw[if_neg c3]
       show dc g {j8 s (hh/2) with low:=s.low.set v.toNat (min (gI s.low v) (gI s.place (dE g hh)))} path
       exact hl.lows _ _
theorem dc.step(hm:bw g)(h:dc g s path)(hp:path≠[])(hu:u=gI path ((path.length:Int)-1)):dc g (cZ g s path u).1 (cZ g s path u).2:=by
 have hup:u∈path:=by
   have:=fF hp
   rw[<-hu] at this
   rw[this];simp
 obtain⟨⟨u0,u1⟩,_⟩:=h.pr u hup
 unfold cZ
 by_cases c:gI s.next u=((gI (aY g) u).length:Int)
 · rw[if_pos c];exact h.leave hm hp hu
 · rw[if_neg c]
   obtain⟨n0,n1⟩:=h.nx u u0 u1
   have hin:gI (gI (aY g) u) (gI s.next u)∈gI (aY g) u:=bV n0 (by omega)
   rw[e7 u0 u1] at hin
   have ho:=(hH hin).1
   rw[<-e7 u0 u1] at ho
   exact(h.nexts u0 u1 c).take hm hp ho.1 ho.2
end TL
