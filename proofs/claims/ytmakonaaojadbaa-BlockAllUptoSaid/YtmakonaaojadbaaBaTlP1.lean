/- Plain texts of this claim, part 1. By an AI agent. -/
import Derived.Test.YtmakonaaojadbaaBaTlP0
import Derived.Laws.StructEq
import Derived.OrdersHeld
/-
  TlDraw: regions that draw their order, taken operation by operation.
  By an AI agent.
-/
set_option linter.all false
namespace TL
open Go
def cr(n:Nat)(done:List Nat):Array Bool:=((List.range n).map λi=>decide (i∈done)).toArray
theorem dv(n:Nat)(done:List Nat)(j:Nat)(d:Bool):(cr n done).getD j d=if j<n then decide (j∈done) else d:=by
 unfold cr
 by_cases h:j<n
 · simp[h]
 · simp[h]
theorem dd{n i:Nat}(done:List Nat)(hi:i<n):(cr n done).setIfInBounds i true=cr n (i::done):=by
 apply Array.ext
 · simp[cr]
 · intro j h1 h2
   have hj:j<n:=by simpa[cr] using h2
   simp only[cr]
   by_cases hij:i=j
   · subst hij;simp
   · have:¬j=i:=λh=>hij h.symm
     simp[Array.getElem_setIfInBounds,hij,this]
section
variable{P:Program}{ops:Array Oper}{Q:Exit->Act->World->Prop}{md:Region.Mode}{qs:Nat->Bool}
def l9(P:Program)(md:Region.Mode)(ops:Array Oper)(qs:Nat->Bool)(Q:Exit->Act->World->Prop):Nat->Array Bool->Act->World->Prop
  |0,listed,a,w=>Region.ready md ops listed=[]/\Q .normal a w
  |fuel+1,listed,a,w=>(Region.ready md ops listed=[]->Q .normal a w)/\
    ∀i∈Region.ready md ops listed,if qs i then stOp P ops w i (λa'=>l9 P md ops qs Q fuel (listed.setIfInBounds i true) a' w) a
      else wpOp P ops Q i (l9 P md ops qs Q fuel (listed.setIfInBounds i true)) a w
theorem ga:∀(fuel:Nat) (listed:Array Bool) (a:Act) (w:World),l9 P md ops qs Q fuel listed a w->wpAny P md ops Q fuel listed a w
 |0,_,_,_,h=>h
 |fuel+1,listed,a,w,h=>by
   refine⟨h.1,λi hi=>?_⟩
   have h2:=h.2 i hi
   cases hq:qs i with
   |true=>
     simp only[hq,if_true] at h2
     exact wpOp_of_stOp (λa' h'=>ga fuel _ a' w h') h2
   |false=>
     simp only[hq,Bool.false_eq_true,if_false] at h2
     exact wpOp_mono (λa' w' h'=>ga fuel _ a' w' h') h2
theorem nS{i:Nat}{oi:Oper}{v:Value}{w:World}{M D:Array Bool}(hi:ops[i]? =some oi)(hsel:∀(j:Nat) (o:Oper) cs b,ops[j]? =some o->o.op≠ .select cs b)(hqi:qs i=true)
    (hM:∀j oj,ops[j]? =some oj->M.getD j false=false->j≠i->∃e∈oj.after,Region.binds md e=true/\M.getD e.on false=false)
    (hMq:∀j oj,ops[j]? =some oj->M.getD j false=true->D.getD j true=false->j≠i->qs j=true):
    ∀(fuel:Nat) (listed:Array Bool) (a:Act),listed.size=ops.size->(∀j,listed.getD j false=true->M.getD j false=true)->(∀j,listed.getD j true=false->D.getD j true=false)->
      (∀j oj,ops[j]? =some oj->j≠i->listed.getD j true=false->(∀e∈oj.after,Region.binds md e=true->e.on≠i)->oi.apart ops oj=true)->
      i∈Region.ready md ops listed->YieldsAt P ops w oi v a->
      l9 P md ops qs Q fuel (listed.setIfInBounds i true) (a.put oi.dst v) w->l9 P md ops qs Q (fuel+1) listed a w:=by
  intro fuel
  induction fuel with
  |zero=>
    intro listed a _ _ _ _ hr hy H
    refine⟨λh=>(by rw[h] at hr;cases hr),λj hj=>?_⟩
    by_cases hji:j=i
    · subst hji;rw[if_pos hqi];exact hy.stOp hi H
    · have:=ready_mono hj hji
      rw[H.1] at this
      cases this
  |succ fuel ih=>
    intro listed a hsz hsub hD hfree hr hy H
    refine⟨λh=>(by rw[h] at hr;cases hr),λj hj=>?_⟩
    by_cases hji:j=i
    · subst hji;rw[if_pos hqi];exact hy.stOp hi H
    · obtain⟨hjun,oj,hoj,hall⟩:=mem_ready.1 hj
      have hMj:M.getD j false=true:=by
        cases hm:M.getD j false with
        |true=>rfl
        |false=>
          obtain⟨e,he,hb,hn⟩:=hM j oj hoj hm hji
          have:=hsub _ (hall e he hb)
          rw[hn] at this;cases this
      have hqj:=hMq j oj hoj hMj (hD j hjun) hji
      have h1:=H.2 j (ready_mono hj hji)
      rw[if_pos hqj] at h1 ⊢
      have hnot:∀e∈oj.after,Region.binds md e=true->e.on≠i:=λe he hb heq=>by
        have h1:=hall e he hb
        have h0:=(mem_ready.1 hr).1
        rw[heq] at h1
        rw[getD_both h0] at h1
        cases h1
      have h2:=stOp_put hoj (hfree j oj hoj hji hjun hnot) (λcs b=>hsel i oi cs b hi) (λcs b=>hsel j oj cs b hoj) hy h1
      have hfree':∀k ok,ops[k]? =some ok->k≠i->(listed.setIfInBounds j true).getD k true=false->
          (∀e∈ok.after,Region.binds md e=true->e.on≠i)->oi.apart ops ok=true:=λk ok hk hki hun hno=>by
        refine hfree k ok hk hki ?_ hno
        by_cases hjk:j=k
        · subst hjk;exact hjun
        · rw[getD_set_ne true hjk] at hun;exact hun
      have hsub':∀k,(listed.setIfInBounds j true).getD k false=true->M.getD k false=true:=λk hk=>by
        by_cases hjk:j=k
        · subst hjk;exact hMj
        · rw[getD_set_ne false hjk] at hk;exact hsub k hk
      have hD':∀k,(listed.setIfInBounds j true).getD k true=false->D.getD k true=false:=λk hk=>by
        by_cases hjk:j=k
        · subst hjk;exact hD j hjun
        · rw[getD_set_ne true hjk] at hk;exact hD k hk
      refine stOp_mono (λa' h3=>ih (listed.setIfInBounds j true) a' (by simpa using hsz) hsub' hD' hfree' (ready_mono hr (Ne.symm hji)) h3.1 ?_) h2
      rw[Array.setIfInBounds_comm _ _ hji]
      exact h3.2
def aP{α:Type}(s:Sem α):Prop:=∀(P:Program) (w:World) (x:α) (w':World),s.run P w= .ok x w'->dT w.heap.size w w'
theorem aP.bind{α β:Type}{s:Sem α}{f:α->Sem β}(h:aP s)(hf:∀a,aP (f a)):aP (s>>=f):=by
 intro P w x w' hr
 rw[Sem.run_bind] at hr
 cases h1:s.run P w with
 |halt e w1=>rw[h1] at hr;cases hr
 |ok a w1=>
   rw[h1] at hr
   have k1:=h P w a w1 h1
   have k2:=hf a P w1 x w' hr
   exact k1.trans (k2.mono k1.size)
theorem aP.pure{α:Type}(a:α):aP (Pure.pure a:Sem α):=λP w x w' h=>by
 simp only[Sem.run_pure] at h
 cases h;exact dT.refl _ _
theorem aP.halt{α:Type}(e:Halt):aP (Sem.halt e:Sem α):=λP w x w' h=>by cases h
theorem aP.stuck{α:Type}(e:String):aP (Go.stuck e:Sem α):=aP.halt _
theorem aP.unsupported{α:Type}(e:Unsupported):aP (Go.unsupported e:Sem α):=aP.halt _
theorem aP.program:aP Go.program:=λP w x w' h=>by
 simp only[run_program] at h
 cases h;exact dT.refl _ _
theorem aP.new(o:Obj):aP (newObj o):=λP w x w' h=>by
 simp only[run_newObj] at h
 cases h
 exact(dT.refl _ w).alloc (Nat.le_refl _) o
theorem aP.typeInfo(t:TypeId):aP (Go.typeInfo t):=aP.bind aP.program λp=>by
 cases p.info? t with
 |some i=>exact aP.pure i
 |none=>exact aP.stuck _
theorem aP.underlying(t:TypeId):aP (Go.underlying t):=aP.bind aP.program λp=>by
 cases p.underlying t with
 |some i=>exact aP.pure i
 |none=>exact aP.stuck _
theorem aP.sizeOf(t:TypeId):aP (Go.sizeOf t):=aP.bind (aP.typeInfo t) λi=>aP.pure _
theorem aP.zeroValue(t:TypeId):aP (Go.zeroValue t):=aP.bind (aP.typeInfo t) λi=>by
 cases i.zero with
 |some v=>exact aP.pure v
 |none=>exact aP.unsupported _
theorem aP.newVar(t:TypeId)(v:Value):aP (Go.newVar t v):=aP.bind (aP.new _) λ_=>aP.pure _
theorem jn(t:TypeId)(len:Nat)(parts:Array (Nat×Value)):aP (Instr.buildSlice t len parts):=by
 unfold Instr.buildSlice
 refine aP.bind (aP.underlying t) λd=>?_
 split
 · refine aP.bind (aP.sizeOf _) λsize=>?_
   have tail:∀(elem:TypeId) (zero:Array Value),aP (match Instr.fill (λi=>some (i*size,size)) ((Array.range (len*size)).map (zero[· %zero.size]!)) parts.toList with
       |some cells=>(do pure (Value.slice (some (<-newRow elem cells)) len len):Sem Value)
       |_=>Go.stuck "buildSlice: a part of the wrong size"):=λelem zero=>by
     split
     · exact aP.bind (aP.bind (aP.new _) λ_=>aP.pure _) λ_=>aP.pure _
     · exact aP.stuck _
   by_cases h1:len*size>2^24
   · simp only[h1,if_true]
     refine aP.bind (aP.unsupported _) λx=>?_
     by_cases h2:len*size=0
     · rw[if_pos h2]
       exact aP.bind (aP.pure _) λzero=>tail _ zero
     · simp only[h2,if_false]
       exact aP.bind (aP.zeroValue _) λ_=>aP.bind (aP.pure _) λzero=>tail _ zero
   · simp only[h1,if_false]
     by_cases h2:len*size=0
     · rw[if_pos h2]
       exact aP.bind (aP.pure _) λzero=>tail _ zero
     · simp only[h2,if_false]
       exact aP.bind (aP.zeroValue _) λ_=>aP.bind (aP.pure _) λzero=>tail _ zero
 · exact aP.stuck _
theorem qY{P:Program}{w w':World}{s:Sem Value}{nx:Next}(h:(do pure (Next.value (<-s)):Sem Next).run P w= .ok nx w'):∃u,nx= .value u:=by
 rw[Sem.run_bind] at h
 cases hs:s.run P w with
 |ok a w1=>rw[hs] at h;cases h;exact⟨a,rfl⟩
 |halt e w1=>rw[hs] at h;cases h
theorem aP.load(a:Addr)(m:Mode):aP (Go.load a m):=λP w x w' h=>by
 simp only[Go.load,Sem.run] at h
 split at h
 · cases h;exact dT.refl _ _
 · split at h
   · cases h;exact dT.refl _ _
   · cases h
theorem aP.cells(a:Addr):∀(n i:Nat) (acc:Array Value),aP (loadCellsFrom a i n acc)
 |0,_,_=>aP.pure _
 |n+1,i,_=>aP.bind (aP.load _ _) λ_=>aP.cells a n (i+1) _
theorem aP.isAgg(t:TypeId):aP (Go.isAgg t):=aP.bind (aP.underlying t) λd=>by
 split<;>exact aP.pure _
theorem aP.error{α:Type}(m:String):aP (runtimePanic (.error m):Sem α):=aP.bind aP.program λp=>aP.halt _
theorem aP.asIntOf(v:Value):aP (Go.asIntOf v):=by
 unfold Go.asIntOf
 split
 · exact aP.pure _
 · exact aP.unsupported _
 · exact aP.stuck _
theorem aP.asInt(v:Value):aP (Go.asInt v):=aP.bind (aP.asIntOf v) λ_=>aP.pure _
theorem aP.choose(q:Question):aP (Go.choose q):=λP w x w' h=>by
 simp only[Go.choose,Sem.run] at h
 split at h
 · cases h;exact dT.refl _ _
 · cases h;exact⟨rfl,rfl,rfl,Nat.le_refl _,λ_ _=>rfl,Nat.le_succ _⟩
theorem aP.room(n:Nat):aP (askRoom n):=λP w x w' h=>by
 unfold askRoom at h
 split at h
 · simp only[Go.mark,Sem.run] at h
   cases h;exact⟨rfl,rfl,rfl,Nat.le_refl _,λ_ _=>rfl,Nat.le_refl _⟩
 · cases h;exact dT.refl _ _
theorem mg(t:TypeId)(a:Value):aP (Instr.loadAt t a):=by
 unfold Instr.loadAt
 refine aP.bind ?_ λb=>?_
 · unfold Instr.sureAddr
   split
   · exact aP.pure _
   · exact aP.stuck _
 · unfold loadVar
   refine aP.bind (aP.isAgg t) λc=>?_
   split
   · exact aP.bind (aP.sizeOf t) λn=>aP.bind (aP.cells _ _ _ _) λ_=>aP.pure _
   · exact aP.load _ _
theorem jZ(t:TypeId)(a b:Value):aP (Instr.makeSlice t a b):=by
 unfold Instr.makeSlice
 refine aP.bind (aP.underlying t) λd=>?_
 split
 · refine aP.bind (aP.asInt _) λl=>aP.bind (aP.asInt _) λc=>aP.bind (aP.typeInfo _) λi=>?_
   have tail:∀(c:Int) (l:Int) (elem:TypeId),aP (do
       let n:=c.toNat*(<-sizeOf elem)
       let zero<-if n=0 then pure #[] else do pure (<-zeroValue elem).cells
       let a<-newRow elem ((Array.range n).map (zero[· %zero.size]!))
       pure (Value.slice (some a) l.toNat c.toNat)):=λc l elem=>by
     refine aP.bind (aP.sizeOf _) λn=>?_
     have last:∀zero:Array Value,aP (do
       let a<-newRow elem ((Array.range (c.toNat*n)).map (zero[· %zero.size]!))
       pure (Value.slice (some a) l.toNat c.toNat)):=λzero=>aP.bind (aP.bind (aP.new _) λ_=>aP.pure _) λ_=>aP.pure _
     by_cases h:c.toNat*n=0
     · simp only[h,if_true]
       have:=last #[]
       simp only[h] at this
       exact aP.bind (aP.pure _) λ_=>aP.bind (aP.bind (aP.new _) λ_=>aP.pure _) λ_=>aP.pure _
     · simp only[h,if_false]
       exact aP.bind (aP.zeroValue _) λ_=>aP.bind (aP.pure _) λz=>last z
   dsimp only
   repeat' (first
     |exact aP.error _
     |exact aP.choose _
     |exact aP.room _
     |exact tail _ _ _
     |exact aP.pure _
     |refine aP.bind ?_ λ_=>?_
     |split)
 · exact aP.stuck _
def gT:Op->Bool
 | .alloc _| .box .. | .buildSlice .. | .load .. | .makeSlice .. =>true
 |_=>false
theorem nH{ρ:Operand->Value}{o:Oper}(h:gT o.op=true):aP (execOp ρ o):=by
 obtain⟨dst,op,ty,pos,after,g⟩:=o
 cases op<;>simp only[gT,Bool.false_eq_true] at h
 case alloc e=>exact aP.bind (aP.bind (aP.zeroValue _) λ_=>aP.bind (aP.newVar _ _) λ_=>aP.pure _) λ_=>aP.pure _
 case box e x=>exact aP.bind (aP.bind (aP.newVar _ _) λ_=>aP.pure _) λ_=>aP.pure _
 case buildSlice t n ps=>exact aP.bind (jn _ _ _) λ_=>aP.pure _
 case load t a=>exact aP.bind (mg _ _) λ_=>aP.pure _
 case makeSlice t a b=>exact aP.bind (jZ _ _ _) λ_=>aP.pure _
theorem pP{i:Nat}{oi:Oper}{v:Value}{w0:World}{M D:Array Bool}(hi:ops[i]? =some oi)(hsel:∀(j:Nat) (o:Oper) cs b,ops[j]? =some o->o.op≠ .select cs b)(hqi:qs i=true)
    (hQ:∀c a w,Q (.panic c) (a.put oi.dst v) w->Q (.panic c) a w)
    (hM:∀j oj,ops[j]? =some oj->M.getD j false=false->j≠i->∃e∈oj.after,Region.binds md e=true/\M.getD e.on false=false)
    (hMq:∀j oj,ops[j]? =some oj->M.getD j false=true->D.getD j true=false->j≠i->qs j=true\/gT oj.op=true):
    ∀(fuel:Nat) (listed:Array Bool) (a:Act) (w:World),dT w0.heap.size w0 w->(∀j,listed.getD j false=true->M.getD j false=true)->(∀j,listed.getD j true=false->D.getD j true=false)->
      (∀j oj,ops[j]? =some oj->j≠i->listed.getD j true=false->(∀e∈oj.after,Region.binds md e=true->e.on≠i)->oi.apart ops oj=true)->
      i∈Region.ready md ops listed->(∀w,dT w0.heap.size w0 w->YieldsAt P ops w oi v a)->
      l9 P md ops qs Q fuel (listed.setIfInBounds i true) (a.put oi.dst v) w->l9 P md ops qs Q (fuel+1) listed a w:=by
  intro fuel
  induction fuel with
  |zero=>
    intro listed a w hw _ _ _ hr hy H
    refine⟨λh=>(by rw[h] at hr;cases hr),λj hj=>?_⟩
    by_cases hji:j=i
    · subst hji;rw[if_pos hqi];exact(hy w hw).stOp hi H
    · have:=ready_mono hj hji
      rw[H.1] at this
      cases this
  |succ fuel ih=>
    intro listed a w hw hsub hD hfree hr hy H
    refine⟨λh=>(by rw[h] at hr;cases hr),λj hj=>?_⟩
    by_cases hji:j=i
    · subst hji;rw[if_pos hqi];exact(hy w hw).stOp hi H
    · obtain⟨hjun,oj,hoj,hall⟩:=mem_ready.1 hj
      have hMj:M.getD j false=true:=by
        cases hm:M.getD j false with
        |true=>rfl
        |false=>
          obtain⟨e,he,hb,hn⟩:=hM j oj hoj hm hji
          have:=hsub _ (hall e he hb)
          rw[hn] at this;cases this
      have hqj:=hMq j oj hoj hMj (hD j hjun) hji
      have h1:=H.2 j (ready_mono hj hji)
      have hnot:∀e∈oj.after,Region.binds md e=true->e.on≠i:=λe he hb heq=>by
        have h1:=hall e he hb
        have h0:=(mem_ready.1 hr).1
        rw[heq] at h1
        rw[getD_both h0] at h1
        cases h1
      have hap:=hfree j oj hoj hji hjun hnot
      have hfree':∀k ok,ops[k]? =some ok->k≠i->(listed.setIfInBounds j true).getD k true=false->
          (∀e∈ok.after,Region.binds md e=true->e.on≠i)->oi.apart ops ok=true:=λk ok hk hki hun hno=>by
        refine hfree k ok hk hki ?_ hno
        by_cases hjk:j=k
        · subst hjk;exact hjun
        · rw[getD_set_ne true hjk] at hun;exact hun
      have hsub':∀k,(listed.setIfInBounds j true).getD k false=true->M.getD k false=true:=λk hk=>by
        by_cases hjk:j=k
        · subst hjk;exact hMj
        · rw[getD_set_ne false hjk] at hk;exact hsub k hk
      have hD':∀k,(listed.setIfInBounds j true).getD k true=false->D.getD k true=false:=λk hk=>by
        by_cases hjk:j=k
        · subst hjk;exact hD j hjun
        · rw[getD_set_ne true hjk] at hk;exact hD k hk
      obtain⟨g1,g2,g3⟩:=Oper.apart_spec hap
      have keep:∀u w,dT w0.heap.size w0 w->YieldsAt P ops w oi v (a.put oj.dst u):=λu w hw=>
        (hy w hw).of_same (execOp_put oi (λcs b=>hsel i oi cs b hi) a oj.dst u g3) (wanted_put oi a oj.dst u g3)
      cases hqj':qs j with
      |true=>
        simp only[hqj',if_true] at h1 ⊢
        obtain⟨u,hyu,hK⟩:=yieldsAt_of_stOp hoj h1
        have hyj:YieldsAt P ops w oj u a:=by
          rcases hyu with⟨k1,k2⟩|⟨k1,k2⟩
          · refine .inl ⟨by rw[<-wanted_put oj a oi.dst v g1];exact k1,?_⟩
            rw[execOp_put oj (λcs b=>hsel j oj cs b hoj) a oi.dst v g1] at k2
            exact k2
          · exact .inr ⟨by rw[<-wanted_put oj a oi.dst v g1];exact k1,k2⟩
        refine hyj.stOp hoj (ih (listed.setIfInBounds j true) (a.put oj.dst u) w hw hsub' hD' hfree' (ready_mono hr (Ne.symm hji)) (keep u) ?_)
        rw[<-Act.put_comm a v u g2,Array.setIfInBounds_comm _ _ hji]
        exact hK
      |false=>
        have hkk:=hqj.resolve_left (by rw[hqj'];simp)
        simp only[hqj',Bool.false_eq_true,if_false] at h1 ⊢
        unfold wpOp at h1 ⊢
        simp only[hoj] at h1 ⊢
        rw[wanted_put oj a oi.dst v g1] at h1
        cases hwt:Region.wanted oj (yielded ops a.tmps) with
        |false=>
          simp only[hwt,Bool.false_eq_true,if_false] at h1 ⊢
          refine ih (listed.setIfInBounds j true) (a.put oj.dst undef) w hw hsub' hD' hfree' (ready_mono hr (Ne.symm hji)) (keep undef) ?_
          rw[<-Act.put_comm a v undef g2,Array.setIfInBounds_comm _ _ hji]
          exact h1
        |true=>
          simp only[hwt,if_true] at h1 ⊢
          have hke:=nH (ρ:=a.eval) hkk P w
          rcases h1 with h1|⟨h1,h2⟩
          · left
            unfold Oper.wp at h1 ⊢
            rw[execOp_put oj (λcs b=>hsel j oj cs b hoj) a oi.dst v g1] at h1
            obtain⟨dst,op,ty,pos,after,gd⟩:=oj
            cases hrun:(execOp a.eval ⟨dst,op,ty,pos,after,gd⟩).run P w with
            |halt x w'=>
              rw[hrun] at h1
              cases x<;>simp only[Oper.upon] at h1 ⊢
              case panic u=>exact hQ _ _ _ h1
            |ok nx w'=>
              rw[hrun] at h1
              have hb:=hke nx w' hrun
              have hw':dT w0.heap.size w0 w':=hw.trans (hb.mono hw.size)
              -- these operations yield values alone
              have hval:∃u,nx= .value u:=by
                cases op<;>simp only[gT,Bool.false_eq_true] at hkk
                all_goals exact qY hrun
              obtain⟨u,rfl⟩:=hval
              simp only[Oper.upon] at h1 ⊢
              refine ih (listed.setIfInBounds j true) (a.put dst u) w' hw' hsub' hD' hfree' (ready_mono hr (Ne.symm hji)) (keep u) ?_
              have h3:=h1
              rw[show(a.put oi.dst v).put dst u=(a.put dst u).put oi.dst v from Act.put_comm a v u g2,Array.setIfInBounds_comm _ _ (Ne.symm hji)] at h3
              exact h3
          · right
            refine⟨?_,h2⟩
            unfold Oper.asks at*
            rw[execOp_put oj (λcs b=>hsel j oj cs b hoj) a oi.dst v g1] at h1
            exact h1
theorem lz{i:Nat}{oi:Oper}{v:Value}(hi:ops[i]? =some oi)(hsel:∀(j:Nat) (o:Oper) cs b,ops[j]? =some o->o.op≠ .select cs b)(hqi:qs i=true)
    (hQ:∀c a w,Q (.panic c) (a.put oi.dst v) w->Q (.panic c) a w):
    ∀(fuel:Nat) (listed:Array Bool) (a:Act) (w:World),
      (∀j oj,ops[j]? =some oj->j≠i->listed.getD j true=false->(∀e∈oj.after,Region.binds md e=true->e.on≠i)->oi.apart ops oj=true)->
      i∈Region.ready md ops listed->Yields P ops oi v a->
      l9 P md ops qs Q fuel (listed.setIfInBounds i true) (a.put oi.dst v) w->l9 P md ops qs Q (fuel+1) listed a w:=by
  have hat:∀{a:Act} {w:World},Yields P ops oi v a->YieldsAt P ops w oi v a:=λ {a w} hy=>by
    rcases hy with⟨h1,h2⟩|⟨h1,h2⟩
    · exact .inl ⟨h1,.inl (h2 w)⟩
    · exact .inr ⟨h1,h2⟩
  intro fuel
  induction fuel with
  |zero=>
    intro listed a w _ hr hy H
    refine⟨λh=>(by rw[h] at hr;cases hr),λj hj=>?_⟩
    by_cases hji:j=i
    · subst hji;rw[if_pos hqi];exact(hat hy).stOp hi H
    · have:=ready_mono hj hji
      rw[H.1] at this
      cases this
  |succ fuel ih=>
    intro listed a w hfree hr hy H
    refine⟨λh=>(by rw[h] at hr;cases hr),λj hj=>?_⟩
    by_cases hji:j=i
    · subst hji;rw[if_pos hqi];exact(hat hy).stOp hi H
    · obtain⟨hjun,oj,hoj,hall⟩:=mem_ready.1 hj
      have h1:=H.2 j (ready_mono hj hji)
      have hnot:∀e∈oj.after,Region.binds md e=true->e.on≠i:=λe he hb heq=>by
        have h1:=hall e he hb
        have h0:=(mem_ready.1 hr).1
        rw[heq] at h1
        rw[getD_both h0] at h1
        cases h1
      have hap:=hfree j oj hoj hji hjun hnot
      have hfree':∀k ok,ops[k]? =some ok->k≠i->(listed.setIfInBounds j true).getD k true=false->
          (∀e∈ok.after,Region.binds md e=true->e.on≠i)->oi.apart ops ok=true:=λk ok hk hki hun hno=>by
        refine hfree k ok hk hki ?_ hno
        by_cases hjk:j=k
        · subst hjk;exact hjun
        · rw[getD_set_ne true hjk] at hun;exact hun
      cases hqj:qs j with
      |true=>
        simp only[hqj,if_true] at h1 ⊢
        -- a step that leaves the world
        have hy':=hy
        obtain⟨g1,g2,g3⟩:=Oper.apart_spec hap
        have keep:∀(a:Act),Yields P ops oi v a->∀u,Yields P ops oi v (a.put oj.dst u):=λa hy u=>
          hy.of_same (execOp_put oi (λcs b=>hsel i oi cs b hi) a oj.dst u g3) (wanted_put oi a oj.dst u g3)
        obtain⟨u,hyu,hK⟩:=yieldsAt_of_stOp hoj h1
        have hyj:YieldsAt P ops w oj u a:=by
          rcases hyu with⟨k1,k2⟩|⟨k1,k2⟩
          · refine .inl ⟨by rw[<-wanted_put oj a oi.dst v g1];exact k1,?_⟩
            rw[execOp_put oj (λcs b=>hsel j oj cs b hoj) a oi.dst v g1] at k2
            exact k2
          · exact .inr ⟨by rw[<-wanted_put oj a oi.dst v g1];exact k1,k2⟩
        refine hyj.stOp hoj (ih (listed.setIfInBounds j true) (a.put oj.dst u) w hfree' (ready_mono hr (Ne.symm hji)) (keep a hy u) ?_)
        rw[<-Act.put_comm a v u g2,Array.setIfInBounds_comm _ _ hji]
        exact hK
      |false=>
        simp only[hqj,Bool.false_eq_true,if_false] at h1 ⊢
        have h2:=wpOp_put hoj hap (λcs b=>hsel i oi cs b hi) (λcs b=>hsel j oj cs b hoj) hQ hy h1
        refine wpOp_mono (λa' w' h3=>ih (listed.setIfInBounds j true) a' w' hfree' (ready_mono hr (Ne.symm hji)) h3.1 ?_) h2
        rw[Array.setIfInBounds_comm _ _ hji]
        exact h3.2
end
section
variable{P:Program}{n:Nat}{l:List Oper}{qs:List Nat}{K:Fr->World->Prop}{f:Fr}{w:World}{done:List Nat}{fuel:Nat}
def iE(P:Program)(n:Nat)(l:List Oper)(qs:List Nat)(K:Fr->World->Prop)(fuel:Nat)(done:List Nat)(f:Fr)(w:World):Prop:=
  ∀a,Ag n a f->l9 P .any l.toArray (λi=>decide (i∈qs)) (λe a' w'=>e= .normal/\∃f',Ag n a' f'/\K f' w') fuel (cr l.length done) a w
theorem bA{fid:Nat}{R:Ending->World->Prop}{k:List Item}{id:Nat}(γ:aJ)(qs:List Nat)(hm:P.follows .mixedOrders=true)
   (h:∀w1,bp no γ w γ w1->iE P n l qs (eU P fid n R k) l.length [] f w1):eU P fid n R (.code (.region id l.toArray true)::k) f w:=
 i8 λa ha=>wp_region_any hm (by
   have h0:=ga _ _ _ _ (h _ (bp.refl _ _ _).drew a ha)
   have hmask:cr l.length []=Array.replicate l.toArray.size false:=by
     apply Array.ext
     · simp[cr]
     · intro j h1 h2;simp[cr]
   rw[hmask] at h0
   simpa using h0)
theorem cX{fid:Nat}{R:Ending->World->Prop}{k:List Item}{id:Nat}{σ:Type}(Mid:σ->Fr->World->Prop)(γ:aJ)(qs:List Nat)(hm:P.follows .mixedOrders=true)
    (h:(∀s f w,Mid s f w->eU P fid n R k f w)->∀w1,bp no γ w γ w1->iE P n l qs (eU P fid n R k) l.length [] f w1)(hk:∀s f w,Mid s f w->eU P fid n R k f w):eU P fid n R (.code (.region id l.toArray true)::k) f w:=
  bA γ qs hm (h hk)
def fD(l:List Oper)(done:List Nat)(i:Nat):Bool:=
 !done.contains i&&match l[i]? with
   |some o=>o.after.all λe=> !Region.binds .any e||done.contains e.on&&decide (e.on<l.length)
   |none=>false
def gV(l:List Oper)(done:List Nat)(i:Nat):Bool:=
 match l[i]? with
 |none=>false
 |some oi=>(List.range l.length).all λj=>j==i||done.contains j||match l[j]? with
     |some oj=>oj.after.any (λe=>Region.binds .any e&&e.on==i)||oi.apart l.toArray oj
     |none=>true
def lZ(l:List Oper)(qs done M:List Nat)(i:Nat):Bool:=
  ((List.range l.length).all λj=>M.contains j||j==i||match l[j]? with
      |some oj=>oj.after.any λe=>Region.binds .any e&& !M.contains e.on
      |none=>true)&&
  (M.all λj=>j==i||done.contains j||qs.contains j)&&(done.all λj=>M.contains j&&decide (j<l.length))&&M.all λj=>decide (j<l.length)
def g0(l:List Oper):Bool:=Region.noSelect l.toArray
theorem eW{i:Nat}(h:fD l done i=true):i<l.length/\i∈Region.ready .any l.toArray (cr l.length done):=by
 unfold fD at h
 simp only[Bool.and_eq_true,Bool.not_eq_true'] at h
 obtain⟨h1,h2⟩:=h
 split at h2
 · rename_i o ho
   have hlt:i<l.length:=(List.getElem?_eq_some_iff.1 ho).1
   refine⟨hlt,mem_ready.2 ⟨by rw[dv];simp[hlt];simpa using h1,o,by simpa using ho,λe he hb=>?_⟩⟩
   have h3:=Array.all_eq_true_iff_forall_mem.1 h2 e he
   simp only[hb,Bool.not_true,Bool.false_or,Bool.and_eq_true,decide_eq_true_eq] at h3
   rw[dv,if_pos h3.2]
   simpa using h3.1
 · cases h2
theorem fI{i:Nat}{oi:Oper}(hi:l[i]? =some oi)(h:gV l done i=true)(j:Nat)(oj:Oper)(hj:l.toArray[j]? =some oj)(hne:j≠i)(hun:(cr l.length done).getD j true=false)
   (hno:∀e∈oj.after,Region.binds .any e=true->e.on≠i):oi.apart l.toArray oj=true:=by
 have hj':l[j]? =some oj:=by simpa using hj
 have hlt:j<l.length:=(List.getElem?_eq_some_iff.1 hj').1
 unfold gV at h
 simp only[hi,List.all_eq_true,List.mem_range] at h
 have h1:=h j hlt
 rw[dv,if_pos hlt] at hun
 have hd:done.contains j=false:=by simpa using hun
 simp only[hj',Bool.or_eq_true,beq_iff_eq,hne,false_or,hd,Bool.false_eq_true] at h1
 rcases h1 with h1|h1
 · obtain⟨e,he,hb⟩:=Array.any_eq_true'.1 h1
   simp only[Bool.and_eq_true,beq_iff_eq] at hb
   exact absurd hb.2 (hno e he hb.1)
 · exact h1
theorem gQ(h:g0 l=true):∀(j:Nat) (o:Oper) cs b,l.toArray[j]? =some o->o.op≠ .select cs b:=Region.noSelect_spec h
theorem jF{i:Nat}(h:qs.contains i=true):decide (i∈qs)=true:=by simpa using h
variable{dst:Option Tmp}{op:Op}{ty:TypeId}{pos:String}{after:Array Edge}{g:Option (Nat×Bool)}{v:Value}
theorem dz(i:Nat)(M:List Nat)(hi:l[i]? =some ⟨dst,op,ty,pos,after,g⟩)(hn:g0 l=true)(hc:(qs.contains i&&fD l done i&&gV l done i&&lZ l qs done M i&&jP n ⟨dst,op,ty,pos,after,g⟩)=true)
    (hw:cU l ⟨dst,op,ty,pos,after,g⟩ f=true)(h:(execOp (ev f) ⟨dst,op,ty,pos,after,g⟩).run P w= .ok (.value v) w)(hk:iE P n l qs K fuel (i::done) (fF f dst v) w):iE P n l qs K (fuel+1) done f w:=by
  simp only[Bool.and_eq_true] at hc
  obtain⟨⟨⟨⟨hq,hr⟩,hf⟩,hb⟩,hd⟩:=hc
  obtain⟨hlt,hr'⟩:=eW hr
  intro a ha
  unfold lZ at hb
  simp only[Bool.and_eq_true,List.all_eq_true,List.mem_range] at hb
  obtain⟨⟨⟨b1,b2⟩,b3⟩,b4⟩:=hb
  have hgM:∀j,(cr l.length M).getD j false=true↔j∈M:=λj=>by
    rw[dv]
    by_cases hjl:j<l.length
    · simp[hjl]
    · simp only[hjl,if_false,Bool.false_eq_true,false_iff]
      exact λhm=>hjl (by simpa using b4 j hm)
  refine nS (v:=v) (M:=cr l.length M) (D:=cr l.length done) (by simpa using hi) (gQ hn) (jF hq) (λj oj hj hm hne=>?_) (λj oj hj hm hD hne=>?_) fuel _ a (by simp[cr]) (λj hj=>?_) (λj hj=>hj) (fI hi hf) hr' ?_ ?_
  · have hj':l[j]? =some oj:=by simpa using hj
    have hjl:j<l.length:=(List.getElem?_eq_some_iff.1 hj').1
    have h1:=b1 j hjl
    have hmM:M.contains j=false:=by
      cases hc:M.contains j with
      |false=>rfl
      |true=>have h9:=(hgM j).2 (by simpa using hc);rw[hm] at h9;cases h9
    simp only[hmM,hj',Bool.false_or,Bool.or_eq_true,beq_iff_eq,hne,false_or] at h1
    obtain⟨e,he,hbb⟩:=Array.any_eq_true'.1 h1
    simp only[Bool.and_eq_true,Bool.not_eq_true'] at hbb
    refine⟨e,he,hbb.1,?_⟩
    cases hc:(cr l.length M).getD e.on false with
    |false=>rfl
    |true=>
      have:=(hgM _).1 hc
      have h2:=hbb.2
      simp[this] at h2
  · have h1:=b2 j ((hgM j).1 hm)
    have hj':l[j]? =some oj:=by simpa using hj
    have hjl:j<l.length:=(List.getElem?_eq_some_iff.1 hj').1
    rw[dv,if_pos hjl] at hD
    have hd:done.contains j=false:=by simpa using hD
    simp only[Bool.or_eq_true,beq_iff_eq,hne,hd,false_or,Bool.false_eq_true] at h1
    exact jF h1
  · rw[dv] at hj
    split at hj
    · have h1:=b3 j (by simpa using hj)
      exact(hgM j).2 (by simpa using h1.1)
    · cases hj
  · refine .inl ⟨?_,.inl ?_⟩
    · rw[ha.yielded];exact hw
    · rw[ha.eval];exact h
  · rw[dd done hlt]
    exact hk _ (ha.put hd v)
def mt(l:List Oper)(qs done M:List Nat)(i:Nat):Bool:=
 ((List.range l.length).all λj=>M.contains j||j==i||match l[j]? with
     |some oj=>oj.after.any λe=>Region.binds .any e&& !M.contains e.on
     |none=>true)&&
 (M.all λj=>j==i||done.contains j||qs.contains j||match l[j]? with
     |some oj=>gT oj.op
     |none=>false)&&(done.all λj=>M.contains j&&decide (j<l.length))&&M.all λj=>decide (j<l.length)
theorem tY(i:Nat)(M:List Nat)(hi:l[i]? =some ⟨dst,op,ty,pos,after,g⟩)(hn:g0 l=true)(hc:(qs.contains i&&fD l done i&&gV l done i&&mt l qs done M i&&jP n ⟨dst,op,ty,pos,after,g⟩)=true)
    (hw:cU l ⟨dst,op,ty,pos,after,g⟩ f=true)(h:∀w',dT w.heap.size w w'->(execOp (ev f) ⟨dst,op,ty,pos,after,g⟩).run P w'= .ok (.value v) w')(hk:iE P n l qs K fuel (i::done) (fF f dst v) w):iE P n l qs K (fuel+1) done f w:=by
  simp only[Bool.and_eq_true] at hc
  obtain⟨⟨⟨⟨hq,hr⟩,hf⟩,hb⟩,hd⟩:=hc
  obtain⟨hlt,hr'⟩:=eW hr
  intro a ha
  unfold mt at hb
  simp only[Bool.and_eq_true,List.all_eq_true,List.mem_range] at hb
  obtain⟨⟨⟨b1,b2⟩,b3⟩,b4⟩:=hb
  have hgM:∀j,(cr l.length M).getD j false=true↔j∈M:=λj=>by
    rw[dv]
    by_cases hjl:j<l.length
    · simp[hjl]
    · simp only[hjl,if_false,Bool.false_eq_true,false_iff]
      exact λhm=>hjl (by simpa using b4 j hm)
  refine pP (v:=v) (w0:=w) (M:=cr l.length M) (D:=cr l.length done) (by simpa using hi) (gQ hn) (jF hq) (λc a w h=>by cases h.1) (λj oj hj hm hne=>?_) (λj oj hj hm hD hne=>?_) fuel _ a w (dT.refl _ _) (λj hj=>?_) (λj hj=>hj) (fI hi hf) hr' (λw' hw'=>?_) ?_
  · have hj':l[j]? =some oj:=by simpa using hj
    have hjl:j<l.length:=(List.getElem?_eq_some_iff.1 hj').1
    have h1:=b1 j hjl
    have hmM:M.contains j=false:=by
      cases hc:M.contains j with
      |false=>rfl
      |true=>have h9:=(hgM j).2 (by simpa using hc);rw[hm] at h9;cases h9
    simp only[hmM,hj',Bool.false_or,Bool.or_eq_true,beq_iff_eq,hne,false_or] at h1
    obtain⟨e,he,hbb⟩:=Array.any_eq_true'.1 h1
    simp only[Bool.and_eq_true,Bool.not_eq_true'] at hbb
    refine⟨e,he,hbb.1,?_⟩
    cases hc:(cr l.length M).getD e.on false with
    |false=>rfl
    |true=>
      have:=(hgM _).1 hc
      have h2:=hbb.2
      simp[this] at h2
  · have h1:=b2 j ((hgM j).1 hm)
    have hj':l[j]? =some oj:=by simpa using hj
    have hjl:j<l.length:=(List.getElem?_eq_some_iff.1 hj').1
    rw[dv,if_pos hjl] at hD
    have hd:done.contains j=false:=by simpa using hD
    simp only[hj',Bool.or_eq_true,beq_iff_eq,hne,hd,false_or,Bool.false_eq_true] at h1
    rcases h1 with h1|h1
    · exact .inl (jF h1)
    · exact .inr h1
  · rw[dv] at hj
    split at hj
    · have h1:=b3 j (by simpa using hj)
      exact(hgM j).2 (by simpa using h1.1)
    · cases hj
  · refine .inl ⟨?_,.inl ?_⟩
    · rw[ha.yielded];exact hw
    · rw[ha.eval];exact h w' hw'
  · rw[dd done hlt]
    exact hk _ (ha.put hd v)
theorem bV(i:Nat)(hi:l[i]? =some ⟨dst,op,ty,pos,after,g⟩)(hn:g0 l=true)(hc:(qs.contains i&&fD l done i&&gV l done i&&jP n ⟨dst,op,ty,pos,after,g⟩)=true)
    (hw:cU l ⟨dst,op,ty,pos,after,g⟩ f=true)(h:∀w,(execOp (ev f) ⟨dst,op,ty,pos,after,g⟩).run P w= .ok (.value v) w)(hk:iE P n l qs K fuel (i::done) (fF f dst v) w):iE P n l qs K (fuel+1) done f w:=by
  simp only[Bool.and_eq_true] at hc
  obtain⟨⟨⟨hq,hr⟩,hf⟩,hd⟩:=hc
  obtain⟨hlt,hr'⟩:=eW hr
  intro a ha
  refine lz (v:=v) (by simpa using hi) (gQ hn) (jF hq) (λc a w h=>by cases h.1) fuel _ a w (fI hi hf) hr' (.inl ⟨by rw[ha.yielded];exact hw,λw=>by rw[ha.eval];exact h w⟩) ?_
  rw[dd done hlt]
  exact hk _ (ha.put hd v)
theorem aT(i:Nat)(hi:l[i]? =some ⟨dst,op,ty,pos,after,g⟩)(hn:g0 l=true)(hc:(qs.contains i&&fD l done i&&gV l done i&&jP n ⟨dst,op,ty,pos,after,g⟩)=true)
   (hw:cU l ⟨dst,op,ty,pos,after,g⟩ f=false)(hk:iE P n l qs K fuel (i::done) (fF f dst undef) w):iE P n l qs K (fuel+1) done f w:=by
 simp only[Bool.and_eq_true] at hc
 obtain⟨⟨⟨hq,hr⟩,hf⟩,hd⟩:=hc
 obtain⟨hlt,hr'⟩:=eW hr
 intro a ha
 refine lz (v:=undef) (by simpa using hi) (gQ hn) (jF hq) (λc a w h=>by cases h.1) fuel _ a w (fI hi hf) hr' (.inr ⟨by rw[ha.yielded];exact hw,rfl⟩) ?_
 rw[dd done hlt]
 exact hk _ (ha.put hd undef)
theorem ff{i:Nat}{o:Oper}{a:Act}{K':Act->World->Prop}{Q:Exit->Act->World->Prop}{N:Value->World->Prop}(ha:Ag n a f)(hi:l[i]? =some o)(hw:cU l o f=true)(h:fA P o f w N)(hN:∀v w',N v w'->K' (a.put o.dst v) w'):wpOp P l.toArray Q i K' a w:=by
 unfold wpOp
 have hi':l.toArray[i]? =some o:=by simpa using hi
 simp only[hi']
 have hw':Region.wanted o (yielded l.toArray a.tmps)=true:=by rw[ha.yielded];exact hw
 simp only[hw',if_true]
 refine .inl ?_
 unfold Oper.wp
 rw[ha.eval]
 unfold fA at h
 generalize(execOp (ev f) o).run P w=r at*
 cases r with
 |halt x w'=>exact h.elim
 |ok nx w'=>
   cases nx<;>simp only[pj] at h<;>simp only[Oper.upon]
   case value v=>exact hN _ _ h
   case skip=>exact hN _ _ h
   case enter g args=>
     refine h.mono λe w'' he=>?_
     cases e with
     |returned v=>exact hN _ _ he
     |panicked c=>exact he.elim
     |outgrown=>exact he.elim
theorem bw(i:Nat)(hi:l[i]? =some ⟨dst,op,ty,pos,after,g⟩)(hc:(decide (Region.ready .any l.toArray (cr l.length done)=[i])&& !qs.contains i&&jP n ⟨dst,op,ty,pos,after,g⟩)=true)
    (hw:cU l ⟨dst,op,ty,pos,after,g⟩ f=true)(h:fA P ⟨dst,op,ty,pos,after,g⟩ f w (λv w'=>iE P n l qs K fuel (i::done) (fF f dst v) w')):iE P n l qs K (fuel+1) done f w:=by
  simp only[Bool.and_eq_true,decide_eq_true_eq,Bool.not_eq_true'] at hc
  obtain⟨⟨hr,hq⟩,hd⟩:=hc
  have hlt:i<l.length:=(List.getElem?_eq_some_iff.1 hi).1
  intro a ha
  refine⟨λh0=>(by rw[hr] at h0;cases h0),λj hj=>?_⟩
  rw[hr] at hj
  obtain rfl:j=i:=by simpa using hj
  have hq':decide (j∈qs)=false:=by simpa using hq
  simp only[hq',Bool.false_eq_true,if_false]
  refine ff ha hi hw h λv w' hk=>?_
  rw[dd done hlt]
  exact hk _ (ha.put hd v)
theorem fV(i j:Nat){dst':Option Tmp}{op':Op}{ty':TypeId}{pos':String}{after':Array Edge}{g':Option (Nat×Bool)}(hi:l[i]? =some ⟨dst,op,ty,pos,after,g⟩)(hj:l[j]? =some ⟨dst',op',ty',pos',after',g'⟩)
    (hc:(decide (Region.ready .any l.toArray (cr l.length done)=[i,j])&& !qs.contains i&& !qs.contains j&&jP n ⟨dst,op,ty,pos,after,g⟩&&jP n ⟨dst',op',ty',pos',after',g'⟩)=true)
    (hw:cU l ⟨dst,op,ty,pos,after,g⟩ f=true)(hw':cU l ⟨dst',op',ty',pos',after',g'⟩ f=true)
    (h:fA P ⟨dst,op,ty,pos,after,g⟩ f w (λv w'=>iE P n l qs K fuel (i::done) (fF f dst v) w'))(h':fA P ⟨dst',op',ty',pos',after',g'⟩ f w (λv w'=>iE P n l qs K fuel (j::done) (fF f dst' v) w')):iE P n l qs K (fuel+1) done f w:=by
  simp only[Bool.and_eq_true,decide_eq_true_eq,Bool.not_eq_true'] at hc
  obtain⟨⟨⟨⟨hr,hq⟩,hq2⟩,hd⟩,hd'⟩:=hc
  have hlt:i<l.length:=(List.getElem?_eq_some_iff.1 hi).1
  have hlt':j<l.length:=(List.getElem?_eq_some_iff.1 hj).1
  intro a ha
  refine⟨λh0=>(by rw[hr] at h0;cases h0),λk hk=>?_⟩
  rw[hr] at hk
  have hk':k=i\/k=j:=by simpa using hk
  rcases hk' with rfl|rfl
  · have hq':decide (k∈qs)=false:=by simpa using hq
    simp only[hq',Bool.false_eq_true,if_false]
    refine ff ha hi hw h λv w' hk=>?_
    rw[dd done hlt]
    exact hk _ (ha.put hd v)
  · have hq':decide (k∈qs)=false:=by simpa using hq2
    simp only[hq',Bool.false_eq_true,if_false]
    refine ff ha hj hw' h' λv w' hk=>?_
    rw[dd done hlt']
    exact hk _ (ha.put hd' v)
theorem c6(hr:decide (Region.ready .any l.toArray (cr l.length done)=[])=true)(h:K f w):iE P n l qs K 0 done f w:=λ_ ha=>⟨of_decide_eq_true hr,rfl,f,ha,h⟩
end
end TL
/-
  TlHold: regions that draw their order, where what is read stays: on the kit's OrdersHeld.
  By an AI agent.
-/
set_option linter.all false
namespace TL
open Go
section
variable{P:Program}{n:Nat}{l:List Oper}{S:World->Prop}{K:Fr->World->Prop}{f:Fr}{w:World}{done:List Nat}{fuel:Nat}
def qp(P:Program)(n:Nat)(l:List Oper)(S:World->Prop)(K:Fr->World->Prop)(fuel:Nat)(done:List Nat)(f:Fr)(w:World):Prop:=
  ∀a,Ag n a f->wpAnyH P .any l.toArray (λe a' w'=>e= .normal/\∃f',Ag n a' f'/\K f' w') S fuel (cr l.length done) a w
theorem bp.same{J:cI->Prop}{γ γ':aJ}{w w':World}(h:bp J γ w γ' w'):bp J γ w γ w':=⟨h.os,h.tape,h.output,h.size,λ_ _ _=>rfl,h.keep,h.drawn⟩
theorem lN{fid:Nat}{R:Ending->World->Prop}{k:List Item}{id:Nat}(γ:aJ)(J:cI->Prop)(hm:P.follows .mixedOrders=true)
   (h:∀w1,bp no γ w γ w1->qp P n l (λw'=>bp J γ w1 γ w') (eU P fid n R k) l.length [] f w1):eU P fid n R (.code (.region id l.toArray true)::k) f w:=
 i8 λa ha=>wp_region_held hm (by
   have h0:=h _ (bp.refl _ _ _).drew a ha
   have hmask:cr l.length []=Array.replicate l.toArray.size false:=by
     apply Array.ext
     · simp[cr]
     · intro j h1 h2;simp[cr]
   rw[hmask] at h0
   simpa using h0)
theorem d3{fid:Nat}{R:Ending->World->Prop}{k:List Item}{id:Nat}{σ:Type}(Mid:σ->Fr->World->Prop)(γ:aJ)(J:cI->Prop)(hm:P.follows .mixedOrders=true)
    (h:(∀s f w,Mid s f w->eU P fid n R k f w)->∀w1,bp no γ w γ w1->qp P n l (λw'=>bp J γ w1 γ w') (eU P fid n R k) l.length [] f w1)(hk:∀s f w,Mid s f w->eU P fid n R k f w):eU P fid n R (.code (.region id l.toArray true)::k) f w:=
  lN γ J hm (h hk)
variable{dst:Option Tmp}{op:Op}{ty:TypeId}{pos:String}{after:Array Edge}{g:Option (Nat×Bool)}{v:Value}
theorem u6(i:Nat)(hi:l[i]? =some ⟨dst,op,ty,pos,after,g⟩)(hn:g0 l=true)(hc:(fD l done i&&gV l done i&&jP n ⟨dst,op,ty,pos,after,g⟩)=true)
   (hw:cU l ⟨dst,op,ty,pos,after,g⟩ f=true)(hS:S w)(h:∀w,S w->(execOp (ev f) ⟨dst,op,ty,pos,after,g⟩).run P w= .ok (.value v) w)(hk:qp P n l S K fuel (i::done) (fF f dst v) w):qp P n l S K (fuel+1) done f w:=by
 simp only[Bool.and_eq_true] at hc
 obtain⟨⟨hr,hf⟩,hd⟩:=hc
 obtain⟨hlt,hr'⟩:=eW hr
 intro a ha
 refine wpAnyH_first (v:=v) (by simpa using hi) (gQ hn) (λc a w h=>by cases h.1) fuel _ a w (fI hi hf) hr' (.inl ⟨by rw[ha.yielded];exact hw,λw hs=>by rw[ha.eval];exact h w hs⟩) hS ?_
 rw[dd done hlt]
 exact hk _ (ha.put hd v)
def tU(P:Program)(n:Nat)(l:List Oper)(S:World->Prop)(K:Fr->World->Prop)(fuel:Nat)(done:List Nat)(f:Fr)(w:World)(i:Nat):Prop:=
  ∃o,l[i]? =some o/\i<l.length/\(cU l o f=true/\jP n o=true/\fA P o f w (λv w'=>S w'/\qp P n l S K fuel (i::done) (fF f o.dst v) w'))
theorem cA(i:Nat)(hi:l[i]? =some ⟨dst,op,ty,pos,after,g⟩)(hc:jP n ⟨dst,op,ty,pos,after,g⟩=true)(hw:cU l ⟨dst,op,ty,pos,after,g⟩ f=true)
   (h:fA P ⟨dst,op,ty,pos,after,g⟩ f w (λv w'=>S w'/\qp P n l S K fuel (i::done) (fF f dst v) w')):tU P n l S K fuel done f w i:=
 ⟨_,hi,(List.getElem?_eq_some_iff.1 hi).1,hw,hc,h⟩
def sB(P:Program)(n:Nat)(l:List Oper)(S:World->Prop)(K:Fr->World->Prop)(fuel:Nat)(done:List Nat)(f:Fr)(w:World):List Nat->Prop
 |[]=>True
 |i::r=>tU P n l S K fuel done f w i/\sB P n l S K fuel done f w r
theorem sB.mem{L:List Nat}(h:sB P n l S K fuel done f w L):∀i∈L,tU P n l S K fuel done f w i:=by
 induction L with
 |nil=>intro i hi;cases hi
 |cons j r ih=>
   intro i hi
   rcases List.mem_cons.1 hi with rfl|hi
   · exact h.1
   · exact ih h.2 i hi
theorem cD(i:Nat)(L:List Nat)(hr:decide (Region.ready .any l.toArray (cr l.length done)=i::L)=true)(h:sB P n l S K fuel done f w (i::L)):qp P n l S K (fuel+1) done f w:=by
 have hr:=of_decide_eq_true hr
 intro a ha
 refine⟨λh0=>(by rw[hr] at h0;cases h0),λk hk=>?_⟩
 rw[hr] at hk
 obtain⟨o,hi,hlt,hw,hd,ho⟩:=h.mem k (by simpa using hk)
 obtain⟨dst,op,ty,pos,after,g⟩:=o
 refine ff ha hi hw ho λv w' hk=>⟨hk.1,?_⟩
 rw[dd done hlt]
 exact hk.2 _ (ha.put hd v)
theorem aV(i:Nat)(hi:l[i]? =some ⟨dst,op,ty,pos,after,g⟩)(hc:(decide (Region.ready .any l.toArray (cr l.length done)=[i])&&jP n ⟨dst,op,ty,pos,after,g⟩)=true)
   (hw:cU l ⟨dst,op,ty,pos,after,g⟩ f=true)(h:fA P ⟨dst,op,ty,pos,after,g⟩ f w (λv w'=>S w'/\qp P n l S K fuel (i::done) (fF f dst v) w')):qp P n l S K (fuel+1) done f w:=by
 simp only[Bool.and_eq_true] at hc
 exact cD i [] hc.1 ⟨cA i hi hc.2 hw h,trivial⟩
theorem cy(hr:decide (Region.ready .any l.toArray (cr l.length done)=[])=true)(h:K f w):qp P n l S K 0 done f w:=λ_ ha=>⟨of_decide_eq_true hr,rfl,f,ha,h⟩
end
end TL
namespace TL
open Go
end TL
/-
  TlNet: nets, and what layer 3 says of them, as plain functions.
  By an AI agent.
-/
set_option linter.all false
namespace TL
abbrev bK:=Int×List (Int×Int)
def nv(n:Int)(e:Int×Int):Prop:=(0<=e.1/\e.1<n)/\0<=e.2/\e.2<n
instance (n:Int)(e:Int×Int):Decidable (nv n e):=by unfold nv;infer_instance
def bg(g:bK):Prop:=0<=g.1/\g.1<=1024/\g.2.length<=3072/\∀e∈g.2,nv g.1 e
instance (g:bK):Decidable (bg g):=by unfold bg;infer_instance
def d5(g:bK):Bool:=decide (bg g)
theorem lH{g:bK}(h:bg g):d5 g=true:=decide_eq_true h
theorem cN{g:bK}(h:¬bg g):d5 g=false:=decide_eq_false h
end TL
namespace TL
theorem bY{α:Type}[Inhabited α]{xs:List α}{i j:Int}{y:α}(hi:0<=i)(hi':i<xs.length)(hj:0<=j):gI (xs.set i.toNat y) j=if j=i then y else gI xs j:=by
 unfold gI
 by_cases h:j=i
 · subst h
   have:j.toNat<xs.length:=by omega
   simp[this]
 · have:i.toNat≠j.toNat:=by omega
   simp[h,List.getElem?_set_ne this]
theorem fm{α:Type}[Inhabited α]{n:Nat}{x:α}{i:Int}(h0:0<=i)(h1:i<n):gI (List.replicate n x) i=x:=by
 have:i.toNat<n:=by omega
 simp[gI,this]
end TL
namespace TL
end TL
namespace TL
end TL
namespace TL
def aw(g:bK)(h:Int):Int:=pI (gI g.2 (h/2)) (h%2)
def gG(g:bK)(v:Int)(k:Nat):List Int:=((List.range (2*k)).map (λ(i:Nat)=>(i:Int))).filter λh=>decide (aw g h=v)
def bL(g:bK)(v:Int):List Int:=gG g v g.2.length
theorem kW(g:bK)(k:Nat):aw g (2*(k:Int))=(gI g.2 k).1:=by
 unfold aw
 have h1:2*(k:Int)/2=k:=by omega
 have h2:2*(k:Int)%2=0:=by omega
 rw[h1,h2];rfl
theorem lB(g:bK)(k:Nat):aw g (2*(k:Int)+1)=(gI g.2 k).2:=by
 unfold aw
 have h1:(2*(k:Int)+1)/2=k:=by omega
 have h2:(2*(k:Int)+1)%2=1:=by omega
 rw[h1,h2];rfl
theorem nN(g:bK)(v:Int)(k:Nat):gG g v (k+1)=gG g v k++((if(gI g.2 k).1=v then[2*(k:Int)] else[])++(if(gI g.2 k).2=v then[2*(k:Int)+1] else[])):=by
 unfold gG
 rw[show 2*(k+1)=2*k+1+1 by omega,List.range_succ,List.range_succ]
 simp only[List.map_append,List.filter_append,List.map_cons,List.map_nil,List.append_assoc]
 congr 1
 have e1:((2*k:Nat):Int)=2*(k:Int):=by omega
 have e2:((2*k+1:Nat):Int)=2*(k:Int)+1:=by omega
 rw[e1,e2]
 congr 1
 · by_cases h:(gI g.2 (k:Int)).1=v
   · simp[kW,h]
   · simp[kW,h]
 · by_cases h:(gI g.2 (k:Int)).2=v
   · simp[lB,h]
   · simp[lB,h]
theorem pH(g:bK)(v:Int)(k:Nat):(gG g v k).length<=2*k:=by
 unfold gG
 have:=List.length_filter_le (λh=>decide (aw g h=v)) ((List.range (2*k)).map (λ(i:Nat)=>(i:Int)))
 simpa using this
end TL
namespace TL
theorem eV{α:Type}[Inhabited α]{l l':List α}(hl:l.length=l'.length)(h:∀i:Nat,i<l.length->gI l i=gI l' i):l=l':=by
 apply List.ext_getElem hl
 intro i h1 h2
 have:=h i h1
 simpa[gI,h1,h2] using this
end TL
namespace TL
end TL
namespace TL
end TL
namespace TL
section
variable{l0 l1:Int}{F:Int×Int->Int}{g:bK}{k:Nat}
end
end TL
/-
  TlNetLaws: what follows of nets: parts of parts, subs of subs.
  By an AI agent.
-/
set_option linter.all false
namespace TL
theorem tQ{l:List Int}(h:l.Nodup){i j:Int}(hi0:0<=i)(hi:i<l.length)(hj0:0<=j)(hj:j<l.length)(he:gI l i=gI l j):i=j:=by
 have h1:i.toNat<l.length:=by omega
 have h2:j.toNat<l.length:=by omega
 simp[gI,h1,h2] at he
 have:=(List.getElem_inj h).1 he
 omega
end TL
/-
  TlNetSums: degrees' sum; all edges, all nodes; moved there and back.
  By an AI agent.
-/
set_option linter.all false
namespace TL
def bJ(n:Nat):List Int:=(List.range n).map λ(i:Nat)=>(i:Int)
theorem cz(n:Nat):bJ (n+1)=bJ n++[(n:Int)]:=by simp[bJ,List.range_succ]
theorem fa{n:Nat}{x:Int}:x∈bJ n↔0<=x/\x<n:=by
 unfold bJ
 rw[List.mem_map]
 constructor
 · rintro⟨i,hi,rfl⟩
   have:=List.mem_range.1 hi
   omega
 · rintro⟨h1,h2⟩
   exact⟨x.toNat,List.mem_range.2 (by omega),by omega⟩
theorem iz(n:Nat):(bJ n).Nodup:=by
 induction n with
 |zero=>simp[bJ]
 |succ n ih=>
   rw[cz,List.nodup_append]
   refine⟨ih,by simp,λa ha b hb=>?_⟩
   have:=fa.1 ha
   have:=List.mem_singleton.1 hb
   omega
theorem pC{n:Nat}{i:Int}(h0:0<=i)(h1:i<n):gI (bJ n) i=i:=by
 have:i.toNat<n:=by omega
 simp[gI,bJ,this]
 omega
theorem nW:∀(n:Nat) (l:List Int),l.Nodup->(∀x∈l,0<=x/\x<(n:Int))->l.length<=n
 |0,l,_,h=>by
   cases l with
   |nil=>simp
   |cons a l=>have:=h a (by simp);omega
 |n+1,l,hn,h=>by
   have h1:(l.erase (n:Int)).Nodup:=hn.erase _
   have h2:=nW n (l.erase (n:Int)) h1 (λx hx=>by
     have h3:=hn.mem_erase_iff.1 hx
     have:=h x h3.2
     omega)
   by_cases hm:(n:Int)∈l
   · have:=List.length_erase_of_mem hm
     omega
   · rw[List.erase_of_not_mem hm] at h2
     omega
end TL
/-
  TlRef3: what the document's own answer of layer 3 goes through.
  By an AI agent.
-/
set_option linter.all false
namespace TL
def m9(g:bK)(v:Int)(h:Nat):List Int:=((List.range h).map (λ(i:Nat)=>(i:Int))).filter λh=>decide (aw g h=v)
theorem qd(g:bK)(v:Int)(h:Nat):m9 g v (h+1)=if aw g h=v then m9 g v h++[(h:Int)] else m9 g v h:=by
 unfold m9
 rw[List.range_succ,List.map_append,List.filter_append]
 by_cases e:aw g (h:Int)=v
 · rw[if_pos e];simp[e]
 · rw[if_neg e];simp[e]
theorem qV(g:bK)(v:Int)(h:Nat):(m9 g v h).length<=h:=by
 unfold m9
 have:=List.length_filter_le (λh=>decide (aw g h=v)) ((List.range h).map (λ(i:Nat)=>(i:Int)))
 simpa using this
theorem rF(g:bK)(v:Int){h:Nat}(hh:h=2*g.2.length):m9 g v h=bL g v:=by subst hh;rfl
theorem rC{g:bK}(hm:bg g){h:Int}(h0:0<=h)(h1:h<2*(g.2.length:Int)):0<=aw g h/\aw g h<g.1:=by
 have hok:=hm.2.2.2 _ (bP (xs:=g.2) (i:=h/2) (by omega) (by omega))
 unfold nv at hok
 unfold aw pI
 split<;>omega
end TL
/-
  TlInts: lists that are kept, written full, and read again.
  By an AI agent.
-/
set_option linter.all false
namespace TL
def eG(K:List (List Int))(s:Int):Prop:=(K.length:Int)<=s/\s<=1048576/\∀l∈K,l.length<=1048576
theorem eG.nil:eG [] 0:=⟨by simp,by omega,by simp⟩
theorem eG.add{K:List (List Int)}{s n:Int}{l:List Int}(h:eG K s)(h0:0<n)(h1:s+n<=1048576)(hl:(l.length:Int)<=n):eG (K++[l]) (s+n):=by
 obtain⟨a,b,c⟩:=h
 refine⟨by simp;omega,h1,λx hx=>?_⟩
 rcases List.mem_append.1 hx with hx|hx
 · exact c x hx
 · obtain rfl:=List.mem_singleton.1 hx
   omega
theorem eG.len{K:List (List Int)}{s:Int}(h:eG K s):(K.length:Int)<=s/\s<=1048576/\0<=s:=by
 obtain⟨a,b,c⟩:=h
 omega
structure jI(L:List (List Int))(i:Nat):Prop where
  le:(i:Int)<=L.length
  few:L.length<=1048576
  done:∀r:Nat,r<i->∀q:Nat,q<(gI L r).length->gI (gI L (r:Int)) (q:Int)= -1000-(r:Int)
  rest:∀r:Nat,i<=r->r<L.length->(gI L (r:Int)).length<=1048576
theorem eG.ap{K:List (List Int)}{s:Int}(h:eG K s):jI K 0:=by
 obtain⟨a,b,c⟩:=h
 refine⟨by simp,by omega,λr hr=>by omega,λr _ hr=>c _ (bP (by omega) (by omega))⟩
structure gL(L1 L:List (List Int))(i:Nat)(n:Int):Prop where
  len:L1.length=L.length
  le:((gI L1 i).length:Int)<=1050577
  other:∀r:Nat,r≠i->gI L1 (r:Int)=gI L (r:Int)
theorem gL.start{L:List (List Int)}{i:Nat}{n:Int}(h:jI L i)(hi:(i:Int)<L.length):gL L L i n:=⟨rfl,by have:=h.rest i (Nat.le_refl _) (by omega);omega,λr _=>rfl⟩
theorem gB{α:Type}[Inhabited α]{L:List α}{i r:Nat}{x:α}(h:r≠i):gI (L.set i x) (r:Int)=gI L (r:Int):=by
 simp[gI,List.getElem?_set_ne (Ne.symm h)]
theorem fX{α:Type}[Inhabited α]{L:List α}{i:Nat}{x:α}(h:(i:Int)<L.length):gI (L.set i x) (i:Int)=x:=by
 simp[gI,show i<L.length by omega]
theorem gL.next{L1 L:List (List Int)}{i:Nat}{n:Int}(h:gL L1 L i n)(hi:(i:Int)<L.length)(hn:((gI L1 i).length:Int)<n)(hb:n<=1050577):gL (L1.set (i:Int).toNat (gI L1 i++[0])) L i n:=by
 have hl:=h.len
 refine⟨by simpa using hl,?_,λr hr=>?_⟩
 · simp only[Int.toNat_natCast]
   rw[fX (by omega)];simp;omega
 · simp only[Int.toNat_natCast]
   rw[gB hr,h.other r hr]
theorem gL.meas{L1 L:List (List Int)}{i:Nat}{n:Int}(h:gL L1 L i n)(hi:(i:Int)<L.length):((gI (L1.set (i:Int).toNat (gI L1 i++[0])) i).length:Int)=(gI L1 i).length+1:=by
 have hl:=h.len
 simp only[Int.toNat_natCast]
 rw[fX (by omega)];simp
structure jU(L2 L:List (List Int))(i:Nat)(k:Nat):Prop where
  len:L2.length=L.length
  le:(k:Int)<=(gI L2 (i:Int)).length
  few:((gI L2 i).length:Int)<=1050577
  done:∀q:Nat,q<k->gI (gI L2 (i:Int)) (q:Int)= -1000-(i:Int)
  other:∀r:Nat,r≠i->gI L2 (r:Int)=gI L (r:Int)
theorem gL.wr{L1 L:List (List Int)}{i:Nat}{n:Int}(h:gL L1 L i n):jU L1 L i 0:=⟨h.len,by simp,h.le,λq hq=>by omega,h.other⟩
theorem jU.next{L2 L:List (List Int)}{i k:Nat}(h:jU L2 L i k)(hi:(i:Int)<L.length)(hk:(k:Int)<(gI L2 i).length):jU (L2.set (i:Int).toNat ((gI L2 i).set (k:Int).toNat (-1000-(i:Int)))) L i (k+1)/\(gI (L2.set (i:Int).toNat ((gI L2 i).set (k:Int).toNat (-1000-(i:Int)))) (i:Int)).length=(gI L2 (i:Int)).length:=by
 have hl:=h.len
 simp only[Int.toNat_natCast]
 have e:gI (L2.set i ((gI L2 (i:Int)).set k (-1000-(i:Int)))) (i:Int)=(gI L2 (i:Int)).set k (-1000-(i:Int)):=fX (by omega)
 refine⟨⟨by simpa using hl,by rw[e];simp;omega,by rw[e];simpa using h.few,λq hq=>?_,λr hr=>by rw[gB hr,h.other r hr]⟩,by rw[e];simp⟩
 rw[e]
 by_cases hq2:q=k
 · subst hq2;exact fX hk
 · rw[gB hq2];exact h.done q (by omega)
theorem jU.fin{L2 L:List (List Int)}{i k:Nat}(h:jU L2 L i k)(ha:jI L i)(hi:(i:Int)<L.length)(hk:¬(k:Int)<(gI L2 i).length):jI L2 (i+1):=by
 have hl:=h.len
 have hle:=h.le
 refine⟨by omega,by have:=ha.few;omega,λr hr q hq=>?_,λr h1 h2=>?_⟩
 · by_cases e:r=i
   · subst e;exact h.done q (by omega)
   · rw[h.other r e] at hq ⊢;exact ha.done r (by omega) q hq
 · rw[h.other r (by omega)];exact ha.rest r (by omega) (by omega)
theorem jI.read{L:List (List Int)}{m i k:Nat}(h:jI L m)(hm:(m:Int)=L.length)(hi:(i:Int)<L.length)(hk:(k:Int)<(gI L i).length):gI (gI L (i:Int)) (k:Int)= -1000-(i:Int):=h.done i (by omega) k (by omega)
end TL
namespace TL
end TL
namespace TL
end TL
/-
  TlKeep: rows of an own list given away one by one while the list stays readable; rows with a mark behind each.
  By an AI agent.
-/
set_option linter.all false
namespace TL
open Go
def j3(q i k:Nat):cI->Prop:=λc=>c.1=q\/(c.1=i/\c.2=0)\/c.1=k
theorem bp.l3{L:List Nat}{q i k:Nat}{γ γ':aJ}{w w':World}(h:bp (j3 q i k) γ w γ' w')(h1:L.contains q=true)(h2:L.contains i=true)(h3:L.contains k=true):bp (inl L) γ w γ' w':=h.mono λc hc=>by
 unfold inl
 rcases hc with hc|hc|hc
 · rw[hc];exact h1
 · rw[hc.1];exact h2
 · rw[hc];exact h3
section
variable{P:Program}{w:World}{t t':TypeId}{f:Fr}{x y:Operand}{dst:Option Tmp}{ty:TypeId}{pos:String}{after:Array Edge}{g:Option (Nat×Bool)}{N:Value->World->Prop}{α:Type}[Rp α]{γ:aJ}{v u:Value}{xss:List (List α)}{l:List α}{i k j:Nat}
end
section
variable{α:Type}[Rp α][Fl α]{γ γ':aJ}{w w':World}{v:Value}{us:List Vc}{xss:List (List α)}{i k j q:Nat}
end
inductive Rw where
  |mk (l:List Int) (m:Int)
  |pl (l:List Int)
instance:Inhabited Rw:=⟨.pl []⟩
theorem qf{α:Type}[Rp α]{γ:aJ}{S:cI->Prop}{w:World}{v:Value}{xs:List α}{m:α}(h:Sl γ S w (io v) (xs++[m])):∃a l c,v= .slice a l c:=by
 rcases h with⟨_,h0⟩|⟨b,off,cap,hv,_⟩
 · simp at h0
 · cases v<;>simp[io] at hv
   exact⟨_,_,_,rfl⟩
def uv(γ:aJ)(S:cI->Prop)(w:World)(v:Value):Rw->Prop
  | .mk l m=>Sl γ S w (io v) (l++[m])
  | .pl l=>Sl γ S w v l
theorem uv.one{γ:aJ}{S:cI->Prop}{w:World}{v:Value}{x:Rw}(h:uv γ S w v x):v.oneCell'=true:=by
 cases x with
 |mk l m=>
   obtain⟨a,b,c,rfl⟩:=qf h
   rfl
 |pl l=>
   rcases h with⟨⟨_,rfl⟩,_⟩|⟨b,off,cap,rfl,_⟩<;>rfl
theorem uv.tr{γ γ':aJ}{S S':cI->Prop}{w w':World}{v:Value}{x:Rw}(hsz:w.heap.size<=w'.heap.size)(h:∀b,b<w.heap.size->S (γ b)->w'.heap[b]? =w.heap[b]? /\S' (γ' b))(hx:uv γ S w v x):uv γ' S' w' v x:=by
 cases x with
 |mk l m=>exact Sl.tr h hx hsz
 |pl l=>exact Sl.tr h hx hsz
instance:Rp Rw where
 sz:=1
 rep γ S w cs x:=∃v,cs=[v]/\uv γ S w v x
 len:=by rintro _ _ _ _ _ ⟨v,rfl,_⟩;rfl
 one:=by
   rintro _ _ _ _ _ ⟨v,rfl,h⟩ u hu
   obtain rfl:u=v:=by simpa using hu
   exact h.one
 tr:=by
   rintro _ _ _ _ _ _ _ _ hs h ⟨v,rfl,hv⟩
   exact⟨v,rfl,hv.tr hs h⟩
section
variable{P:Program}{w:World}{t t':TypeId}{f:Fr}{x y:Operand}{dst:Option Tmp}{ty:TypeId}{pos:String}{after:Array Edge}{g:Option (Nat×Bool)}{N:Value->World->Prop}{γ:aJ}{v u:Value}{xss:List (List Int)}{l:List Int}{i:Nat}
end
end TL
/-
  TlEq: structs compared; a pointer looked at for nil; a bit turned.
  By an AI agent.
-/
set_option linter.all false
namespace TL
open Go
section
variable{P:Program}{f:Fr}{w:World}{dst:Option Tmp}{ty:TypeId}{pos:String}{after:Array Edge}{g:Option (Nat×Bool)}{t t' e:TypeId}{x y:Operand}
theorem ao{a:Addr}(hx:ev f x= .pointer (some a)):(execOp (ev f) ⟨dst,.nilCheck x,ty,pos,after,g⟩).run P w= .ok (.value (.pointer (some a))) w:=by
 simp only[execOp,hx,Sem.run_pure]
end
end TL
namespace TL
open Go
section
variable{P:Program}{f:Fr}{w:World}{dst:Option Tmp}{ty:TypeId}{pos:String}{after:Array Edge}{g:Option (Nat×Bool)}{t:TypeId}{x:Operand}
end
end TL
namespace TL
open Go
section
variable{P:Program}{f:Fr}{w:World}{dst:Option Tmp}{ty:TypeId}{pos:String}{after:Array Edge}{g:Option (Nat×Bool)}{t t':TypeId}{x y:Operand}{m n:Int}
end
end TL
namespace TL
open Go
theorem uC{f:Fr}{x:Operand}{xs:List Operand}{v:Value}{vs:List Value}(h:ev f x=v)(h2:xs.map (ev f)=vs):(x::xs).map (ev f)=v::vs:=by subst h h2;rfl
end TL
/-
  TlRot: rotations: which may be, turned to their least, faces.
  By an AI agent.
-/
set_option linter.all false
namespace TL
abbrev gC:=List (List Int)
def uW(g:bK)(r:gC):Prop:=(r.length:Int)=g.1/\(∀v:Nat,v<r.length->∀h∈gI r (v:Int),(0<=h/\h<2*(g.2.length:Int))/\aw g h=v)/\r.flatten.Nodup/\(r.flatten.length:Int)=2*g.2.length
instance (g:bK)(r:gC):Decidable (uW g r):=by unfold uW;infer_instance
theorem np{n:Int}{l:List Int}(h0:0<=n)(hn:l.Nodup)(h:∀x∈l,0<=x/\x<n):(l.length:Int)<=n:=by
 have:=nW n.toNat l hn (λx hx=>by have:=h x hx;omega)
 omega
section
variable{seen:List Bool}{n:Int}{g:bK}{r:gC}{k i:Nat}
end
end TL
namespace TL
end TL
/-
  TlMap: maps that the call makes.
  By an AI agent.
-/
set_option linter.all false
namespace TL
open Go
class Ky (K:Type) where
  val:K->Value
structure lu(P:Program)(kt:TypeId)(K:Type)[DecidableEq K][Ky K]:Prop where
 check:∀(b:Bool) (k:K) (w:World),(Instr.checkKey b 10000 kt (Ky.val k)).run P w= .ok () w
 find:∀(k:K) (es:List MapEntry) (ks:List K) (w:World),es.map (·.key)=ks.map Ky.val->(Instr.findKey kt (Ky.val k) es).run P w= .ok ((ks.findIdx? (· =k)).bind λi=>(es[i]?).map λe=>(i,e.val)) w
 bits:∀k:K,Instr.sameBits 10000 (Ky.val k) (Ky.val k)=true
structure dO(K:Type) where
  key:K
  val:Int
  born:Nat
def dU{K:Type}[Ky K](e:dO K):MapEntry:={key:=Ky.val e.key,val:=.int .i64 e.val,born:=e.born}
def fq{K:Type}[DecidableEq K](es:List (dO K))(k:K):Int:=((es.find? λe=>decide (e.key=k)).map (·.val)).getD 0
structure vj{K:Type}(es:List (dO K))(clock:Nat):Prop where
 keys:(es.map (·.key)).Nodup
 born:(es.map (·.born)).Nodup
 lt:∀e∈es,e.born<clock
def Mp{K:Type}[DecidableEq K][Ky K](γ:aJ)(J:cI->Prop)(w:World)(v:Value)(F:K->Int):Prop:=
  ∃(r:Nat) (es:List (dO K)) (clock:Nat),v= .map (some r)/\J (γ r)/\w.heap[r]? =some (.map (es.map dU).toArray clock)/\vj es clock/\F=fq es
def nE{K:Type}[DecidableEq K][Ky K](γ:aJ)(J:cI->Prop)(w:World)(v:Value)(F:K->Int)(s:Int)(k:K):Prop:=
  ∃(r:Nat) (es:List (dO K)) (clock:Nat),v= .map (some r)/\J (γ r)/\w.heap[r]? =some (.map (es.map dU).toArray clock)/\vj es clock/\F=fq es/\∃(i:Nat) (e:dO K),es[i]? =some e/\e.key=k/\(e.born:Int)=s
theorem Mp.chg{K:Type}[DecidableEq K][Ky K]{γ γ':aJ}{J J':cI->Prop}{w w':World}{v:Value}{F:K->Int}(h:Mp γ J w v F)(hc:bp J' γ w γ' w')(hJ:∀c,J c->¬J' c):Mp γ' J w' v F:=by
 obtain⟨r,es,clock,h1,h2,h3,h4⟩:=h
 exact⟨r,es,clock,h1,by rw[hc.col r (cT h3) (hJ _ h2)];exact h2,by rw[hc.keep r (cT h3) (hJ _ h2)];exact h3,h4⟩
theorem nE.chg{K:Type}[DecidableEq K][Ky K]{γ γ':aJ}{J J':cI->Prop}{w w':World}{v:Value}{F:K->Int}{s:Int}{k:K}(h:nE γ J w v F s k)(hc:bp J' γ w γ' w')(hJ:∀c,J c->¬J' c):nE γ' J w' v F s k:=by
 obtain⟨r,es,clock,h1,h2,h3,h4⟩:=h
 exact⟨r,es,clock,h1,by rw[hc.col r (cT h3) (hJ _ h2)];exact h2,by rw[hc.keep r (cT h3) (hJ _ h2)];exact h3,h4⟩
theorem Mp.bel{K:Type}[DecidableEq K][Ky K]{γ:aJ}{J:cI->Prop}{w w':World}{v:Value}{F:K->Int}(h:Mp γ J w v F)(hc:dT w.heap.size w w'):Mp γ J w' v F:=by
 obtain⟨r,es,clock,h1,h2,h3,h4⟩:=h
 exact⟨r,es,clock,h1,h2,by rw[hc.block r (cT h3)];exact h3,h4⟩
theorem i6{K:Type}[DecidableEq K][Ky K](es:List (dO K))(k:K):(((es.map (·.key)).findIdx? (· =k)).bind λi=>((es.map dU)[i]?).map λe=>(i,e.val))=((es.map (·.key)).findIdx? (· =k)).map λi=>(i,Value.int .i64 (fq es k)):=by
 cases h:(es.map (·.key)).findIdx? (· =k) with
 |none=>rfl
 |some i=>
   obtain⟨hi,hk,hlt⟩:=List.findIdx?_eq_some_iff_getElem.1 h
   have hi':i<es.length:=by simpa using hi
   have hke:es[i].key=k:=by simpa using hk
   have hf:es.find? (λe=>decide (e.key=k))=some es[i]:=by
     rw[List.find?_eq_some_iff_getElem]
     refine⟨by simpa using hke,i,hi',rfl,λj hj=>?_⟩
     have:=hlt j hj
     simpa using this
   simp[hi',dU,fq,hf]
section
variable{P:Program}{f:Fr}{w:World}{dst:Option Tmp}{ty:TypeId}{pos:String}{after:Array Edge}{g:Option (Nat×Bool)}{t:TypeId}{x y z:Operand}{N:Value->World->Prop}
theorem cG{r:Nat}{es:Array MapEntry}{clock:Nat}(h:w.heap[r]? =some (.map es clock)):(getObj r).run P w= .ok (.map es clock) w:=by
 simp[getObj,Sem.run,h]
theorem dQ{r:Nat}{es:Array MapEntry}{clock:Nat}{o:Obj}(h:w.heap[r]? =some (.map es clock)):(setObj r o).run P w= .ok () {w with heap:=w.heap.setIfInBounds r o}:=by
 simp[setObj,Sem.run,h]
theorem fE(γ:aJ){r:Nat}(o:Obj){J:cI->Prop}(hJ:J (γ r)):bp J γ w γ {w with heap:=w.heap.setIfInBounds r o}:=
 ⟨rfl,rfl,rfl,by simp,λ_ _ _=>rfl,λk _ hk=>by
   have:r≠k:=λh=>hk (h▸hJ)
   simp[Array.getElem?_setIfInBounds_ne this],Nat.le_refl _⟩
theorem f5{r:Nat}{o o':Obj}(h:w.heap[r]? =some o'):({w with heap:=w.heap.setIfInBounds r o}:World).heap[r]? =some o:=by
 have:=cT h
 simp[this]
theorem qg{K:Type}[DecidableEq K][Ky K](γ:aJ)(J:cI->Prop)(c:cI)(hJ:J c)(hk:∀γ' w' v,bp no γ w γ' w'->Mp (K:=K) γ' J w' v (λ_=>0)->N v w'):fA P ⟨dst,.makeMap t none,ty,pos,after,g⟩ f w N:=by
 refine az (v:=.map (some w.heap.size)) (w':=w.alloc (.map #[] 0)) (by simp[execOp,Instr.makeMap]) (hk (gN γ w.heap.size c) _ _ (fB γ w _ c) ⟨w.heap.size,[],0,rfl,by simpa[gN] using hJ,by rw[dr];rfl,⟨by simp,by simp,by simp⟩,?_⟩)
 funext k;simp[fq]
theorem bm{K:Type}[DecidableEq K][Ky K]{γ:aJ}{J:cI->Prop}{v u:Value}{F:K->Int}{kt et size bytes:Nat}{agg:Bool}(k:K)(ht:P.underlying t=some (.map kt et))(hk:lu P kt K)(he:Tp P et agg size bytes (.int .i64 0))(hx:ev f x=v)(hm:Mp γ J w v F)(hy:ev f y=u)(hu:u=Ky.val k):
   (execOp (ev f) ⟨dst,.lookup t x y false,ty,pos,after,g⟩).run P w= .ok (.value (.int .i64 (F k))) w:=by
 obtain⟨r,es,clock,rfl,hJ,hb,hok,rfl⟩:=hm
 obtain⟨i,hi,_,_,hz⟩:=he.info
 subst hu
 have hf:=hk.find k (es.map dU) (es.map (·.key)) w (by simp[dU,Function.comp_def])
 rw[i6] at hf
 cases h:(es.map (·.key)).findIdx? (· =k) with
 |none=>
   rw[h] at hf
   have h0:fq es k=0:=by
     have hn:es.find? (λe=>decide (e.key=k))=none:=by
       rw[List.find?_eq_none]
       intro e he
       have:=List.findIdx?_eq_none_iff.1 h (e.key) (List.mem_map_of_mem he)
       simpa using this
     simp[fq,hn]
   simp[execOp,hx,hy,Instr.lookup,aW ht,cG hb,hk.check,hf,ep hi hz,h0]
 |some i=>
   rw[h] at hf
   simp[execOp,hx,hy,Instr.lookup,aW ht,cG hb,hk.check,hf]
theorem bU{K:Type}[DecidableEq K][Ky K]{γ:aJ}{J:cI->Prop}{v u:Value}{F:K->Int}{kt et size bytes:Nat}{agg:Bool}(k:K)(ht:P.underlying t=some (.map kt et))(hk:lu P kt K)(he:Tp P et agg size bytes (.int .i64 0))(hx:ev f x=v)(hm:Mp γ J w v F)(hy:ev f y=u)(hu:u=Ky.val k)
   (hn:∀w' s,bp J γ w γ w'->nE γ J w' v F s k->N (.tuple (List.toArray [.int .i64 (F k),.int .i64 s])) w'):fA P ⟨dst,.mapEntry t x y,ty,pos,after,g⟩ f w N:=by
 obtain⟨r,es,clock,rfl,hJ,hb,hok,rfl⟩:=hm
 obtain⟨q,hi,_,_,hz⟩:=he.info
 subst hu
 have hf:=hk.find k (es.map dU) (es.map (·.key)) w (by simp[dU,Function.comp_def])
 rw[i6] at hf
 cases h:(es.map (·.key)).findIdx? (· =k) with
 |none=>
   rw[h] at hf
   have hnk:∀e∈es,e.key≠k:=λe he=>by
     have:=List.findIdx?_eq_none_iff.1 h (e.key) (List.mem_map_of_mem he)
     simpa using this
   have h0:fq es k=0:=by
     have hn:es.find? (λe=>decide (e.key=k))=none:=by
       rw[List.find?_eq_none]
       intro e he
       simpa using hnk e he
     simp[fq,hn]
   refine az (v:=.tuple (List.toArray [.int .i64 (fq es k),.int .i64 (clock:Int)])) (w':={w with heap:=w.heap.setIfInBounds r (.map ((es++[(⟨k,0,clock⟩:dO K)]).map dU).toArray (clock+1))}) ?_ ?_
   rotate_left
   · refine hn _ _ (fE γ _ hJ) ⟨r,es++[⟨k,0,clock⟩],clock+1,rfl,hJ,f5 hb,⟨?_,?_,?_⟩,?_,es.length,⟨k,0,clock⟩,by simp,rfl,rfl⟩
     rotate_left 3
     · funext k'
       simp only[fq,List.find?_append]
       by_cases hkk:k=k'
       · subst hkk
         have hn:es.find? (λe=>decide (e.key=k))=none:=by
           rw[List.find?_eq_none]
           intro e he
           simpa using hnk e he
         simp[hn]
       · cases es.find? (λe=>decide (e.key=k'))<;>simp[hkk]
     · rw[List.map_append,List.nodup_append]
       refine⟨hok.keys,by simp,λa ha b hb=>?_⟩
       obtain⟨e,he,rfl⟩:=List.mem_map.1 ha
       have:b=k:=by simpa using hb
       subst this;exact hnk e he
     · rw[List.map_append,List.nodup_append]
       refine⟨hok.born,by simp,λa ha b hb=>?_⟩
       obtain⟨e,he,rfl⟩:=List.mem_map.1 ha
       have:b=clock:=by simpa using hb
       subst this;exact Nat.ne_of_lt (hok.lt e he)
     · intro e he
       rcases List.mem_append.1 he with h|h
       · exact Nat.lt_succ_of_lt (hok.lt e h)
       · obtain rfl:=List.mem_singleton.1 h;exact Nat.lt_succ_self _
   · simp[execOp,hx,hy,Instr.mapEntry,aW ht,cG hb,hk.check,hf,ep hi hz,dQ hb,h0,dU,goInt]
 |some i=>
   rw[h] at hf
   obtain⟨hil,hke,_⟩:=List.findIdx?_eq_some_iff_getElem.1 h
   have hi':i<es.length:=by simpa using hil
   have hke':es[i].key=k:=by simpa using hke
   have hsame:(es.map dU).modify i (λe=>{e with key:=Ky.val k})=es.map dU:=by
     apply List.ext_getElem?
     intro j
     rw[List.getElem?_modify]
     by_cases hij:i=j
     · subst hij;simp[hi',dU,hke']
     · simp[hij]
   refine az (v:=.tuple (List.toArray [.int .i64 (fq es k),.int .i64 ((es[i].born:Nat):Int)])) (w':={w with heap:=w.heap.setIfInBounds r (.map (es.map dU).toArray clock)}) ?_
     (hn _ _ (fE γ _ hJ) ⟨r,es,clock,rfl,hJ,f5 hb,hok,rfl,i,es[i],by simp,hke',rfl⟩)
   have hkb:=hk.bits k
   have hold:(Instr.keyThatStays (Ky.val k) (Ky.val k)).run P w= .ok (Ky.val k) w:=by simp[Instr.keyThatStays,hkb]
   simp[execOp,hx,hy,Instr.mapEntry,aW ht,cG hb,hk.check,hf,hi',dU,hke',hold,dQ hb,goInt]
   rw[hsame]
theorem bG{K:Type}[DecidableEq K][Ky K]{γ:aJ}{J:cI->Prop}{v:Value}{F:K->Int}{s m:Int}{k:K}(hx:ev f x=v)(hm:nE γ J w v F s k)(hy:ev f y= .int .i64 s)(hz:ev f z= .int .i64 m)
   (hn:∀w',bp J γ w γ w'->Mp γ J w' v (λk'=>if k'=k then m else F k')->N undef w'):fA P ⟨dst,.entryStore t x y z,ty,pos,after,g⟩ f w N:=by
 obtain⟨r,es,clock,rfl,hJ,hb,hok,rfl,i,e,hie,rfl,rfl⟩:=hm
 have hi':i<es.length:=(List.getElem?_eq_some_iff.1 hie).1
 have hei:es[i]=e:=(List.getElem?_eq_some_iff.1 hie).2
 have hfi:((es.map dU).toArray.findIdx? (λq=>(q.born:Int)==(e.born:Int)))=some i:=by
   rw[List.findIdx?_toArray,List.findIdx?_eq_some_iff_getElem]
   refine⟨by simpa using hi',by simp[dU,hei],λj hj=>?_⟩
   have hj':j<es.length:=by omega
   have hne:es[j].born≠e.born:=λh=>by
     have h1:(es.map (·.born))[j]'(by simpa using hj')=(es.map (·.born))[i]'(by simpa using hi'):=by simp[hei,h]
     have:=(List.getElem_inj hok.born).1 h1
     omega
   simp[dU]
   omega
 have hmod:(es.map dU).modify i (λq=>{q with val:=.int .i64 m})=(es.modify i (λq=>{q with val:=m})).map dU:=by
   apply List.ext_getElem?
   intro j
   rw[List.getElem?_modify,List.getElem?_map,List.getElem?_map,List.getElem?_modify]
   by_cases hij:i=j
   · subst hij;simp[hi',dU]
   · simp[hij]
 have hkeys:(es.modify i (λq=>{q with val:=m})).map (·.key)=es.map (·.key):=by
   apply List.ext_getElem?
   intro j
   rw[List.getElem?_map,List.getElem?_map,List.getElem?_modify]
   by_cases hij:i=j
   · subst hij;simp[hi']
   · simp[hij]
 have hborn:(es.modify i (λq=>{q with val:=m})).map (·.born)=es.map (·.born):=by
   apply List.ext_getElem?
   intro j
   rw[List.getElem?_map,List.getElem?_map,List.getElem?_modify]
   by_cases hij:i=j
   · subst hij;simp[hi']
   · simp[hij]
 refine gv (w':={w with heap:=w.heap.setIfInBounds r (.map ((es.modify i (λq=>{q with val:=m})).map dU).toArray clock)}) ?_
   (hn _ (fE γ _ hJ) ⟨r,es.modify i (λq=>{q with val:=m}),clock,rfl,hJ,f5 hb,⟨by rw[hkeys];exact hok.keys,by rw[hborn];exact hok.born,λq hq=>?_⟩,?_⟩)
 · simp[execOp,hx,hy,hz,Instr.entryStore,cG hb,asInt,asIntOf,hfi,dQ hb]
   rw[<-hmod]
 · have:q.born∈es.map (·.born):=by rw[<-hborn];exact List.mem_map_of_mem hq
   obtain⟨q',hq',he'⟩:=List.mem_map.1 this
   rw[<-he'];exact hok.lt q' hq'
 · funext k'
   -- the entry of k' in the changed list
   have hfind:∀(l:List (dO K)),(l.map (·.key)).Nodup->∀j (hj:j<l.length),fq l l[j].key=l[j].val:=by
     intro l hl j hj
     have hf:l.find? (λe=>decide (e.key=l[j].key))=some l[j]:=by
       rw[List.find?_eq_some_iff_getElem]
       refine⟨by simp,j,hj,rfl,λq hq=>?_⟩
       have hne:l[q].key≠l[j].key:=λh=>by
         have h1:(l.map (·.key))[q]'(by simp;omega)=(l.map (·.key))[j]'(by simpa using hj):=by simp[h]
         have:=(List.getElem_inj hl).1 h1
         omega
       simpa using hne
     simp[fq,hf]
   by_cases hkk:k'=e.key
   · subst hkk
     rw[if_pos rfl]
     have h1:=hfind (es.modify i (λq=>{q with val:=m})) (by rw[hkeys];exact hok.keys) i (by simpa using hi')
     simp[List.getElem_modify,hei] at h1
     exact h1.symm
   · rw[if_neg hkk]
     have hfe:(es.modify i (λq=>{q with val:=m})).find? (λe=>decide (e.key=k'))=es.find? (λe=>decide (e.key=k')):=by
       have hgen:∀(l:List (dO K)) (i:Nat) (e:dO K),l[i]? =some e->k'≠e.key->(l.modify i (λq=>{q with val:=m})).find? (λe=>decide (e.key=k'))=l.find? (λe=>decide (e.key=k')):=by
         intro l
         induction l with
         |nil=>intro i e h;simp at h
         |cons a l ih=>
           intro i e h hne
           cases i with
           |zero=>
             obtain rfl:a=e:=by simpa using h
             have:decide (a.key=k')=false:=by simpa using λh=>hne h.symm
             simp[List.find?_cons,this]
           |succ i=>
             have h':l[i]? =some e:=by simpa using h
             simp only[List.modify_succ_cons,List.find?_cons,ih i e h' hne]
       exact hgen es i e hie hkk
     simp[fq,hfe]
end
instance:Ky Int where
 val k:=.int .i64 k
instance:Ky (Int×Int) where
 val k:=.agg (List.toArray [.int .i64 k.1,.int .i64 k.2])
theorem aX{P:Program}{kt e bytes:Nat}{z:Value}(ht:P.underlying kt=some (.array 2 e))(he:P.underlying e=some (.int .i64))(hp:Tp P e false 1 bytes z):lu P kt (Int×Int) where
 check b k w:=by
   obtain⟨i,hi,hs,_⟩:=hp.info
   have h0:=λ(x y:Int)=>gm (P:=P) (w:=w) (cs:= #[.int .i64 x,.int .i64 y]) (o:=0) hp (v:=.int .i64 x) (by rfl)
   have h1:=λ(x y:Int)=>gm (P:=P) (w:=w) (cs:= #[.int .i64 x,.int .i64 y]) (o:=1) hp (v:=.int .i64 y) (by rfl)
   have hr:(List.range' 0 2 1)=[0,1]:=rfl
   have hc:∀x:Int,(Instr.checkKey b 9999 e (.int .i64 x)).run P w= .ok () w:=λx=>by
     rw[Instr.checkKey]
     simp only[Sem.run_bind,aW he,Result.andThen_ok]
     rfl
   show(Instr.checkKey b (9999+1) kt _).run P w=_
   rw[Instr.checkKey]
   simp only[Ky.val,Sem.run_bind,aW ht,Result.andThen_ok]
   rw[Std.Legacy.Range.forIn_eq_forIn_range']
   simp only[Std.Legacy.Range.size,Nat.sub_zero,Nat.reduceAdd,Nat.reduceSub,Nat.div_one,hr]
   simp[cL hi,hs,h0,h1,hc]
 find k es ks w hm:=by
   have hfn:∀(es:List MapEntry) (i:Nat),es≠[]->(∀e∈es,∃c,e.key= .agg c)->Instr.findNow (.array 2 e) (Ky.val k) es i=none:=by
     intro es i h0 _
     cases es with
     |nil=>exact absurd rfl h0
     |cons a l=>simp[Instr.findNow,Instr.sameNow]
   have hask:∀(es:List MapEntry) (ks:List (Int×Int)) (i:Nat),es.map (·.key)=ks.map Ky.val->(Instr.findAsking kt (Ky.val k) es i).run P w= .ok ((ks.findIdx? (· =k)).bind λj=>(es[j]?).map λe=>(i+j,e.val)) w:=by
     intro es
     induction es with
     |nil=>
       intro ks i h
       have:ks=[]:=by cases ks<;>simp at h ⊢
       subst this;simp[Instr.findAsking]
     |cons a l ih=>
       intro ks i h
       cases ks with
       |nil=>simp at h
       |cons q ks=>
         simp only[List.map_cons,List.cons.injEq] at h
         obtain⟨ha,hl⟩:=h
         have heq:=gz (P:=P) (w:=w) (a:=k) (b:=q) ht he hp
         have heq':(Op.equal kt (Ky.val k) a.key).run P w= .ok (decide (k=q)) w:=by rw[ha];exact heq
         by_cases hkq:k=q
         · subst hkq
           simp[Instr.findAsking,heq',List.findIdx?_cons]
         · have hqk:¬q=k:=λh=>hkq h.symm
           have ih':=ih ks (i+1) hl
           simp[Instr.findAsking,heq',hkq,List.findIdx?_cons,hqk,ih']
           cases ks.findIdx? (λx=>decide (x=k)) with
           |none=>rfl
           |some j=>simp[Nat.add_comm 1 j,Nat.add_assoc]
   simp only[Instr.findKey,Sem.run_bind,aW ht,Result.andThen_ok]
   cases es with
   |nil=>
     have:ks=[]:=by cases ks<;>simp at hm ⊢
     subst this;simp[Instr.findNow]
   |cons a l=>
     rw[hfn (a::l) 0 (by simp) (λe he=>by
       have:e.key∈(a::l).map (·.key):=List.mem_map_of_mem he
       rw[hm] at this
       obtain⟨q,_,hq⟩:=List.mem_map.1 this
       exact⟨_,hq.symm⟩)]
     simp only[hask (a::l) ks 0 hm,Nat.zero_add]
 bits k:=by
   show Instr.sameBits (9999+1) _ _=true
   simp[Ky.val,Instr.sameBits]
theorem bS{P:Program}{kt:Nat}(ht:P.underlying kt=some (.int .i64)):lu P kt Int where
 check b k w:=by
   show(Instr.checkKey b (9999+1) kt _).run P w=_
   rw[Instr.checkKey]
   simp only[Ky.val,Sem.run_bind,aW ht,Result.andThen_ok]
   rfl
 find k es ks w hm:=by
   have hnow:∀(es:List MapEntry) (ks:List Int) (i:Nat),es.map (·.key)=ks.map Ky.val->Instr.findNow (.int .i64) (Ky.val k) es i=some ((ks.findIdx? (· =k)).bind λj=>(es[j]?).map λe=>(i+j,e.val)):=by
     intro es
     induction es with
     |nil=>
       intro ks i h
       have:ks=[]:=by cases ks<;>simp at h ⊢
       subst this;simp[Instr.findNow]
     |cons a l ih=>
       intro ks i h
       cases ks with
       |nil=>simp at h
       |cons q ks=>
         simp only[List.map_cons,List.cons.injEq] at h
         obtain⟨ha,hl⟩:=h
         have hs:Instr.sameNow (.int .i64) (Ky.val k) a.key=some (k==q):=by rw[ha];simp[Ky.val,Instr.sameNow]
         by_cases hkq:k=q
         · subst hkq
           simp[Instr.findNow,hs,List.findIdx?_cons]
         · have hqk:¬q=k:=λh=>hkq h.symm
           have ih':=ih ks (i+1) hl
           have hb:(k==q)=false:=by simpa using hkq
           simp[Instr.findNow,hs,hb,List.findIdx?_cons,hqk,ih']
           cases ks.findIdx? (λx=>decide (x=k)) with
           |none=>rfl
           |some j=>simp[Nat.add_comm 1 j,Nat.add_assoc]
   simp only[Instr.findKey,Sem.run_bind,aW ht,Result.andThen_ok,hnow es ks 0 hm,Nat.zero_add]
   rfl
 bits k:=by
   show Instr.sameBits (9999+1) _ _=true
   simp[Ky.val,Instr.sameBits]
end TL
namespace TL
open Go
theorem nE.mp{K:Type}[DecidableEq K][Ky K]{γ:aJ}{J:cI->Prop}{w:World}{v:Value}{F:K->Int}{s:Int}{k:K}(h:nE γ J w v F s k):Mp γ J w v F:=by
 obtain⟨r,es,clock,h1,h2,h3,h4,h5,_⟩:=h
 exact⟨r,es,clock,h1,h2,h3,h4,h5⟩
end TL
/-
  TlMapD: maps that the call makes, with the keys that they have.
  By an AI agent.
-/
set_option linter.all false
namespace TL
open Go
def Md{K:Type}[DecidableEq K][Ky K](γ:aJ)(J:cI->Prop)(w:World)(v:Value)(F:K->Int)(D:List K):Prop:=
 ∃(r:Nat) (es:List (dO K)) (clock:Nat),v= .map (some r)/\J (γ r)/\w.heap[r]? =some (.map (es.map dU).toArray clock)/\vj es clock/\F=fq es/\D=es.map (·.key)
variable{K:Type}[DecidableEq K][Ky K]
theorem Md.chg{γ γ':aJ}{J J':cI->Prop}{w w':World}{v:Value}{F:K->Int}{D:List K}(h:Md γ J w v F D)(hc:bp J' γ w γ' w')(hJ:∀c,J c->¬J' c):Md γ' J w' v F D:=by
 obtain⟨r,es,clock,h1,h2,h3,h4⟩:=h
 exact⟨r,es,clock,h1,by rw[hc.col r (cT h3) (hJ _ h2)];exact h2,by rw[hc.keep r (cT h3) (hJ _ h2)];exact h3,h4⟩
theorem Md.mp{γ:aJ}{J:cI->Prop}{w:World}{v:Value}{F:K->Int}{D:List K}(h:Md γ J w v F D):Mp γ J w v F:=by
 obtain⟨r,es,clock,h1,h2,h3,h4,h5,_⟩:=h
 exact⟨r,es,clock,h1,h2,h3,h4,h5⟩
theorem Md.bel{γ:aJ}{J:cI->Prop}{w w':World}{v:Value}{F:K->Int}{D:List K}(h:Md γ J w v F D)(hc:dT w.heap.size w w'):Md γ J w' v F D:=by
 obtain⟨r,es,clock,h1,h2,h3,h4⟩:=h
 exact⟨r,es,clock,h1,h2,by rw[hc.block r (cT h3)];exact h3,h4⟩
section
variable{P:Program}{f:Fr}{w:World}{dst:Option Tmp}{ty:TypeId}{pos:String}{after:Array Edge}{g:Option (Nat×Bool)}{t:TypeId}{x y z:Operand}{N:Value->World->Prop}
theorem kJ(γ:aJ)(J:cI->Prop)(c:cI)(hJ:J c)(hk:∀γ' w' v,bp no γ w γ' w'->Md (K:=K) γ' J w' v (λ_=>0) []->N v w'):fA P ⟨dst,.makeMap t none,ty,pos,after,g⟩ f w N:=by
 refine az (v:=.map (some w.heap.size)) (w':=w.alloc (.map #[] 0)) (by simp[execOp,Instr.makeMap]) (hk (gN γ w.heap.size c) _ _ (fB γ w _ c) ⟨w.heap.size,[],0,rfl,by simpa[gN] using hJ,by rw[dr];rfl,⟨by simp,by simp,by simp⟩,?_,rfl⟩)
 funext k;simp[fq]
theorem nm{γ:aJ}{J:cI->Prop}{v u:Value}{F:K->Int}{D:List K}{kt et size bytes:Nat}{agg:Bool}(k:K)(ht:P.underlying t=some (.map kt et))(hk:lu P kt K)(he:Tp P et agg size bytes (.int .i64 0))(hx:ev f x=v)(hm:Md γ J w v F D)(hy:ev f y=u)(hu:u=Ky.val k):
   (execOp (ev f) ⟨dst,.lookup t x y true,ty,pos,after,g⟩).run P w= .ok (.value (.tuple #[.int .i64 (F k),.bool (decide (k∈D))])) w:=by
 obtain⟨r,es,clock,rfl,hJ,hb,hok,rfl,rfl⟩:=hm
 obtain⟨i,hi,_,_,hz⟩:=he.info
 subst hu
 have hf:=hk.find k (es.map dU) (es.map (·.key)) w (by simp[dU,Function.comp_def])
 rw[i6] at hf
 cases h:(es.map (·.key)).findIdx? (· =k) with
 |none=>
   rw[h] at hf
   have hnk:k∉es.map (·.key):=λhmm=>by
     have:=List.findIdx?_eq_none_iff.1 h k hmm
     simp at this
   have h0:fq es k=0:=by
     have hn:es.find? (λe=>decide (e.key=k))=none:=by
       rw[List.find?_eq_none]
       intro e he
       have:=List.findIdx?_eq_none_iff.1 h (e.key) (List.mem_map_of_mem he)
       simpa using this
     simp[fq,hn]
   rw[decide_eq_false hnk]
   simp[execOp,hx,hy,Instr.lookup,aW ht,cG hb,hk.check,hf,ep hi hz,h0]
 |some i=>
   rw[h] at hf
   obtain⟨hil,hke,_⟩:=List.findIdx?_eq_some_iff_getElem.1 h
   have hke':(es.map (·.key))[i]=k:=by simpa using hke
   have hmm:k∈es.map (·.key):=by rw[<-hke'];exact List.getElem_mem hil
   rw[decide_eq_true hmm]
   simp[execOp,hx,hy,Instr.lookup,aW ht,cG hb,hk.check,hf]
theorem lk{γ:aJ}{J:cI->Prop}{v:Value}{F:K->Int}{D:List K}{kt et:Nat}(ht:P.underlying t=some (.map kt et))(hx:ev f x=v)(hm:Md γ J w v F D):
   (execOp (ev f) ⟨dst,.call {callee:=.builtin .len,args:= #[x],argTypes:= #[t]},ty,pos,after,g⟩).run P w= .ok (.value (.int .i64 (D.length:Int))) w:=by
 obtain⟨r,es,clock,rfl,hJ,hb,hok,rfl,rfl⟩:=hm
 simp[execOp,resolve,invoke,builtin,hx,Builtin.len_,aW ht,cG hb,goInt]
end
end TL
namespace TL
open Go
variable{K:Type}[DecidableEq K][Ky K]
theorem mX{es:List (dO K)}{m:Int}(hn:(es.map (·.key)).Nodup){i:Nat}{e:dO K}(hie:es[i]? =some e):fq (es.modify i (λq=>{q with val:=m}))=λk'=>if k'=e.key then m else fq es k':=by
 have hi':i<es.length:=(List.getElem?_eq_some_iff.1 hie).1
 have hei:es[i]=e:=(List.getElem?_eq_some_iff.1 hie).2
 have hkeys:(es.modify i (λq=>{q with val:=m})).map (·.key)=es.map (·.key):=by
   apply List.ext_getElem?
   intro j
   rw[List.getElem?_map,List.getElem?_map,List.getElem?_modify]
   by_cases hij:i=j
   · subst hij;simp[hi']
   · simp[hij]
 funext k'
 have hfind:∀(l:List (dO K)),(l.map (·.key)).Nodup->∀j (hj:j<l.length),fq l l[j].key=l[j].val:=by
   intro l hl j hj
   have hf:l.find? (λe=>decide (e.key=l[j].key))=some l[j]:=by
     rw[List.find?_eq_some_iff_getElem]
     refine⟨by simp,j,hj,rfl,λq hq=>?_⟩
     have hne:l[q].key≠l[j].key:=λh=>by
       have h1:(l.map (·.key))[q]'(by simp;omega)=(l.map (·.key))[j]'(by simpa using hj):=by simp[h]
       have:=(List.getElem_inj hl).1 h1
       omega
     simpa using hne
   simp[fq,hf]
 by_cases hkk:k'=e.key
 · subst hkk
   rw[if_pos rfl]
   have h1:=hfind (es.modify i (λq=>{q with val:=m})) (by rw[hkeys];exact hn) i (by simpa using hi')
   simp[List.getElem_modify,hei] at h1
   exact h1
 · rw[if_neg hkk]
   have hfe:(es.modify i (λq=>{q with val:=m})).find? (λe=>decide (e.key=k'))=es.find? (λe=>decide (e.key=k')):=by
     have hgen:∀(l:List (dO K)) (i:Nat) (e:dO K),l[i]? =some e->k'≠e.key->(l.modify i (λq=>{q with val:=m})).find? (λe=>decide (e.key=k'))=l.find? (λe=>decide (e.key=k')):=by
       intro l
       induction l with
       |nil=>intro i e h;simp at h
       |cons a l ih=>
         intro i e h hne
         cases i with
         |zero=>
           obtain rfl:a=e:=by simpa using h
           have:decide (a.key=k')=false:=by simpa using λh=>hne h.symm
           simp[List.find?_cons,this]
         |succ i=>
           have h':l[i]? =some e:=by simpa using h
           simp only[List.modify_succ_cons,List.find?_cons,ih i e h' hne]
     exact hgen es i e hie hkk
   simp[fq,hfe]
section
variable{P:Program}{f:Fr}{w:World}{dst:Option Tmp}{ty:TypeId}{pos:String}{after:Array Edge}{g:Option (Nat×Bool)}{t:TypeId}{x y z:Operand}{N:Value->World->Prop}
theorem iJ{γ:aJ}{J:cI->Prop}{v u:Value}{F:K->Int}{D:List K}{kt et:Nat}{m:Int}(k:K)(ht:P.underlying t=some (.map kt et))(hk:lu P kt K)(hx:ev f x=v)(hm:Md γ J w v F D)(hy:ev f y=u)(hu:u=Ky.val k)(hz:ev f z= .int .i64 m)
   (hn:∀w',bp J γ w γ w'->Md γ J w' v (λk'=>if k'=k then m else F k') (if k∈D then D else D++[k])->N undef w'):fA P ⟨dst,.mapUpdate t x y z,ty,pos,after,g⟩ f w N:=by
 obtain⟨r,es,clock,rfl,hJ,hb,hok,rfl,rfl⟩:=hm
 subst hu
 have hf:=hk.find k (es.map dU) (es.map (·.key)) w (by simp[dU,Function.comp_def])
 rw[i6] at hf
 cases h:(es.map (·.key)).findIdx? (· =k) with
 |none=>
   rw[h] at hf
   have hnk:∀e∈es,e.key≠k:=λe he=>by
     have:=List.findIdx?_eq_none_iff.1 h (e.key) (List.mem_map_of_mem he)
     simpa using this
   have hnD:k∉es.map (·.key):=λhmm=>by obtain⟨e,he,hke⟩:=List.mem_map.1 hmm;exact hnk e he hke
   refine gv (w':={w with heap:=w.heap.setIfInBounds r (.map ((es++[(⟨k,m,clock⟩:dO K)]).map dU).toArray (clock+1))}) ?_
     (hn _ (fE γ _ hJ) ⟨r,es++[⟨k,m,clock⟩],clock+1,rfl,hJ,f5 hb,⟨?_,?_,?_⟩,?_,by rw[if_neg hnD];simp⟩)
   · simp[execOp,hx,hy,hz,Instr.mapUpdate,aW ht,cG hb,hk.check,hf,dQ hb,dU]
   · rw[List.map_append,List.nodup_append]
     refine⟨hok.keys,by simp,λa ha b hb=>?_⟩
     have:b=k:=by simpa using hb
     subst this;intro e;subst e;exact hnD ha
   · rw[List.map_append,List.nodup_append]
     refine⟨hok.born,by simp,λa ha b hb=>?_⟩
     obtain⟨e,he,rfl⟩:=List.mem_map.1 ha
     have:b=clock:=by simpa using hb
     subst this;exact Nat.ne_of_lt (hok.lt e he)
   · intro e he
     rcases List.mem_append.1 he with h|h
     · exact Nat.lt_succ_of_lt (hok.lt e h)
     · obtain rfl:=List.mem_singleton.1 h;exact Nat.lt_succ_self _
   · funext k'
     simp only[fq,List.find?_append]
     by_cases hkk:k'=k
     · subst hkk
       have hn:es.find? (λe=>decide (e.key=k'))=none:=by
         rw[List.find?_eq_none]
         intro e he
         simpa using hnk e he
       simp[hn]
     · have hkk':¬k=k':=λe=>hkk e.symm
       rw[if_neg hkk]
       cases es.find? (λe=>decide (e.key=k'))<;>simp[hkk']
 |some i=>
   rw[h] at hf
   obtain⟨hil,hke,_⟩:=List.findIdx?_eq_some_iff_getElem.1 h
   have hi':i<es.length:=by simpa using hil
   have hke':es[i].key=k:=by simpa using hke
   have hmod:(es.map dU).modify i (λq=>{q with key:=Ky.val k,val:=.int .i64 m})=(es.modify i (λq=>{q with val:=m})).map dU:=by
     apply List.ext_getElem?
     intro j
     rw[List.getElem?_modify,List.getElem?_map,List.getElem?_map,List.getElem?_modify]
     by_cases hij:i=j
     · subst hij;simp[hi',dU,hke']
     · simp[hij]
   have hkeys:(es.modify i (λq=>{q with val:=m})).map (·.key)=es.map (·.key):=by
     apply List.ext_getElem?
     intro j
     rw[List.getElem?_map,List.getElem?_map,List.getElem?_modify]
     by_cases hij:i=j
     · subst hij;simp[hi']
     · simp[hij]
   have hborn:(es.modify i (λq=>{q with val:=m})).map (·.born)=es.map (·.born):=by
     apply List.ext_getElem?
     intro j
     rw[List.getElem?_map,List.getElem?_map,List.getElem?_modify]
     by_cases hij:i=j
     · subst hij;simp[hi']
     · simp[hij]
   have hkb:=hk.bits k
   have hold:(Instr.keyThatStays (Ky.val k) (Ky.val k)).run P w= .ok (Ky.val k) w:=by simp[Instr.keyThatStays,hkb]
   refine gv (w':={w with heap:=w.heap.setIfInBounds r (.map ((es.modify i (λq=>{q with val:=m})).map dU).toArray clock)}) ?_
     (hn _ (fE γ _ hJ) ⟨r,es.modify i (λq=>{q with val:=m}),clock,rfl,hJ,f5 hb,⟨by rw[hkeys];exact hok.keys,by rw[hborn];exact hok.born,λq hq=>?_⟩,?_,by rw[if_pos (by rw[<-hke'];exact List.mem_map_of_mem (List.getElem_mem hi')),hkeys]⟩)
   · simp[execOp,hx,hy,hz,Instr.mapUpdate,aW ht,cG hb,hk.check,hf,hi',dU,hke',hold,dQ hb]
     rw[<-hmod]
   · have:q.born∈es.map (·.born):=by rw[<-hborn];exact List.mem_map_of_mem hq
     obtain⟨q',hq',he'⟩:=List.mem_map.1 this
     rw[<-he'];exact hok.lt q' hq'
   · rw[mX hok.keys (e:=es[i]) (by simp),hke']
end
end TL
/-
  TlShort: short names for the commonest steps (used by packed claims only).
  By an AI agent.
-/
set_option linter.all false
namespace TL
open Go
abbrev vi(x:Int):Value:=Value.int .i64 x
abbrev vp(b o:Nat):Value:=Value.pointer (some ⟨b,o,none⟩)
abbrev vn:Value:=Value.slice none 0 0
abbrev vt(l:List Value):Value:=Value.tuple (List.toArray l)
abbrev vg(l:List Value):Value:=Value.agg (List.toArray l)
theorem cg(L:List Nat){γ γ':aJ}{w w':World}(h:bp (inl L) γ w γ' w'):bp (inl L) γ w γ' w':=h
theorem dt{p:Prop}[Decidable p](h:p):decide p=true:=decide_eq_true h
theorem df{p:Prop}[Decidable p](h:¬p):decide p=false:=decide_eq_false h
section
variable{P:Program}{all rest:List Oper}{K:Fr->World->Prop}{f:Fr}{w w':World}{x:Operand}
variable{dst:Option Tmp}{op:Op}{ty:TypeId}{pos:String}{after:Array Edge}{g:Option (Nat×Bool)}{o:Oper}
theorem lv(v:Value)(hw:cU all ⟨dst,op,ty,pos,after,g⟩ f=true)(h:(execOp (ev f) ⟨dst,op,ty,pos,after,g⟩).run P w= .ok (.value v) w')(hk:ik P all rest K (fF f dst v) w'):ik P all (⟨dst,op,ty,pos,after,g⟩::rest) K f w:=jS hw h hk
theorem lx{v:Value}(h:(execOp (ev f) ⟨dst,op,ty,pos,after,none⟩).run P w= .ok (.value v) w')(hk:ik P all rest K (fF f dst v) w'):ik P all (⟨dst,op,ty,pos,after,none⟩::rest) K f w:=jS rfl h hk
theorem lw(v:Value)(h:(execOp (ev f) ⟨dst,op,ty,pos,after,none⟩).run P w= .ok (.value v) w')(hk:ik P all rest K (fF f dst v) w'):ik P all (⟨dst,op,ty,pos,after,none⟩::rest) K f w:=jS rfl h hk
theorem mv(v:Value)(hk:ik P all rest K (fF f dst v) w)(h:ev f x=v:=by exact rfl):ik P all (⟨dst,.move x,ty,pos,after,none⟩::rest) K f w:=jS rfl (au h) hk
theorem ma(v:Value)(hk:ik P all rest K (fF f dst v) w)(h:ev f x=v:=by exact rfl):ik P all (⟨dst,.assign x,ty,pos,after,none⟩::rest) K f w:=jS rfl (c7 h) hk
theorem mi(v:Int)(hk:ik P all rest K (fF f dst (.int .i64 v)) w)(h:ev f x= .int .i64 v:=by exact rfl):ik P all (⟨dst,.move x,ty,pos,after,none⟩::rest) K f w:=jS rfl (au h) hk
theorem ai(v:Int)(hk:ik P all rest K (fF f dst (.int .i64 v)) w)(h:ev f x= .int .i64 v:=by exact rfl):ik P all (⟨dst,.assign x,ty,pos,after,none⟩::rest) K f w:=jS rfl (c7 h) hk
theorem mz{v:Value}(h:ev f x=v)(hk:ik P all rest K (fF f dst v) w):ik P all (⟨dst,.move x,ty,pos,after,none⟩::rest) K f w:=jS rfl (au h) hk
theorem lo(h:fA P ⟨dst,op,ty,pos,after,none⟩ f w (λv w'=>ik P all rest K (fF f dst v) w')):ik P all (⟨dst,op,ty,pos,after,none⟩::rest) K f w:=db rfl h
theorem wy{j:Nat}{x:Bool}{d:Nat}{b:Bool}(hx:b=x)(hg:o.guard=some (j,x):=by exact rfl)(hj:(all[j]?).bind (·.dst)=some d:=by exact rfl)(hb:f d= .bool b:=by exact rfl):cU all o f=true:=tP hg hj hb hx
theorem wn{j:Nat}{x:Bool}{d:Nat}{b:Bool}(hx:b= !x)(hg:o.guard=some (j,x):=by exact rfl)(hj:(all[j]?).bind (·.dst)=some d:=by exact rfl)(hb:f d= .bool b:=by exact rfl):cU all o f=false:=uq hg hj hb hx
variable{C:World->Prop}{KQ:Fr->Prop}
theorem qv(v:Value)(h:∀w,C w->(execOp (ev f) ⟨dst,op,ty,pos,after,none⟩).run P w= .ok (.value v) w)(hk:kd P all C rest KQ (fF f dst v)):kd P all C (⟨dst,op,ty,pos,after,none⟩::rest) KQ f:=bt rfl h hk
theorem qx{v:Value}(h:∀w,C w->(execOp (ev f) ⟨dst,op,ty,pos,after,none⟩).run P w= .ok (.value v) w)(hk:kd P all C rest KQ (fF f dst v)):kd P all C (⟨dst,op,ty,pos,after,none⟩::rest) KQ f:=bt rfl h hk
theorem qm(v:Value)(hk:kd P all C rest KQ (fF f dst v))(h:ev f x=v:=by exact rfl):kd P all C (⟨dst,.move x,ty,pos,after,none⟩::rest) KQ f:=bt rfl (λ_ _=>au h) hk
theorem qz{v:Value}(h:ev f x=v)(hk:kd P all C rest KQ (fF f dst v)):kd P all C (⟨dst,.move x,ty,pos,after,none⟩::rest) KQ f:=bt rfl (λ_ _=>au h) hk
end
section
variable{P:Program}{n:Nat}{l:List Oper}{S:World->Prop}{K:Fr->World->Prop}{f:Fr}{w:World}{done:List Nat}{fuel:Nat}{qs:List Nat}
variable{dst:Option Tmp}{op:Op}{ty:TypeId}{pos:String}{after:Array Edge}{g:Option (Nat×Bool)}{v:Value}
theorem ht(i:Nat)(hi:l[i]? =some ⟨dst,op,ty,pos,after,none⟩)(hS:S w)(h:∀w,S w->(execOp (ev f) ⟨dst,op,ty,pos,after,none⟩).run P w= .ok (.value v) w)(hk:qp P n l S K fuel (i::done) (fF f dst v) w)(hn:g0 l=true:=by kernel_rfl)(hc:(fD l done i&&gV l done i&&jP n ⟨dst,op,ty,pos,after,none⟩)=true:=by kernel_rfl):qp P n l S K (fuel+1) done f w:=u6 i hi hn hc rfl hS h hk
theorem xv(i:Nat)(M:List Nat)(hi:l[i]? =some ⟨dst,op,ty,pos,after,none⟩)(h:(execOp (ev f) ⟨dst,op,ty,pos,after,none⟩).run P w= .ok (.value v) w)(hk:iE P n l qs K fuel (i::done) (fF f dst v) w)(hn:g0 l=true:=by kernel_rfl)(hc:(qs.contains i&&fD l done i&&gV l done i&&lZ l qs done M i&&jP n ⟨dst,op,ty,pos,after,none⟩)=true:=by kernel_rfl):iE P n l qs K (fuel+1) done f w:=dz i M hi hn hc rfl h hk
theorem xh(i:Nat)(M:List Nat)(hi:l[i]? =some ⟨dst,op,ty,pos,after,none⟩)(h:∀w',dT w.heap.size w w'->(execOp (ev f) ⟨dst,op,ty,pos,after,none⟩).run P w'= .ok (.value v) w')(hk:iE P n l qs K fuel (i::done) (fF f dst v) w)(hn:g0 l=true:=by kernel_rfl)(hc:(qs.contains i&&fD l done i&&gV l done i&&mt l qs done M i&&jP n ⟨dst,op,ty,pos,after,none⟩)=true:=by kernel_rfl):iE P n l qs K (fuel+1) done f w:=tY i M hi hn hc rfl h hk
theorem xp(i:Nat)(hi:l[i]? =some ⟨dst,op,ty,pos,after,none⟩)(h:∀w,(execOp (ev f) ⟨dst,op,ty,pos,after,none⟩).run P w= .ok (.value v) w)(hk:iE P n l qs K fuel (i::done) (fF f dst v) w)(hn:g0 l=true:=by kernel_rfl)(hc:(qs.contains i&&fD l done i&&gV l done i&&jP n ⟨dst,op,ty,pos,after,none⟩)=true:=by kernel_rfl):iE P n l qs K (fuel+1) done f w:=bV i hi hn hc rfl h hk
end
section
variable{γ γ':aJ}{w w':World}{v:Value}{j k:Nat}{L:List Nat}
theorem bv.ca{w0:World}(h:bv w0 γ w)(hc:bp (inl L) γ w γ' w')(hj:L.contains 0=false:=by exact rfl):bv w0 γ' w':=h.chg hc (bZ hj)
theorem bv.ce{w0:World}(h:bv w0 γ w)(hc:bp (is k) γ w γ' w')(hj:Nat.beq 0 k=false:=by exact rfl):bv w0 γ' w':=h.chg hc (fN hj)
theorem bv.cn{w0:World}(h:bv w0 γ w)(hc:bp no γ w γ' w'):bv w0 γ' w':=h.chg hc (cm _)
theorem Bx.ca{b:Nat}{cs:List Value}(h:Bx γ (is j) w b cs)(hc:bp (inl L) γ w γ' w')(hj:L.contains j=false:=by exact rfl):Bx γ' (is j) w' b cs:=h.chg hc (bZ hj)
theorem Bx.ce{b:Nat}{cs:List Value}(h:Bx γ (is j) w b cs)(hc:bp (is k) γ w γ' w')(hj:Nat.beq j k=false:=by exact rfl):Bx γ' (is j) w' b cs:=h.chg hc (fN hj)
theorem Bx.cn{J:cI->Prop}{b:Nat}{cs:List Value}(h:Bx γ J w b cs)(hc:bp no γ w γ' w'):Bx γ' J w' b cs:=h.chg hc (cm _)
theorem Sl.ca{α:Type}[Rp α]{xs:List α}(h:Sl γ (is j) w v xs)(hc:bp (inl L) γ w γ' w')(hj:L.contains j=false:=by exact rfl):Sl γ' (is j) w' v xs:=h.chg hc (bZ hj)
theorem Sl.ce{α:Type}[Rp α]{xs:List α}(h:Sl γ (is j) w v xs)(hc:bp (is k) γ w γ' w')(hj:Nat.beq j k=false:=by exact rfl):Sl γ' (is j) w' v xs:=h.chg hc (fN hj)
theorem Sl.cn{α:Type}[Rp α]{S:cI->Prop}{xs:List α}(h:Sl γ S w v xs)(hc:bp no γ w γ' w'):Sl γ' S w' v xs:=h.chg hc (cm _)
theorem Ow.ca{α:Type}[Rp α]{xs:List α}(h:Ow γ (is j) (is j) w v xs)(hc:bp (inl L) γ w γ' w')(hj:L.contains j=false:=by exact rfl):Ow γ' (is j) (is j) w' v xs:=h.chg hc (bZ hj) (bZ hj)
theorem Ow.ce{α:Type}[Rp α]{xs:List α}(h:Ow γ (is j) (is j) w v xs)(hc:bp (is k) γ w γ' w')(hj:Nat.beq j k=false:=by exact rfl):Ow γ' (is j) (is j) w' v xs:=h.chg hc (fN hj) (fN hj)
theorem Ow.cn{α:Type}[Rp α]{J S:cI->Prop}{xs:List α}(h:Ow γ J S w v xs)(hc:bp no γ w γ' w'):Ow γ' J S w' v xs:=h.chg hc (cm _) (cm _)
theorem cP.ca{α:Type}[Rp α]{xs:List (List α)}(h:cP γ j w v xs)(hc:bp (inl L) γ w γ' w')(hj:L.contains j=false:=by exact rfl):cP γ' j w' v xs:=h.chg hc (bZ hj)
theorem cP.ce{α:Type}[Rp α]{xs:List (List α)}(h:cP γ j w v xs)(hc:bp (is k) γ w γ' w')(hj:Nat.beq j k=false:=by exact rfl):cP γ' j w' v xs:=h.chg hc (fN hj)
theorem cP.cn{α:Type}[Rp α]{xs:List (List α)}(h:cP γ j w v xs)(hc:bp no γ w γ' w'):cP γ' j w' v xs:=h.chg hc (cm _)
theorem fQ.ca{α:Type}[Rp α]{h0:Nat}{xs:List (List α)}(h:fQ γ j h0 w v xs)(hc:bp (inl L) γ w γ' w')(hj:L.contains j=false:=by exact rfl):fQ γ' j h0 w' v xs:=h.chg hc (bZ hj)
theorem fQ.ce{α:Type}[Rp α]{h0:Nat}{xs:List (List α)}(h:fQ γ j h0 w v xs)(hc:bp (is k) γ w γ' w')(hj:Nat.beq j k=false:=by exact rfl):fQ γ' j h0 w' v xs:=h.chg hc (fN hj)
theorem fQ.cn{α:Type}[Rp α]{h0:Nat}{xs:List (List α)}(h:fQ γ j h0 w v xs)(hc:bp no γ w γ' w'):fQ γ' j h0 w' v xs:=h.chg hc (cm _)
def vk(δ g:aJ)(w:World)(ren:Nat->Nat):Prop:=(∀{α:Type} [Rp α] {i:Nat} {v:Value} {xs:List α},Ow δ (is i) (is i) w v xs->∀k:Nat,Nat.beq i 0=false->ren i=k->Ow g (is k) (is k) w v xs)/\(∀{α:Type} [Rp α] {i:Nat} {v:Value} {xs:List (List α)},cP δ i w v xs->∀k:Nat,Nat.beq i 0=false->ren i=k->cP g k w v xs)
theorem jh{δ:aJ}(γ:aJ)(fr:fv w δ w')(ren:Nat->Nat):∃g,bp no γ w g w'/\vk δ g w' ren:=
 ⟨_,qF fr.below γ δ ren,λh k hi hr=>h.glue fr.col hi hr,λh k hi hr=>h.glue fr.col hi hr⟩
theorem Ow.gl{α:Type}[Rp α]{δ g:aJ}{ren:Nat->Nat}{i:Nat}{xs:List α}(h:Ow δ (is i) (is i) w v xs)(G:vk δ g w ren)(k:Nat)(hi:Nat.beq i 0=false:=by exact rfl)(hr:ren i=k:=by exact rfl):Ow g (is k) (is k) w v xs:=G.1 h k hi hr
theorem cP.gl{α:Type}[Rp α]{δ g:aJ}{ren:Nat->Nat}{i:Nat}{xs:List (List α)}(h:cP δ i w v xs)(G:vk δ g w ren)(k:Nat)(hi:Nat.beq i 0=false:=by exact rfl)(hr:ren i=k:=by exact rfl):cP g k w v xs:=G.2 h k hi hr
end
section
variable{K:Type}[DecidableEq K][Ky K]
theorem Md.ca{γ γ':aJ}{j:Nat}{L:List Nat}{w w':World}{v:Value}{F:K->Int}{D:List K}(h:Md γ (is j) w v F D)(hc:bp (inl L) γ w γ' w')(hj:L.contains j=false:=by exact rfl):Md γ' (is j) w' v F D:=h.chg hc (bZ hj)
theorem Md.ce{γ γ':aJ}{j k:Nat}{w w':World}{v:Value}{F:K->Int}{D:List K}(h:Md γ (is j) w v F D)(hc:bp (is k) γ w γ' w')(hj:Nat.beq j k=false:=by exact rfl):Md γ' (is j) w' v F D:=h.chg hc (fN hj)
theorem Md.cn{γ γ':aJ}{J:cI->Prop}{w w':World}{v:Value}{F:K->Int}{D:List K}(h:Md γ J w v F D)(hc:bp no γ w γ' w'):Md γ' J w' v F D:=h.chg hc (cm _)
theorem Mp.ca{γ γ':aJ}{j:Nat}{L:List Nat}{w w':World}{v:Value}{F:K->Int}(h:Mp γ (is j) w v F)(hc:bp (inl L) γ w γ' w')(hj:L.contains j=false:=by exact rfl):Mp γ' (is j) w' v F:=h.chg hc (bZ hj)
theorem Mp.ce{γ γ':aJ}{j k:Nat}{w w':World}{v:Value}{F:K->Int}(h:Mp γ (is j) w v F)(hc:bp (is k) γ w γ' w')(hj:Nat.beq j k=false:=by exact rfl):Mp γ' (is j) w' v F:=h.chg hc (fN hj)
theorem Mp.cn{γ γ':aJ}{J:cI->Prop}{w w':World}{v:Value}{F:K->Int}(h:Mp γ J w v F)(hc:bp no γ w γ' w'):Mp γ' J w' v F:=h.chg hc (cm _)
theorem nE.ca{γ γ':aJ}{j:Nat}{L:List Nat}{w w':World}{v:Value}{F:K->Int}{s:Int}{k:K}(h:nE γ (is j) w v F s k)(hc:bp (inl L) γ w γ' w')(hj:L.contains j=false:=by exact rfl):nE γ' (is j) w' v F s k:=h.chg hc (bZ hj)
theorem nE.ce{γ γ':aJ}{j q:Nat}{w w':World}{v:Value}{F:K->Int}{s:Int}{k:K}(h:nE γ (is j) w v F s k)(hc:bp (is q) γ w γ' w')(hj:Nat.beq j q=false:=by exact rfl):nE γ' (is j) w' v F s k:=h.chg hc (fN hj)
theorem nE.cn{γ γ':aJ}{J:cI->Prop}{w w':World}{v:Value}{F:K->Int}{s:Int}{k:K}(h:nE γ J w v F s k)(hc:bp no γ w γ' w'):nE γ' J w' v F s k:=h.chg hc (cm _)
end
end TL
/-
  TlGeom: points with whole coordinates: turns, segments, how they meet.
  By an AI agent.
-/
set_option linter.all false
namespace TL
abbrev Pt:=Int×Int
def eQ(x y:Int):Int:=if x<y then-1 else if y<x then 1 else 0
def uY(a b:Pt):Int:=a.1*b.2-a.2*b.1
def uS(b a:Pt):Pt:=(b.1-a.1,b.2-a.2)
def pY(a b c:Pt):Int:=eQ (uY (uS b a) (uS c a)) 0
def ub(a b p:Pt):Prop:=(min a.1 b.1<=p.1/\p.1<=max a.1 b.1)/\min a.2 b.2<=p.2/\p.2<=max a.2 b.2
instance (a b p:Pt):Decidable (ub a b p):=by unfold ub;infer_instance
def rA(a b p:Pt):Prop:=pY a b p=0/\ub a b p
instance (a b p:Pt):Decidable (rA a b p):=by unfold rA;infer_instance
def nr(a b:Pt):Int:=if eQ a.1 b.1≠0 then eQ a.1 b.1 else eQ a.2 b.2
def uD(a b c d:Pt):Int:=
 let a':=if 0<nr a b then b else a
 let b':=if 0<nr a b then a else b
 let c':=if 0<nr c d then d else c
 let d':=if 0<nr c d then c else d
 let low:=if 0<nr c' a' then c' else a'
 let high:=if nr d' b'<0 then d' else b'
 if 0<nr low high then 0 else if nr low high=0 then 2 else 3
def ij(a b c d:Pt):Int:=
 if pY a b c=0/\pY a b d=0/\pY c d a=0/\pY c d b=0 then uD a b c d
 else if pY a b c*pY a b d<0/\pY c d a*pY c d b<0 then 1
 else if rA a b c\/rA a b d\/rA c d a\/rA c d b then 2 else 0
def key(p:Pt):Int:=p.1*1073741824+p.2
def vG(p:Pt):Prop:=(-4194304<=p.1/\p.1<=4194304)/\ -4194304<=p.2/\p.2<=4194304
end TL
namespace TL
def uu(p:Pt):Prop:=(-1048576<=p.1/\p.1<=1048576)/\ -1048576<=p.2/\p.2<=1048576
instance (p:Pt):Decidable (uu p):=by unfold uu;infer_instance
theorem uu.bd{p:Pt}(h:uu p):vG p:=by unfold uu at h;unfold vG;omega
def vq(ps:List Pt):Prop:=ps.length<=4096/\∀p∈ps,uu p
instance (ps:List Pt):Decidable (vq ps):=by unfold vq;infer_instance
def oT(p:Pt):Int:=if 0<p.1\/p.1=0/\0<p.2 then 0 else 1
section
variable{a b c d:Pt}
end
end TL
/-
  TlGeomR: what is told of many points: areas, boxes, whether a polyline is simple.
  By an AI agent.
-/
set_option linter.all false
namespace TL
def lO(ps:List Pt):Prop:=4<=(ps.length:Int)/\gI ps 0=gI ps ((ps.length:Int)-1)
instance (ps:List Pt):Decidable (lO ps):=by unfold lO;infer_instance
def oV(ps:List Pt)(i k:Nat):Prop:=k=i+1\/i=0/\(k:Int)=(ps.length:Int)-2/\lO ps
instance (ps:List Pt)(i k:Nat):Decidable (oV ps i k):=by unfold oV;infer_instance
def vE(ps:List Pt)(i k:Nat):Int:=ij (gI ps (i:Int)) (gI ps ((i:Int)+1)) (gI ps (k:Int)) (gI ps ((k:Int)+1))
def tT(ps:List Pt)(i k:Nat):Prop:=oV ps i k/\vE ps i k=3\/¬oV ps i k/\vE ps i k≠0
instance (ps:List Pt)(i k:Nat):Decidable (tT ps i k):=by unfold tT;infer_instance
def tN(ps:List Pt)(i:Nat):Prop:=gI ps (i:Int)≠gI ps ((i:Int)+1)/\∀k<ps.length,i<k->(k:Int)<=(ps.length:Int)-2->¬tT ps i k
instance (ps:List Pt)(i:Nat):Decidable (tN ps i):=by unfold tN;infer_instance
def uP(ps:List Pt):Prop:=∀i<ps.length,(i:Int)<=(ps.length:Int)-2->tN ps i
instance (ps:List Pt):Decidable (uP ps):=by unfold uP;infer_instance
section
variable{ps:List Pt}
variable{i k:Nat}
end
end TL
/-
  TlConv: whole numbers turned to another kind, a string's byte, functions that bear values.
  By an AI agent.
-/
set_option linter.all false
namespace TL
open Go
section
variable{P:Program}{w:World}{f:Fr}{dst:Option Tmp}{ty:TypeId}{pos:String}{after:Array Edge}{g:Option (Nat×Bool)}{x y:Operand}{s d t:TypeId}{m:Int}{k k0:IntKind}
theorem kB{fid:Nat}{cs:List Operand}{vals:List Value}(h:cs.map (ev f)=vals):(execOp (ev f) ⟨dst,.makeFunc (.func fid) #[] cs.toArray,ty,pos,after,g⟩).run P w= .ok (.value (.func (.func fid) #[] vals.toArray)) w:=by
 have h:cs.toArray.map (ev f)=vals.toArray:=by rw[<-h];simp
 simp[execOp,Instr.makeFunc,h]
theorem kb{fid:Nat}{fn:Func}{c:Operand}{args:List Operand}{at_:Array TypeId}{vals caps:List Value}(hc:ev f c= .func (.func fid) #[] caps.toArray)(hf:P.funcs[fid]? =some fn)(hb:fn.body.isNone=false)(hn:(fn.name== "runtime.NumGoroutine")=false)(ha:args.map (ev f)=vals):
   (execOp (ev f) ⟨dst,.call {callee:=.value c,args:=args.toArray,argTypes:=at_},ty,pos,after,g⟩).run P w= .ok (.enter fid (vals++caps).toArray) w:=by
 have ha:args.toArray.map (ev f)=vals.toArray:=by rw[<-ha];simp
 simp only[execOp,resolve,hc,Deferred.ofValue,invoke,callFunc,ha,Sem.run_bind,Sem.run_pure,Result.andThen_ok,run_program,hf,hn,hb,Bool.false_eq_true,if_false,Array.append_empty,Array.empty_append]
 simp
end
end TL
namespace TL
open Go
section
variable{P:Program}{w:World}{f:Fr}{dst:Option Tmp}{ty:TypeId}{pos:String}{after:Array Edge}{g:Option (Nat×Bool)}{x y:Operand}{t t':TypeId}
end
end TL
namespace TL
open Go
section
variable{P:Program}{w:World}{f:Fr}{dst:Option Tmp}{ty:TypeId}{pos:String}{after:Array Edge}{g:Option (Nat×Bool)}{x y:Operand}{t t':TypeId}
end
end TL
/-
  TlGeomM: meeting segments: moved, turned, named another way about; what ends they share.
  By an AI agent.
-/
set_option linter.all false
namespace TL
section
variable{a b c d:Pt}
def mL(a b c d e:Pt):Prop:=rA a b e/\rA c d e
instance (a b c d e:Pt):Decidable (mL a b c d e):=by unfold mL;infer_instance
def r8(a b c d:Pt):Prop:=pY a b c*pY a b d<0/\pY c d a*pY c d b<0
instance (a b c d:Pt):Decidable (r8 a b c d):=by unfold r8;infer_instance
end
end TL
/-
  TlGeomS: polylines gone back, and two of them named the other way about.
  By an AI agent.
-/
set_option linter.all false
namespace TL
abbrev Sg:=Pt×Pt
def rh(ps:List Pt):Nat->List Sg
 |0=>[]
 |k+1=>rh ps k++[(gI ps (k:Int),gI ps ((k:Int)+1))]
def tc(ps:List Pt):List Sg:=if ps.length=1 then[(gI ps 0,gI ps 0)] else rh ps (ps.length-1)
def tH(ps:List Pt):Pt:=gI ps ((ps.length:Int)-1)
def ue(ps:List Pt)(p:Pt):Prop:=p=gI ps 0\/p=tH ps
instance (ps:List Pt)(p:Pt):Decidable (ue ps p):=by unfold ue;infer_instance
def sx(q:List Pt)(s t:Sg)(x:Pt):Prop:=ue q x/\rA s.1 s.2 x/\rA t.1 t.2 x
instance (q:List Pt)(s t:Sg)(x:Pt):Decidable (sx q s t x):=by unfold sx;infer_instance
def rq(p q:List Pt)(s t:Sg):Prop:=sx q s t (gI p 0)\/sx q s t (tH p)
instance (p q:List Pt)(s t:Sg):Decidable (rq p q s t):=by unfold rq;infer_instance
def ui(p q:List Pt)(s t:Sg):Prop:=ij s.1 s.2 t.1 t.2=3\/ij s.1 s.2 t.1 t.2≠0/\¬rq p q s t
instance (p q:List Pt)(s t:Sg):Decidable (ui p q s t):=by unfold ui;infer_instance
def uO(p q:List Pt):Prop:=∀s∈tc p,∀t∈tc q,¬ui p q s t
instance (p q:List Pt):Decidable (uO p q):=by unfold uO;infer_instance
section
variable{p q:List Pt}
end
end TL
namespace TL
section
variable{p q:List Pt}{i k:Nat}
variable{s t:Sg}
end
end TL
namespace TL
section
variable{p q:List Pt}{s t:Sg}{i:Nat}
end
end TL
/-
  TlGeomX: polylines: the document's way and the code's.
  By an AI agent.
-/
set_option linter.all false
namespace TL
section
variable{a b c d:Pt}
end
section
variable{ps:List Pt}{i k:Nat}
end
def vm(but:List Pt)(s t:Sg):Prop:=ij s.1 s.2 t.1 t.2=3\/(ij s.1 s.2 t.1 t.2=1/\¬∃x∈but,mL s.1 s.2 t.1 t.2 x)\/((ij s.1 s.2 t.1 t.2≠0/\ij s.1 s.2 t.1 t.2≠1)/\∃e∈[s.1,s.2,t.1,t.2],mL s.1 s.2 t.1 t.2 e/\e∉but)
instance (but:List Pt)(s t:Sg):Decidable (vm but s t):=by unfold vm;infer_instance
def uQ(p q but:List Pt):Prop:=∃s∈tc p,∃t∈tc q,vm but s t
instance (p q but:List Pt):Decidable (uQ p q but):=by unfold uQ;infer_instance
section
variable{p q B:List Pt}
end
end TL
namespace TL
section
variable{p q but:List Pt}{i k:Nat}
variable{s t:Sg}
end
end TL
/-
  TlAround: points round another one: the order, its laws, the list that is sorted by it.
  By an AI agent.
-/
set_option linter.all false
namespace TL
def v7(p:Pt):Int:=p.1*p.1+p.2*p.2
def vN(a b:Pt)(i k:Int):Prop:=oT a<oT b\/oT a=oT b/\(uY a b<0\/uY a b=0/\(v7 a<v7 b\/v7 a=v7 b/\i<k))
def vA(o:Pt)(ps:List Pt)(i:Int):Pt:=uS (gI ps i) o
def vO(o:Pt)(ps:List Pt)(i k:Int):Prop:=vN (vA o ps i) (vA o ps k) i k
def vM(o:Pt)(ps:List Pt)(k:Nat)(l:List Int):Prop:=l.Pairwise (vO o ps)/\∀x,x∈l↔0<=x/\x<(k:Int)
section
variable{o:Pt}{ps:List Pt}{k:Nat}{l l':List Int}
open Classical in
noncomputable def arL (o:Pt) (ps:List Pt):List Int:=if h:∃l,vM o ps ps.length l then choose h else[]
end
section
variable{o:Pt}{ps:List Pt}{k:Nat}{l:List Int}{q:Int}
end
section
variable{o:Pt}{ps:List Pt}
end
end TL
/-
  TlFace: half-edges' next ones, faces.
  By an AI agent.
-/
set_option linter.all false
namespace TL
end TL
namespace TL
structure dA(out:List (List Int))(g:bK)(k:Nat):Prop where
  len:(out.length:Int)=g.1
  at_:∀v,0<=v->v<g.1->gI out v=gG g v k
theorem dA.start{g:bK}(h:0<=g.1):dA (List.replicate g.1.toNat []) g 0:=⟨by simp;omega,λv h0 h1=>by rw[fm h0 (by omega)];simp[gG]⟩
theorem dA.next{out:List (List Int)}{g:bK}{k:Nat}(h:dA out g k)(h1:0<=(gI g.2 k).1)(h2:(gI g.2 k).1<g.1)(h3:0<=(gI g.2 k).2)(h4:(gI g.2 k).2<g.1){a b:Int}(ha:a=2*(k:Int))(hb:b=2*(k:Int)+1):
   dA ((out.set (gI g.2 k).1.toNat (gI out (gI g.2 k).1++[a])).set (gI g.2 k).2.toNat (gI (out.set (gI g.2 k).1.toNat (gI out (gI g.2 k).1++[a])) (gI g.2 k).2++[b])) g (k+1):=by
 have hl:=h.len
 refine⟨by simpa using hl,λv h5 h6=>?_⟩
 rw[bY h3 (by simp;omega) h5,bY h1 (by omega) h3,bY h1 (by omega) h5,nN,h.at_ _ h1 h2,h.at_ _ h3 h4,h.at_ v h5 h6,ha,hb]
 by_cases e2:v=(gI g.2 (k:Int)).2
 · by_cases e1:v=(gI g.2 (k:Int)).1
   · rw[<-e1,<-e2];simp
   · have e3:¬(gI g.2 (k:Int)).2=(gI g.2 (k:Int)).1:=λh=>e1 (e2.trans h)
     have e6:¬(gI g.2 (k:Int)).1=(gI g.2 (k:Int)).2:=λh=>e3 h.symm
     simp[e2,e3,e6]
 · have e4:¬(gI g.2 (k:Int)).2=v:=λh=>e2 h.symm
   by_cases e1:v=(gI g.2 (k:Int)).1
   · rw[if_neg e2,if_pos e1,if_neg e4,if_pos e1.symm,<-e1];simp
   · have e5:¬(gI g.2 (k:Int)).1=v:=λh=>e1 h.symm
     rw[if_neg e2,if_neg e1,if_neg e4,if_neg e5];simp
end TL
namespace TL
end TL
/-
  TlWalk: going through a net breadth first, and its components, as the program does.
  By an AI agent.
-/
set_option linter.all false
namespace TL
def b6(g:bK)(h:Int):Int:=pI (gI g.2 (h/2)) (1-h%2)
theorem dM{g:bK}(hm:bg g){h:Int}(h0:0<=h)(h1:h<2*(g.2.length:Int)):0<=b6 g h/\b6 g h<g.1:=by
 have hok:=hm.2.2.2 _ (bP (xs:=g.2) (i:=h/2) (by omega) (by omega))
 unfold nv at hok
 unfold b6 pI
 split<;>omega
structure Bf where
 order:List Int
 by_:List Int
 far:List Int
def fS(g:bK)(v:Int)(s:Bf)(h:Int):Bf:=
 if gI s.far (b6 g h)<0 then⟨s.order++[b6 g h],s.by_.set (b6 g h).toNat h,s.far.set (b6 g h).toNat (gI s.far v+1)⟩ else s
def lI(g:bK)(v:Int)(s:Bf):Bf:=(bL g v).foldl (fS g v) s
def lV(g:bK):Nat->Nat->Bf->Bf
 |0,_,s=>s
 |n+1,i,s=>if i<s.order.length then lV g n (i+1) (lI g (gI s.order (i:Int)) s) else s
def eL(g:bK)(s0:Int):Bf:=⟨[s0],List.replicate g.1.toNat (-1),(List.replicate g.1.toNat (-1)).set s0.toNat 0⟩
def da(g:bK)(s0:Int):Bf:=lV g g.1.toNat 0 (eL g s0)
structure k6(g:bK)(s:Bf):Prop where
 far:(s.far.length:Int)=g.1
 by_:(s.by_.length:Int)=g.1
 nodup:s.order.Nodup
 rng:∀x∈s.order,0<=x/\x<g.1
 iff:∀w,0<=w->w<g.1->(gI s.far w<0↔w∉s.order)
 le:∀w,0<=w->w<g.1->gI s.far w<=s.order.length
theorem k6.start{g:bK}{s0:Int}(h0:0<=s0)(h1:s0<g.1):k6 g (eL g s0):=by
 refine⟨by simp[eL];omega,by simp[eL];omega,by simp[eL],by simp[eL];omega,λw hw0 hw1=>?_,λw hw0 hw1=>?_⟩
 · simp only[eL]
   rw[bY h0 (by simp;omega) hw0]
   by_cases e:w=s0
   · subst e;simp
   · rw[if_neg e,fm hw0 (by omega)];simp[e]
 · simp only[eL]
   rw[bY h0 (by simp;omega) hw0]
   by_cases e:w=s0
   · subst e;simp
   · rw[if_neg e,fm hw0 (by omega)];simp
theorem k6.len{g:bK}{s:Bf}(h:k6 g s)(hg:0<=g.1):(s.order.length:Int)<=g.1:=np hg h.nodup h.rng
theorem k6.one{g:bK}{s:Bf}{v h:Int}(hs:k6 g s)(hv:v∈s.order)(h0:0<=b6 g h)(h1:b6 g h<g.1):k6 g (fS g v s h):=by
 obtain⟨hv0,hv1⟩:=hs.rng v hv
 unfold fS
 by_cases c:gI s.far (b6 g h)<0
 · rw[if_pos c]
   have hn:=(hs.iff _ h0 h1).1 c
   have hf:=hs.far
   have hlv:=hs.le v hv0 hv1
   refine⟨by simpa using hs.far,by simpa using hs.by_,?_,λx hx=>?_,λw hw0 hw1=>?_,λw hw0 hw1=>?_⟩
   · rw[List.nodup_append]
     refine⟨hs.nodup,by simp,λa ha b hb=>?_⟩
     obtain rfl:=List.mem_singleton.1 hb
     intro e;subst e;exact hn ha
   · rcases List.mem_append.1 hx with hx|hx
     · exact hs.rng x hx
     · obtain rfl:=List.mem_singleton.1 hx;exact⟨h0,h1⟩
   · simp only
     rw[bY h0 (by omega) hw0]
     by_cases e:w=b6 g h
     · subst e
       rw[if_pos rfl]
       have hx:¬gI s.far v<0:=λhh=>(hs.iff v hv0 hv1).1 hh hv
       constructor
       · intro hh;omega
       · intro hh;simp at hh
     · rw[if_neg e,hs.iff w hw0 hw1];simp[e]
   · simp only
     rw[bY h0 (by omega) hw0]
     by_cases e:w=b6 g h
     · subst e;rw[if_pos rfl];simp;omega
     · rw[if_neg e]
       have:=hs.le w hw0 hw1
       simp;omega
 · rw[if_neg c];exact hs
end TL
namespace TL
theorem cJ{g:bK}{v h:Int}(hh:h∈bL g v):(0<=h/\h<2*(g.2.length:Int))/\aw g h=v:=by
 unfold bL gG at hh
 obtain⟨h1,h2⟩:=List.mem_filter.1 hh
 obtain⟨k,hk,rfl⟩:=List.mem_map.1 h1
 have:=List.mem_range.1 hk
 exact⟨by omega,by simpa using h2⟩
theorem pU(g:bK)(v:Int)(s:Bf)(h:Int):∃t,(fS g v s h).order=s.order++t:=by
 unfold fS
 split
 · exact⟨_,rfl⟩
 · exact⟨[],by simp⟩
def j6(g:bK)(p:List Int×Int)(v:Int):List Int×Int:=
 if 0<=gI p.1 v then p else((da g v).order.foldl (λl w=>l.set w.toNat p.2) p.1,p.2+1)
def dZ(g:bK)(k:Nat):List Int×Int:=(bJ k).foldl (j6 g) (List.replicate g.1.toNat (-1),0)
def fY(g:bK):List Int×Int×Int:=if bg g then((dZ g g.1.toNat).1,(dZ g g.1.toNat).2,0) else([],0,1)
theorem gW(g:bK)(k:Nat):dZ g (k+1)=j6 g (dZ g k) (k:Int):=by
 unfold dZ
 rw[cz,List.foldl_append];rfl
theorem fw(x:Int):∀(l p:List Int),(l.foldl (λl w=>l.set w.toNat x) p).length=p.length
 |[],p=>rfl
 |a::l,p=>by rw[List.foldl_cons,fw x l];simp
end TL
namespace TL
theorem qb{k n:Nat}{x:Int}(hk:k<n):(List.replicate k x++List.replicate (n-k) 0).set (k:Int).toNat x=List.replicate (k+1) x++List.replicate (n-(k+1)) (0:Int):=by
 have e:n-k=(n-(k+1))+1:=by omega
 rw[e,List.replicate_succ]
 simp only[Int.toNat_natCast]
 rw[List.set_append_right _ _ (by simp)]
 simp only[List.length_replicate,Nat.sub_self,List.set_cons_zero]
 rw[List.replicate_succ']
 simp
theorem dA.rl{out:List (List Int)}{g:bK}{k:Nat}(h:dA out g k){v:Int}(h0:0<=v)(h1:v<g.1):((gI out v).length:Int)<=2*(k:Int):=by
 rw[h.at_ v h0 h1]
 have:=pH g v k
 omega
theorem dA.rl2{out:List (List Int)}{g:bK}{k:Nat}(h:dA out g k){u v:Int}(h2:0<=u)(h3:u<g.1)(h0:0<=v)(h1:v<g.1)(a:Int):((gI (out.set u.toNat (gI out u++[a])) v).length:Int)<=2*(k:Int)+1:=by
 have hl:=h.len
 rw[bY h2 (by omega) h0]
 split
 · have:=h.rl h2 h3;simp;omega
 · have:=h.rl h0 h1;omega
theorem dA.done{out:List (List Int)}{g:bK}{k:Nat}(h:dA out g k)(hk:k=g.2.length):∀v,0<=v->v<g.1->gI out v=bL g v:=λv h0 h1=>by
 subst hk;exact h.at_ v h0 h1
end TL
namespace TL
end TL
namespace TL
end TL
/-
  TlRot2: rotations: faces of half-edges, first ones, parts, moved ones.
  By an AI agent.
-/
set_option linter.all false
namespace TL
def am(g:bK):gC:=(List.range g.1.toNat).map λ(v:Nat)=>bL g (v:Int)
theorem dA.first{out:gC}{g:bK}{k:Nat}(h:dA out g k)(hk:k=g.2.length):out=am g:=by
 have hl:=h.len
 apply eV
 · simp[am];omega
 · intro i hi
   rw[h.done hk _ (by omega) (by omega)]
   have:i<g.1.toNat:=by omega
   simp[am,gI,this]
structure eB(out:gC)(g:bK)(h:Nat):Prop where
  len:(out.length:Int)=g.1
  at_:∀v,0<=v->v<g.1->gI out v=m9 g v h
theorem eB.start{g:bK}(h:0<=g.1):eB (List.replicate g.1.toNat []) g 0:=⟨by simp;omega,λv h0 h1=>by rw[fm h0 (by omega)];simp[m9]⟩
theorem eB.next{out:gC}{g:bK}{h:Nat}(hi:eB out g h)(h0:0<=aw g h)(h1:aw g h<g.1):eB (out.set (aw g h).toNat (gI out (aw g h)++[(h:Int)])) g (h+1):=by
 have hl:=hi.len
 refine⟨by simpa using hl,λv h2 h3=>?_⟩
 rw[bY h0 (by omega) h2,qd]
 by_cases e:v=aw g (h:Int)
 · rw[if_pos e,if_pos e.symm,hi.at_ _ h0 h1,<-e]
 · rw[if_neg e,if_neg (λh=>e h.symm),hi.at_ v h2 h3]
theorem eB.bd{out:gC}{g:bK}{h:Nat}(hi:eB out g h){v:Int}(h0:0<=v)(h1:v<g.1):(gI out v).length<=h:=by
 rw[hi.at_ v h0 h1];exact qV g v h
theorem eB.done{out:gC}{g:bK}{h:Nat}(hi:eB out g h)(hh:h=2*g.2.length):out=am g:=by
 have hl:=hi.len
 apply eV
 · simp[am];omega
 · intro i hlt
   rw[hi.at_ _ (by omega) (by omega),rF g _ hh]
   have:i<g.1.toNat:=by omega
   simp[am,gI,this]
end TL
/-
  TlJudge: plots: their flaws, as the code and the document gather them.
  By an AI agent.
-/
set_option linter.all false
namespace TL
abbrev vI:=Int×Int×Int
abbrev l8:=List Pt×List (List Pt)
section
variable{β:Type}{f h:Nat->List β}{k n:Nat}{x:β}{F B:List β}
end
def fl{β:Type}(p:Prop)[Decidable p](x:β):List β:=if p then[x] else[]
section
variable{β:Type}{p:Prop}[Decidable p]{x:β}
end
def vB(l:List Pt):Prop:=2<=(l.length:Int)/\vq l
instance (l:List Pt):Decidable (vB l):=by unfold vB;infer_instance
def tK(g:bK)(p:l8)(e:Int):Prop:=gI (gI p.2 e) 0=gI p.1 (gI g.2 e).1/\gI (gI p.2 e) (((gI p.2 e).length:Int)-1)=gI p.1 (gI g.2 e).2
instance (g:bK)(p:l8)(e:Int):Decidable (tK g p e):=by unfold tK;infer_instance
def tD(l:List Pt)(q:Pt):Prop:=∃s∈rh l (l.length-1),rA s.1 s.2 q
instance (l:List Pt)(q:Pt):Decidable (tD l q):=by unfold tD;infer_instance
def rR(s t:Sg)(but:List Pt):Prop:=ij s.1 s.2 t.1 t.2=0\/(ij s.1 s.2 t.1 t.2=1\/ij s.1 s.2 t.1 t.2=2)/\∃x∈but,mL s.1 s.2 t.1 t.2 x
instance (s t:Sg)(but:List Pt):Decidable (rR s t but):=by unfold rR;infer_instance
def uF(a b but:List Pt):Prop:=∀s∈rh a (a.length-1),∀t∈rh b (b.length-1),rR s t but
instance (a b but:List Pt):Decidable (uF a b but):=by unfold uF;infer_instance
section
variable{g:bK}{p:l8}
end
end TL
namespace TL
section
variable{l:List Pt}{p:Pt}{i:Nat}
end
section
variable{a b c d:Pt}{but:List Pt}{k:Nat}{m:Int}
end
def vx(p:l8)(h:Int):Pt:=if h%2=0 then gI (gI p.2 (h/2)) 1 else gI (gI p.2 (h/2)) (((gI p.2 (h/2)).length:Int)-2)
def vu(u v:Pt):Int:=u.1*v.1+u.2*v.2
def rM(u v:Pt):Prop:=uY u v=0/\0<vu u v
instance (u v:Pt):Decidable (rM u v):=by unfold rM;infer_instance
end TL
namespace TL
end TL
namespace TL
section
variable{g:bK}{p:l8}{F G B:List vI}{v e k i:Nat}
end
section
variable{g:bK}{p:l8}{e f:Int}
end
section
variable{a b but:List Pt}{i k:Nat}
end
section
variable{g:bK}{p:l8}{e f:Nat}{b:Bool}
end
end TL
/-
  TlTr: one of each class, how many classes there are; the components of a net.
  By an AI agent.
-/
set_option linter.all false
namespace TL
structure Tr(D:Int->Prop)(R:Int->Int->Prop)(l:List Int):Prop where
  nd:l.Nodup
  dom:∀x∈l,D x
  all:∀x,D x->∃y∈l,R x y
  one:∀x∈l,∀y∈l,R x y->x=y
structure rK(D:Int->Prop)(R:Int->Int->Prop):Prop where
 rfl:∀x,D x->R x x
 symm:∀x y,D x->D y->R x y->R y x
 trans:∀x y z,D x->D y->D z->R x y->R y z->R x z
theorem pd{P:Int->Int->Prop}:∀(l l':List Int),l.Nodup->(∀x∈l,∃y∈l',P x y)->(∀x∈l,∀x'∈l,∀y,y∈l'->P x y->P x' y->x=x')->l.length<=l'.length
 |[],l',_,_,_=>by simp
 |a::l,l',hn,h1,h2=>by
   obtain⟨y,hy,hp⟩:=h1 a (by simp)
   have hn':=List.nodup_cons.1 hn
   have h3:=pd (P:=P) l (l'.erase y) hn'.2 (λx hx=>by
     obtain⟨z,hz,hq⟩:=h1 x (by simp[hx])
     refine⟨z,(List.mem_erase_of_ne (λe=>?_)).2 hz,hq⟩
     subst e
     have:=h2 a (by simp) x (by simp[hx]) z hz hp hq
     subst this
     exact hn'.1 hx) (λx hx x' hx' z hz=>h2 x (by simp[hx]) x' (by simp[hx']) z (List.mem_of_mem_erase hz))
   have h4:=List.length_erase_of_mem hy
   have h5:=List.length_pos_of_mem hy
   simp;omega
theorem Tr.len{D:Int->Prop}{R:Int->Int->Prop}{l l':List Int}(he:rK D R)(h:Tr D R l)(h':Tr D R l'):l.length=l'.length:=by
 have key:∀{l l':List Int},Tr D R l->Tr D R l'->l.length<=l'.length:=λ {l l'} h h'=>pd (P:=R) l l' h.nd (λx hx=>h'.all x (h.dom x hx)) (λx hx x' hx' y hy h1 h2=>h.one x hx x' hx' (he.trans _ _ _ (h.dom x hx) (h'.dom y hy) (h.dom x' hx') h1 (he.symm _ _ (h.dom x' hx') (h'.dom y hy) h2)))
 exact Nat.le_antisymm (key h h') (key h' h)
theorem gy{f:Int->Int}:∀{l:List Int},l.Nodup->(∀x∈l,∀y∈l,f x=f y->x=y)->(l.map f).Nodup
 |[],_,_=>by simp
 |a::l,hn,h=>by
   have hn':=List.nodup_cons.1 hn
   rw[List.map_cons,List.nodup_cons]
   refine⟨λhm=>?_,gy hn'.2 (λx hx y hy=>h x (by simp[hx]) y (by simp[hy]))⟩
   obtain⟨y,hy,e⟩:=List.mem_map.1 hm
   have:=h a (by simp) y (by simp[hy]) e.symm
   subst this
   exact hn'.1 hy
theorem Tr.map{D D':Int->Prop}{R R':Int->Int->Prop}{l:List Int}(f:Int->Int)(h:Tr D R l)(he':rK D' R')(hd:∀x,D x->D' (f x))(hr:∀x y,D x->D y->R x y->R' (f x) (f y))(hb:∀x y,D x->D y->R' (f x) (f y)->R x y)(hs:∀z,D' z->∃x,D x/\R' z (f x)):Tr D' R' (l.map f):=by
  refine⟨gy h.nd λx hx y hy e=>?_,λz hz=>?_,λz hz=>?_,λz hz w hw hzw=>?_⟩
  · have hx':=h.dom x hx
    have hy':=h.dom y hy
    exact h.one x hx y hy (hb x y hx' hy' (by rw[<-e];exact he'.rfl _ (hd x hx')))
  · obtain⟨x,hx,rfl⟩:=List.mem_map.1 hz
    exact hd x (h.dom x hx)
  · obtain⟨x,hx,hzx⟩:=hs z hz
    obtain⟨y,hy,hxy⟩:=h.all x hx
    exact⟨f y,List.mem_map.2 ⟨y,hy,rfl⟩,he'.trans _ _ _ hz (hd x hx) (hd y (h.dom y hy)) hzx (hr x y hx (h.dom y hy) hxy)⟩
  · obtain⟨x,hx,rfl⟩:=List.mem_map.1 hz
    obtain⟨y,hy,rfl⟩:=List.mem_map.1 hw
    rw[h.one x hx y hy (hb x y (h.dom x hx) (h.dom y hy) hzw)]
def ln(D:Int->Prop)(R:Int->Int->Prop)(k:Nat):Prop:=∃l,Tr D R l/\l.length=k
theorem ln.eq{D:Int->Prop}{R:Int->Int->Prop}{k k':Nat}(he:rK D R)(h:ln D R k)(h':ln D R k'):k=k':=by
 obtain⟨l,h1,rfl⟩:=h
 obtain⟨l',h2,rfl⟩:=h'
 exact h1.len he h2
theorem ln.iff{D:Int->Prop}{R R':Int->Int->Prop}{k:Nat}(h:ln D R k)(hi:∀x y,D x->D y->(R x y↔R' x y)):ln D R' k:=by
 obtain⟨l,h1,h2⟩:=h
 refine⟨l,⟨h1.nd,h1.dom,λx hx=>?_,λx hx y hy hxy=>h1.one x hx y hy ((hi x y (h1.dom x hx) (h1.dom y hy)).2 hxy)⟩,h2⟩
 obtain⟨y,hy,hxy⟩:=h1.all x hx
 exact⟨y,hy,(hi x y hx (h1.dom y hy)).1 hxy⟩
theorem ln.map{D D':Int->Prop}{R R':Int->Int->Prop}{k:Nat}(f:Int->Int)(h:ln D R k)(he':rK D' R')(hd:∀x,D x->D' (f x))(hr:∀x y,D x->D y->R x y->R' (f x) (f y))(hb:∀x y,D x->D y->R' (f x) (f y)->R x y)(hs:∀z,D' z->∃x,D x/\R' z (f x)):ln D' R' k:=by
 obtain⟨l,h1,h2⟩:=h
 exact⟨l.map f,h1.map f he' hd hr hb hs,by rw[List.length_map,h2]⟩
def eE(g:bK)(v:Int):Prop:=0<=v/\v<g.1
def Cn(g:bK)(u v:Int):Prop:=∀R:Int->Int->Prop,rK (eE g) R->(∀e∈g.2,R e.1 e.2)->R u v
theorem Cn.eqv(g:bK):rK (eE g) (Cn g):=
 ⟨λx hx R hR _=>hR.rfl x hx,λx y hx hy h R hR he=>hR.symm x y hx hy (h R hR he),λx y z hx hy hz h1 h2 R hR he=>hR.trans x y z hx hy hz (h1 R hR he) (h2 R hR he)⟩
theorem Cn.edge{g:bK}{e:Int×Int}(h:e∈g.2):Cn g e.1 e.2:=λR _ he=>he e h
theorem Cn.half{g:bK}(hm:bg g){h:Int}(h0:0<=h)(h1:h<2*(g.2.length:Int)):Cn g (aw g h) (b6 g h):=by
 have hin:=bP (xs:=g.2) (i:=h/2) (by omega) (by omega)
 have hok:=hm.2.2.2 _ hin
 have hc:=Cn.edge hin
 unfold aw b6 pI
 have h2:h%2=0\/h%2=1:=by omega
 rcases h2 with e|e
 · rw[e];simpa using hc
 · rw[e]
   exact(Cn.eqv g).symm _ _ hok.1 hok.2 (by simpa using hc)
theorem tO{g:bK}{i:Nat}(hi:(i:Int)<g.2.length):2*(i:Int)∈bL g (gI g.2 (i:Int)).1/\2*(i:Int)+1∈bL g (gI g.2 (i:Int)).2/\b6 g (2*(i:Int))=(gI g.2 (i:Int)).2/\b6 g (2*(i:Int)+1)=(gI g.2 (i:Int)).1:=by
 have e1:(2*(i:Int))/2=i:=by omega
 have e2:(2*(i:Int))%2=0:=by omega
 have e3:(2*(i:Int)+1)/2=i:=by omega
 have e4:(2*(i:Int)+1)%2=1:=by omega
 refine⟨?_,?_,by unfold b6;rw[e1,e2];simp[pI],by unfold b6;rw[e3,e4];simp[pI]⟩
 · unfold bL gG
   refine List.mem_filter.2 ⟨List.mem_map.2 ⟨2*i,List.mem_range.2 (by omega),by push_cast;rfl⟩,?_⟩
   simp only[decide_eq_true_eq]
   unfold aw;rw[e1,e2];simp[pI]
 · unfold bL gG
   refine List.mem_filter.2 ⟨List.mem_map.2 ⟨2*i+1,List.mem_range.2 (by omega),by push_cast;rfl⟩,?_⟩
   simp only[decide_eq_true_eq]
   unfold aw;rw[e3,e4];simp[pI]
theorem q5{g:bK}{S:Int->Prop}(hS:∀x h,S x->h∈bL g x->S (b6 g h)){u v:Int}(hc:Cn g u v):S u->S v:=by
 refine(hc (λu v=>S u↔S v) ⟨λ_ _=>Iff.rfl,λ_ _ _ _ h=>h.symm,λ_ _ _ _ _ _ h1 h2=>h1.trans h2⟩ (λe he=>?_)).1
 obtain⟨i,hi,rfl⟩:=List.mem_iff_getElem.1 he
 have e:gI g.2 (i:Int)=g.2[i]:=by simp[gI,hi]
 obtain⟨a,b,c,d⟩:=tO (g:=g) (i:=i) (by omega)
 rw[e] at a b c d
 exact⟨λh=>by rw[<-c];exact hS _ _ h a,λh=>by rw[<-d];exact hS _ _ h b⟩
theorem pV(g:bK)(v:Int)(s:Bf)(h:Int):∀x∈(fS g v s h).order,x∈s.order\/x=b6 g h:=by
 intro x hx
 unfold fS at hx
 split at hx
 · rcases List.mem_append.1 hx with hx|hx
   · exact .inl hx
   · exact .inr (List.mem_singleton.1 hx)
 · exact .inl hx
theorem lG{g:bK}(hm:bg g){v:Int}:∀(l:List Int) (s:Bf),(∀h∈l,h∈bL g v)->k6 g s->v∈s.order->
   k6 g (l.foldl (fS g v) s)/\(∃t,(l.foldl (fS g v) s).order=s.order++t)/\(∀x∈(l.foldl (fS g v) s).order,x∈s.order\/∃h∈bL g v,x=b6 g h)/\∀h∈l,b6 g h∈(l.foldl (fS g v) s).order
 |[],s,_,hs,hv=>⟨hs,⟨[],by simp⟩,λx hx=>.inl hx,by simp⟩
 |a::l,s,hl,hs,hv=>by
   have hin:=(cJ (hl a (by simp))).1
   have ht:=dM hm hin.1 hin.2
   have h1:=hs.one (v:=v) (h:=a) hv ht.1 ht.2
   obtain⟨t,ht1⟩:=pU g v s a
   have ha:b6 g a∈(fS g v s a).order:=by
     by_cases c:gI s.far (b6 g a)<0
     · unfold fS;rw[if_pos c];simp
     · rw[ht1]
       have:b6 g a∈s.order:=Classical.byContradiction λhn=>c ((hs.iff _ ht.1 ht.2).2 hn)
       simp[this]
   obtain⟨k1,⟨t2,k2⟩,k3,k4⟩:=lG hm l (fS g v s a) (λh hh=>hl h (by simp[hh])) h1 (by rw[ht1];simp[hv])
   rw[List.foldl_cons]
   refine⟨k1,⟨t++t2,by rw[k2,ht1,List.append_assoc]⟩,λx hx=>?_,λh hh=>?_⟩
   · rcases k3 x hx with hx|hx
     · rcases pV g v s a x hx with hx|hx
       · exact .inl hx
       · exact .inr ⟨a,hl a (by simp),hx⟩
     · exact .inr hx
   · rcases List.mem_cons.1 hh with rfl|hh
     · rw[k2];simp[ha]
     · exact k4 h hh
theorem pv{g:bK}(hm:bg g){s0:Int}:∀(n i:Nat) (s:Bf),k6 g s->(∀x∈s.order,Cn g s0 x)->s0∈s.order->eE g s0->(∀q:Nat,q<i->(q:Int)<s.order.length->∀h∈bL g (gI s.order (q:Int)),b6 g h∈s.order)->(g.1:Int)<=n+i->
   k6 g (lV g n i s)/\(∀x∈(lV g n i s).order,Cn g s0 x)/\s0∈(lV g n i s).order/\∀x∈(lV g n i s).order,∀h∈bL g x,b6 g h∈(lV g n i s).order
 |0,i,s,hs,hc,h0,hd,hq,hn=>by
   refine⟨hs,hc,h0,λx hx h hh=>?_⟩
   obtain⟨q,hq1,e⟩:=List.mem_iff_getElem.1 hx
   have hl:=hs.len hm.1
   change q<s.order.length at hq1
   have eq1:gI s.order (q:Int)=x:=by simp only[lV] at e;simp[gI,hq1,e]
   exact hq q (by omega) (by omega) h (by rw[eq1];exact hh)
 |n+1,i,s,hs,hc,h0,hd,hq,hn=>by
   simp only[lV]
   by_cases c:i<s.order.length
   · rw[if_pos c]
     have hv:=bP (xs:=s.order) (i:=(i:Int)) (by omega) (by omega)
     obtain⟨k1,⟨t,k2⟩,k3,k4⟩:=lG hm (v:=gI s.order (i:Int)) (bL g (gI s.order (i:Int))) s (λh hh=>hh) hs hv
     have hvd:=hs.rng _ hv
     have hpre:∀q:Nat,(q:Int)<s.order.length->gI (lI g (gI s.order (i:Int)) s).order (q:Int)=gI s.order (q:Int):=λq hq'=>by
       unfold lI;rw[k2];unfold gI
       have:((q:Int)).toNat<s.order.length:=by omega
       simp only[Int.toNat_natCast] at this ⊢
       simp[List.getD_eq_getElem?_getD,List.getElem?_append_left this]
     refine pv hm n (i+1) (lI g (gI s.order (i:Int)) s) k1 (λx hx=>?_) (by unfold lI;rw[k2];simp[h0]) hd (λq hq1 hq2 h hh=>?_) (by omega)
     · rcases k3 x hx with hx|⟨h,hh,rfl⟩
       · exact hc x hx
       · have hin:=cJ hh
         have h1:=Cn.half hm hin.1.1 hin.1.2
         rw[hin.2] at h1
         exact(Cn.eqv g).trans _ _ _ hd hvd (dM hm hin.1.1 hin.1.2) (hc _ hv) h1
     · by_cases e:q=i
       · subst e
         rw[hpre q (by omega)] at hh
         exact k4 h hh
       · have hq3:(q:Int)<s.order.length:=by omega
         rw[hpre q hq3] at hh
         have:=hq q (by omega) hq3 h hh
         unfold lI;rw[k2];simp[this]
   · rw[if_neg c]
     refine⟨hs,hc,h0,λx hx h hh=>?_⟩
     obtain⟨q,hq1,e⟩:=List.mem_iff_getElem.1 hx
     have eq1:gI s.order (q:Int)=x:=by simp[gI,hq1,e]
     exact hq q (by omega) (by omega) h (by rw[eq1];exact hh)
theorem h7{g:bK}(hm:bg g){s0:Int}(h0:eE g s0):(∀x∈(da g s0).order,eE g x)/\∀x,x∈(da g s0).order↔Cn g s0 x:=by
 obtain⟨k1,k2,k3,k4⟩:=pv hm (s0:=s0) g.1.toNat 0 (eL g s0) (k6.start h0.1 h0.2) (by simp[eL];exact(Cn.eqv g).rfl s0 h0) (by simp[eL]) h0 (λq hq=>by omega) (by have:=hm.1;omega)
 refine⟨k1.rng,λx=>⟨k2 x,λhc=>?_⟩⟩
 exact q5 (S:=λx=>x∈(da g s0).order) (λx h hx hh=>k4 x hx h hh) hc k3
theorem kg{n:Int}:∀(O p:List Int) (v:Int),0<=v->v<p.length->(∀x∈O,0<=x/\x<p.length)->gI (O.foldl (λl w=>l.set w.toNat n) p) v=if v∈O then n else gI p v
 |[],p,v,h0,h1,_=>by simp
 |a::O,p,v,h0,h1,ho=>by
   have ha:=ho a (by simp)
   rw[List.foldl_cons,kg O _ v h0 (by simpa using h1) (λx hx=>by simpa using ho x (by simp[hx])),bY ha.1 ha.2 h0]
   by_cases e:v=a
   · subst e;simp
   · by_cases hv:v∈O
     · simp[hv]
     · simp[hv,e]
structure qX(g:bK)(p:List Int×Int)(l:List Int)(k:Nat):Prop where
  len:(p.1.length:Int)=g.1
  num:p.2=(l.length:Int)
  nd:l.Nodup
  dom:∀x∈l,eE g x
  one:∀x∈l,∀y∈l,Cn g x y->x=y
  iff:∀v,eE g v->(0<=gI p.1 v↔∃y∈l,Cn g v y)
  all:∀v:Nat,v<k->(v:Int)<g.1->∃y∈l,Cn g (v:Int) y
theorem kF{g:bK}(hm:bg g):∀k:Nat,(k:Int)<=g.1->∃l,qX g (dZ g k) l k
 |0,_=>⟨[],by simp[dZ,bJ];have:=hm.1;omega,by simp[dZ,bJ],by simp,by simp,by simp,λv hv=>by
     have e:(dZ g 0).1=List.replicate g.1.toNat (-1):=by simp[dZ,bJ]
     rw[e,fm hv.1 (by have:=hv.2;omega)];simp,λv hv=>by omega⟩
 |k+1,hk=>by
   obtain⟨l,h⟩:=kF hm k (by omega)
   have hkd:eE g (k:Int):=⟨by omega,by omega⟩
   obtain⟨hb1,hb2⟩:=h7 hm hkd
   rw[gW]
   unfold j6
   by_cases c:0<=gI (dZ g k).1 (k:Int)
   · rw[if_pos c]
     refine⟨l,h.len,h.num,h.nd,h.dom,h.one,h.iff,λv hv hg=>?_⟩
     by_cases e:v=k
     · subst e;exact(h.iff _ hkd).1 c
     · exact h.all v (by omega) hg
   · rw[if_neg c]
     have hno:∀y∈l,¬Cn g (k:Int) y:=λy hy hc=>c ((h.iff _ hkd).2 ⟨y,hy,hc⟩)
     have hlen:=h.len
     have hnn:0<=(dZ g k).2:=by rw[h.num];omega
     refine⟨l++[(k:Int)],?_,?_,?_,?_,?_,?_,?_⟩
     · simp only;rw[fw];exact hlen
     · simp only[h.num];simp
     · rw[List.nodup_append]
       refine⟨h.nd,by simp,λa ha b hb e=>?_⟩
       obtain rfl:=List.mem_singleton.1 hb
       subst e
       exact hno _ ha ((Cn.eqv g).rfl _ hkd)
     · intro x hx
       rcases List.mem_append.1 hx with hx|hx
       · exact h.dom x hx
       · obtain rfl:=List.mem_singleton.1 hx;exact hkd
     · intro x hx y hy hc
       rcases List.mem_append.1 hx with hx|hx
       · rcases List.mem_append.1 hy with hy|hy
         · exact h.one x hx y hy hc
         · obtain rfl:=List.mem_singleton.1 hy
           exact absurd ((Cn.eqv g).symm _ _ (h.dom x hx) hkd hc) (hno x hx)
       · obtain rfl:=List.mem_singleton.1 hx
         rcases List.mem_append.1 hy with hy|hy
         · exact absurd hc (hno y hy)
         · obtain rfl:=List.mem_singleton.1 hy;rfl
     · intro v hv
       simp only
       rw[kg _ _ v hv.1 (by have:=hv.2;omega) (λx hx=>by have:=hb1 x hx;exact⟨this.1,by have:=this.2;omega⟩)]
       by_cases hvo:v∈(da g (k:Int)).order
       · rw[if_pos hvo]
         exact⟨λ_=>⟨(k:Int),by simp,(Cn.eqv g).symm _ _ hkd hv ((hb2 v).1 hvo)⟩,λ_=>hnn⟩
       · rw[if_neg hvo,h.iff v hv]
         constructor
         · rintro⟨y,hy,hc⟩;exact⟨y,by simp[hy],hc⟩
         · rintro⟨y,hy,hc⟩
           rcases List.mem_append.1 hy with hy|hy
           · exact⟨y,hy,hc⟩
           · obtain rfl:=List.mem_singleton.1 hy
             exact absurd ((hb2 v).2 ((Cn.eqv g).symm _ _ hv hkd hc)) hvo
     · intro v hv hg
       by_cases e:v=k
       · subst e;exact⟨(v:Int),by simp,(Cn.eqv g).rfl _ hkd⟩
       · obtain⟨y,hy,hc⟩:=h.all v (by omega) hg
         exact⟨y,by simp[hy],hc⟩
theorem lE{g:bK}(hm:bg g):∃k:Nat,(fY g).2.1=(k:Int)/\ln (eE g) (Cn g) k:=by
  have h0:=hm.1
  obtain⟨l,h⟩:=kF hm g.1.toNat (by omega)
  refine⟨l.length,by unfold fY;rw[if_pos hm];exact h.num,l,⟨h.nd,h.dom,λx hx=>?_,h.one⟩,rfl⟩
  have:=h.all x.toNat (by have:=hx.1;have:=hx.2;omega) (by have:=hx.1;have:=hx.2;omega)
  rwa[show((x.toNat:Nat):Int)=x by have:=hx.1;omega] at this
end TL
