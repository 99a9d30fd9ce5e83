/- Plain texts of this claim, part 1. By an AI agent. -/
import Derived.Test.YtmakonaaojadbaaBeTlP0
import Derived.Laws.StructEq
import Derived.OrdersHeld
/-
  TlDraw: regions that draw their order, taken operation by operation.
  By an AI agent.
-/
set_option linter.all false
namespace TL
open Go
def ci(n:Nat)(done:List Nat):Array Bool:=((List.range n).map λi=>decide (i∈done)).toArray
theorem dr(n:Nat)(done:List Nat)(j:Nat)(d:Bool):(ci n done).getD j d=if j<n then decide (j∈done) else d:=by
 unfold ci
 by_cases h:j<n
 · simp[h]
 · simp[h]
theorem cY{n i:Nat}(done:List Nat)(hi:i<n):(ci n done).setIfInBounds i true=ci n (i::done):=by
 apply Array.ext
 · simp[ci]
 · intro j h1 h2
   have hj:j<n:=by simpa[ci] using h2
   simp only[ci]
   by_cases hij:i=j
   · subst hij;simp
   · have:¬j=i:=λh=>hij h.symm
     simp[Array.getElem_setIfInBounds,hij,this]
section
variable{P:Program}{ops:Array Oper}{Q:Exit->Act->World->Prop}{md:Region.Mode}{qs:Nat->Bool}
def kF(P:Program)(md:Region.Mode)(ops:Array Oper)(qs:Nat->Bool)(Q:Exit->Act->World->Prop):Nat->Array Bool->Act->World->Prop
  |0,listed,a,w=>Region.ready md ops listed=[]/\Q .normal a w
  |fuel+1,listed,a,w=>(Region.ready md ops listed=[]->Q .normal a w)/\
    ∀i∈Region.ready md ops listed,if qs i then stOp P ops w i (λa'=>kF P md ops qs Q fuel (listed.setIfInBounds i true) a' w) a
      else wpOp P ops Q i (kF P md ops qs Q fuel (listed.setIfInBounds i true)) a w
theorem gf:∀(fuel:Nat) (listed:Array Bool) (a:Act) (w:World),kF P md ops qs Q fuel listed a w->wpAny P md ops Q fuel listed a w
 |0,_,_,_,h=>h
 |fuel+1,listed,a,w,h=>by
   refine⟨h.1,λi hi=>?_⟩
   have h2:=h.2 i hi
   cases hq:qs i with
   |true=>
     simp only[hq,if_true] at h2
     exact wpOp_of_stOp (λa' h'=>gf fuel _ a' w h') h2
   |false=>
     simp only[hq,Bool.false_eq_true,if_false] at h2
     exact wpOp_mono (λa' w' h'=>gf fuel _ a' w' h') h2
theorem nf{i:Nat}{oi:Oper}{v:Value}{w:World}{M D:Array Bool}(hi:ops[i]? =some oi)(hsel:∀(j:Nat) (o:Oper) cs b,ops[j]? =some o->o.op≠ .select cs b)(hqi:qs i=true)
    (hM:∀j oj,ops[j]? =some oj->M.getD j false=false->j≠i->∃e∈oj.after,Region.binds md e=true/\M.getD e.on false=false)
    (hMq:∀j oj,ops[j]? =some oj->M.getD j false=true->D.getD j true=false->j≠i->qs j=true):
    ∀(fuel:Nat) (listed:Array Bool) (a:Act),listed.size=ops.size->(∀j,listed.getD j false=true->M.getD j false=true)->(∀j,listed.getD j true=false->D.getD j true=false)->
      (∀j oj,ops[j]? =some oj->j≠i->listed.getD j true=false->(∀e∈oj.after,Region.binds md e=true->e.on≠i)->oi.apart ops oj=true)->
      i∈Region.ready md ops listed->YieldsAt P ops w oi v a->
      kF P md ops qs Q fuel (listed.setIfInBounds i true) (a.put oi.dst v) w->kF P md ops qs Q (fuel+1) listed a w:=by
  intro fuel
  induction fuel with
  |zero=>
    intro listed a _ _ _ _ hr hy H
    refine⟨λh=>(by rw[h] at hr;cases hr),λj hj=>?_⟩
    by_cases hji:j=i
    · subst hji;rw[if_pos hqi];exact hy.stOp hi H
    · have:=ready_mono hj hji
      rw[H.1] at this
      cases this
  |succ fuel ih=>
    intro listed a hsz hsub hD hfree hr hy H
    refine⟨λh=>(by rw[h] at hr;cases hr),λj hj=>?_⟩
    by_cases hji:j=i
    · subst hji;rw[if_pos hqi];exact hy.stOp hi H
    · obtain⟨hjun,oj,hoj,hall⟩:=mem_ready.1 hj
      have hMj:M.getD j false=true:=by
        cases hm:M.getD j false with
        |true=>rfl
        |false=>
          obtain⟨e,he,hb,hn⟩:=hM j oj hoj hm hji
          have:=hsub _ (hall e he hb)
          rw[hn] at this;cases this
      have hqj:=hMq j oj hoj hMj (hD j hjun) hji
      have h1:=H.2 j (ready_mono hj hji)
      rw[if_pos hqj] at h1 ⊢
      have hnot:∀e∈oj.after,Region.binds md e=true->e.on≠i:=λe he hb heq=>by
        have h1:=hall e he hb
        have h0:=(mem_ready.1 hr).1
        rw[heq] at h1
        rw[getD_both h0] at h1
        cases h1
      have h2:=stOp_put hoj (hfree j oj hoj hji hjun hnot) (λcs b=>hsel i oi cs b hi) (λcs b=>hsel j oj cs b hoj) hy h1
      have hfree':∀k ok,ops[k]? =some ok->k≠i->(listed.setIfInBounds j true).getD k true=false->
          (∀e∈ok.after,Region.binds md e=true->e.on≠i)->oi.apart ops ok=true:=λk ok hk hki hun hno=>by
        refine hfree k ok hk hki ?_ hno
        by_cases hjk:j=k
        · subst hjk;exact hjun
        · rw[getD_set_ne true hjk] at hun;exact hun
      have hsub':∀k,(listed.setIfInBounds j true).getD k false=true->M.getD k false=true:=λk hk=>by
        by_cases hjk:j=k
        · subst hjk;exact hMj
        · rw[getD_set_ne false hjk] at hk;exact hsub k hk
      have hD':∀k,(listed.setIfInBounds j true).getD k true=false->D.getD k true=false:=λk hk=>by
        by_cases hjk:j=k
        · subst hjk;exact hD j hjun
        · rw[getD_set_ne true hjk] at hk;exact hD k hk
      refine stOp_mono (λa' h3=>ih (listed.setIfInBounds j true) a' (by simpa using hsz) hsub' hD' hfree' (ready_mono hr (Ne.symm hji)) h3.1 ?_) h2
      rw[Array.setIfInBounds_comm _ _ hji]
      exact h3.2
def aI{α:Type}(s:Sem α):Prop:=∀(P:Program) (w:World) (x:α) (w':World),s.run P w= .ok x w'->eB w.heap.size w w'
theorem aI.bind{α β:Type}{s:Sem α}{f:α->Sem β}(h:aI s)(hf:∀a,aI (f a)):aI (s>>=f):=by
 intro P w x w' hr
 rw[Sem.run_bind] at hr
 cases h1:s.run P w with
 |halt e w1=>rw[h1] at hr;cases hr
 |ok a w1=>
   rw[h1] at hr
   have k1:=h P w a w1 h1
   have k2:=hf a P w1 x w' hr
   exact k1.trans (k2.mono k1.size)
theorem aI.pure{α:Type}(a:α):aI (Pure.pure a:Sem α):=λP w x w' h=>by
 simp only[Sem.run_pure] at h
 cases h;exact eB.refl _ _
theorem aI.halt{α:Type}(e:Halt):aI (Sem.halt e:Sem α):=λP w x w' h=>by cases h
theorem aI.stuck{α:Type}(e:String):aI (Go.stuck e:Sem α):=aI.halt _
theorem aI.unsupported{α:Type}(e:Unsupported):aI (Go.unsupported e:Sem α):=aI.halt _
theorem aI.program:aI Go.program:=λP w x w' h=>by
 simp only[run_program] at h
 cases h;exact eB.refl _ _
theorem aI.new(o:Obj):aI (newObj o):=λP w x w' h=>by
 simp only[run_newObj] at h
 cases h
 exact(eB.refl _ w).alloc (Nat.le_refl _) o
theorem aI.typeInfo(t:TypeId):aI (Go.typeInfo t):=aI.bind aI.program λp=>by
 cases p.info? t with
 |some i=>exact aI.pure i
 |none=>exact aI.stuck _
theorem aI.underlying(t:TypeId):aI (Go.underlying t):=aI.bind aI.program λp=>by
 cases p.underlying t with
 |some i=>exact aI.pure i
 |none=>exact aI.stuck _
theorem aI.sizeOf(t:TypeId):aI (Go.sizeOf t):=aI.bind (aI.typeInfo t) λi=>aI.pure _
theorem aI.zeroValue(t:TypeId):aI (Go.zeroValue t):=aI.bind (aI.typeInfo t) λi=>by
 cases i.zero with
 |some v=>exact aI.pure v
 |none=>exact aI.unsupported _
theorem aI.newVar(t:TypeId)(v:Value):aI (Go.newVar t v):=aI.bind (aI.new _) λ_=>aI.pure _
theorem jp(t:TypeId)(len:Nat)(parts:Array (Nat×Value)):aI (Instr.buildSlice t len parts):=by
 unfold Instr.buildSlice
 refine aI.bind (aI.underlying t) λd=>?_
 split
 · refine aI.bind (aI.sizeOf _) λsize=>?_
   have tail:∀(elem:TypeId) (zero:Array Value),aI (match Instr.fill (λi=>some (i*size,size)) ((Array.range (len*size)).map (zero[· %zero.size]!)) parts.toList with
       |some cells=>(do pure (Value.slice (some (<-newRow elem cells)) len len):Sem Value)
       |_=>Go.stuck "buildSlice: a part of the wrong size"):=λelem zero=>by
     split
     · exact aI.bind (aI.bind (aI.new _) λ_=>aI.pure _) λ_=>aI.pure _
     · exact aI.stuck _
   by_cases h1:len*size>2^24
   · simp only[h1,if_true]
     refine aI.bind (aI.unsupported _) λx=>?_
     by_cases h2:len*size=0
     · rw[if_pos h2]
       exact aI.bind (aI.pure _) λzero=>tail _ zero
     · simp only[h2,if_false]
       exact aI.bind (aI.zeroValue _) λ_=>aI.bind (aI.pure _) λzero=>tail _ zero
   · simp only[h1,if_false]
     by_cases h2:len*size=0
     · rw[if_pos h2]
       exact aI.bind (aI.pure _) λzero=>tail _ zero
     · simp only[h2,if_false]
       exact aI.bind (aI.zeroValue _) λ_=>aI.bind (aI.pure _) λzero=>tail _ zero
 · exact aI.stuck _
theorem qe{P:Program}{w w':World}{s:Sem Value}{nx:Next}(h:(do pure (Next.value (<-s)):Sem Next).run P w= .ok nx w'):∃u,nx= .value u:=by
 rw[Sem.run_bind] at h
 cases hs:s.run P w with
 |ok a w1=>rw[hs] at h;cases h;exact⟨a,rfl⟩
 |halt e w1=>rw[hs] at h;cases h
theorem aI.load(a:Addr)(m:Mode):aI (Go.load a m):=λP w x w' h=>by
 simp only[Go.load,Sem.run] at h
 split at h
 · cases h;exact eB.refl _ _
 · split at h
   · cases h;exact eB.refl _ _
   · cases h
theorem aI.cells(a:Addr):∀(n i:Nat) (acc:Array Value),aI (loadCellsFrom a i n acc)
 |0,_,_=>aI.pure _
 |n+1,i,_=>aI.bind (aI.load _ _) λ_=>aI.cells a n (i+1) _
theorem aI.isAgg(t:TypeId):aI (Go.isAgg t):=aI.bind (aI.underlying t) λd=>by
 split<;>exact aI.pure _
theorem aI.error{α:Type}(m:String):aI (runtimePanic (.error m):Sem α):=aI.bind aI.program λp=>aI.halt _
theorem aI.asIntOf(v:Value):aI (Go.asIntOf v):=by
 unfold Go.asIntOf
 split
 · exact aI.pure _
 · exact aI.unsupported _
 · exact aI.stuck _
theorem aI.asInt(v:Value):aI (Go.asInt v):=aI.bind (aI.asIntOf v) λ_=>aI.pure _
theorem aI.choose(q:Question):aI (Go.choose q):=λP w x w' h=>by
 simp only[Go.choose,Sem.run] at h
 split at h
 · cases h;exact eB.refl _ _
 · cases h;exact⟨rfl,rfl,rfl,Nat.le_refl _,λ_ _=>rfl,Nat.le_succ _⟩
theorem aI.room(n:Nat):aI (askRoom n):=λP w x w' h=>by
 unfold askRoom at h
 split at h
 · simp only[Go.mark,Sem.run] at h
   cases h;exact⟨rfl,rfl,rfl,Nat.le_refl _,λ_ _=>rfl,Nat.le_refl _⟩
 · cases h;exact eB.refl _ _
theorem lA(t:TypeId)(a:Value):aI (Instr.loadAt t a):=by
 unfold Instr.loadAt
 refine aI.bind ?_ λb=>?_
 · unfold Instr.sureAddr
   split
   · exact aI.pure _
   · exact aI.stuck _
 · unfold loadVar
   refine aI.bind (aI.isAgg t) λc=>?_
   split
   · exact aI.bind (aI.sizeOf t) λn=>aI.bind (aI.cells _ _ _ _) λ_=>aI.pure _
   · exact aI.load _ _
theorem jE(t:TypeId)(a b:Value):aI (Instr.makeSlice t a b):=by
 unfold Instr.makeSlice
 refine aI.bind (aI.underlying t) λd=>?_
 split
 · refine aI.bind (aI.asInt _) λl=>aI.bind (aI.asInt _) λc=>aI.bind (aI.typeInfo _) λi=>?_
   have tail:∀(c:Int) (l:Int) (elem:TypeId),aI (do
       let n:=c.toNat*(<-sizeOf elem)
       let zero<-if n=0 then pure #[] else do pure (<-zeroValue elem).cells
       let a<-newRow elem ((Array.range n).map (zero[· %zero.size]!))
       pure (Value.slice (some a) l.toNat c.toNat)):=λc l elem=>by
     refine aI.bind (aI.sizeOf _) λn=>?_
     have last:∀zero:Array Value,aI (do
       let a<-newRow elem ((Array.range (c.toNat*n)).map (zero[· %zero.size]!))
       pure (Value.slice (some a) l.toNat c.toNat)):=λzero=>aI.bind (aI.bind (aI.new _) λ_=>aI.pure _) λ_=>aI.pure _
     by_cases h:c.toNat*n=0
     · simp only[h,if_true]
       have:=last #[]
       simp only[h] at this
       exact aI.bind (aI.pure _) λ_=>aI.bind (aI.bind (aI.new _) λ_=>aI.pure _) λ_=>aI.pure _
     · simp only[h,if_false]
       exact aI.bind (aI.zeroValue _) λ_=>aI.bind (aI.pure _) λz=>last z
   dsimp only
   repeat' (first
     |exact aI.error _
     |exact aI.choose _
     |exact aI.room _
     |exact tail _ _ _
     |exact aI.pure _
     |refine aI.bind ?_ λ_=>?_
     |split)
 · exact aI.stuck _
def gW:Op->Bool
 | .alloc _| .box .. | .buildSlice .. | .load .. | .makeSlice .. =>true
 |_=>false
theorem nv{ρ:Operand->Value}{o:Oper}(h:gW o.op=true):aI (execOp ρ o):=by
 obtain⟨dst,op,ty,pos,after,g⟩:=o
 cases op<;>simp only[gW,Bool.false_eq_true] at h
 case alloc e=>exact aI.bind (aI.bind (aI.zeroValue _) λ_=>aI.bind (aI.newVar _ _) λ_=>aI.pure _) λ_=>aI.pure _
 case box e x=>exact aI.bind (aI.bind (aI.newVar _ _) λ_=>aI.pure _) λ_=>aI.pure _
 case buildSlice t n ps=>exact aI.bind (jp _ _ _) λ_=>aI.pure _
 case load t a=>exact aI.bind (lA _ _) λ_=>aI.pure _
 case makeSlice t a b=>exact aI.bind (jE _ _ _) λ_=>aI.pure _
theorem pC{i:Nat}{oi:Oper}{v:Value}{w0:World}{M D:Array Bool}(hi:ops[i]? =some oi)(hsel:∀(j:Nat) (o:Oper) cs b,ops[j]? =some o->o.op≠ .select cs b)(hqi:qs i=true)
    (hQ:∀c a w,Q (.panic c) (a.put oi.dst v) w->Q (.panic c) a w)
    (hM:∀j oj,ops[j]? =some oj->M.getD j false=false->j≠i->∃e∈oj.after,Region.binds md e=true/\M.getD e.on false=false)
    (hMq:∀j oj,ops[j]? =some oj->M.getD j false=true->D.getD j true=false->j≠i->qs j=true\/gW oj.op=true):
    ∀(fuel:Nat) (listed:Array Bool) (a:Act) (w:World),eB w0.heap.size w0 w->(∀j,listed.getD j false=true->M.getD j false=true)->(∀j,listed.getD j true=false->D.getD j true=false)->
      (∀j oj,ops[j]? =some oj->j≠i->listed.getD j true=false->(∀e∈oj.after,Region.binds md e=true->e.on≠i)->oi.apart ops oj=true)->
      i∈Region.ready md ops listed->(∀w,eB w0.heap.size w0 w->YieldsAt P ops w oi v a)->
      kF P md ops qs Q fuel (listed.setIfInBounds i true) (a.put oi.dst v) w->kF P md ops qs Q (fuel+1) listed a w:=by
  intro fuel
  induction fuel with
  |zero=>
    intro listed a w hw _ _ _ hr hy H
    refine⟨λh=>(by rw[h] at hr;cases hr),λj hj=>?_⟩
    by_cases hji:j=i
    · subst hji;rw[if_pos hqi];exact(hy w hw).stOp hi H
    · have:=ready_mono hj hji
      rw[H.1] at this
      cases this
  |succ fuel ih=>
    intro listed a w hw hsub hD hfree hr hy H
    refine⟨λh=>(by rw[h] at hr;cases hr),λj hj=>?_⟩
    by_cases hji:j=i
    · subst hji;rw[if_pos hqi];exact(hy w hw).stOp hi H
    · obtain⟨hjun,oj,hoj,hall⟩:=mem_ready.1 hj
      have hMj:M.getD j false=true:=by
        cases hm:M.getD j false with
        |true=>rfl
        |false=>
          obtain⟨e,he,hb,hn⟩:=hM j oj hoj hm hji
          have:=hsub _ (hall e he hb)
          rw[hn] at this;cases this
      have hqj:=hMq j oj hoj hMj (hD j hjun) hji
      have h1:=H.2 j (ready_mono hj hji)
      have hnot:∀e∈oj.after,Region.binds md e=true->e.on≠i:=λe he hb heq=>by
        have h1:=hall e he hb
        have h0:=(mem_ready.1 hr).1
        rw[heq] at h1
        rw[getD_both h0] at h1
        cases h1
      have hap:=hfree j oj hoj hji hjun hnot
      have hfree':∀k ok,ops[k]? =some ok->k≠i->(listed.setIfInBounds j true).getD k true=false->
          (∀e∈ok.after,Region.binds md e=true->e.on≠i)->oi.apart ops ok=true:=λk ok hk hki hun hno=>by
        refine hfree k ok hk hki ?_ hno
        by_cases hjk:j=k
        · subst hjk;exact hjun
        · rw[getD_set_ne true hjk] at hun;exact hun
      have hsub':∀k,(listed.setIfInBounds j true).getD k false=true->M.getD k false=true:=λk hk=>by
        by_cases hjk:j=k
        · subst hjk;exact hMj
        · rw[getD_set_ne false hjk] at hk;exact hsub k hk
      have hD':∀k,(listed.setIfInBounds j true).getD k true=false->D.getD k true=false:=λk hk=>by
        by_cases hjk:j=k
        · subst hjk;exact hD j hjun
        · rw[getD_set_ne true hjk] at hk;exact hD k hk
      obtain⟨g1,g2,g3⟩:=Oper.apart_spec hap
      have keep:∀u w,eB w0.heap.size w0 w->YieldsAt P ops w oi v (a.put oj.dst u):=λu w hw=>
        (hy w hw).of_same (execOp_put oi (λcs b=>hsel i oi cs b hi) a oj.dst u g3) (wanted_put oi a oj.dst u g3)
      cases hqj':qs j with
      |true=>
        simp only[hqj',if_true] at h1 ⊢
        obtain⟨u,hyu,hK⟩:=yieldsAt_of_stOp hoj h1
        have hyj:YieldsAt P ops w oj u a:=by
          rcases hyu with⟨k1,k2⟩|⟨k1,k2⟩
          · refine .inl ⟨by rw[<-wanted_put oj a oi.dst v g1];exact k1,?_⟩
            rw[execOp_put oj (λcs b=>hsel j oj cs b hoj) a oi.dst v g1] at k2
            exact k2
          · exact .inr ⟨by rw[<-wanted_put oj a oi.dst v g1];exact k1,k2⟩
        refine hyj.stOp hoj (ih (listed.setIfInBounds j true) (a.put oj.dst u) w hw hsub' hD' hfree' (ready_mono hr (Ne.symm hji)) (keep u) ?_)
        rw[<-Act.put_comm a v u g2,Array.setIfInBounds_comm _ _ hji]
        exact hK
      |false=>
        have hkk:=hqj.resolve_left (by rw[hqj'];simp)
        simp only[hqj',Bool.false_eq_true,if_false] at h1 ⊢
        unfold wpOp at h1 ⊢
        simp only[hoj] at h1 ⊢
        rw[wanted_put oj a oi.dst v g1] at h1
        cases hwt:Region.wanted oj (yielded ops a.tmps) with
        |false=>
          simp only[hwt,Bool.false_eq_true,if_false] at h1 ⊢
          refine ih (listed.setIfInBounds j true) (a.put oj.dst undef) w hw hsub' hD' hfree' (ready_mono hr (Ne.symm hji)) (keep undef) ?_
          rw[<-Act.put_comm a v undef g2,Array.setIfInBounds_comm _ _ hji]
          exact h1
        |true=>
          simp only[hwt,if_true] at h1 ⊢
          have hke:=nv (ρ:=a.eval) hkk P w
          rcases h1 with h1|⟨h1,h2⟩
          · left
            unfold Oper.wp at h1 ⊢
            rw[execOp_put oj (λcs b=>hsel j oj cs b hoj) a oi.dst v g1] at h1
            obtain⟨dst,op,ty,pos,after,gd⟩:=oj
            cases hrun:(execOp a.eval ⟨dst,op,ty,pos,after,gd⟩).run P w with
            |halt x w'=>
              rw[hrun] at h1
              cases x<;>simp only[Oper.upon] at h1 ⊢
              case panic u=>exact hQ _ _ _ h1
            |ok nx w'=>
              rw[hrun] at h1
              have hb:=hke nx w' hrun
              have hw':eB w0.heap.size w0 w':=hw.trans (hb.mono hw.size)
              -- these operations yield values alone
              have hval:∃u,nx= .value u:=by
                cases op<;>simp only[gW,Bool.false_eq_true] at hkk
                all_goals exact qe hrun
              obtain⟨u,rfl⟩:=hval
              simp only[Oper.upon] at h1 ⊢
              refine ih (listed.setIfInBounds j true) (a.put dst u) w' hw' hsub' hD' hfree' (ready_mono hr (Ne.symm hji)) (keep u) ?_
              have h3:=h1
              rw[show(a.put oi.dst v).put dst u=(a.put dst u).put oi.dst v from Act.put_comm a v u g2,Array.setIfInBounds_comm _ _ (Ne.symm hji)] at h3
              exact h3
          · right
            refine⟨?_,h2⟩
            unfold Oper.asks at*
            rw[execOp_put oj (λcs b=>hsel j oj cs b hoj) a oi.dst v g1] at h1
            exact h1
theorem kW{i:Nat}{oi:Oper}{v:Value}(hi:ops[i]? =some oi)(hsel:∀(j:Nat) (o:Oper) cs b,ops[j]? =some o->o.op≠ .select cs b)(hqi:qs i=true)
    (hQ:∀c a w,Q (.panic c) (a.put oi.dst v) w->Q (.panic c) a w):
    ∀(fuel:Nat) (listed:Array Bool) (a:Act) (w:World),
      (∀j oj,ops[j]? =some oj->j≠i->listed.getD j true=false->(∀e∈oj.after,Region.binds md e=true->e.on≠i)->oi.apart ops oj=true)->
      i∈Region.ready md ops listed->Yields P ops oi v a->
      kF P md ops qs Q fuel (listed.setIfInBounds i true) (a.put oi.dst v) w->kF P md ops qs Q (fuel+1) listed a w:=by
  have hat:∀{a:Act} {w:World},Yields P ops oi v a->YieldsAt P ops w oi v a:=λ {a w} hy=>by
    rcases hy with⟨h1,h2⟩|⟨h1,h2⟩
    · exact .inl ⟨h1,.inl (h2 w)⟩
    · exact .inr ⟨h1,h2⟩
  intro fuel
  induction fuel with
  |zero=>
    intro listed a w _ hr hy H
    refine⟨λh=>(by rw[h] at hr;cases hr),λj hj=>?_⟩
    by_cases hji:j=i
    · subst hji;rw[if_pos hqi];exact(hat hy).stOp hi H
    · have:=ready_mono hj hji
      rw[H.1] at this
      cases this
  |succ fuel ih=>
    intro listed a w hfree hr hy H
    refine⟨λh=>(by rw[h] at hr;cases hr),λj hj=>?_⟩
    by_cases hji:j=i
    · subst hji;rw[if_pos hqi];exact(hat hy).stOp hi H
    · obtain⟨hjun,oj,hoj,hall⟩:=mem_ready.1 hj
      have h1:=H.2 j (ready_mono hj hji)
      have hnot:∀e∈oj.after,Region.binds md e=true->e.on≠i:=λe he hb heq=>by
        have h1:=hall e he hb
        have h0:=(mem_ready.1 hr).1
        rw[heq] at h1
        rw[getD_both h0] at h1
        cases h1
      have hap:=hfree j oj hoj hji hjun hnot
      have hfree':∀k ok,ops[k]? =some ok->k≠i->(listed.setIfInBounds j true).getD k true=false->
          (∀e∈ok.after,Region.binds md e=true->e.on≠i)->oi.apart ops ok=true:=λk ok hk hki hun hno=>by
        refine hfree k ok hk hki ?_ hno
        by_cases hjk:j=k
        · subst hjk;exact hjun
        · rw[getD_set_ne true hjk] at hun;exact hun
      cases hqj:qs j with
      |true=>
        simp only[hqj,if_true] at h1 ⊢
        -- a step that leaves the world
        have hy':=hy
        obtain⟨g1,g2,g3⟩:=Oper.apart_spec hap
        have keep:∀(a:Act),Yields P ops oi v a->∀u,Yields P ops oi v (a.put oj.dst u):=λa hy u=>
          hy.of_same (execOp_put oi (λcs b=>hsel i oi cs b hi) a oj.dst u g3) (wanted_put oi a oj.dst u g3)
        obtain⟨u,hyu,hK⟩:=yieldsAt_of_stOp hoj h1
        have hyj:YieldsAt P ops w oj u a:=by
          rcases hyu with⟨k1,k2⟩|⟨k1,k2⟩
          · refine .inl ⟨by rw[<-wanted_put oj a oi.dst v g1];exact k1,?_⟩
            rw[execOp_put oj (λcs b=>hsel j oj cs b hoj) a oi.dst v g1] at k2
            exact k2
          · exact .inr ⟨by rw[<-wanted_put oj a oi.dst v g1];exact k1,k2⟩
        refine hyj.stOp hoj (ih (listed.setIfInBounds j true) (a.put oj.dst u) w hfree' (ready_mono hr (Ne.symm hji)) (keep a hy u) ?_)
        rw[<-Act.put_comm a v u g2,Array.setIfInBounds_comm _ _ hji]
        exact hK
      |false=>
        simp only[hqj,Bool.false_eq_true,if_false] at h1 ⊢
        have h2:=wpOp_put hoj hap (λcs b=>hsel i oi cs b hi) (λcs b=>hsel j oj cs b hoj) hQ hy h1
        refine wpOp_mono (λa' w' h3=>ih (listed.setIfInBounds j true) a' w' hfree' (ready_mono hr (Ne.symm hji)) h3.1 ?_) h2
        rw[Array.setIfInBounds_comm _ _ hji]
        exact h3.2
end
section
variable{P:Program}{n:Nat}{l:List Oper}{qs:List Nat}{K:Fr->World->Prop}{f:Fr}{w:World}{done:List Nat}{fuel:Nat}
def ij(P:Program)(n:Nat)(l:List Oper)(qs:List Nat)(K:Fr->World->Prop)(fuel:Nat)(done:List Nat)(f:Fr)(w:World):Prop:=
  ∀a,Ag n a f->kF P .any l.toArray (λi=>decide (i∈qs)) (λe a' w'=>e= .normal/\∃f',Ag n a' f'/\K f' w') fuel (ci l.length done) a w
theorem bj{fid:Nat}{R:Ending->World->Prop}{k:List Item}{id:Nat}(γ:aF)(qs:List Nat)(hm:P.follows .mixedOrders=true)
   (h:∀w1,bg no γ w γ w1->ij P n l qs (fe P fid n R k) l.length [] f w1):fe P fid n R (.code (.region id l.toArray true)::k) f w:=
 ic λa ha=>wp_region_any hm (by
   have h0:=gf _ _ _ _ (h _ (bg.refl _ _ _).drew a ha)
   have hmask:ci l.length []=Array.replicate l.toArray.size false:=by
     apply Array.ext
     · simp[ci]
     · intro j h1 h2;simp[ci]
   rw[hmask] at h0
   simpa using h0)
theorem cV{fid:Nat}{R:Ending->World->Prop}{k:List Item}{id:Nat}{σ:Type}(Mid:σ->Fr->World->Prop)(γ:aF)(qs:List Nat)(hm:P.follows .mixedOrders=true)
    (h:(∀s f w,Mid s f w->fe P fid n R k f w)->∀w1,bg no γ w γ w1->ij P n l qs (fe P fid n R k) l.length [] f w1)(hk:∀s f w,Mid s f w->fe P fid n R k f w):fe P fid n R (.code (.region id l.toArray true)::k) f w:=
  bj γ qs hm (h hk)
def fI(l:List Oper)(done:List Nat)(i:Nat):Bool:=
 !done.contains i&&match l[i]? with
   |some o=>o.after.all λe=> !Region.binds .any e||done.contains e.on&&decide (e.on<l.length)
   |none=>false
def gU(l:List Oper)(done:List Nat)(i:Nat):Bool:=
 match l[i]? with
 |none=>false
 |some oi=>(List.range l.length).all λj=>j==i||done.contains j||match l[j]? with
     |some oj=>oj.after.any (λe=>Region.binds .any e&&e.on==i)||oi.apart l.toArray oj
     |none=>true
def lS(l:List Oper)(qs done M:List Nat)(i:Nat):Bool:=
  ((List.range l.length).all λj=>M.contains j||j==i||match l[j]? with
      |some oj=>oj.after.any λe=>Region.binds .any e&& !M.contains e.on
      |none=>true)&&
  (M.all λj=>j==i||done.contains j||qs.contains j)&&(done.all λj=>M.contains j&&decide (j<l.length))&&M.all λj=>decide (j<l.length)
def ga(l:List Oper):Bool:=Region.noSelect l.toArray
theorem fg{i:Nat}(h:fI l done i=true):i<l.length/\i∈Region.ready .any l.toArray (ci l.length done):=by
 unfold fI at h
 simp only[Bool.and_eq_true,Bool.not_eq_true'] at h
 obtain⟨h1,h2⟩:=h
 split at h2
 · rename_i o ho
   have hlt:i<l.length:=(List.getElem?_eq_some_iff.1 ho).1
   refine⟨hlt,mem_ready.2 ⟨by rw[dr];simp[hlt];simpa using h1,o,by simpa using ho,λe he hb=>?_⟩⟩
   have h3:=Array.all_eq_true_iff_forall_mem.1 h2 e he
   simp only[hb,Bool.not_true,Bool.false_or,Bool.and_eq_true,decide_eq_true_eq] at h3
   rw[dr,if_pos h3.2]
   simpa using h3.1
 · cases h2
theorem fK{i:Nat}{oi:Oper}(hi:l[i]? =some oi)(h:gU l done i=true)(j:Nat)(oj:Oper)(hj:l.toArray[j]? =some oj)(hne:j≠i)(hun:(ci l.length done).getD j true=false)
   (hno:∀e∈oj.after,Region.binds .any e=true->e.on≠i):oi.apart l.toArray oj=true:=by
 have hj':l[j]? =some oj:=by simpa using hj
 have hlt:j<l.length:=(List.getElem?_eq_some_iff.1 hj').1
 unfold gU at h
 simp only[hi,List.all_eq_true,List.mem_range] at h
 have h1:=h j hlt
 rw[dr,if_pos hlt] at hun
 have hd:done.contains j=false:=by simpa using hun
 simp only[hj',Bool.or_eq_true,beq_iff_eq,hne,false_or,hd,Bool.false_eq_true] at h1
 rcases h1 with h1|h1
 · obtain⟨e,he,hb⟩:=Array.any_eq_true'.1 h1
   simp only[Bool.and_eq_true,beq_iff_eq] at hb
   exact absurd hb.2 (hno e he hb.1)
 · exact h1
theorem gX(h:ga l=true):∀(j:Nat) (o:Oper) cs b,l.toArray[j]? =some o->o.op≠ .select cs b:=Region.noSelect_spec h
theorem jg{i:Nat}(h:qs.contains i=true):decide (i∈qs)=true:=by simpa using h
variable{dst:Option Tmp}{op:Op}{ty:TypeId}{pos:String}{after:Array Edge}{g:Option (Nat×Bool)}{v:Value}
theorem d8(i:Nat)(M:List Nat)(hi:l[i]? =some ⟨dst,op,ty,pos,after,g⟩)(hn:ga l=true)(hc:(qs.contains i&&fI l done i&&gU l done i&&lS l qs done M i&&j8 n ⟨dst,op,ty,pos,after,g⟩)=true)
    (hw:cQ l ⟨dst,op,ty,pos,after,g⟩ f=true)(h:(execOp (ev f) ⟨dst,op,ty,pos,after,g⟩).run P w= .ok (.value v) w)(hk:ij P n l qs K fuel (i::done) (fF f dst v) w):ij P n l qs K (fuel+1) done f w:=by
  simp only[Bool.and_eq_true] at hc
  obtain⟨⟨⟨⟨hq,hr⟩,hf⟩,hb⟩,hd⟩:=hc
  obtain⟨hlt,hr'⟩:=fg hr
  intro a ha
  unfold lS at hb
  simp only[Bool.and_eq_true,List.all_eq_true,List.mem_range] at hb
  obtain⟨⟨⟨b1,b2⟩,b3⟩,b4⟩:=hb
  have hgM:∀j,(ci l.length M).getD j false=true↔j∈M:=λj=>by
    rw[dr]
    by_cases hjl:j<l.length
    · simp[hjl]
    · simp only[hjl,if_false,Bool.false_eq_true,false_iff]
      exact λhm=>hjl (by simpa using b4 j hm)
  refine nf (v:=v) (M:=ci l.length M) (D:=ci l.length done) (by simpa using hi) (gX hn) (jg hq) (λj oj hj hm hne=>?_) (λj oj hj hm hD hne=>?_) fuel _ a (by simp[ci]) (λj hj=>?_) (λj hj=>hj) (fK hi hf) hr' ?_ ?_
  · have hj':l[j]? =some oj:=by simpa using hj
    have hjl:j<l.length:=(List.getElem?_eq_some_iff.1 hj').1
    have h1:=b1 j hjl
    have hmM:M.contains j=false:=by
      cases hc:M.contains j with
      |false=>rfl
      |true=>have h9:=(hgM j).2 (by simpa using hc);rw[hm] at h9;cases h9
    simp only[hmM,hj',Bool.false_or,Bool.or_eq_true,beq_iff_eq,hne,false_or] at h1
    obtain⟨e,he,hbb⟩:=Array.any_eq_true'.1 h1
    simp only[Bool.and_eq_true,Bool.not_eq_true'] at hbb
    refine⟨e,he,hbb.1,?_⟩
    cases hc:(ci l.length M).getD e.on false with
    |false=>rfl
    |true=>
      have:=(hgM _).1 hc
      have h2:=hbb.2
      simp[this] at h2
  · have h1:=b2 j ((hgM j).1 hm)
    have hj':l[j]? =some oj:=by simpa using hj
    have hjl:j<l.length:=(List.getElem?_eq_some_iff.1 hj').1
    rw[dr,if_pos hjl] at hD
    have hd:done.contains j=false:=by simpa using hD
    simp only[Bool.or_eq_true,beq_iff_eq,hne,hd,false_or,Bool.false_eq_true] at h1
    exact jg h1
  · rw[dr] at hj
    split at hj
    · have h1:=b3 j (by simpa using hj)
      exact(hgM j).2 (by simpa using h1.1)
    · cases hj
  · refine .inl ⟨?_,.inl ?_⟩
    · rw[ha.yielded];exact hw
    · rw[ha.eval];exact h
  · rw[cY done hlt]
    exact hk _ (ha.put hd v)
def lP(l:List Oper)(qs done M:List Nat)(i:Nat):Bool:=
 ((List.range l.length).all λj=>M.contains j||j==i||match l[j]? with
     |some oj=>oj.after.any λe=>Region.binds .any e&& !M.contains e.on
     |none=>true)&&
 (M.all λj=>j==i||done.contains j||qs.contains j||match l[j]? with
     |some oj=>gW oj.op
     |none=>false)&&(done.all λj=>M.contains j&&decide (j<l.length))&&M.all λj=>decide (j<l.length)
theorem ua(i:Nat)(M:List Nat)(hi:l[i]? =some ⟨dst,op,ty,pos,after,g⟩)(hn:ga l=true)(hc:(qs.contains i&&fI l done i&&gU l done i&&lP l qs done M i&&j8 n ⟨dst,op,ty,pos,after,g⟩)=true)
    (hw:cQ l ⟨dst,op,ty,pos,after,g⟩ f=true)(h:∀w',eB w.heap.size w w'->(execOp (ev f) ⟨dst,op,ty,pos,after,g⟩).run P w'= .ok (.value v) w')(hk:ij P n l qs K fuel (i::done) (fF f dst v) w):ij P n l qs K (fuel+1) done f w:=by
  simp only[Bool.and_eq_true] at hc
  obtain⟨⟨⟨⟨hq,hr⟩,hf⟩,hb⟩,hd⟩:=hc
  obtain⟨hlt,hr'⟩:=fg hr
  intro a ha
  unfold lP at hb
  simp only[Bool.and_eq_true,List.all_eq_true,List.mem_range] at hb
  obtain⟨⟨⟨b1,b2⟩,b3⟩,b4⟩:=hb
  have hgM:∀j,(ci l.length M).getD j false=true↔j∈M:=λj=>by
    rw[dr]
    by_cases hjl:j<l.length
    · simp[hjl]
    · simp only[hjl,if_false,Bool.false_eq_true,false_iff]
      exact λhm=>hjl (by simpa using b4 j hm)
  refine pC (v:=v) (w0:=w) (M:=ci l.length M) (D:=ci l.length done) (by simpa using hi) (gX hn) (jg hq) (λc a w h=>by cases h.1) (λj oj hj hm hne=>?_) (λj oj hj hm hD hne=>?_) fuel _ a w (eB.refl _ _) (λj hj=>?_) (λj hj=>hj) (fK hi hf) hr' (λw' hw'=>?_) ?_
  · have hj':l[j]? =some oj:=by simpa using hj
    have hjl:j<l.length:=(List.getElem?_eq_some_iff.1 hj').1
    have h1:=b1 j hjl
    have hmM:M.contains j=false:=by
      cases hc:M.contains j with
      |false=>rfl
      |true=>have h9:=(hgM j).2 (by simpa using hc);rw[hm] at h9;cases h9
    simp only[hmM,hj',Bool.false_or,Bool.or_eq_true,beq_iff_eq,hne,false_or] at h1
    obtain⟨e,he,hbb⟩:=Array.any_eq_true'.1 h1
    simp only[Bool.and_eq_true,Bool.not_eq_true'] at hbb
    refine⟨e,he,hbb.1,?_⟩
    cases hc:(ci l.length M).getD e.on false with
    |false=>rfl
    |true=>
      have:=(hgM _).1 hc
      have h2:=hbb.2
      simp[this] at h2
  · have h1:=b2 j ((hgM j).1 hm)
    have hj':l[j]? =some oj:=by simpa using hj
    have hjl:j<l.length:=(List.getElem?_eq_some_iff.1 hj').1
    rw[dr,if_pos hjl] at hD
    have hd:done.contains j=false:=by simpa using hD
    simp only[hj',Bool.or_eq_true,beq_iff_eq,hne,hd,false_or,Bool.false_eq_true] at h1
    rcases h1 with h1|h1
    · exact .inl (jg h1)
    · exact .inr h1
  · rw[dr] at hj
    split at hj
    · have h1:=b3 j (by simpa using hj)
      exact(hgM j).2 (by simpa using h1.1)
    · cases hj
  · refine .inl ⟨?_,.inl ?_⟩
    · rw[ha.yielded];exact hw
    · rw[ha.eval];exact h w' hw'
  · rw[cY done hlt]
    exact hk _ (ha.put hd v)
theorem bE(i:Nat)(hi:l[i]? =some ⟨dst,op,ty,pos,after,g⟩)(hn:ga l=true)(hc:(qs.contains i&&fI l done i&&gU l done i&&j8 n ⟨dst,op,ty,pos,after,g⟩)=true)
    (hw:cQ l ⟨dst,op,ty,pos,after,g⟩ f=true)(h:∀w,(execOp (ev f) ⟨dst,op,ty,pos,after,g⟩).run P w= .ok (.value v) w)(hk:ij P n l qs K fuel (i::done) (fF f dst v) w):ij P n l qs K (fuel+1) done f w:=by
  simp only[Bool.and_eq_true] at hc
  obtain⟨⟨⟨hq,hr⟩,hf⟩,hd⟩:=hc
  obtain⟨hlt,hr'⟩:=fg hr
  intro a ha
  refine kW (v:=v) (by simpa using hi) (gX hn) (jg hq) (λc a w h=>by cases h.1) fuel _ a w (fK hi hf) hr' (.inl ⟨by rw[ha.yielded];exact hw,λw=>by rw[ha.eval];exact h w⟩) ?_
  rw[cY done hlt]
  exact hk _ (ha.put hd v)
theorem aJ(i:Nat)(hi:l[i]? =some ⟨dst,op,ty,pos,after,g⟩)(hn:ga l=true)(hc:(qs.contains i&&fI l done i&&gU l done i&&j8 n ⟨dst,op,ty,pos,after,g⟩)=true)
   (hw:cQ l ⟨dst,op,ty,pos,after,g⟩ f=false)(hk:ij P n l qs K fuel (i::done) (fF f dst undef) w):ij P n l qs K (fuel+1) done f w:=by
 simp only[Bool.and_eq_true] at hc
 obtain⟨⟨⟨hq,hr⟩,hf⟩,hd⟩:=hc
 obtain⟨hlt,hr'⟩:=fg hr
 intro a ha
 refine kW (v:=undef) (by simpa using hi) (gX hn) (jg hq) (λc a w h=>by cases h.1) fuel _ a w (fK hi hf) hr' (.inr ⟨by rw[ha.yielded];exact hw,rfl⟩) ?_
 rw[cY done hlt]
 exact hk _ (ha.put hd undef)
theorem fh{i:Nat}{o:Oper}{a:Act}{K':Act->World->Prop}{Q:Exit->Act->World->Prop}{N:Value->World->Prop}(ha:Ag n a f)(hi:l[i]? =some o)(hw:cQ l o f=true)(h:fC P o f w N)(hN:∀v w',N v w'->K' (a.put o.dst v) w'):wpOp P l.toArray Q i K' a w:=by
 unfold wpOp
 have hi':l.toArray[i]? =some o:=by simpa using hi
 simp only[hi']
 have hw':Region.wanted o (yielded l.toArray a.tmps)=true:=by rw[ha.yielded];exact hw
 simp only[hw',if_true]
 refine .inl ?_
 unfold Oper.wp
 rw[ha.eval]
 unfold fC at h
 generalize(execOp (ev f) o).run P w=r at*
 cases r with
 |halt x w'=>exact h.elim
 |ok nx w'=>
   cases nx<;>simp only[nX] at h<;>simp only[Oper.upon]
   case value v=>exact hN _ _ h
   case skip=>exact hN _ _ h
   case enter g args=>
     refine h.mono λe w'' he=>?_
     cases e with
     |returned v=>exact hN _ _ he
     |panicked c=>exact he.elim
     |outgrown=>exact he.elim
theorem bn(i:Nat)(hi:l[i]? =some ⟨dst,op,ty,pos,after,g⟩)(hc:(decide (Region.ready .any l.toArray (ci l.length done)=[i])&& !qs.contains i&&j8 n ⟨dst,op,ty,pos,after,g⟩)=true)
    (hw:cQ l ⟨dst,op,ty,pos,after,g⟩ f=true)(h:fC P ⟨dst,op,ty,pos,after,g⟩ f w (λv w'=>ij P n l qs K fuel (i::done) (fF f dst v) w')):ij P n l qs K (fuel+1) done f w:=by
  simp only[Bool.and_eq_true,decide_eq_true_eq,Bool.not_eq_true'] at hc
  obtain⟨⟨hr,hq⟩,hd⟩:=hc
  have hlt:i<l.length:=(List.getElem?_eq_some_iff.1 hi).1
  intro a ha
  refine⟨λh0=>(by rw[hr] at h0;cases h0),λj hj=>?_⟩
  rw[hr] at hj
  obtain rfl:j=i:=by simpa using hj
  have hq':decide (j∈qs)=false:=by simpa using hq
  simp only[hq',Bool.false_eq_true,if_false]
  refine fh ha hi hw h λv w' hk=>?_
  rw[cY done hlt]
  exact hk _ (ha.put hd v)
theorem sU(i:Nat)(hi:l[i]? =some ⟨dst,op,ty,pos,after,g⟩)(hc:(decide (Region.ready .any l.toArray (ci l.length done)=[i])&& !qs.contains i&&j8 n ⟨dst,op,ty,pos,after,g⟩)=true)
    (hw:cQ l ⟨dst,op,ty,pos,after,g⟩ f=false)(hk:ij P n l qs K fuel (i::done) (fF f dst undef) w):ij P n l qs K (fuel+1) done f w:=by
  simp only[Bool.and_eq_true,decide_eq_true_eq,Bool.not_eq_true'] at hc
  obtain⟨⟨hr,hq⟩,hd⟩:=hc
  have hlt:i<l.length:=(List.getElem?_eq_some_iff.1 hi).1
  intro a ha
  refine⟨λh0=>(by rw[hr] at h0;cases h0),λj hj=>?_⟩
  rw[hr] at hj
  obtain rfl:j=i:=by simpa using hj
  have hq':decide (j∈qs)=false:=by simpa using hq
  simp only[hq',Bool.false_eq_true,if_false]
  unfold wpOp
  have hi':l.toArray[j]? =some ⟨dst,op,ty,pos,after,g⟩:=by simpa using hi
  simp only[hi']
  have hw':Region.wanted ⟨dst,op,ty,pos,after,g⟩ (yielded l.toArray a.tmps)=false:=by rw[ha.yielded];exact hw
  simp only[hw',Bool.false_eq_true,if_false]
  rw[cY done hlt]
  exact hk _ (ha.put hd undef)
theorem fU(i j:Nat){dst':Option Tmp}{op':Op}{ty':TypeId}{pos':String}{after':Array Edge}{g':Option (Nat×Bool)}(hi:l[i]? =some ⟨dst,op,ty,pos,after,g⟩)(hj:l[j]? =some ⟨dst',op',ty',pos',after',g'⟩)
    (hc:(decide (Region.ready .any l.toArray (ci l.length done)=[i,j])&& !qs.contains i&& !qs.contains j&&j8 n ⟨dst,op,ty,pos,after,g⟩&&j8 n ⟨dst',op',ty',pos',after',g'⟩)=true)
    (hw:cQ l ⟨dst,op,ty,pos,after,g⟩ f=true)(hw':cQ l ⟨dst',op',ty',pos',after',g'⟩ f=true)
    (h:fC P ⟨dst,op,ty,pos,after,g⟩ f w (λv w'=>ij P n l qs K fuel (i::done) (fF f dst v) w'))(h':fC P ⟨dst',op',ty',pos',after',g'⟩ f w (λv w'=>ij P n l qs K fuel (j::done) (fF f dst' v) w')):ij P n l qs K (fuel+1) done f w:=by
  simp only[Bool.and_eq_true,decide_eq_true_eq,Bool.not_eq_true'] at hc
  obtain⟨⟨⟨⟨hr,hq⟩,hq2⟩,hd⟩,hd'⟩:=hc
  have hlt:i<l.length:=(List.getElem?_eq_some_iff.1 hi).1
  have hlt':j<l.length:=(List.getElem?_eq_some_iff.1 hj).1
  intro a ha
  refine⟨λh0=>(by rw[hr] at h0;cases h0),λk hk=>?_⟩
  rw[hr] at hk
  have hk':k=i\/k=j:=by simpa using hk
  rcases hk' with rfl|rfl
  · have hq':decide (k∈qs)=false:=by simpa using hq
    simp only[hq',Bool.false_eq_true,if_false]
    refine fh ha hi hw h λv w' hk=>?_
    rw[cY done hlt]
    exact hk _ (ha.put hd v)
  · have hq':decide (k∈qs)=false:=by simpa using hq2
    simp only[hq',Bool.false_eq_true,if_false]
    refine fh ha hj hw' h' λv w' hk=>?_
    rw[cY done hlt']
    exact hk _ (ha.put hd' v)
theorem bQ(hr:decide (Region.ready .any l.toArray (ci l.length done)=[])=true)(h:K f w):ij P n l qs K 0 done f w:=λ_ ha=>⟨of_decide_eq_true hr,rfl,f,ha,h⟩
end
end TL
/-
  TlHold: regions that draw their order, where what is read stays: on the kit's OrdersHeld.
  By an AI agent.
-/
set_option linter.all false
namespace TL
open Go
section
variable{P:Program}{n:Nat}{l:List Oper}{S:World->Prop}{K:Fr->World->Prop}{f:Fr}{w:World}{done:List Nat}{fuel:Nat}
def pZ(P:Program)(n:Nat)(l:List Oper)(S:World->Prop)(K:Fr->World->Prop)(fuel:Nat)(done:List Nat)(f:Fr)(w:World):Prop:=
  ∀a,Ag n a f->wpAnyH P .any l.toArray (λe a' w'=>e= .normal/\∃f',Ag n a' f'/\K f' w') S fuel (ci l.length done) a w
theorem bg.same{J:cx->Prop}{γ γ':aF}{w w':World}(h:bg J γ w γ' w'):bg J γ w γ w':=⟨h.os,h.tape,h.output,h.size,λ_ _ _=>rfl,h.keep,h.drawn⟩
theorem lX{fid:Nat}{R:Ending->World->Prop}{k:List Item}{id:Nat}(γ:aF)(J:cx->Prop)(hm:P.follows .mixedOrders=true)
   (h:∀w1,bg no γ w γ w1->pZ P n l (λw'=>bg J γ w1 γ w') (fe P fid n R k) l.length [] f w1):fe P fid n R (.code (.region id l.toArray true)::k) f w:=
 ic λa ha=>wp_region_held hm (by
   have h0:=h _ (bg.refl _ _ _).drew a ha
   have hmask:ci l.length []=Array.replicate l.toArray.size false:=by
     apply Array.ext
     · simp[ci]
     · intro j h1 h2;simp[ci]
   rw[hmask] at h0
   simpa using h0)
theorem dd{fid:Nat}{R:Ending->World->Prop}{k:List Item}{id:Nat}{σ:Type}(Mid:σ->Fr->World->Prop)(γ:aF)(J:cx->Prop)(hm:P.follows .mixedOrders=true)
    (h:(∀s f w,Mid s f w->fe P fid n R k f w)->∀w1,bg no γ w γ w1->pZ P n l (λw'=>bg J γ w1 γ w') (fe P fid n R k) l.length [] f w1)(hk:∀s f w,Mid s f w->fe P fid n R k f w):fe P fid n R (.code (.region id l.toArray true)::k) f w:=
  lX γ J hm (h hk)
variable{dst:Option Tmp}{op:Op}{ty:TypeId}{pos:String}{after:Array Edge}{g:Option (Nat×Bool)}{v:Value}
theorem uc(i:Nat)(hi:l[i]? =some ⟨dst,op,ty,pos,after,g⟩)(hn:ga l=true)(hc:(fI l done i&&gU l done i&&j8 n ⟨dst,op,ty,pos,after,g⟩)=true)
   (hw:cQ l ⟨dst,op,ty,pos,after,g⟩ f=true)(hS:S w)(h:∀w,S w->(execOp (ev f) ⟨dst,op,ty,pos,after,g⟩).run P w= .ok (.value v) w)(hk:pZ P n l S K fuel (i::done) (fF f dst v) w):pZ P n l S K (fuel+1) done f w:=by
 simp only[Bool.and_eq_true] at hc
 obtain⟨⟨hr,hf⟩,hd⟩:=hc
 obtain⟨hlt,hr'⟩:=fg hr
 intro a ha
 refine wpAnyH_first (v:=v) (by simpa using hi) (gX hn) (λc a w h=>by cases h.1) fuel _ a w (fK hi hf) hr' (.inl ⟨by rw[ha.yielded];exact hw,λw hs=>by rw[ha.eval];exact h w hs⟩) hS ?_
 rw[cY done hlt]
 exact hk _ (ha.put hd v)
def uL(P:Program)(n:Nat)(l:List Oper)(S:World->Prop)(K:Fr->World->Prop)(fuel:Nat)(done:List Nat)(f:Fr)(w:World)(i:Nat):Prop:=
  ∃o,l[i]? =some o/\i<l.length/\(cQ l o f=true/\j8 n o=true/\fC P o f w (λv w'=>S w'/\pZ P n l S K fuel (i::done) (fF f o.dst v) w'))
theorem cy(i:Nat)(hi:l[i]? =some ⟨dst,op,ty,pos,after,g⟩)(hc:j8 n ⟨dst,op,ty,pos,after,g⟩=true)(hw:cQ l ⟨dst,op,ty,pos,after,g⟩ f=true)
   (h:fC P ⟨dst,op,ty,pos,after,g⟩ f w (λv w'=>S w'/\pZ P n l S K fuel (i::done) (fF f dst v) w')):uL P n l S K fuel done f w i:=
 ⟨_,hi,(List.getElem?_eq_some_iff.1 hi).1,hw,hc,h⟩
def sy(P:Program)(n:Nat)(l:List Oper)(S:World->Prop)(K:Fr->World->Prop)(fuel:Nat)(done:List Nat)(f:Fr)(w:World):List Nat->Prop
 |[]=>True
 |i::r=>uL P n l S K fuel done f w i/\sy P n l S K fuel done f w r
theorem sy.mem{L:List Nat}(h:sy P n l S K fuel done f w L):∀i∈L,uL P n l S K fuel done f w i:=by
 induction L with
 |nil=>intro i hi;cases hi
 |cons j r ih=>
   intro i hi
   rcases List.mem_cons.1 hi with rfl|hi
   · exact h.1
   · exact ih h.2 i hi
theorem cG(i:Nat)(L:List Nat)(hr:decide (Region.ready .any l.toArray (ci l.length done)=i::L)=true)(h:sy P n l S K fuel done f w (i::L)):pZ P n l S K (fuel+1) done f w:=by
 have hr:=of_decide_eq_true hr
 intro a ha
 refine⟨λh0=>(by rw[hr] at h0;cases h0),λk hk=>?_⟩
 rw[hr] at hk
 obtain⟨o,hi,hlt,hw,hd,ho⟩:=h.mem k (by simpa using hk)
 obtain⟨dst,op,ty,pos,after,g⟩:=o
 refine fh ha hi hw ho λv w' hk=>⟨hk.1,?_⟩
 rw[cY done hlt]
 exact hk.2 _ (ha.put hd v)
theorem aQ(i:Nat)(hi:l[i]? =some ⟨dst,op,ty,pos,after,g⟩)(hc:(decide (Region.ready .any l.toArray (ci l.length done)=[i])&&j8 n ⟨dst,op,ty,pos,after,g⟩)=true)
   (hw:cQ l ⟨dst,op,ty,pos,after,g⟩ f=true)(h:fC P ⟨dst,op,ty,pos,after,g⟩ f w (λv w'=>S w'/\pZ P n l S K fuel (i::done) (fF f dst v) w')):pZ P n l S K (fuel+1) done f w:=by
 simp only[Bool.and_eq_true] at hc
 exact cG i [] hc.1 ⟨cy i hi hc.2 hw h,trivial⟩
theorem cw(hr:decide (Region.ready .any l.toArray (ci l.length done)=[])=true)(h:K f w):pZ P n l S K 0 done f w:=λ_ ha=>⟨of_decide_eq_true hr,rfl,f,ha,h⟩
end
end TL
namespace TL
open Go
end TL
/-
  TlNet: nets, and what layer 3 says of them, as plain functions.
  By an AI agent.
-/
set_option linter.all false
namespace TL
abbrev bB:=Int×List (Int×Int)
def mF(n:Int)(e:Int×Int):Prop:=(0<=e.1/\e.1<n)/\0<=e.2/\e.2<n
instance (n:Int)(e:Int×Int):Decidable (mF n e):=by unfold mF;infer_instance
def bf(g:bB):Prop:=0<=g.1/\g.1<=1024/\g.2.length<=3072/\∀e∈g.2,mF g.1 e
instance (g:bB):Decidable (bf g):=by unfold bf;infer_instance
def da(g:bB):Bool:=decide (bf g)
theorem kX{g:bB}(h:bf g):da g=true:=decide_eq_true h
theorem cN{g:bB}(h:¬bf g):da g=false:=decide_eq_false h
end TL
namespace TL
theorem jk{α:Type}[Inhabited α](xs:List α)(k:Nat):gI xs (k:Int)=xs.getD k default:=by simp[gI]
theorem bV{α:Type}[Inhabited α]{xs:List α}{i j:Int}{y:α}(hi:0<=i)(hi':i<xs.length)(hj:0<=j):gI (xs.set i.toNat y) j=if j=i then y else gI xs j:=by
 unfold gI
 by_cases h:j=i
 · subst h
   have:j.toNat<xs.length:=by omega
   simp[this]
 · have:i.toNat≠j.toNat:=by omega
   simp[h,List.getElem?_set_ne this]
theorem fA{α:Type}[Inhabited α]{n:Nat}{x:α}{i:Int}(h0:0<=i)(h1:i<n):gI (List.replicate n x) i=x:=by
 have:i.toNat<n:=by omega
 simp[gI,this]
end TL
namespace TL
end TL
namespace TL
end TL
namespace TL
def ak(g:bB)(h:Int):Int:=pI (gI g.2 (h/2)) (h%2)
def gw(g:bB)(v:Int)(k:Nat):List Int:=((List.range (2*k)).map (λ(i:Nat)=>(i:Int))).filter λh=>decide (ak g h=v)
def bA(g:bB)(v:Int):List Int:=gw g v g.2.length
theorem k6(g:bB)(k:Nat):ak g (2*(k:Int))=(gI g.2 k).1:=by
 unfold ak
 have h1:2*(k:Int)/2=k:=by omega
 have h2:2*(k:Int)%2=0:=by omega
 rw[h1,h2];rfl
theorem l8(g:bB)(k:Nat):ak g (2*(k:Int)+1)=(gI g.2 k).2:=by
 unfold ak
 have h1:(2*(k:Int)+1)/2=k:=by omega
 have h2:(2*(k:Int)+1)%2=1:=by omega
 rw[h1,h2];rfl
theorem ni(g:bB)(v:Int)(k:Nat):gw g v (k+1)=gw g v k++((if(gI g.2 k).1=v then[2*(k:Int)] else[])++(if(gI g.2 k).2=v then[2*(k:Int)+1] else[])):=by
 unfold gw
 rw[show 2*(k+1)=2*k+1+1 by omega,List.range_succ,List.range_succ]
 simp only[List.map_append,List.filter_append,List.map_cons,List.map_nil,List.append_assoc]
 congr 1
 have e1:((2*k:Nat):Int)=2*(k:Int):=by omega
 have e2:((2*k+1:Nat):Int)=2*(k:Int)+1:=by omega
 rw[e1,e2]
 congr 1
 · by_cases h:(gI g.2 (k:Int)).1=v
   · simp[k6,h]
   · simp[k6,h]
 · by_cases h:(gI g.2 (k:Int)).2=v
   · simp[l8,h]
   · simp[l8,h]
theorem pJ(g:bB)(v:Int)(k:Nat):(gw g v k).length<=2*k:=by
 unfold gw
 have:=List.length_filter_le (λh=>decide (ak g h=v)) ((List.range (2*k)).map (λ(i:Nat)=>(i:Int)))
 simpa using this
end TL
namespace TL
theorem fp{α:Type}[Inhabited α]{l l':List α}(hl:l.length=l'.length)(h:∀i:Nat,i<l.length->gI l i=gI l' i):l=l':=by
 apply List.ext_getElem hl
 intro i h1 h2
 have:=h i h1
 simpa[gI,h1,h2] using this
end TL
namespace TL
end TL
namespace TL
end TL
namespace TL
section
variable{l0 l1:Int}{F:Int×Int->Int}{g:bB}{k:Nat}
end
end TL
/-
  TlNetSums: degrees' sum; all edges, all nodes; moved there and back.
  By an AI agent.
-/
set_option linter.all false
namespace TL
def bK(n:Nat):List Int:=(List.range n).map λ(i:Nat)=>(i:Int)
theorem qX(n:Nat):(bK n).length=n:=by simp[bK]
theorem cU(n:Nat):bK (n+1)=bK n++[(n:Int)]:=by simp[bK,List.range_succ]
theorem dK{n:Nat}{x:Int}:x∈bK n↔0<=x/\x<n:=by
 unfold bK
 rw[List.mem_map]
 constructor
 · rintro⟨i,hi,rfl⟩
   have:=List.mem_range.1 hi
   omega
 · rintro⟨h1,h2⟩
   exact⟨x.toNat,List.mem_range.2 (by omega),by omega⟩
theorem ke(n:Nat):(bK n).Nodup:=by
 induction n with
 |zero=>simp[bK]
 |succ n ih=>
   rw[cU,List.nodup_append]
   refine⟨ih,by simp,λa ha b hb=>?_⟩
   have:=dK.1 ha
   have:=List.mem_singleton.1 hb
   omega
theorem oL{n:Nat}{i:Int}(h0:0<=i)(h1:i<n):gI (bK n) i=i:=by
 have:i.toNat<n:=by omega
 simp[gI,bK,this]
 omega
theorem kx:∀(n:Nat) (l:List Int),l.Nodup->(∀x∈l,0<=x/\x<(n:Int))->l.length<=n
 |0,l,_,h=>by
   cases l with
   |nil=>simp
   |cons a l=>have:=h a (by simp);omega
 |n+1,l,hn,h=>by
   have h1:(l.erase (n:Int)).Nodup:=hn.erase _
   have h2:=kx n (l.erase (n:Int)) h1 (λx hx=>by
     have h3:=hn.mem_erase_iff.1 hx
     have:=h x h3.2
     omega)
   by_cases hm:(n:Int)∈l
   · have:=List.length_erase_of_mem hm
     omega
   · rw[List.erase_of_not_mem hm] at h2
     omega
theorem po{n:Nat}{l:List Int}(hn:l.Nodup)(h:∀x∈l,0<=x/\x<(n:Int))(hl:l.length=n){u:Int}(h0:0<=u)(h1:u<n):u∈l:=by
 by_cases hu:u∈l
 · exact hu
 · have:=kx n (u::l) (List.nodup_cons.2 ⟨hu,hn⟩) (λx hx=>by
     rcases List.mem_cons.1 hx with rfl|hx
     · exact⟨h0,h1⟩
     · exact h x hx)
   simp at this
   omega
end TL
/-
  TlRef3: what the document's own answer of layer 3 goes through.
  By an AI agent.
-/
set_option linter.all false
namespace TL
def lL(g:bB)(v:Int)(h:Nat):List Int:=((List.range h).map (λ(i:Nat)=>(i:Int))).filter λh=>decide (ak g h=v)
theorem pG(g:bB)(v:Int)(h:Nat):lL g v (h+1)=if ak g h=v then lL g v h++[(h:Int)] else lL g v h:=by
 unfold lL
 rw[List.range_succ,List.map_append,List.filter_append]
 by_cases e:ak g (h:Int)=v
 · rw[if_pos e];simp[e]
 · rw[if_neg e];simp[e]
theorem qg(g:bB)(v:Int)(h:Nat):(lL g v h).length<=h:=by
 unfold lL
 have:=List.length_filter_le (λh=>decide (ak g h=v)) ((List.range h).map (λ(i:Nat)=>(i:Int)))
 simpa using this
theorem rI(g:bB)(v:Int){h:Nat}(hh:h=2*g.2.length):lL g v h=bA g v:=by subst hh;rfl
theorem gA{g:bB}(hm:bf g){h:Int}(h0:0<=h)(h1:h<2*(g.2.length:Int)):0<=ak g h/\ak g h<g.1:=by
 have hok:=hm.2.2.2 _ (bD (xs:=g.2) (i:=h/2) (by omega) (by omega))
 unfold mF at hok
 unfold ak pI
 split<;>omega
end TL
/-
  TlInts: lists that are kept, written full, and read again.
  By an AI agent.
-/
set_option linter.all false
namespace TL
def gB(K:List (List Int))(s:Int):Prop:=(K.length:Int)<=s/\s<=1048576/\∀l∈K,l.length<=1048576
theorem gB.nil:gB [] 0:=⟨by simp,by omega,by simp⟩
theorem gB.add{K:List (List Int)}{s n:Int}{l:List Int}(h:gB K s)(h0:0<n)(h1:s+n<=1048576)(hl:(l.length:Int)<=n):gB (K++[l]) (s+n):=by
 obtain⟨a,b,c⟩:=h
 refine⟨by simp;omega,h1,λx hx=>?_⟩
 rcases List.mem_append.1 hx with hx|hx
 · exact c x hx
 · obtain rfl:=List.mem_singleton.1 hx
   omega
theorem gB.len{K:List (List Int)}{s:Int}(h:gB K s):(K.length:Int)<=s/\s<=1048576/\0<=s:=by
 obtain⟨a,b,c⟩:=h
 omega
structure jv(L:List (List Int))(i:Nat):Prop where
  le:(i:Int)<=L.length
  few:L.length<=1048576
  done:∀r:Nat,r<i->∀q:Nat,q<(gI L r).length->gI (gI L (r:Int)) (q:Int)= -1000-(r:Int)
  rest:∀r:Nat,i<=r->r<L.length->(gI L (r:Int)).length<=1048576
theorem gB.ap{K:List (List Int)}{s:Int}(h:gB K s):jv K 0:=by
 obtain⟨a,b,c⟩:=h
 refine⟨by simp,by omega,λr hr=>by omega,λr _ hr=>c _ (bD (by omega) (by omega))⟩
structure gK(L1 L:List (List Int))(i:Nat)(n:Int):Prop where
  len:L1.length=L.length
  le:((gI L1 i).length:Int)<=1050577
  other:∀r:Nat,r≠i->gI L1 (r:Int)=gI L (r:Int)
theorem gK.start{L:List (List Int)}{i:Nat}{n:Int}(h:jv L i)(hi:(i:Int)<L.length):gK L L i n:=⟨rfl,by have:=h.rest i (Nat.le_refl _) (by omega);omega,λr _=>rfl⟩
theorem gE{α:Type}[Inhabited α]{L:List α}{i r:Nat}{x:α}(h:r≠i):gI (L.set i x) (r:Int)=gI L (r:Int):=by
 simp[gI,List.getElem?_set_ne (Ne.symm h)]
theorem fX{α:Type}[Inhabited α]{L:List α}{i:Nat}{x:α}(h:(i:Int)<L.length):gI (L.set i x) (i:Int)=x:=by
 simp[gI,show i<L.length by omega]
theorem gK.next{L1 L:List (List Int)}{i:Nat}{n:Int}(h:gK L1 L i n)(hi:(i:Int)<L.length)(hn:((gI L1 i).length:Int)<n)(hb:n<=1050577):gK (L1.set (i:Int).toNat (gI L1 i++[0])) L i n:=by
 have hl:=h.len
 refine⟨by simpa using hl,?_,λr hr=>?_⟩
 · simp only[Int.toNat_natCast]
   rw[fX (by omega)];simp;omega
 · simp only[Int.toNat_natCast]
   rw[gE hr,h.other r hr]
theorem gK.meas{L1 L:List (List Int)}{i:Nat}{n:Int}(h:gK L1 L i n)(hi:(i:Int)<L.length):((gI (L1.set (i:Int).toNat (gI L1 i++[0])) i).length:Int)=(gI L1 i).length+1:=by
 have hl:=h.len
 simp only[Int.toNat_natCast]
 rw[fX (by omega)];simp
structure jq(L2 L:List (List Int))(i:Nat)(k:Nat):Prop where
  len:L2.length=L.length
  le:(k:Int)<=(gI L2 (i:Int)).length
  few:((gI L2 i).length:Int)<=1050577
  done:∀q:Nat,q<k->gI (gI L2 (i:Int)) (q:Int)= -1000-(i:Int)
  other:∀r:Nat,r≠i->gI L2 (r:Int)=gI L (r:Int)
theorem gK.wr{L1 L:List (List Int)}{i:Nat}{n:Int}(h:gK L1 L i n):jq L1 L i 0:=⟨h.len,by simp,h.le,λq hq=>by omega,h.other⟩
theorem jq.next{L2 L:List (List Int)}{i k:Nat}(h:jq L2 L i k)(hi:(i:Int)<L.length)(hk:(k:Int)<(gI L2 i).length):jq (L2.set (i:Int).toNat ((gI L2 i).set (k:Int).toNat (-1000-(i:Int)))) L i (k+1)/\(gI (L2.set (i:Int).toNat ((gI L2 i).set (k:Int).toNat (-1000-(i:Int)))) (i:Int)).length=(gI L2 (i:Int)).length:=by
 have hl:=h.len
 simp only[Int.toNat_natCast]
 have e:gI (L2.set i ((gI L2 (i:Int)).set k (-1000-(i:Int)))) (i:Int)=(gI L2 (i:Int)).set k (-1000-(i:Int)):=fX (by omega)
 refine⟨⟨by simpa using hl,by rw[e];simp;omega,by rw[e];simpa using h.few,λq hq=>?_,λr hr=>by rw[gE hr,h.other r hr]⟩,by rw[e];simp⟩
 rw[e]
 by_cases hq2:q=k
 · subst hq2;exact fX hk
 · rw[gE hq2];exact h.done q (by omega)
theorem jq.fin{L2 L:List (List Int)}{i k:Nat}(h:jq L2 L i k)(ha:jv L i)(hi:(i:Int)<L.length)(hk:¬(k:Int)<(gI L2 i).length):jv L2 (i+1):=by
 have hl:=h.len
 have hle:=h.le
 refine⟨by omega,by have:=ha.few;omega,λr hr q hq=>?_,λr h1 h2=>?_⟩
 · by_cases e:r=i
   · subst e;exact h.done q (by omega)
   · rw[h.other r e] at hq ⊢;exact ha.done r (by omega) q hq
 · rw[h.other r (by omega)];exact ha.rest r (by omega) (by omega)
theorem jv.read{L:List (List Int)}{m i k:Nat}(h:jv L m)(hm:(m:Int)=L.length)(hi:(i:Int)<L.length)(hk:(k:Int)<(gI L i).length):gI (gI L (i:Int)) (k:Int)= -1000-(i:Int):=h.done i (by omega) k (by omega)
end TL
namespace TL
end TL
namespace TL
end TL
/-
  TlKeep: rows of an own list given away one by one while the list stays readable; rows with a mark behind each.
  By an AI agent.
-/
set_option linter.all false
namespace TL
open Go
def gv(i k j:Nat):cx->Prop:=λc=>(c.1=i/\c.2≠0)\/(c.1=k/\1<=c.2/\c.2<=j)
def j3(q i k:Nat):cx->Prop:=λc=>c.1=q\/(c.1=i/\c.2=0)\/c.1=k
def jr(q i k r:Nat):cx->Prop:=λc=>c.1=q\/(c.1=i/\c.2=0)\/(c.1=k/\c.2=r)
theorem vr{q i k r:Nat}:∀c,jr q i k r c->j3 q i k c:=λc h=>h.elim .inl λh=>h.elim (λh=>.inr (.inl h)) λh=>.inr (.inr h.1)
theorem uV{j q i k:Nat}(h1:Nat.beq j q=false)(h2:Nat.beq j i=false)(h3:Nat.beq j k=false):∀c,is j c->¬j3 q i k c:=λc h h'=>by
 have e:c.1=j:=h
 rcases h' with h'|h'|h'
 · exact gh h1 (e.symm.trans h')
 · exact gh h2 (e.symm.trans h'.1)
 · exact gh h3 (e.symm.trans h')
theorem bg.l3{L:List Nat}{q i k:Nat}{γ γ':aF}{w w':World}(h:bg (j3 q i k) γ w γ' w')(h1:L.contains q=true)(h2:L.contains i=true)(h3:L.contains k=true):bg (inl L) γ w γ' w':=h.mono λc hc=>by
 unfold inl
 rcases hc with hc|hc|hc
 · rw[hc];exact h1
 · rw[hc.1];exact h2
 · rw[hc];exact h3
def jl(γ:aF)(k r:Nat)(c:cx):aF:=λb=>if γ b=(k,r) then c else γ b
section
variable{P:Program}{w:World}{t t':TypeId}{f:Fr}{x y:Operand}{dst:Option Tmp}{ty:TypeId}{pos:String}{after:Array Edge}{g:Option (Nat×Bool)}{N:Value->World->Prop}{α:Type}[Rp α]{γ:aF}{v u:Value}{xss:List (List α)}{l:List α}{i k j:Nat}
theorem lT[Fl α]{S':cx->Prop}{tv:Value}{c:Vc}(hcv:c.v=u){e bytes:Nat}{z:Value}(ht:P.underlying t=some (.slice e))(he:Tp P e false 1 bytes z)(hzc:z.cells.size=1)(hx:ev f x=v)(hy:ev f y=tv)
    (hn:cL γ i w v xss)(htv:Sl γ S' w tv [c])(hu:Ow γ (row k (j+1)) (row k (j+1)) w u l)(hk:Nat.beq k i=false)(hby:bytes<=128)(hlen:xss.length+1<=1099511627776)
    (hN:∀γ' w' v',bg (λc=>row i 0 c\/row k (j+1) c) γ w γ' w'->cL γ' i w' v' (xss++[l])->Sl γ' (gv i k (j+1)) w' u l->N v' w'):fC P ⟨dst,.call {callee:=.builtin .append,args:= #[x,y],argTypes:= #[t,t]},ty,pos,after,g⟩ f w N:=by
  obtain⟨us,h2,h3,h4⟩:=hn
  have hki:=gh hk
  refine bC γ (J:=row i 0) (S:=row i 0) (i,0) rfl ht he (Nat.zero_lt_one) hzc hx hy h2 htv hby (by simpa[h3] using hlen) λγ1 w1 v1 hc ho=>?_
  have hrw:∀q b,row i q (γ1 b)->row i q (jl γ1 k (j+1) (i,xss.length+1) b):=λq b hq=>by
    unfold row at hq
    unfold jl
    rw[if_neg (by rw[hq];intro h;exact hki (congrArg Prod.fst h).symm)]
    exact hq
  have hch:=hu.chg hc (nU hk) (nU hk)
  have hto:∀b,row k (j+1) (γ1 b)->row i (xss.length+1) (jl γ1 k (j+1) (i,xss.length+1) b):=λb hb=>by
    unfold row at hb
    unfold jl row
    rw[if_pos hb]
  have hrow:=hch.recol hto hto
  refine hN (jl γ1 k (j+1) (i,xss.length+1)) w1 v1 ?_ ⟨us++[c],ho.recol (hrw 0) (hrw 0),by simp[h3],λr u' x hu' hx'=>?_⟩ (hrow.flat.mono λc h=>.inl ⟨dL c h,by unfold row at h;rw[h];simp⟩)
  · refine⟨hc.os,hc.tape,hc.output,hc.size,λb hb hn=>?_,λb hb hn=>hc.keep b hb λhj=>hn (.inl hj),hc.drawn⟩
    have h5:=hc.col b hb λhj=>hn (.inl hj)
    unfold jl
    rw[h5]
    rw[if_neg (show¬γ b=(k,j+1) from λh=>hn (.inr h))]
  · by_cases hr:r<us.length
    · rw[List.getElem?_append_left hr] at hu'
      rw[List.getElem?_append_left (by omega)] at hx'
      exact((h4 r u' x hu' hx').chg hc (eS (by omega)) (eS (by omega))).recol (hrw _) (hrw _)
    · rw[List.getElem?_append_right (by omega)] at hu' hx'
      have e0:r-us.length=0:=by
        have:=(List.getElem?_eq_some_iff.1 hu').1
        simp at this;omega
      have er:r=xss.length:=by omega
      rw[e0] at hu'
      rw[<-h3,e0] at hx'
      obtain rfl:c=u':=by simpa using hu'
      obtain rfl:l=x:=by simpa using hx'
      subst er
      rw[hcv];exact hrow
end
section
variable{α:Type}[Rp α][Fl α]{γ γ':aF}{w w':World}{v:Value}{us:List Vc}{xss:List (List α)}{i k j q:Nat}
structure ii(γ:aF)(i k j:Nat)(w:World)(v:Value)(us:List Vc)(xss:List (List α)):Prop where
  heads:Ow γ (row k 0) (row k 0) w v us
  len:us.length=xss.length
  rows:∀(r:Nat) (u:Vc) (x:List α),us[r]? =some u->xss[r]? =some x->(r<j->Sl γ (gv i k j) w u.v x)/\(¬r<j->Ow γ (row k (r+1)) (row k (r+1)) w u.v x)
theorem ii.start(h:cL γ k w v xss):∃us,ii γ i k 0 w v us xss:=by
 obtain⟨us,h1,h2,h3⟩:=h
 exact⟨us,h1,h2,λr u x hu hx=>⟨λh=>by omega,λ_=>h3 r u x hu hx⟩⟩
theorem ii.next(h:ii γ i k j w v us xss)(hc:bg (jr q i k (j+1)) γ w γ' w')(hqk:Nat.beq k q=false)(hik:Nat.beq k i=false)(hqi:Nat.beq i q=false){u:Vc}{x:List α}(hu:us[j]? =some u)(hx:xss[j]? =some x)(hs:Sl γ' (gv i k (j+1)) w' u.v x):ii γ' i k (j+1) w' v us xss:=by
 have a1:=gh hqk
 have a2:=gh hik
 have a3:=gh hqi
 have rowk:∀r,r≠j+1->∀c,row k r c->¬jr q i k (j+1) c:=λr hr c h1 h2=>by
   unfold row at h1
   subst h1
   rcases h2 with h2|h2|h2
   · exact a1 h2
   · exact a2 h2.1
   · exact hr h2.2
 refine⟨h.heads.chg hc (rowk 0 (by omega)) (rowk 0 (by omega)),h.len,λr u' x' hu' hx'=>⟨λhr=>?_,λhr=>?_⟩⟩
 · by_cases e:r=j
   · subst e
     rw[hu] at hu'
     rw[hx] at hx'
     obtain rfl:=Option.some.inj hu'
     obtain rfl:=Option.some.inj hx'
     exact hs
   · have h1:=(h.rows r u' x' hu' hx').1 (by omega)
     refine(h1.chg hc λc h2 h3=>?_).mono λc h2=>?_
     · rcases h2 with⟨h4,h5⟩|⟨h4,h5,h6⟩
       · rcases h3 with h3|h3|h3
         · exact a3 (h4.symm.trans h3)
         · exact h5 h3.2
         · exact a2 (h3.1.symm.trans h4)
       · rcases h3 with h3|h3|h3
         · exact a1 (h4.symm.trans h3)
         · exact a2 (h4.symm.trans h3.1)
         · have:=h3.2;omega
     · rcases h2 with h2|⟨h4,h5,h6⟩
       · exact .inl h2
       · exact .inr ⟨h4,h5,by omega⟩
 · have h1:=(h.rows r u' x' hu' hx').2 (by omega)
   exact h1.chg hc (rowk _ (by omega)) (rowk _ (by omega))
theorem vB{S:cx->Prop}(h:Sl γ S w v us)(hl:us.length=xss.length)(hr:∀(r:Nat) (u:Vc) (x:List α),us[r]? =some u->xss[r]? =some x->Sl γ S w u.v x):Sl γ S w v xss:=by
  rcases h with⟨h0,rfl⟩|⟨b,off,cap,rfl,hc,hx⟩
  · have:xss=[]:=List.eq_nil_of_length_eq_zero (by simpa using hl.symm)
    subst this
    exact .inl ⟨h0,rfl⟩
  · refine .inr ⟨b,off,cap,by rw[hl],by rw[<-hl];exact hc,λr x hrx=>?_⟩
    have hlt:r<us.length:=by rw[hl];exact(List.getElem?_eq_some_iff.1 hrx).1
    have hu:us[r]? =some us[r]:=List.getElem?_eq_getElem hlt
    obtain⟨h1,h2,cs,hcs,hrep⟩:=hx r _ hu
    have hrep':cs=[us[r].v]:=hrep
    exact⟨h1,h2,cs,hcs,us[r].v,hrep',hr r _ x hu hrx⟩
theorem ii.done(h:ii γ i k j w v us xss)(hj:xss.length<=j):Sl γ (uW k i) w v xss:=by
 refine vB ((h.heads.flat).mono λc hc=>?_) h.len λr u x hu hx=>?_
 · exact .inl (dL c hc)
 · have hlt:=(List.getElem?_eq_some_iff.1 hx).1
   refine((h.rows r u x hu hx).1 (by omega)).mono λc hc=>?_
   rcases hc with hc|hc
   · exact .inr hc
   · exact .inl hc.1
end
inductive Rw where
  |mk (l:List Int) (m:Int)
  |pl (l:List Int)
instance:Inhabited Rw:=⟨.pl []⟩
theorem ph{α:Type}[Rp α]{γ:aF}{S:cx->Prop}{w:World}{v:Value}{xs:List α}{m:α}(h:Sl γ S w (vP v) (xs++[m])):∃a l c,v= .slice a l c:=by
 rcases h with⟨_,h0⟩|⟨b,off,cap,hv,_⟩
 · simp at h0
 · cases v<;>simp[vP] at hv
   exact⟨_,_,_,rfl⟩
def uO(γ:aF)(S:cx->Prop)(w:World)(v:Value):Rw->Prop
  | .mk l m=>Sl γ S w (vP v) (l++[m])
  | .pl l=>Sl γ S w v l
theorem uO.one{γ:aF}{S:cx->Prop}{w:World}{v:Value}{x:Rw}(h:uO γ S w v x):v.oneCell'=true:=by
 cases x with
 |mk l m=>
   obtain⟨a,b,c,rfl⟩:=ph h
   rfl
 |pl l=>
   rcases h with⟨⟨_,rfl⟩,_⟩|⟨b,off,cap,rfl,_⟩<;>rfl
theorem uO.tr{γ γ':aF}{S S':cx->Prop}{w w':World}{v:Value}{x:Rw}(hsz:w.heap.size<=w'.heap.size)(h:∀b,b<w.heap.size->S (γ b)->w'.heap[b]? =w.heap[b]? /\S' (γ' b))(hx:uO γ S w v x):uO γ' S' w' v x:=by
 cases x with
 |mk l m=>exact Sl.tr h hx hsz
 |pl l=>exact Sl.tr h hx hsz
instance:Rp Rw where
 sz:=1
 rep γ S w cs x:=∃v,cs=[v]/\uO γ S w v x
 len:=by rintro _ _ _ _ _ ⟨v,rfl,_⟩;rfl
 one:=by
   rintro _ _ _ _ _ ⟨v,rfl,h⟩ u hu
   obtain rfl:u=v:=by simpa using hu
   exact h.one
 tr:=by
   rintro _ _ _ _ _ _ _ _ hs h ⟨v,rfl,hv⟩
   exact⟨v,rfl,hv.tr hs h⟩
section
variable{P:Program}{w:World}{t t':TypeId}{f:Fr}{x y:Operand}{dst:Option Tmp}{ty:TypeId}{pos:String}{after:Array Edge}{g:Option (Nat×Bool)}{N:Value->World->Prop}{γ:aF}{v u:Value}{xss:List (List Int)}{l:List Int}{i:Nat}
end
end TL
/-
  TlEq: structs compared; a pointer looked at for nil; a bit turned.
  By an AI agent.
-/
set_option linter.all false
namespace TL
open Go
section
variable{P:Program}{f:Fr}{w:World}{dst:Option Tmp}{ty:TypeId}{pos:String}{after:Array Edge}{g:Option (Nat×Bool)}{t t' e:TypeId}{x y:Operand}
theorem ar{a:Addr}(hx:ev f x= .pointer (some a)):(execOp (ev f) ⟨dst,.nilCheck x,ty,pos,after,g⟩).run P w= .ok (.value (.pointer (some a))) w:=by
 simp only[execOp,hx,Sem.run_pure]
end
end TL
namespace TL
open Go
section
variable{P:Program}{f:Fr}{w:World}{dst:Option Tmp}{ty:TypeId}{pos:String}{after:Array Edge}{g:Option (Nat×Bool)}{t:TypeId}{x:Operand}
end
end TL
namespace TL
open Go
section
variable{P:Program}{f:Fr}{w:World}{dst:Option Tmp}{ty:TypeId}{pos:String}{after:Array Edge}{g:Option (Nat×Bool)}{t t':TypeId}{x y:Operand}{m n:Int}
end
end TL
namespace TL
open Go
theorem vy{f:Fr}{x:Operand}{xs:List Operand}{v:Value}{vs:List Value}(h:ev f x=v)(h2:xs.map (ev f)=vs):(x::xs).map (ev f)=v::vs:=by subst h h2;rfl
end TL
/-
  TlRot: rotations: which may be, turned to their least, faces.
  By an AI agent.
-/
set_option linter.all false
namespace TL
abbrev fN:=List (List Int)
def ve(g:bB)(r:fN):Prop:=(r.length:Int)=g.1/\(∀v:Nat,v<r.length->∀h∈gI r (v:Int),(0<=h/\h<2*(g.2.length:Int))/\ak g h=v)/\r.flatten.Nodup/\(r.flatten.length:Int)=2*g.2.length
instance (g:bB)(r:fN):Decidable (ve g r):=by unfold ve;infer_instance
theorem mV{n:Int}{l:List Int}(h0:0<=n)(hn:l.Nodup)(h:∀x∈l,0<=x/\x<n):(l.length:Int)<=n:=by
 have:=kx n.toNat l hn (λx hx=>by have:=h x hx;omega)
 omega
section
variable{seen:List Bool}{n:Int}{g:bB}{r:fN}{k i:Nat}
end
end TL
namespace TL
end TL
/-
  TlMap: maps that the call makes.
  By an AI agent.
-/
set_option linter.all false
namespace TL
open Go
class Ky (K:Type) where
  val:K->Value
structure l7(P:Program)(kt:TypeId)(K:Type)[DecidableEq K][Ky K]:Prop where
 check:∀(b:Bool) (k:K) (w:World),(Instr.checkKey b 10000 kt (Ky.val k)).run P w= .ok () w
 find:∀(k:K) (es:List MapEntry) (ks:List K) (w:World),es.map (·.key)=ks.map Ky.val->(Instr.findKey kt (Ky.val k) es).run P w= .ok ((ks.findIdx? (· =k)).bind λi=>(es[i]?).map λe=>(i,e.val)) w
 bits:∀k:K,Instr.sameBits 10000 (Ky.val k) (Ky.val k)=true
structure dT(K:Type) where
  key:K
  val:Int
  born:Nat
def eA{K:Type}[Ky K](e:dT K):MapEntry:={key:=Ky.val e.key,val:=.int .i64 e.val,born:=e.born}
def fz{K:Type}[DecidableEq K](es:List (dT K))(k:K):Int:=((es.find? λe=>decide (e.key=k)).map (·.val)).getD 0
structure vQ{K:Type}(es:List (dT K))(clock:Nat):Prop where
 keys:(es.map (·.key)).Nodup
 born:(es.map (·.born)).Nodup
 lt:∀e∈es,e.born<clock
def Mp{K:Type}[DecidableEq K][Ky K](γ:aF)(J:cx->Prop)(w:World)(v:Value)(F:K->Int):Prop:=
  ∃(r:Nat) (es:List (dT K)) (clock:Nat),v= .map (some r)/\J (γ r)/\w.heap[r]? =some (.map (es.map eA).toArray clock)/\vQ es clock/\F=fz es
def n7{K:Type}[DecidableEq K][Ky K](γ:aF)(J:cx->Prop)(w:World)(v:Value)(F:K->Int)(s:Int)(k:K):Prop:=
  ∃(r:Nat) (es:List (dT K)) (clock:Nat),v= .map (some r)/\J (γ r)/\w.heap[r]? =some (.map (es.map eA).toArray clock)/\vQ es clock/\F=fz es/\∃(i:Nat) (e:dT K),es[i]? =some e/\e.key=k/\(e.born:Int)=s
theorem Mp.chg{K:Type}[DecidableEq K][Ky K]{γ γ':aF}{J J':cx->Prop}{w w':World}{v:Value}{F:K->Int}(h:Mp γ J w v F)(hc:bg J' γ w γ' w')(hJ:∀c,J c->¬J' c):Mp γ' J w' v F:=by
 obtain⟨r,es,clock,h1,h2,h3,h4⟩:=h
 exact⟨r,es,clock,h1,by rw[hc.col r (cZ h3) (hJ _ h2)];exact h2,by rw[hc.keep r (cZ h3) (hJ _ h2)];exact h3,h4⟩
theorem n7.chg{K:Type}[DecidableEq K][Ky K]{γ γ':aF}{J J':cx->Prop}{w w':World}{v:Value}{F:K->Int}{s:Int}{k:K}(h:n7 γ J w v F s k)(hc:bg J' γ w γ' w')(hJ:∀c,J c->¬J' c):n7 γ' J w' v F s k:=by
 obtain⟨r,es,clock,h1,h2,h3,h4⟩:=h
 exact⟨r,es,clock,h1,by rw[hc.col r (cZ h3) (hJ _ h2)];exact h2,by rw[hc.keep r (cZ h3) (hJ _ h2)];exact h3,h4⟩
theorem Mp.bel{K:Type}[DecidableEq K][Ky K]{γ:aF}{J:cx->Prop}{w w':World}{v:Value}{F:K->Int}(h:Mp γ J w v F)(hc:eB w.heap.size w w'):Mp γ J w' v F:=by
 obtain⟨r,es,clock,h1,h2,h3,h4⟩:=h
 exact⟨r,es,clock,h1,h2,by rw[hc.block r (cZ h3)];exact h3,h4⟩
theorem hH{K:Type}[DecidableEq K][Ky K](es:List (dT K))(k:K):(((es.map (·.key)).findIdx? (· =k)).bind λi=>((es.map eA)[i]?).map λe=>(i,e.val))=((es.map (·.key)).findIdx? (· =k)).map λi=>(i,Value.int .i64 (fz es k)):=by
 cases h:(es.map (·.key)).findIdx? (· =k) with
 |none=>rfl
 |some i=>
   obtain⟨hi,hk,hlt⟩:=List.findIdx?_eq_some_iff_getElem.1 h
   have hi':i<es.length:=by simpa using hi
   have hke:es[i].key=k:=by simpa using hk
   have hf:es.find? (λe=>decide (e.key=k))=some es[i]:=by
     rw[List.find?_eq_some_iff_getElem]
     refine⟨by simpa using hke,i,hi',rfl,λj hj=>?_⟩
     have:=hlt j hj
     simpa using this
   simp[hi',eA,fz,hf]
section
variable{P:Program}{f:Fr}{w:World}{dst:Option Tmp}{ty:TypeId}{pos:String}{after:Array Edge}{g:Option (Nat×Bool)}{t:TypeId}{x y z:Operand}{N:Value->World->Prop}
theorem cF{r:Nat}{es:Array MapEntry}{clock:Nat}(h:w.heap[r]? =some (.map es clock)):(getObj r).run P w= .ok (.map es clock) w:=by
 simp[getObj,Sem.run,h]
theorem e7{r:Nat}{es:Array MapEntry}{clock:Nat}{o:Obj}(h:w.heap[r]? =some (.map es clock)):(setObj r o).run P w= .ok () {w with heap:=w.heap.setIfInBounds r o}:=by
 simp[setObj,Sem.run,h]
theorem fM(γ:aF){r:Nat}(o:Obj){J:cx->Prop}(hJ:J (γ r)):bg J γ w γ {w with heap:=w.heap.setIfInBounds r o}:=
 ⟨rfl,rfl,rfl,by simp,λ_ _ _=>rfl,λk _ hk=>by
   have:r≠k:=λh=>hk (h▸hJ)
   simp[Array.getElem?_setIfInBounds_ne this],Nat.le_refl _⟩
theorem ff{r:Nat}{o o':Obj}(h:w.heap[r]? =some o'):({w with heap:=w.heap.setIfInBounds r o}:World).heap[r]? =some o:=by
 have:=cZ h
 simp[this]
theorem pM{K:Type}[DecidableEq K][Ky K](γ:aF)(J:cx->Prop)(c:cx)(hJ:J c)(hk:∀γ' w' v,bg no γ w γ' w'->Mp (K:=K) γ' J w' v (λ_=>0)->N v w'):fC P ⟨dst,.makeMap t none,ty,pos,after,g⟩ f w N:=by
 refine az (v:=.map (some w.heap.size)) (w':=w.alloc (.map #[] 0)) (by simp[execOp,Instr.makeMap]) (hk (gN γ w.heap.size c) _ _ (fG γ w _ c) ⟨w.heap.size,[],0,rfl,by simpa[gN] using hJ,by rw[dl];rfl,⟨by simp,by simp,by simp⟩,?_⟩)
 funext k;simp[fz]
theorem bc{K:Type}[DecidableEq K][Ky K]{γ:aF}{J:cx->Prop}{v u:Value}{F:K->Int}{kt et size bytes:Nat}{agg:Bool}(k:K)(ht:P.underlying t=some (.map kt et))(hk:l7 P kt K)(he:Tp P et agg size bytes (.int .i64 0))(hx:ev f x=v)(hm:Mp γ J w v F)(hy:ev f y=u)(hu:u=Ky.val k):
   (execOp (ev f) ⟨dst,.lookup t x y false,ty,pos,after,g⟩).run P w= .ok (.value (.int .i64 (F k))) w:=by
 obtain⟨r,es,clock,rfl,hJ,hb,hok,rfl⟩:=hm
 obtain⟨i,hi,_,_,hz⟩:=he.info
 subst hu
 have hf:=hk.find k (es.map eA) (es.map (·.key)) w (by simp[eA,Function.comp_def])
 rw[hH] at hf
 cases h:(es.map (·.key)).findIdx? (· =k) with
 |none=>
   rw[h] at hf
   have h0:fz es k=0:=by
     have hn:es.find? (λe=>decide (e.key=k))=none:=by
       rw[List.find?_eq_none]
       intro e he
       have:=List.findIdx?_eq_none_iff.1 h (e.key) (List.mem_map_of_mem he)
       simpa using this
     simp[fz,hn]
   simp[execOp,hx,hy,Instr.lookup,aO ht,cF hb,hk.check,hf,eJ hi hz,h0]
 |some i=>
   rw[h] at hf
   simp[execOp,hx,hy,Instr.lookup,aO ht,cF hb,hk.check,hf]
theorem bR{K:Type}[DecidableEq K][Ky K]{γ:aF}{J:cx->Prop}{v u:Value}{F:K->Int}{kt et size bytes:Nat}{agg:Bool}(k:K)(ht:P.underlying t=some (.map kt et))(hk:l7 P kt K)(he:Tp P et agg size bytes (.int .i64 0))(hx:ev f x=v)(hm:Mp γ J w v F)(hy:ev f y=u)(hu:u=Ky.val k)
   (hn:∀w' s,bg J γ w γ w'->n7 γ J w' v F s k->N (.tuple (List.toArray [.int .i64 (F k),.int .i64 s])) w'):fC P ⟨dst,.mapEntry t x y,ty,pos,after,g⟩ f w N:=by
 obtain⟨r,es,clock,rfl,hJ,hb,hok,rfl⟩:=hm
 obtain⟨q,hi,_,_,hz⟩:=he.info
 subst hu
 have hf:=hk.find k (es.map eA) (es.map (·.key)) w (by simp[eA,Function.comp_def])
 rw[hH] at hf
 cases h:(es.map (·.key)).findIdx? (· =k) with
 |none=>
   rw[h] at hf
   have hnk:∀e∈es,e.key≠k:=λe he=>by
     have:=List.findIdx?_eq_none_iff.1 h (e.key) (List.mem_map_of_mem he)
     simpa using this
   have h0:fz es k=0:=by
     have hn:es.find? (λe=>decide (e.key=k))=none:=by
       rw[List.find?_eq_none]
       intro e he
       simpa using hnk e he
     simp[fz,hn]
   refine az (v:=.tuple (List.toArray [.int .i64 (fz es k),.int .i64 (clock:Int)])) (w':={w with heap:=w.heap.setIfInBounds r (.map ((es++[(⟨k,0,clock⟩:dT K)]).map eA).toArray (clock+1))}) ?_ ?_
   rotate_left
   · refine hn _ _ (fM γ _ hJ) ⟨r,es++[⟨k,0,clock⟩],clock+1,rfl,hJ,ff hb,⟨?_,?_,?_⟩,?_,es.length,⟨k,0,clock⟩,by simp,rfl,rfl⟩
     rotate_left 3
     · funext k'
       simp only[fz,List.find?_append]
       by_cases hkk:k=k'
       · subst hkk
         have hn:es.find? (λe=>decide (e.key=k))=none:=by
           rw[List.find?_eq_none]
           intro e he
           simpa using hnk e he
         simp[hn]
       · cases es.find? (λe=>decide (e.key=k'))<;>simp[hkk]
     · rw[List.map_append,List.nodup_append]
       refine⟨hok.keys,by simp,λa ha b hb=>?_⟩
       obtain⟨e,he,rfl⟩:=List.mem_map.1 ha
       have:b=k:=by simpa using hb
       subst this;exact hnk e he
     · rw[List.map_append,List.nodup_append]
       refine⟨hok.born,by simp,λa ha b hb=>?_⟩
       obtain⟨e,he,rfl⟩:=List.mem_map.1 ha
       have:b=clock:=by simpa using hb
       subst this;exact Nat.ne_of_lt (hok.lt e he)
     · intro e he
       rcases List.mem_append.1 he with h|h
       · exact Nat.lt_succ_of_lt (hok.lt e h)
       · obtain rfl:=List.mem_singleton.1 h;exact Nat.lt_succ_self _
   · simp[execOp,hx,hy,Instr.mapEntry,aO ht,cF hb,hk.check,hf,eJ hi hz,e7 hb,h0,eA,goInt]
 |some i=>
   rw[h] at hf
   obtain⟨hil,hke,_⟩:=List.findIdx?_eq_some_iff_getElem.1 h
   have hi':i<es.length:=by simpa using hil
   have hke':es[i].key=k:=by simpa using hke
   have hsame:(es.map eA).modify i (λe=>{e with key:=Ky.val k})=es.map eA:=by
     apply List.ext_getElem?
     intro j
     rw[List.getElem?_modify]
     by_cases hij:i=j
     · subst hij;simp[hi',eA,hke']
     · simp[hij]
   refine az (v:=.tuple (List.toArray [.int .i64 (fz es k),.int .i64 ((es[i].born:Nat):Int)])) (w':={w with heap:=w.heap.setIfInBounds r (.map (es.map eA).toArray clock)}) ?_
     (hn _ _ (fM γ _ hJ) ⟨r,es,clock,rfl,hJ,ff hb,hok,rfl,i,es[i],by simp,hke',rfl⟩)
   have hkb:=hk.bits k
   have hold:(Instr.keyThatStays (Ky.val k) (Ky.val k)).run P w= .ok (Ky.val k) w:=by simp[Instr.keyThatStays,hkb]
   simp[execOp,hx,hy,Instr.mapEntry,aO ht,cF hb,hk.check,hf,hi',eA,hke',hold,e7 hb,goInt]
   rw[hsame]
theorem bw{K:Type}[DecidableEq K][Ky K]{γ:aF}{J:cx->Prop}{v:Value}{F:K->Int}{s m:Int}{k:K}(hx:ev f x=v)(hm:n7 γ J w v F s k)(hy:ev f y= .int .i64 s)(hz:ev f z= .int .i64 m)
   (hn:∀w',bg J γ w γ w'->Mp γ J w' v (λk'=>if k'=k then m else F k')->N undef w'):fC P ⟨dst,.entryStore t x y z,ty,pos,after,g⟩ f w N:=by
 obtain⟨r,es,clock,rfl,hJ,hb,hok,rfl,i,e,hie,rfl,rfl⟩:=hm
 have hi':i<es.length:=(List.getElem?_eq_some_iff.1 hie).1
 have hei:es[i]=e:=(List.getElem?_eq_some_iff.1 hie).2
 have hfi:((es.map eA).toArray.findIdx? (λq=>(q.born:Int)==(e.born:Int)))=some i:=by
   rw[List.findIdx?_toArray,List.findIdx?_eq_some_iff_getElem]
   refine⟨by simpa using hi',by simp[eA,hei],λj hj=>?_⟩
   have hj':j<es.length:=by omega
   have hne:es[j].born≠e.born:=λh=>by
     have h1:(es.map (·.born))[j]'(by simpa using hj')=(es.map (·.born))[i]'(by simpa using hi'):=by simp[hei,h]
     have:=(List.getElem_inj hok.born).1 h1
     omega
   simp[eA]
   omega
 have hmod:(es.map eA).modify i (λq=>{q with val:=.int .i64 m})=(es.modify i (λq=>{q with val:=m})).map eA:=by
   apply List.ext_getElem?
   intro j
   rw[List.getElem?_modify,List.getElem?_map,List.getElem?_map,List.getElem?_modify]
   by_cases hij:i=j
   · subst hij;simp[hi',eA]
   · simp[hij]
 have hkeys:(es.modify i (λq=>{q with val:=m})).map (·.key)=es.map (·.key):=by
   apply List.ext_getElem?
   intro j
   rw[List.getElem?_map,List.getElem?_map,List.getElem?_modify]
   by_cases hij:i=j
   · subst hij;simp[hi']
   · simp[hij]
 have hborn:(es.modify i (λq=>{q with val:=m})).map (·.born)=es.map (·.born):=by
   apply List.ext_getElem?
   intro j
   rw[List.getElem?_map,List.getElem?_map,List.getElem?_modify]
   by_cases hij:i=j
   · subst hij;simp[hi']
   · simp[hij]
 refine gr (w':={w with heap:=w.heap.setIfInBounds r (.map ((es.modify i (λq=>{q with val:=m})).map eA).toArray clock)}) ?_
   (hn _ (fM γ _ hJ) ⟨r,es.modify i (λq=>{q with val:=m}),clock,rfl,hJ,ff hb,⟨by rw[hkeys];exact hok.keys,by rw[hborn];exact hok.born,λq hq=>?_⟩,?_⟩)
 · simp[execOp,hx,hy,hz,Instr.entryStore,cF hb,asInt,asIntOf,hfi,e7 hb]
   rw[<-hmod]
 · have:q.born∈es.map (·.born):=by rw[<-hborn];exact List.mem_map_of_mem hq
   obtain⟨q',hq',he'⟩:=List.mem_map.1 this
   rw[<-he'];exact hok.lt q' hq'
 · funext k'
   -- the entry of k' in the changed list
   have hfind:∀(l:List (dT K)),(l.map (·.key)).Nodup->∀j (hj:j<l.length),fz l l[j].key=l[j].val:=by
     intro l hl j hj
     have hf:l.find? (λe=>decide (e.key=l[j].key))=some l[j]:=by
       rw[List.find?_eq_some_iff_getElem]
       refine⟨by simp,j,hj,rfl,λq hq=>?_⟩
       have hne:l[q].key≠l[j].key:=λh=>by
         have h1:(l.map (·.key))[q]'(by simp;omega)=(l.map (·.key))[j]'(by simpa using hj):=by simp[h]
         have:=(List.getElem_inj hl).1 h1
         omega
       simpa using hne
     simp[fz,hf]
   by_cases hkk:k'=e.key
   · subst hkk
     rw[if_pos rfl]
     have h1:=hfind (es.modify i (λq=>{q with val:=m})) (by rw[hkeys];exact hok.keys) i (by simpa using hi')
     simp[List.getElem_modify,hei] at h1
     exact h1.symm
   · rw[if_neg hkk]
     have hfe:(es.modify i (λq=>{q with val:=m})).find? (λe=>decide (e.key=k'))=es.find? (λe=>decide (e.key=k')):=by
       have hgen:∀(l:List (dT K)) (i:Nat) (e:dT K),l[i]? =some e->k'≠e.key->(l.modify i (λq=>{q with val:=m})).find? (λe=>decide (e.key=k'))=l.find? (λe=>decide (e.key=k')):=by
         intro l
         induction l with
         |nil=>intro i e h;simp at h
         |cons a l ih=>
           intro i e h hne
           cases i with
           |zero=>
             obtain rfl:a=e:=by simpa using h
             have:decide (a.key=k')=false:=by simpa using λh=>hne h.symm
             simp[List.find?_cons,this]
           |succ i=>
             have h':l[i]? =some e:=by simpa using h
             simp only[List.modify_succ_cons,List.find?_cons,ih i e h' hne]
       exact hgen es i e hie hkk
     simp[fz,hfe]
end
instance:Ky Int where
 val k:=.int .i64 k
instance:Ky (Int×Int) where
 val k:=.agg (List.toArray [.int .i64 k.1,.int .i64 k.2])
theorem aR{P:Program}{kt e bytes:Nat}{z:Value}(ht:P.underlying kt=some (.array 2 e))(he:P.underlying e=some (.int .i64))(hp:Tp P e false 1 bytes z):l7 P kt (Int×Int) where
 check b k w:=by
   obtain⟨i,hi,hs,_⟩:=hp.info
   have h0:=λ(x y:Int)=>gi (P:=P) (w:=w) (cs:= #[.int .i64 x,.int .i64 y]) (o:=0) hp (v:=.int .i64 x) (by rfl)
   have h1:=λ(x y:Int)=>gi (P:=P) (w:=w) (cs:= #[.int .i64 x,.int .i64 y]) (o:=1) hp (v:=.int .i64 y) (by rfl)
   have hr:(List.range' 0 2 1)=[0,1]:=rfl
   have hc:∀x:Int,(Instr.checkKey b 9999 e (.int .i64 x)).run P w= .ok () w:=λx=>by
     rw[Instr.checkKey]
     simp only[Sem.run_bind,aO he,Result.andThen_ok]
     rfl
   show(Instr.checkKey b (9999+1) kt _).run P w=_
   rw[Instr.checkKey]
   simp only[Ky.val,Sem.run_bind,aO ht,Result.andThen_ok]
   rw[Std.Legacy.Range.forIn_eq_forIn_range']
   simp only[Std.Legacy.Range.size,Nat.sub_zero,Nat.reduceAdd,Nat.reduceSub,Nat.div_one,hr]
   simp[cP hi,hs,h0,h1,hc]
 find k es ks w hm:=by
   have hfn:∀(es:List MapEntry) (i:Nat),es≠[]->(∀e∈es,∃c,e.key= .agg c)->Instr.findNow (.array 2 e) (Ky.val k) es i=none:=by
     intro es i h0 _
     cases es with
     |nil=>exact absurd rfl h0
     |cons a l=>simp[Instr.findNow,Instr.sameNow]
   have hask:∀(es:List MapEntry) (ks:List (Int×Int)) (i:Nat),es.map (·.key)=ks.map Ky.val->(Instr.findAsking kt (Ky.val k) es i).run P w= .ok ((ks.findIdx? (· =k)).bind λj=>(es[j]?).map λe=>(i+j,e.val)) w:=by
     intro es
     induction es with
     |nil=>
       intro ks i h
       have:ks=[]:=by cases ks<;>simp at h ⊢
       subst this;simp[Instr.findAsking]
     |cons a l ih=>
       intro ks i h
       cases ks with
       |nil=>simp at h
       |cons q ks=>
         simp only[List.map_cons,List.cons.injEq] at h
         obtain⟨ha,hl⟩:=h
         have heq:=lU (P:=P) (w:=w) (a:=k) (b:=q) ht he hp
         have heq':(Op.equal kt (Ky.val k) a.key).run P w= .ok (decide (k=q)) w:=by rw[ha];exact heq
         by_cases hkq:k=q
         · subst hkq
           simp[Instr.findAsking,heq',List.findIdx?_cons]
         · have hqk:¬q=k:=λh=>hkq h.symm
           have ih':=ih ks (i+1) hl
           simp[Instr.findAsking,heq',hkq,List.findIdx?_cons,hqk,ih']
           cases ks.findIdx? (λx=>decide (x=k)) with
           |none=>rfl
           |some j=>simp[Nat.add_comm 1 j,Nat.add_assoc]
   simp only[Instr.findKey,Sem.run_bind,aO ht,Result.andThen_ok]
   cases es with
   |nil=>
     have:ks=[]:=by cases ks<;>simp at hm ⊢
     subst this;simp[Instr.findNow]
   |cons a l=>
     rw[hfn (a::l) 0 (by simp) (λe he=>by
       have:e.key∈(a::l).map (·.key):=List.mem_map_of_mem he
       rw[hm] at this
       obtain⟨q,_,hq⟩:=List.mem_map.1 this
       exact⟨_,hq.symm⟩)]
     simp only[hask (a::l) ks 0 hm,Nat.zero_add]
 bits k:=by
   show Instr.sameBits (9999+1) _ _=true
   simp[Ky.val,Instr.sameBits]
theorem bM{P:Program}{kt:Nat}(ht:P.underlying kt=some (.int .i64)):l7 P kt Int where
 check b k w:=by
   show(Instr.checkKey b (9999+1) kt _).run P w=_
   rw[Instr.checkKey]
   simp only[Ky.val,Sem.run_bind,aO ht,Result.andThen_ok]
   rfl
 find k es ks w hm:=by
   have hnow:∀(es:List MapEntry) (ks:List Int) (i:Nat),es.map (·.key)=ks.map Ky.val->Instr.findNow (.int .i64) (Ky.val k) es i=some ((ks.findIdx? (· =k)).bind λj=>(es[j]?).map λe=>(i+j,e.val)):=by
     intro es
     induction es with
     |nil=>
       intro ks i h
       have:ks=[]:=by cases ks<;>simp at h ⊢
       subst this;simp[Instr.findNow]
     |cons a l ih=>
       intro ks i h
       cases ks with
       |nil=>simp at h
       |cons q ks=>
         simp only[List.map_cons,List.cons.injEq] at h
         obtain⟨ha,hl⟩:=h
         have hs:Instr.sameNow (.int .i64) (Ky.val k) a.key=some (k==q):=by rw[ha];simp[Ky.val,Instr.sameNow]
         by_cases hkq:k=q
         · subst hkq
           simp[Instr.findNow,hs,List.findIdx?_cons]
         · have hqk:¬q=k:=λh=>hkq h.symm
           have ih':=ih ks (i+1) hl
           have hb:(k==q)=false:=by simpa using hkq
           simp[Instr.findNow,hs,hb,List.findIdx?_cons,hqk,ih']
           cases ks.findIdx? (λx=>decide (x=k)) with
           |none=>rfl
           |some j=>simp[Nat.add_comm 1 j,Nat.add_assoc]
   simp only[Instr.findKey,Sem.run_bind,aO ht,Result.andThen_ok,hnow es ks 0 hm,Nat.zero_add]
   rfl
 bits k:=by
   show Instr.sameBits (9999+1) _ _=true
   simp[Ky.val,Instr.sameBits]
end TL
namespace TL
open Go
theorem n7.mp{K:Type}[DecidableEq K][Ky K]{γ:aF}{J:cx->Prop}{w:World}{v:Value}{F:K->Int}{s:Int}{k:K}(h:n7 γ J w v F s k):Mp γ J w v F:=by
 obtain⟨r,es,clock,h1,h2,h3,h4,h5,_⟩:=h
 exact⟨r,es,clock,h1,h2,h3,h4,h5⟩
end TL
/-
  TlMapD: maps that the call makes, with the keys that they have.
  By an AI agent.
-/
set_option linter.all false
namespace TL
open Go
def Md{K:Type}[DecidableEq K][Ky K](γ:aF)(J:cx->Prop)(w:World)(v:Value)(F:K->Int)(D:List K):Prop:=
 ∃(r:Nat) (es:List (dT K)) (clock:Nat),v= .map (some r)/\J (γ r)/\w.heap[r]? =some (.map (es.map eA).toArray clock)/\vQ es clock/\F=fz es/\D=es.map (·.key)
variable{K:Type}[DecidableEq K][Ky K]
theorem Md.chg{γ γ':aF}{J J':cx->Prop}{w w':World}{v:Value}{F:K->Int}{D:List K}(h:Md γ J w v F D)(hc:bg J' γ w γ' w')(hJ:∀c,J c->¬J' c):Md γ' J w' v F D:=by
 obtain⟨r,es,clock,h1,h2,h3,h4⟩:=h
 exact⟨r,es,clock,h1,by rw[hc.col r (cZ h3) (hJ _ h2)];exact h2,by rw[hc.keep r (cZ h3) (hJ _ h2)];exact h3,h4⟩
theorem Md.mp{γ:aF}{J:cx->Prop}{w:World}{v:Value}{F:K->Int}{D:List K}(h:Md γ J w v F D):Mp γ J w v F:=by
 obtain⟨r,es,clock,h1,h2,h3,h4,h5,_⟩:=h
 exact⟨r,es,clock,h1,h2,h3,h4,h5⟩
theorem Md.bel{γ:aF}{J:cx->Prop}{w w':World}{v:Value}{F:K->Int}{D:List K}(h:Md γ J w v F D)(hc:eB w.heap.size w w'):Md γ J w' v F D:=by
 obtain⟨r,es,clock,h1,h2,h3,h4⟩:=h
 exact⟨r,es,clock,h1,h2,by rw[hc.block r (cZ h3)];exact h3,h4⟩
section
variable{P:Program}{f:Fr}{w:World}{dst:Option Tmp}{ty:TypeId}{pos:String}{after:Array Edge}{g:Option (Nat×Bool)}{t:TypeId}{x y z:Operand}{N:Value->World->Prop}
theorem kr(γ:aF)(J:cx->Prop)(c:cx)(hJ:J c)(hk:∀γ' w' v,bg no γ w γ' w'->Md (K:=K) γ' J w' v (λ_=>0) []->N v w'):fC P ⟨dst,.makeMap t none,ty,pos,after,g⟩ f w N:=by
 refine az (v:=.map (some w.heap.size)) (w':=w.alloc (.map #[] 0)) (by simp[execOp,Instr.makeMap]) (hk (gN γ w.heap.size c) _ _ (fG γ w _ c) ⟨w.heap.size,[],0,rfl,by simpa[gN] using hJ,by rw[dl];rfl,⟨by simp,by simp,by simp⟩,?_,rfl⟩)
 funext k;simp[fz]
theorem mU{γ:aF}{J:cx->Prop}{v u:Value}{F:K->Int}{D:List K}{kt et size bytes:Nat}{agg:Bool}(k:K)(ht:P.underlying t=some (.map kt et))(hk:l7 P kt K)(he:Tp P et agg size bytes (.int .i64 0))(hx:ev f x=v)(hm:Md γ J w v F D)(hy:ev f y=u)(hu:u=Ky.val k):
   (execOp (ev f) ⟨dst,.lookup t x y true,ty,pos,after,g⟩).run P w= .ok (.value (.tuple #[.int .i64 (F k),.bool (decide (k∈D))])) w:=by
 obtain⟨r,es,clock,rfl,hJ,hb,hok,rfl,rfl⟩:=hm
 obtain⟨i,hi,_,_,hz⟩:=he.info
 subst hu
 have hf:=hk.find k (es.map eA) (es.map (·.key)) w (by simp[eA,Function.comp_def])
 rw[hH] at hf
 cases h:(es.map (·.key)).findIdx? (· =k) with
 |none=>
   rw[h] at hf
   have hnk:k∉es.map (·.key):=λhmm=>by
     have:=List.findIdx?_eq_none_iff.1 h k hmm
     simp at this
   have h0:fz es k=0:=by
     have hn:es.find? (λe=>decide (e.key=k))=none:=by
       rw[List.find?_eq_none]
       intro e he
       have:=List.findIdx?_eq_none_iff.1 h (e.key) (List.mem_map_of_mem he)
       simpa using this
     simp[fz,hn]
   rw[decide_eq_false hnk]
   simp[execOp,hx,hy,Instr.lookup,aO ht,cF hb,hk.check,hf,eJ hi hz,h0]
 |some i=>
   rw[h] at hf
   obtain⟨hil,hke,_⟩:=List.findIdx?_eq_some_iff_getElem.1 h
   have hke':(es.map (·.key))[i]=k:=by simpa using hke
   have hmm:k∈es.map (·.key):=by rw[<-hke'];exact List.getElem_mem hil
   rw[decide_eq_true hmm]
   simp[execOp,hx,hy,Instr.lookup,aO ht,cF hb,hk.check,hf]
theorem lb{γ:aF}{J:cx->Prop}{v:Value}{F:K->Int}{D:List K}{kt et:Nat}(ht:P.underlying t=some (.map kt et))(hx:ev f x=v)(hm:Md γ J w v F D):
   (execOp (ev f) ⟨dst,.call {callee:=.builtin .len,args:= #[x],argTypes:= #[t]},ty,pos,after,g⟩).run P w= .ok (.value (.int .i64 (D.length:Int))) w:=by
 obtain⟨r,es,clock,rfl,hJ,hb,hok,rfl,rfl⟩:=hm
 simp[execOp,resolve,invoke,builtin,hx,Builtin.len_,aO ht,cF hb,goInt]
end
end TL
namespace TL
open Go
variable{K:Type}[DecidableEq K][Ky K]
theorem mx{es:List (dT K)}{m:Int}(hn:(es.map (·.key)).Nodup){i:Nat}{e:dT K}(hie:es[i]? =some e):fz (es.modify i (λq=>{q with val:=m}))=λk'=>if k'=e.key then m else fz es k':=by
 have hi':i<es.length:=(List.getElem?_eq_some_iff.1 hie).1
 have hei:es[i]=e:=(List.getElem?_eq_some_iff.1 hie).2
 have hkeys:(es.modify i (λq=>{q with val:=m})).map (·.key)=es.map (·.key):=by
   apply List.ext_getElem?
   intro j
   rw[List.getElem?_map,List.getElem?_map,List.getElem?_modify]
   by_cases hij:i=j
   · subst hij;simp[hi']
   · simp[hij]
 funext k'
 have hfind:∀(l:List (dT K)),(l.map (·.key)).Nodup->∀j (hj:j<l.length),fz l l[j].key=l[j].val:=by
   intro l hl j hj
   have hf:l.find? (λe=>decide (e.key=l[j].key))=some l[j]:=by
     rw[List.find?_eq_some_iff_getElem]
     refine⟨by simp,j,hj,rfl,λq hq=>?_⟩
     have hne:l[q].key≠l[j].key:=λh=>by
       have h1:(l.map (·.key))[q]'(by simp;omega)=(l.map (·.key))[j]'(by simpa using hj):=by simp[h]
       have:=(List.getElem_inj hl).1 h1
       omega
     simpa using hne
   simp[fz,hf]
 by_cases hkk:k'=e.key
 · subst hkk
   rw[if_pos rfl]
   have h1:=hfind (es.modify i (λq=>{q with val:=m})) (by rw[hkeys];exact hn) i (by simpa using hi')
   simp[List.getElem_modify,hei] at h1
   exact h1
 · rw[if_neg hkk]
   have hfe:(es.modify i (λq=>{q with val:=m})).find? (λe=>decide (e.key=k'))=es.find? (λe=>decide (e.key=k')):=by
     have hgen:∀(l:List (dT K)) (i:Nat) (e:dT K),l[i]? =some e->k'≠e.key->(l.modify i (λq=>{q with val:=m})).find? (λe=>decide (e.key=k'))=l.find? (λe=>decide (e.key=k')):=by
       intro l
       induction l with
       |nil=>intro i e h;simp at h
       |cons a l ih=>
         intro i e h hne
         cases i with
         |zero=>
           obtain rfl:a=e:=by simpa using h
           have:decide (a.key=k')=false:=by simpa using λh=>hne h.symm
           simp[List.find?_cons,this]
         |succ i=>
           have h':l[i]? =some e:=by simpa using h
           simp only[List.modify_succ_cons,List.find?_cons,ih i e h' hne]
     exact hgen es i e hie hkk
   simp[fz,hfe]
section
variable{P:Program}{f:Fr}{w:World}{dst:Option Tmp}{ty:TypeId}{pos:String}{after:Array Edge}{g:Option (Nat×Bool)}{t:TypeId}{x y z:Operand}{N:Value->World->Prop}
theorem iL{γ:aF}{J:cx->Prop}{v u:Value}{F:K->Int}{D:List K}{kt et:Nat}{m:Int}(k:K)(ht:P.underlying t=some (.map kt et))(hk:l7 P kt K)(hx:ev f x=v)(hm:Md γ J w v F D)(hy:ev f y=u)(hu:u=Ky.val k)(hz:ev f z= .int .i64 m)
   (hn:∀w',bg J γ w γ w'->Md γ J w' v (λk'=>if k'=k then m else F k') (if k∈D then D else D++[k])->N undef w'):fC P ⟨dst,.mapUpdate t x y z,ty,pos,after,g⟩ f w N:=by
 obtain⟨r,es,clock,rfl,hJ,hb,hok,rfl,rfl⟩:=hm
 subst hu
 have hf:=hk.find k (es.map eA) (es.map (·.key)) w (by simp[eA,Function.comp_def])
 rw[hH] at hf
 cases h:(es.map (·.key)).findIdx? (· =k) with
 |none=>
   rw[h] at hf
   have hnk:∀e∈es,e.key≠k:=λe he=>by
     have:=List.findIdx?_eq_none_iff.1 h (e.key) (List.mem_map_of_mem he)
     simpa using this
   have hnD:k∉es.map (·.key):=λhmm=>by obtain⟨e,he,hke⟩:=List.mem_map.1 hmm;exact hnk e he hke
   refine gr (w':={w with heap:=w.heap.setIfInBounds r (.map ((es++[(⟨k,m,clock⟩:dT K)]).map eA).toArray (clock+1))}) ?_
     (hn _ (fM γ _ hJ) ⟨r,es++[⟨k,m,clock⟩],clock+1,rfl,hJ,ff hb,⟨?_,?_,?_⟩,?_,by rw[if_neg hnD];simp⟩)
   · simp[execOp,hx,hy,hz,Instr.mapUpdate,aO ht,cF hb,hk.check,hf,e7 hb,eA]
   · rw[List.map_append,List.nodup_append]
     refine⟨hok.keys,by simp,λa ha b hb=>?_⟩
     have:b=k:=by simpa using hb
     subst this;intro e;subst e;exact hnD ha
   · rw[List.map_append,List.nodup_append]
     refine⟨hok.born,by simp,λa ha b hb=>?_⟩
     obtain⟨e,he,rfl⟩:=List.mem_map.1 ha
     have:b=clock:=by simpa using hb
     subst this;exact Nat.ne_of_lt (hok.lt e he)
   · intro e he
     rcases List.mem_append.1 he with h|h
     · exact Nat.lt_succ_of_lt (hok.lt e h)
     · obtain rfl:=List.mem_singleton.1 h;exact Nat.lt_succ_self _
   · funext k'
     simp only[fz,List.find?_append]
     by_cases hkk:k'=k
     · subst hkk
       have hn:es.find? (λe=>decide (e.key=k'))=none:=by
         rw[List.find?_eq_none]
         intro e he
         simpa using hnk e he
       simp[hn]
     · have hkk':¬k=k':=λe=>hkk e.symm
       rw[if_neg hkk]
       cases es.find? (λe=>decide (e.key=k'))<;>simp[hkk']
 |some i=>
   rw[h] at hf
   obtain⟨hil,hke,_⟩:=List.findIdx?_eq_some_iff_getElem.1 h
   have hi':i<es.length:=by simpa using hil
   have hke':es[i].key=k:=by simpa using hke
   have hmod:(es.map eA).modify i (λq=>{q with key:=Ky.val k,val:=.int .i64 m})=(es.modify i (λq=>{q with val:=m})).map eA:=by
     apply List.ext_getElem?
     intro j
     rw[List.getElem?_modify,List.getElem?_map,List.getElem?_map,List.getElem?_modify]
     by_cases hij:i=j
     · subst hij;simp[hi',eA,hke']
     · simp[hij]
   have hkeys:(es.modify i (λq=>{q with val:=m})).map (·.key)=es.map (·.key):=by
     apply List.ext_getElem?
     intro j
     rw[List.getElem?_map,List.getElem?_map,List.getElem?_modify]
     by_cases hij:i=j
     · subst hij;simp[hi']
     · simp[hij]
   have hborn:(es.modify i (λq=>{q with val:=m})).map (·.born)=es.map (·.born):=by
     apply List.ext_getElem?
     intro j
     rw[List.getElem?_map,List.getElem?_map,List.getElem?_modify]
     by_cases hij:i=j
     · subst hij;simp[hi']
     · simp[hij]
   have hkb:=hk.bits k
   have hold:(Instr.keyThatStays (Ky.val k) (Ky.val k)).run P w= .ok (Ky.val k) w:=by simp[Instr.keyThatStays,hkb]
   refine gr (w':={w with heap:=w.heap.setIfInBounds r (.map ((es.modify i (λq=>{q with val:=m})).map eA).toArray clock)}) ?_
     (hn _ (fM γ _ hJ) ⟨r,es.modify i (λq=>{q with val:=m}),clock,rfl,hJ,ff hb,⟨by rw[hkeys];exact hok.keys,by rw[hborn];exact hok.born,λq hq=>?_⟩,?_,by rw[if_pos (by rw[<-hke'];exact List.mem_map_of_mem (List.getElem_mem hi')),hkeys]⟩)
   · simp[execOp,hx,hy,hz,Instr.mapUpdate,aO ht,cF hb,hk.check,hf,hi',eA,hke',hold,e7 hb]
     rw[<-hmod]
   · have:q.born∈es.map (·.born):=by rw[<-hborn];exact List.mem_map_of_mem hq
     obtain⟨q',hq',he'⟩:=List.mem_map.1 this
     rw[<-he'];exact hok.lt q' hq'
   · rw[mx hok.keys (e:=es[i]) (by simp),hke']
end
end TL
/-
  TlShort: short names for the commonest steps (used by packed claims only).
  By an AI agent.
-/
set_option linter.all false
namespace TL
open Go
abbrev vi(x:Int):Value:=Value.int .i64 x
abbrev vp(b o:Nat):Value:=Value.pointer (some ⟨b,o,none⟩)
abbrev vn:Value:=Value.slice none 0 0
abbrev vt(l:List Value):Value:=Value.tuple (List.toArray l)
abbrev vg(l:List Value):Value:=Value.agg (List.toArray l)
theorem cg(L:List Nat){γ γ':aF}{w w':World}(h:bg (inl L) γ w γ' w'):bg (inl L) γ w γ' w':=h
theorem dt{p:Prop}[Decidable p](h:p):decide p=true:=decide_eq_true h
theorem df{p:Prop}[Decidable p](h:¬p):decide p=false:=decide_eq_false h
section
variable{P:Program}{all rest:List Oper}{K:Fr->World->Prop}{f:Fr}{w w':World}{x:Operand}
variable{dst:Option Tmp}{op:Op}{ty:TypeId}{pos:String}{after:Array Edge}{g:Option (Nat×Bool)}{o:Oper}
theorem lv(v:Value)(hw:cQ all ⟨dst,op,ty,pos,after,g⟩ f=true)(h:(execOp (ev f) ⟨dst,op,ty,pos,after,g⟩).run P w= .ok (.value v) w')(hk:ig P all rest K (fF f dst v) w'):ig P all (⟨dst,op,ty,pos,after,g⟩::rest) K f w:=jC hw h hk
theorem lx{v:Value}(h:(execOp (ev f) ⟨dst,op,ty,pos,after,none⟩).run P w= .ok (.value v) w')(hk:ig P all rest K (fF f dst v) w'):ig P all (⟨dst,op,ty,pos,after,none⟩::rest) K f w:=jC rfl h hk
theorem lw(v:Value)(h:(execOp (ev f) ⟨dst,op,ty,pos,after,none⟩).run P w= .ok (.value v) w')(hk:ig P all rest K (fF f dst v) w'):ig P all (⟨dst,op,ty,pos,after,none⟩::rest) K f w:=jC rfl h hk
theorem mv(v:Value)(hk:ig P all rest K (fF f dst v) w)(h:ev f x=v:=by exact rfl):ig P all (⟨dst,.move x,ty,pos,after,none⟩::rest) K f w:=jC rfl (au h) hk
theorem ma(v:Value)(hk:ig P all rest K (fF f dst v) w)(h:ev f x=v:=by exact rfl):ig P all (⟨dst,.assign x,ty,pos,after,none⟩::rest) K f w:=jC rfl (c9 h) hk
theorem mi(v:Int)(hk:ig P all rest K (fF f dst (.int .i64 v)) w)(h:ev f x= .int .i64 v:=by exact rfl):ig P all (⟨dst,.move x,ty,pos,after,none⟩::rest) K f w:=jC rfl (au h) hk
theorem ai(v:Int)(hk:ig P all rest K (fF f dst (.int .i64 v)) w)(h:ev f x= .int .i64 v:=by exact rfl):ig P all (⟨dst,.assign x,ty,pos,after,none⟩::rest) K f w:=jC rfl (c9 h) hk
theorem mz{v:Value}(h:ev f x=v)(hk:ig P all rest K (fF f dst v) w):ig P all (⟨dst,.move x,ty,pos,after,none⟩::rest) K f w:=jC rfl (au h) hk
theorem lo(h:fC P ⟨dst,op,ty,pos,after,none⟩ f w (λv w'=>ig P all rest K (fF f dst v) w')):ig P all (⟨dst,op,ty,pos,after,none⟩::rest) K f w:=du rfl h
theorem wy{j:Nat}{x:Bool}{d:Nat}{b:Bool}(hx:b=x)(hg:o.guard=some (j,x):=by exact rfl)(hj:(all[j]?).bind (·.dst)=some d:=by exact rfl)(hb:f d= .bool b:=by exact rfl):cQ all o f=true:=uH hg hj hb hx
theorem wn{j:Nat}{x:Bool}{d:Nat}{b:Bool}(hx:b= !x)(hg:o.guard=some (j,x):=by exact rfl)(hj:(all[j]?).bind (·.dst)=some d:=by exact rfl)(hb:f d= .bool b:=by exact rfl):cQ all o f=false:=ub hg hj hb hx
variable{C:World->Prop}{KQ:Fr->Prop}
theorem qv(v:Value)(h:∀w,C w->(execOp (ev f) ⟨dst,op,ty,pos,after,none⟩).run P w= .ok (.value v) w)(hk:jN P all C rest KQ (fF f dst v)):jN P all C (⟨dst,op,ty,pos,after,none⟩::rest) KQ f:=b6 rfl h hk
theorem qx{v:Value}(h:∀w,C w->(execOp (ev f) ⟨dst,op,ty,pos,after,none⟩).run P w= .ok (.value v) w)(hk:jN P all C rest KQ (fF f dst v)):jN P all C (⟨dst,op,ty,pos,after,none⟩::rest) KQ f:=b6 rfl h hk
theorem qm(v:Value)(hk:jN P all C rest KQ (fF f dst v))(h:ev f x=v:=by exact rfl):jN P all C (⟨dst,.move x,ty,pos,after,none⟩::rest) KQ f:=b6 rfl (λ_ _=>au h) hk
theorem qz{v:Value}(h:ev f x=v)(hk:jN P all C rest KQ (fF f dst v)):jN P all C (⟨dst,.move x,ty,pos,after,none⟩::rest) KQ f:=b6 rfl (λ_ _=>au h) hk
end
section
variable{P:Program}{n:Nat}{l:List Oper}{S:World->Prop}{K:Fr->World->Prop}{f:Fr}{w:World}{done:List Nat}{fuel:Nat}{qs:List Nat}
variable{dst:Option Tmp}{op:Op}{ty:TypeId}{pos:String}{after:Array Edge}{g:Option (Nat×Bool)}{v:Value}
theorem ht(i:Nat)(hi:l[i]? =some ⟨dst,op,ty,pos,after,none⟩)(hS:S w)(h:∀w,S w->(execOp (ev f) ⟨dst,op,ty,pos,after,none⟩).run P w= .ok (.value v) w)(hk:pZ P n l S K fuel (i::done) (fF f dst v) w)(hn:ga l=true:=by kernel_rfl)(hc:(fI l done i&&gU l done i&&j8 n ⟨dst,op,ty,pos,after,none⟩)=true:=by kernel_rfl):pZ P n l S K (fuel+1) done f w:=uc i hi hn hc rfl hS h hk
theorem xv(i:Nat)(M:List Nat)(hi:l[i]? =some ⟨dst,op,ty,pos,after,none⟩)(h:(execOp (ev f) ⟨dst,op,ty,pos,after,none⟩).run P w= .ok (.value v) w)(hk:ij P n l qs K fuel (i::done) (fF f dst v) w)(hn:ga l=true:=by kernel_rfl)(hc:(qs.contains i&&fI l done i&&gU l done i&&lS l qs done M i&&j8 n ⟨dst,op,ty,pos,after,none⟩)=true:=by kernel_rfl):ij P n l qs K (fuel+1) done f w:=d8 i M hi hn hc rfl h hk
theorem xh(i:Nat)(M:List Nat)(hi:l[i]? =some ⟨dst,op,ty,pos,after,none⟩)(h:∀w',eB w.heap.size w w'->(execOp (ev f) ⟨dst,op,ty,pos,after,none⟩).run P w'= .ok (.value v) w')(hk:ij P n l qs K fuel (i::done) (fF f dst v) w)(hn:ga l=true:=by kernel_rfl)(hc:(qs.contains i&&fI l done i&&gU l done i&&lP l qs done M i&&j8 n ⟨dst,op,ty,pos,after,none⟩)=true:=by kernel_rfl):ij P n l qs K (fuel+1) done f w:=ua i M hi hn hc rfl h hk
theorem xp(i:Nat)(hi:l[i]? =some ⟨dst,op,ty,pos,after,none⟩)(h:∀w,(execOp (ev f) ⟨dst,op,ty,pos,after,none⟩).run P w= .ok (.value v) w)(hk:ij P n l qs K fuel (i::done) (fF f dst v) w)(hn:ga l=true:=by kernel_rfl)(hc:(qs.contains i&&fI l done i&&gU l done i&&j8 n ⟨dst,op,ty,pos,after,none⟩)=true:=by kernel_rfl):ij P n l qs K (fuel+1) done f w:=bE i hi hn hc rfl h hk
end
section
variable{γ γ':aF}{w w':World}{v:Value}{j k:Nat}{L:List Nat}
theorem bp.ca{w0:World}(h:bp w0 γ w)(hc:bg (inl L) γ w γ' w')(hj:L.contains 0=false:=by exact rfl):bp w0 γ' w':=h.chg hc (bZ hj)
theorem bp.ce{w0:World}(h:bp w0 γ w)(hc:bg (is k) γ w γ' w')(hj:Nat.beq 0 k=false:=by exact rfl):bp w0 γ' w':=h.chg hc (eO hj)
theorem bp.cn{w0:World}(h:bp w0 γ w)(hc:bg no γ w γ' w'):bp w0 γ' w':=h.chg hc (c8 _)
theorem Bx.ca{b:Nat}{cs:List Value}(h:Bx γ (is j) w b cs)(hc:bg (inl L) γ w γ' w')(hj:L.contains j=false:=by exact rfl):Bx γ' (is j) w' b cs:=h.chg hc (bZ hj)
theorem Bx.ce{b:Nat}{cs:List Value}(h:Bx γ (is j) w b cs)(hc:bg (is k) γ w γ' w')(hj:Nat.beq j k=false:=by exact rfl):Bx γ' (is j) w' b cs:=h.chg hc (eO hj)
theorem Bx.cn{J:cx->Prop}{b:Nat}{cs:List Value}(h:Bx γ J w b cs)(hc:bg no γ w γ' w'):Bx γ' J w' b cs:=h.chg hc (c8 _)
theorem Sl.ca{α:Type}[Rp α]{xs:List α}(h:Sl γ (is j) w v xs)(hc:bg (inl L) γ w γ' w')(hj:L.contains j=false:=by exact rfl):Sl γ' (is j) w' v xs:=h.chg hc (bZ hj)
theorem Sl.ce{α:Type}[Rp α]{xs:List α}(h:Sl γ (is j) w v xs)(hc:bg (is k) γ w γ' w')(hj:Nat.beq j k=false:=by exact rfl):Sl γ' (is j) w' v xs:=h.chg hc (eO hj)
theorem Sl.cn{α:Type}[Rp α]{S:cx->Prop}{xs:List α}(h:Sl γ S w v xs)(hc:bg no γ w γ' w'):Sl γ' S w' v xs:=h.chg hc (c8 _)
theorem Ow.ca{α:Type}[Rp α]{xs:List α}(h:Ow γ (is j) (is j) w v xs)(hc:bg (inl L) γ w γ' w')(hj:L.contains j=false:=by exact rfl):Ow γ' (is j) (is j) w' v xs:=h.chg hc (bZ hj) (bZ hj)
theorem Ow.ce{α:Type}[Rp α]{xs:List α}(h:Ow γ (is j) (is j) w v xs)(hc:bg (is k) γ w γ' w')(hj:Nat.beq j k=false:=by exact rfl):Ow γ' (is j) (is j) w' v xs:=h.chg hc (eO hj) (eO hj)
theorem Ow.cn{α:Type}[Rp α]{J S:cx->Prop}{xs:List α}(h:Ow γ J S w v xs)(hc:bg no γ w γ' w'):Ow γ' J S w' v xs:=h.chg hc (c8 _) (c8 _)
theorem cL.ca{α:Type}[Rp α]{xs:List (List α)}(h:cL γ j w v xs)(hc:bg (inl L) γ w γ' w')(hj:L.contains j=false:=by exact rfl):cL γ' j w' v xs:=h.chg hc (bZ hj)
theorem cL.ce{α:Type}[Rp α]{xs:List (List α)}(h:cL γ j w v xs)(hc:bg (is k) γ w γ' w')(hj:Nat.beq j k=false:=by exact rfl):cL γ' j w' v xs:=h.chg hc (eO hj)
theorem cL.cn{α:Type}[Rp α]{xs:List (List α)}(h:cL γ j w v xs)(hc:bg no γ w γ' w'):cL γ' j w' v xs:=h.chg hc (c8 _)
theorem fP.ca{α:Type}[Rp α]{h0:Nat}{xs:List (List α)}(h:fP γ j h0 w v xs)(hc:bg (inl L) γ w γ' w')(hj:L.contains j=false:=by exact rfl):fP γ' j h0 w' v xs:=h.chg hc (bZ hj)
theorem fP.ce{α:Type}[Rp α]{h0:Nat}{xs:List (List α)}(h:fP γ j h0 w v xs)(hc:bg (is k) γ w γ' w')(hj:Nat.beq j k=false:=by exact rfl):fP γ' j h0 w' v xs:=h.chg hc (eO hj)
theorem fP.cn{α:Type}[Rp α]{h0:Nat}{xs:List (List α)}(h:fP γ j h0 w v xs)(hc:bg no γ w γ' w'):fP γ' j h0 w' v xs:=h.chg hc (c8 _)
def vM(δ g:aF)(w:World)(ren:Nat->Nat):Prop:=(∀{α:Type} [Rp α] {i:Nat} {v:Value} {xs:List α},Ow δ (is i) (is i) w v xs->∀k:Nat,Nat.beq i 0=false->ren i=k->Ow g (is k) (is k) w v xs)/\(∀{α:Type} [Rp α] {i:Nat} {v:Value} {xs:List (List α)},cL δ i w v xs->∀k:Nat,Nat.beq i 0=false->ren i=k->cL g k w v xs)
theorem kR{δ:aF}(γ:aF)(fr:gn w δ w')(ren:Nat->Nat):∃g,bg no γ w g w'/\vM δ g w' ren:=
 ⟨_,rq fr.below γ δ ren,λh k hi hr=>h.glue fr.col hi hr,λh k hi hr=>h.glue fr.col hi hr⟩
theorem Ow.gl{α:Type}[Rp α]{δ g:aF}{ren:Nat->Nat}{i:Nat}{xs:List α}(h:Ow δ (is i) (is i) w v xs)(G:vM δ g w ren)(k:Nat)(hi:Nat.beq i 0=false:=by exact rfl)(hr:ren i=k:=by exact rfl):Ow g (is k) (is k) w v xs:=G.1 h k hi hr
theorem cL.gl{α:Type}[Rp α]{δ g:aF}{ren:Nat->Nat}{i:Nat}{xs:List (List α)}(h:cL δ i w v xs)(G:vM δ g w ren)(k:Nat)(hi:Nat.beq i 0=false:=by exact rfl)(hr:ren i=k:=by exact rfl):cL g k w v xs:=G.2 h k hi hr
end
section
variable{K:Type}[DecidableEq K][Ky K]
theorem Md.ca{γ γ':aF}{j:Nat}{L:List Nat}{w w':World}{v:Value}{F:K->Int}{D:List K}(h:Md γ (is j) w v F D)(hc:bg (inl L) γ w γ' w')(hj:L.contains j=false:=by exact rfl):Md γ' (is j) w' v F D:=h.chg hc (bZ hj)
theorem Md.ce{γ γ':aF}{j k:Nat}{w w':World}{v:Value}{F:K->Int}{D:List K}(h:Md γ (is j) w v F D)(hc:bg (is k) γ w γ' w')(hj:Nat.beq j k=false:=by exact rfl):Md γ' (is j) w' v F D:=h.chg hc (eO hj)
theorem Md.cn{γ γ':aF}{J:cx->Prop}{w w':World}{v:Value}{F:K->Int}{D:List K}(h:Md γ J w v F D)(hc:bg no γ w γ' w'):Md γ' J w' v F D:=h.chg hc (c8 _)
theorem Mp.ca{γ γ':aF}{j:Nat}{L:List Nat}{w w':World}{v:Value}{F:K->Int}(h:Mp γ (is j) w v F)(hc:bg (inl L) γ w γ' w')(hj:L.contains j=false:=by exact rfl):Mp γ' (is j) w' v F:=h.chg hc (bZ hj)
theorem Mp.ce{γ γ':aF}{j k:Nat}{w w':World}{v:Value}{F:K->Int}(h:Mp γ (is j) w v F)(hc:bg (is k) γ w γ' w')(hj:Nat.beq j k=false:=by exact rfl):Mp γ' (is j) w' v F:=h.chg hc (eO hj)
theorem Mp.cn{γ γ':aF}{J:cx->Prop}{w w':World}{v:Value}{F:K->Int}(h:Mp γ J w v F)(hc:bg no γ w γ' w'):Mp γ' J w' v F:=h.chg hc (c8 _)
theorem n7.ca{γ γ':aF}{j:Nat}{L:List Nat}{w w':World}{v:Value}{F:K->Int}{s:Int}{k:K}(h:n7 γ (is j) w v F s k)(hc:bg (inl L) γ w γ' w')(hj:L.contains j=false:=by exact rfl):n7 γ' (is j) w' v F s k:=h.chg hc (bZ hj)
theorem n7.ce{γ γ':aF}{j q:Nat}{w w':World}{v:Value}{F:K->Int}{s:Int}{k:K}(h:n7 γ (is j) w v F s k)(hc:bg (is q) γ w γ' w')(hj:Nat.beq j q=false:=by exact rfl):n7 γ' (is j) w' v F s k:=h.chg hc (eO hj)
theorem n7.cn{γ γ':aF}{J:cx->Prop}{w w':World}{v:Value}{F:K->Int}{s:Int}{k:K}(h:n7 γ J w v F s k)(hc:bg no γ w γ' w'):n7 γ' J w' v F s k:=h.chg hc (c8 _)
end
end TL
/-
  TlGeom: points with whole coordinates: turns, segments, how they meet.
  By an AI agent.
-/
set_option linter.all false
namespace TL
abbrev Pt:=Int×Int
def fc(x y:Int):Int:=if x<y then-1 else if y<x then 1 else 0
def vG(a b:Pt):Int:=a.1*b.2-a.2*b.1
def vl(b a:Pt):Pt:=(b.1-a.1,b.2-a.2)
def pm(a b c:Pt):Int:=fc (vG (vl b a) (vl c a)) 0
def ud(a b p:Pt):Prop:=(min a.1 b.1<=p.1/\p.1<=max a.1 b.1)/\min a.2 b.2<=p.2/\p.2<=max a.2 b.2
instance (a b p:Pt):Decidable (ud a b p):=by unfold ud;infer_instance
def r8(a b p:Pt):Prop:=pm a b p=0/\ud a b p
instance (a b p:Pt):Decidable (r8 a b p):=by unfold r8;infer_instance
def mg(a b:Pt):Int:=if fc a.1 b.1≠0 then fc a.1 b.1 else fc a.2 b.2
def uZ(a b c d:Pt):Int:=
 let a':=if 0<mg a b then b else a
 let b':=if 0<mg a b then a else b
 let c':=if 0<mg c d then d else c
 let d':=if 0<mg c d then c else d
 let low:=if 0<mg c' a' then c' else a'
 let high:=if mg d' b'<0 then d' else b'
 if 0<mg low high then 0 else if mg low high=0 then 2 else 3
def h8(a b c d:Pt):Int:=
 if pm a b c=0/\pm a b d=0/\pm c d a=0/\pm c d b=0 then uZ a b c d
 else if pm a b c*pm a b d<0/\pm c d a*pm c d b<0 then 1
 else if r8 a b c\/r8 a b d\/r8 c d a\/r8 c d b then 2 else 0
def key(p:Pt):Int:=p.1*1073741824+p.2
def vT(p:Pt):Prop:=(-4194304<=p.1/\p.1<=4194304)/\ -4194304<=p.2/\p.2<=4194304
end TL
namespace TL
def uM(p:Pt):Prop:=(-1048576<=p.1/\p.1<=1048576)/\ -1048576<=p.2/\p.2<=1048576
instance (p:Pt):Decidable (uM p):=by unfold uM;infer_instance
theorem uM.bd{p:Pt}(h:uM p):vT p:=by unfold uM at h;unfold vT;omega
def vO(ps:List Pt):Prop:=ps.length<=4096/\∀p∈ps,uM p
instance (ps:List Pt):Decidable (vO ps):=by unfold vO;infer_instance
def ol(p:Pt):Int:=if 0<p.1\/p.1=0/\0<p.2 then 0 else 1
section
variable{a b c d:Pt}
end
end TL
/-
  TlGeomR: what is told of many points: areas, boxes, whether a polyline is simple.
  By an AI agent.
-/
set_option linter.all false
namespace TL
def lK(ps:List Pt):Prop:=4<=(ps.length:Int)/\gI ps 0=gI ps ((ps.length:Int)-1)
instance (ps:List Pt):Decidable (lK ps):=by unfold lK;infer_instance
def oI(ps:List Pt)(i k:Nat):Prop:=k=i+1\/i=0/\(k:Int)=(ps.length:Int)-2/\lK ps
instance (ps:List Pt)(i k:Nat):Decidable (oI ps i k):=by unfold oI;infer_instance
def vW(ps:List Pt)(i k:Nat):Int:=h8 (gI ps (i:Int)) (gI ps ((i:Int)+1)) (gI ps (k:Int)) (gI ps ((k:Int)+1))
def uh(ps:List Pt)(i k:Nat):Prop:=oI ps i k/\vW ps i k=3\/¬oI ps i k/\vW ps i k≠0
instance (ps:List Pt)(i k:Nat):Decidable (uh ps i k):=by unfold uh;infer_instance
def ue(ps:List Pt)(i:Nat):Prop:=gI ps (i:Int)≠gI ps ((i:Int)+1)/\∀k<ps.length,i<k->(k:Int)<=(ps.length:Int)-2->¬uh ps i k
instance (ps:List Pt)(i:Nat):Decidable (ue ps i):=by unfold ue;infer_instance
def uU(ps:List Pt):Prop:=∀i<ps.length,(i:Int)<=(ps.length:Int)-2->ue ps i
instance (ps:List Pt):Decidable (uU ps):=by unfold uU;infer_instance
section
variable{ps:List Pt}
variable{i k:Nat}
end
end TL
/-
  TlConv: whole numbers turned to another kind, a string's byte, functions that bear values.
  By an AI agent.
-/
set_option linter.all false
namespace TL
open Go
section
variable{P:Program}{w:World}{f:Fr}{dst:Option Tmp}{ty:TypeId}{pos:String}{after:Array Edge}{g:Option (Nat×Bool)}{x y:Operand}{s d t:TypeId}{m:Int}{k k0:IntKind}
theorem nO{us:TypeDesc}(hs:P.underlying s=some us)(hd:P.underlying d=some (.int k))(hx:ev f x= .int k0 m)(hw:k.wrap m=m):(execOp (ev f) ⟨dst,.convert s d x,ty,pos,after,g⟩).run P w= .ok (.value (.int k m)) w:=by
 simp[execOp,convert,hx,aO hs,aO hd,Conv.intToInt,hw]
theorem mC{i r:Int}{b:UInt8}{str:ByteArray}(ht:P.underlying t=some .string)(hx:ev f x= .string str)(hy:ev f y= .int k i)(h0:0<=i)(hb:str[i.toNat]? =some b)(hr:(b.toNat:Int)=r):(execOp (ev f) ⟨dst,.index t x y,ty,pos,after,g⟩).run P w= .ok (.value (.int .u8 r)) w:=by
 simp[execOp,Instr.index,asIntOf,hx,hy,aO ht,h0,hb,hr]
theorem kv{fid:Nat}{cs:List Operand}{vals:List Value}(h:cs.map (ev f)=vals):(execOp (ev f) ⟨dst,.makeFunc (.func fid) #[] cs.toArray,ty,pos,after,g⟩).run P w= .ok (.value (.func (.func fid) #[] vals.toArray)) w:=by
 have h:cs.toArray.map (ev f)=vals.toArray:=by rw[<-h];simp
 simp[execOp,Instr.makeFunc,h]
theorem jL{fid:Nat}{fn:Func}{c:Operand}{args:List Operand}{at_:Array TypeId}{vals caps:List Value}(hc:ev f c= .func (.func fid) #[] caps.toArray)(hf:P.funcs[fid]? =some fn)(hb:fn.body.isNone=false)(hn:(fn.name== "runtime.NumGoroutine")=false)(ha:args.map (ev f)=vals):
   (execOp (ev f) ⟨dst,.call {callee:=.value c,args:=args.toArray,argTypes:=at_},ty,pos,after,g⟩).run P w= .ok (.enter fid (vals++caps).toArray) w:=by
 have ha:args.toArray.map (ev f)=vals.toArray:=by rw[<-ha];simp
 simp only[execOp,resolve,hc,Deferred.ofValue,invoke,callFunc,ha,Sem.run_bind,Sem.run_pure,Result.andThen_ok,run_program,hf,hn,hb,Bool.false_eq_true,if_false,Array.append_empty,Array.empty_append]
 simp
end
end TL
namespace TL
open Go
section
variable{P:Program}{w:World}{f:Fr}{dst:Option Tmp}{ty:TypeId}{pos:String}{after:Array Edge}{g:Option (Nat×Bool)}{x y:Operand}{t t':TypeId}
end
end TL
namespace TL
open Go
section
variable{P:Program}{w:World}{f:Fr}{dst:Option Tmp}{ty:TypeId}{pos:String}{after:Array Edge}{g:Option (Nat×Bool)}{x y:Operand}{t t':TypeId}
end
end TL
/-
  TlGeomL: how segments meet, moved, turned, named another way about.
  By an AI agent.
-/
set_option linter.all false
namespace TL
def par(u w:Pt):Prop:=u.1*w.2=u.2*w.1
end TL
/-
  TlGeomM: meeting segments: moved, turned, named another way about; what ends they share.
  By an AI agent.
-/
set_option linter.all false
namespace TL
section
variable{a b c d:Pt}
def mN(a b c d e:Pt):Prop:=r8 a b e/\r8 c d e
instance (a b c d e:Pt):Decidable (mN a b c d e):=by unfold mN;infer_instance
def qP(a b c d:Pt):Prop:=pm a b c*pm a b d<0/\pm c d a*pm c d b<0
instance (a b c d:Pt):Decidable (qP a b c d):=by unfold qP;infer_instance
end
end TL
/-
  TlGeomS: polylines gone back, and two of them named the other way about.
  By an AI agent.
-/
set_option linter.all false
namespace TL
abbrev Sg:=Pt×Pt
def rx(ps:List Pt):Nat->List Sg
 |0=>[]
 |k+1=>rx ps k++[(gI ps (k:Int),gI ps ((k:Int)+1))]
def sW(ps:List Pt):List Sg:=if ps.length=1 then[(gI ps 0,gI ps 0)] else rx ps (ps.length-1)
def tP(ps:List Pt):Pt:=gI ps ((ps.length:Int)-1)
def u6(ps:List Pt)(p:Pt):Prop:=p=gI ps 0\/p=tP ps
instance (ps:List Pt)(p:Pt):Decidable (u6 ps p):=by unfold u6;infer_instance
def sE(q:List Pt)(s t:Sg)(x:Pt):Prop:=u6 q x/\r8 s.1 s.2 x/\r8 t.1 t.2 x
instance (q:List Pt)(s t:Sg)(x:Pt):Decidable (sE q s t x):=by unfold sE;infer_instance
def ry(p q:List Pt)(s t:Sg):Prop:=sE q s t (gI p 0)\/sE q s t (tP p)
instance (p q:List Pt)(s t:Sg):Decidable (ry p q s t):=by unfold ry;infer_instance
def ut(p q:List Pt)(s t:Sg):Prop:=h8 s.1 s.2 t.1 t.2=3\/h8 s.1 s.2 t.1 t.2≠0/\¬ry p q s t
instance (p q:List Pt)(s t:Sg):Decidable (ut p q s t):=by unfold ut;infer_instance
def vm(p q:List Pt):Prop:=∀s∈sW p,∀t∈sW q,¬ut p q s t
instance (p q:List Pt):Decidable (vm p q):=by unfold vm;infer_instance
section
variable{p q:List Pt}
end
end TL
namespace TL
section
variable{p q:List Pt}{i k:Nat}
variable{s t:Sg}
end
end TL
namespace TL
section
variable{p q:List Pt}{s t:Sg}{i:Nat}
end
end TL
/-
  TlGeomX: polylines: the document's way and the code's.
  By an AI agent.
-/
set_option linter.all false
namespace TL
section
variable{a b c d:Pt}
end
section
variable{ps:List Pt}{i k:Nat}
end
def vF(but:List Pt)(s t:Sg):Prop:=h8 s.1 s.2 t.1 t.2=3\/(h8 s.1 s.2 t.1 t.2=1/\¬∃x∈but,mN s.1 s.2 t.1 t.2 x)\/((h8 s.1 s.2 t.1 t.2≠0/\h8 s.1 s.2 t.1 t.2≠1)/\∃e∈[s.1,s.2,t.1,t.2],mN s.1 s.2 t.1 t.2 e/\e∉but)
instance (but:List Pt)(s t:Sg):Decidable (vF but s t):=by unfold vF;infer_instance
def vx(p q but:List Pt):Prop:=∃s∈sW p,∃t∈sW q,vF but s t
instance (p q but:List Pt):Decidable (vx p q but):=by unfold vx;infer_instance
section
variable{p q B:List Pt}
end
end TL
namespace TL
section
variable{p q but:List Pt}{i k:Nat}
variable{s t:Sg}
theorem sC(h:h8 s.1 s.2 t.1 t.2=3):vF but s t:=.inl h
end
end TL
/-
  TlAround: points round another one: the order, its laws, the list that is sorted by it.
  By an AI agent.
-/
set_option linter.all false
namespace TL
def vE(p:Pt):Int:=p.1*p.1+p.2*p.2
def wd(a b:Pt)(i k:Int):Prop:=ol a<ol b\/ol a=ol b/\(vG a b<0\/vG a b=0/\(vE a<vE b\/vE a=vE b/\i<k))
def vA(o:Pt)(ps:List Pt)(i:Int):Pt:=vl (gI ps i) o
def wg(o:Pt)(ps:List Pt)(i k:Int):Prop:=wd (vA o ps i) (vA o ps k) i k
def wc(o:Pt)(ps:List Pt)(k:Nat)(l:List Int):Prop:=l.Pairwise (wg o ps)/\∀x,x∈l↔0<=x/\x<(k:Int)
section
variable{o:Pt}{ps:List Pt}{k:Nat}{l l':List Int}
open Classical in
noncomputable def arL (o:Pt) (ps:List Pt):List Int:=if h:∃l,wc o ps ps.length l then choose h else[]
end
section
variable{o:Pt}{ps:List Pt}{k:Nat}{l:List Int}{q:Int}
end
section
variable{o:Pt}{ps:List Pt}
end
end TL
/-
  TlFace: half-edges' next ones, faces.
  By an AI agent.
-/
set_option linter.all false
namespace TL
end TL
namespace TL
structure dA(out:List (List Int))(g:bB)(k:Nat):Prop where
  len:(out.length:Int)=g.1
  at_:∀v,0<=v->v<g.1->gI out v=gw g v k
theorem dA.start{g:bB}(h:0<=g.1):dA (List.replicate g.1.toNat []) g 0:=⟨by simp;omega,λv h0 h1=>by rw[fA h0 (by omega)];simp[gw]⟩
theorem dA.next{out:List (List Int)}{g:bB}{k:Nat}(h:dA out g k)(h1:0<=(gI g.2 k).1)(h2:(gI g.2 k).1<g.1)(h3:0<=(gI g.2 k).2)(h4:(gI g.2 k).2<g.1){a b:Int}(ha:a=2*(k:Int))(hb:b=2*(k:Int)+1):
   dA ((out.set (gI g.2 k).1.toNat (gI out (gI g.2 k).1++[a])).set (gI g.2 k).2.toNat (gI (out.set (gI g.2 k).1.toNat (gI out (gI g.2 k).1++[a])) (gI g.2 k).2++[b])) g (k+1):=by
 have hl:=h.len
 refine⟨by simpa using hl,λv h5 h6=>?_⟩
 rw[bV h3 (by simp;omega) h5,bV h1 (by omega) h3,bV h1 (by omega) h5,ni,h.at_ _ h1 h2,h.at_ _ h3 h4,h.at_ v h5 h6,ha,hb]
 by_cases e2:v=(gI g.2 (k:Int)).2
 · by_cases e1:v=(gI g.2 (k:Int)).1
   · rw[<-e1,<-e2];simp
   · have e3:¬(gI g.2 (k:Int)).2=(gI g.2 (k:Int)).1:=λh=>e1 (e2.trans h)
     have e6:¬(gI g.2 (k:Int)).1=(gI g.2 (k:Int)).2:=λh=>e3 h.symm
     simp[e2,e3,e6]
 · have e4:¬(gI g.2 (k:Int)).2=v:=λh=>e2 h.symm
   by_cases e1:v=(gI g.2 (k:Int)).1
   · rw[if_neg e2,if_pos e1,if_neg e4,if_pos e1.symm,<-e1];simp
   · have e5:¬(gI g.2 (k:Int)).1=v:=λh=>e1 h.symm
     rw[if_neg e2,if_neg e1,if_neg e4,if_neg e5];simp
end TL
namespace TL
end TL
/-
  TlWalk: going through a net breadth first, and its components, as the program does.
  By an AI agent.
-/
set_option linter.all false
namespace TL
def aL(g:bB)(h:Int):Int:=pI (gI g.2 (h/2)) (1-h%2)
theorem dz{g:bB}(hm:bf g){h:Int}(h0:0<=h)(h1:h<2*(g.2.length:Int)):0<=aL g h/\aL g h<g.1:=by
 have hok:=hm.2.2.2 _ (bD (xs:=g.2) (i:=h/2) (by omega) (by omega))
 unfold mF at hok
 unfold aL pI
 split<;>omega
structure Bf where
 order:List Int
 by_:List Int
 far:List Int
def fS(g:bB)(v:Int)(s:Bf)(h:Int):Bf:=
 if gI s.far (aL g h)<0 then⟨s.order++[aL g h],s.by_.set (aL g h).toNat h,s.far.set (aL g h).toNat (gI s.far v+1)⟩ else s
def kN(g:bB)(v:Int)(s:Bf):Bf:=(bA g v).foldl (fS g v) s
def lI(g:bB):Nat->Nat->Bf->Bf
 |0,_,s=>s
 |n+1,i,s=>if i<s.order.length then lI g n (i+1) (kN g (gI s.order (i:Int)) s) else s
def eR(g:bB)(s0:Int):Bf:=⟨[s0],List.replicate g.1.toNat (-1),(List.replicate g.1.toNat (-1)).set s0.toNat 0⟩
def dv(g:bB)(s0:Int):Bf:=lI g g.1.toNat 0 (eR g s0)
structure jH(g:bB)(s:Bf):Prop where
 far:(s.far.length:Int)=g.1
 by_:(s.by_.length:Int)=g.1
 nodup:s.order.Nodup
 rng:∀x∈s.order,0<=x/\x<g.1
 iff:∀w,0<=w->w<g.1->(gI s.far w<0↔w∉s.order)
 le:∀w,0<=w->w<g.1->gI s.far w<=s.order.length
theorem jH.start{g:bB}{s0:Int}(h0:0<=s0)(h1:s0<g.1):jH g (eR g s0):=by
 refine⟨by simp[eR];omega,by simp[eR];omega,by simp[eR],by simp[eR];omega,λw hw0 hw1=>?_,λw hw0 hw1=>?_⟩
 · simp only[eR]
   rw[bV h0 (by simp;omega) hw0]
   by_cases e:w=s0
   · subst e;simp
   · rw[if_neg e,fA hw0 (by omega)];simp[e]
 · simp only[eR]
   rw[bV h0 (by simp;omega) hw0]
   by_cases e:w=s0
   · subst e;simp
   · rw[if_neg e,fA hw0 (by omega)];simp
theorem jH.len{g:bB}{s:Bf}(h:jH g s)(hg:0<=g.1):(s.order.length:Int)<=g.1:=mV hg h.nodup h.rng
theorem jH.one{g:bB}{s:Bf}{v h:Int}(hs:jH g s)(hv:v∈s.order)(h0:0<=aL g h)(h1:aL g h<g.1):jH g (fS g v s h):=by
 obtain⟨hv0,hv1⟩:=hs.rng v hv
 unfold fS
 by_cases c:gI s.far (aL g h)<0
 · rw[if_pos c]
   have hn:=(hs.iff _ h0 h1).1 c
   have hf:=hs.far
   have hlv:=hs.le v hv0 hv1
   refine⟨by simpa using hs.far,by simpa using hs.by_,?_,λx hx=>?_,λw hw0 hw1=>?_,λw hw0 hw1=>?_⟩
   · rw[List.nodup_append]
     refine⟨hs.nodup,by simp,λa ha b hb=>?_⟩
     obtain rfl:=List.mem_singleton.1 hb
     intro e;subst e;exact hn ha
   · rcases List.mem_append.1 hx with hx|hx
     · exact hs.rng x hx
     · obtain rfl:=List.mem_singleton.1 hx;exact⟨h0,h1⟩
   · simp only
     rw[bV h0 (by omega) hw0]
     by_cases e:w=aL g h
     · subst e
       rw[if_pos rfl]
       have hx:¬gI s.far v<0:=λhh=>(hs.iff v hv0 hv1).1 hh hv
       constructor
       · intro hh;omega
       · intro hh;simp at hh
     · rw[if_neg e,hs.iff w hw0 hw1];simp[e]
   · simp only
     rw[bV h0 (by omega) hw0]
     by_cases e:w=aL g h
     · subst e;rw[if_pos rfl];simp;omega
     · rw[if_neg e]
       have:=hs.le w hw0 hw1
       simp;omega
 · rw[if_neg c];exact hs
end TL
namespace TL
theorem ck{g:bB}{v h:Int}(hh:h∈bA g v):(0<=h/\h<2*(g.2.length:Int))/\ak g h=v:=by
 unfold bA gw at hh
 obtain⟨h1,h2⟩:=List.mem_filter.1 hh
 obtain⟨k,hk,rfl⟩:=List.mem_map.1 h1
 have:=List.mem_range.1 hk
 exact⟨by omega,by simpa using h2⟩
theorem pH(g:bB)(v:Int)(s:Bf)(h:Int):∃t,(fS g v s h).order=s.order++t:=by
 unfold fS
 split
 · exact⟨_,rfl⟩
 · exact⟨[],by simp⟩
theorem gF(x:Int):∀(l p:List Int),(l.foldl (λl w=>l.set w.toNat x) p).length=p.length
 |[],p=>rfl
 |a::l,p=>by rw[List.foldl_cons,gF x l];simp
end TL
namespace TL
theorem pT{k n:Nat}{x:Int}(hk:k<n):(List.replicate k x++List.replicate (n-k) 0).set (k:Int).toNat x=List.replicate (k+1) x++List.replicate (n-(k+1)) (0:Int):=by
 have e:n-k=(n-(k+1))+1:=by omega
 rw[e,List.replicate_succ]
 simp only[Int.toNat_natCast]
 rw[List.set_append_right _ _ (by simp)]
 simp only[List.length_replicate,Nat.sub_self,List.set_cons_zero]
 rw[List.replicate_succ']
 simp
theorem dA.rl{out:List (List Int)}{g:bB}{k:Nat}(h:dA out g k){v:Int}(h0:0<=v)(h1:v<g.1):((gI out v).length:Int)<=2*(k:Int):=by
 rw[h.at_ v h0 h1]
 have:=pJ g v k
 omega
theorem dA.rl2{out:List (List Int)}{g:bB}{k:Nat}(h:dA out g k){u v:Int}(h2:0<=u)(h3:u<g.1)(h0:0<=v)(h1:v<g.1)(a:Int):((gI (out.set u.toNat (gI out u++[a])) v).length:Int)<=2*(k:Int)+1:=by
 have hl:=h.len
 rw[bV h2 (by omega) h0]
 split
 · have:=h.rl h2 h3;simp;omega
 · have:=h.rl h0 h1;omega
theorem dA.done{out:List (List Int)}{g:bB}{k:Nat}(h:dA out g k)(hk:k=g.2.length):∀v,0<=v->v<g.1->gI out v=bA g v:=λv h0 h1=>by
 subst hk;exact h.at_ v h0 h1
end TL
namespace TL
end TL
namespace TL
end TL
/-
  TlRot2: rotations: faces of half-edges, first ones, parts, moved ones.
  By an AI agent.
-/
set_option linter.all false
namespace TL
def aq(g:bB):fN:=(List.range g.1.toNat).map λ(v:Nat)=>bA g (v:Int)
theorem dA.first{out:fN}{g:bB}{k:Nat}(h:dA out g k)(hk:k=g.2.length):out=aq g:=by
 have hl:=h.len
 apply fp
 · simp[aq];omega
 · intro i hi
   rw[h.done hk _ (by omega) (by omega)]
   have:i<g.1.toNat:=by omega
   simp[aq,gI,this]
structure eL(out:fN)(g:bB)(h:Nat):Prop where
  len:(out.length:Int)=g.1
  at_:∀v,0<=v->v<g.1->gI out v=lL g v h
theorem eL.start{g:bB}(h:0<=g.1):eL (List.replicate g.1.toNat []) g 0:=⟨by simp;omega,λv h0 h1=>by rw[fA h0 (by omega)];simp[lL]⟩
theorem eL.next{out:fN}{g:bB}{h:Nat}(hi:eL out g h)(h0:0<=ak g h)(h1:ak g h<g.1):eL (out.set (ak g h).toNat (gI out (ak g h)++[(h:Int)])) g (h+1):=by
 have hl:=hi.len
 refine⟨by simpa using hl,λv h2 h3=>?_⟩
 rw[bV h0 (by omega) h2,pG]
 by_cases e:v=ak g (h:Int)
 · rw[if_pos e,if_pos e.symm,hi.at_ _ h0 h1,<-e]
 · rw[if_neg e,if_neg (λh=>e h.symm),hi.at_ v h2 h3]
theorem eL.bd{out:fN}{g:bB}{h:Nat}(hi:eL out g h){v:Int}(h0:0<=v)(h1:v<g.1):(gI out v).length<=h:=by
 rw[hi.at_ v h0 h1];exact qg g v h
theorem eL.done{out:fN}{g:bB}{h:Nat}(hi:eL out g h)(hh:h=2*g.2.length):out=aq g:=by
 have hl:=hi.len
 apply fp
 · simp[aq];omega
 · intro i hlt
   rw[hi.at_ _ (by omega) (by omega),rI g _ hh]
   have:i<g.1.toNat:=by omega
   simp[aq,gI,this]
end TL
/-
  TlJudge: plots: their flaws, as the code and the document gather them.
  By an AI agent.
-/
set_option linter.all false
namespace TL
abbrev we:=Int×Int×Int
abbrev kC:=List Pt×List (List Pt)
section
variable{β:Type}{f h:Nat->List β}{k n:Nat}{x:β}{F B:List β}
end
def fl{β:Type}(p:Prop)[Decidable p](x:β):List β:=if p then[x] else[]
section
variable{β:Type}{p:Prop}[Decidable p]{x:β}
end
def vZ(l:List Pt):Prop:=2<=(l.length:Int)/\vO l
instance (l:List Pt):Decidable (vZ l):=by unfold vZ;infer_instance
def tX(g:bB)(p:kC)(e:Int):Prop:=gI (gI p.2 e) 0=gI p.1 (gI g.2 e).1/\gI (gI p.2 e) (((gI p.2 e).length:Int)-1)=gI p.1 (gI g.2 e).2
instance (g:bB)(p:kC)(e:Int):Decidable (tX g p e):=by unfold tX;infer_instance
def tU(l:List Pt)(q:Pt):Prop:=∃s∈rx l (l.length-1),r8 s.1 s.2 q
instance (l:List Pt)(q:Pt):Decidable (tU l q):=by unfold tU;infer_instance
def rK(s t:Sg)(but:List Pt):Prop:=h8 s.1 s.2 t.1 t.2=0\/(h8 s.1 s.2 t.1 t.2=1\/h8 s.1 s.2 t.1 t.2=2)/\∃x∈but,mN s.1 s.2 t.1 t.2 x
instance (s t:Sg)(but:List Pt):Decidable (rK s t but):=by unfold rK;infer_instance
def vz(a b but:List Pt):Prop:=∀s∈rx a (a.length-1),∀t∈rx b (b.length-1),rK s t but
instance (a b but:List Pt):Decidable (vz a b but):=by unfold vz;infer_instance
section
variable{g:bB}{p:kC}
end
end TL
namespace TL
section
variable{l:List Pt}{p:Pt}{i:Nat}
end
section
variable{a b c d:Pt}{but:List Pt}{k:Nat}{m:Int}
end
def vS(p:kC)(h:Int):Pt:=if h%2=0 then gI (gI p.2 (h/2)) 1 else gI (gI p.2 (h/2)) (((gI p.2 (h/2)).length:Int)-2)
def vR(u v:Pt):Int:=u.1*v.1+u.2*v.2
def rD(u v:Pt):Prop:=vG u v=0/\0<vR u v
instance (u v:Pt):Decidable (rD u v):=by unfold rD;infer_instance
end TL
namespace TL
end TL
namespace TL
section
variable{g:bB}{p:kC}{F G B:List we}{v e k i:Nat}
end
section
variable{g:bB}{p:kC}{e f:Int}
end
section
variable{a b but:List Pt}{i k:Nat}
end
section
variable{g:bB}{p:kC}{e f:Nat}{b:Bool}
end
end TL
/-
  TlTr: one of each class, how many classes there are; the components of a net.
  By an AI agent.
-/
set_option linter.all false
namespace TL
structure vY(D:Int->Prop)(R:Int->Int->Prop):Prop where
 rfl:∀x,D x->R x x
 symm:∀x y,D x->D y->R x y->R y x
 trans:∀x y z,D x->D y->D z->R x y->R y z->R x z
def gD(g:bB)(v:Int):Prop:=0<=v/\v<g.1
def Cn(g:bB)(u v:Int):Prop:=∀R:Int->Int->Prop,vY (gD g) R->(∀e∈g.2,R e.1 e.2)->R u v
theorem Cn.eqv(g:bB):vY (gD g) (Cn g):=
 ⟨λx hx R hR _=>hR.rfl x hx,λx y hx hy h R hR he=>hR.symm x y hx hy (h R hR he),λx y z hx hy hz h1 h2 R hR he=>hR.trans x y z hx hy hz (h1 R hR he) (h2 R hR he)⟩
theorem Cn.edge{g:bB}{e:Int×Int}(h:e∈g.2):Cn g e.1 e.2:=λR _ he=>he e h
theorem Cn.half{g:bB}(hm:bf g){h:Int}(h0:0<=h)(h1:h<2*(g.2.length:Int)):Cn g (ak g h) (aL g h):=by
 have hin:=bD (xs:=g.2) (i:=h/2) (by omega) (by omega)
 have hok:=hm.2.2.2 _ hin
 have hc:=Cn.edge hin
 unfold ak aL pI
 have h2:h%2=0\/h%2=1:=by omega
 rcases h2 with e|e
 · rw[e];simpa using hc
 · rw[e]
   exact(Cn.eqv g).symm _ _ hok.1 hok.2 (by simpa using hc)
theorem uA{g:bB}{i:Nat}(hi:(i:Int)<g.2.length):2*(i:Int)∈bA g (gI g.2 (i:Int)).1/\2*(i:Int)+1∈bA g (gI g.2 (i:Int)).2/\aL g (2*(i:Int))=(gI g.2 (i:Int)).2/\aL g (2*(i:Int)+1)=(gI g.2 (i:Int)).1:=by
 have e1:(2*(i:Int))/2=i:=by omega
 have e2:(2*(i:Int))%2=0:=by omega
 have e3:(2*(i:Int)+1)/2=i:=by omega
 have e4:(2*(i:Int)+1)%2=1:=by omega
 refine⟨?_,?_,by unfold aL;rw[e1,e2];simp[pI],by unfold aL;rw[e3,e4];simp[pI]⟩
 · unfold bA gw
   refine List.mem_filter.2 ⟨List.mem_map.2 ⟨2*i,List.mem_range.2 (by omega),by push_cast;rfl⟩,?_⟩
   simp only[decide_eq_true_eq]
   unfold ak;rw[e1,e2];simp[pI]
 · unfold bA gw
   refine List.mem_filter.2 ⟨List.mem_map.2 ⟨2*i+1,List.mem_range.2 (by omega),by push_cast;rfl⟩,?_⟩
   simp only[decide_eq_true_eq]
   unfold ak;rw[e3,e4];simp[pI]
theorem pc{g:bB}{S:Int->Prop}(hS:∀x h,S x->h∈bA g x->S (aL g h)){u v:Int}(hc:Cn g u v):S u->S v:=by
 refine(hc (λu v=>S u↔S v) ⟨λ_ _=>Iff.rfl,λ_ _ _ _ h=>h.symm,λ_ _ _ _ _ _ h1 h2=>h1.trans h2⟩ (λe he=>?_)).1
 obtain⟨i,hi,rfl⟩:=List.mem_iff_getElem.1 he
 have e:gI g.2 (i:Int)=g.2[i]:=by simp[gI,hi]
 obtain⟨a,b,c,d⟩:=uA (g:=g) (i:=i) (by omega)
 rw[e] at a b c d
 exact⟨λh=>by rw[<-c];exact hS _ _ h a,λh=>by rw[<-d];exact hS _ _ h b⟩
theorem pR(g:bB)(v:Int)(s:Bf)(h:Int):∀x∈(fS g v s h).order,x∈s.order\/x=aL g h:=by
 intro x hx
 unfold fS at hx
 split at hx
 · rcases List.mem_append.1 hx with hx|hx
   · exact .inl hx
   · exact .inr (List.mem_singleton.1 hx)
 · exact .inl hx
theorem kK{g:bB}(hm:bf g){v:Int}:∀(l:List Int) (s:Bf),(∀h∈l,h∈bA g v)->jH g s->v∈s.order->
   jH g (l.foldl (fS g v) s)/\(∃t,(l.foldl (fS g v) s).order=s.order++t)/\(∀x∈(l.foldl (fS g v) s).order,x∈s.order\/∃h∈bA g v,x=aL g h)/\∀h∈l,aL g h∈(l.foldl (fS g v) s).order
 |[],s,_,hs,hv=>⟨hs,⟨[],by simp⟩,λx hx=>.inl hx,by simp⟩
 |a::l,s,hl,hs,hv=>by
   have hin:=(ck (hl a (by simp))).1
   have ht:=dz hm hin.1 hin.2
   have h1:=hs.one (v:=v) (h:=a) hv ht.1 ht.2
   obtain⟨t,ht1⟩:=pH g v s a
   have ha:aL g a∈(fS g v s a).order:=by
     by_cases c:gI s.far (aL g a)<0
     · unfold fS;rw[if_pos c];simp
     · rw[ht1]
       have:aL g a∈s.order:=Classical.byContradiction λhn=>c ((hs.iff _ ht.1 ht.2).2 hn)
       simp[this]
   obtain⟨k1,⟨t2,k2⟩,k3,k4⟩:=kK hm l (fS g v s a) (λh hh=>hl h (by simp[hh])) h1 (by rw[ht1];simp[hv])
   rw[List.foldl_cons]
   refine⟨k1,⟨t++t2,by rw[k2,ht1,List.append_assoc]⟩,λx hx=>?_,λh hh=>?_⟩
   · rcases k3 x hx with hx|hx
     · rcases pR g v s a x hx with hx|hx
       · exact .inl hx
       · exact .inr ⟨a,hl a (by simp),hx⟩
     · exact .inr hx
   · rcases List.mem_cons.1 hh with rfl|hh
     · rw[k2];simp[ha]
     · exact k4 h hh
theorem oZ{g:bB}(hm:bf g){s0:Int}:∀(n i:Nat) (s:Bf),jH g s->(∀x∈s.order,Cn g s0 x)->s0∈s.order->gD g s0->(∀q:Nat,q<i->(q:Int)<s.order.length->∀h∈bA g (gI s.order (q:Int)),aL g h∈s.order)->(g.1:Int)<=n+i->
   jH g (lI g n i s)/\(∀x∈(lI g n i s).order,Cn g s0 x)/\s0∈(lI g n i s).order/\∀x∈(lI g n i s).order,∀h∈bA g x,aL g h∈(lI g n i s).order
 |0,i,s,hs,hc,h0,hd,hq,hn=>by
   refine⟨hs,hc,h0,λx hx h hh=>?_⟩
   obtain⟨q,hq1,e⟩:=List.mem_iff_getElem.1 hx
   have hl:=hs.len hm.1
   change q<s.order.length at hq1
   have eq1:gI s.order (q:Int)=x:=by simp only[lI] at e;simp[gI,hq1,e]
   exact hq q (by omega) (by omega) h (by rw[eq1];exact hh)
 |n+1,i,s,hs,hc,h0,hd,hq,hn=>by
   simp only[lI]
   by_cases c:i<s.order.length
   · rw[if_pos c]
     have hv:=bD (xs:=s.order) (i:=(i:Int)) (by omega) (by omega)
     obtain⟨k1,⟨t,k2⟩,k3,k4⟩:=kK hm (v:=gI s.order (i:Int)) (bA g (gI s.order (i:Int))) s (λh hh=>hh) hs hv
     have hvd:=hs.rng _ hv
     have hpre:∀q:Nat,(q:Int)<s.order.length->gI (kN g (gI s.order (i:Int)) s).order (q:Int)=gI s.order (q:Int):=λq hq'=>by
       unfold kN;rw[k2];unfold gI
       have:((q:Int)).toNat<s.order.length:=by omega
       simp only[Int.toNat_natCast] at this ⊢
       simp[List.getD_eq_getElem?_getD,List.getElem?_append_left this]
     refine oZ hm n (i+1) (kN g (gI s.order (i:Int)) s) k1 (λx hx=>?_) (by unfold kN;rw[k2];simp[h0]) hd (λq hq1 hq2 h hh=>?_) (by omega)
     · rcases k3 x hx with hx|⟨h,hh,rfl⟩
       · exact hc x hx
       · have hin:=ck hh
         have h1:=Cn.half hm hin.1.1 hin.1.2
         rw[hin.2] at h1
         exact(Cn.eqv g).trans _ _ _ hd hvd (dz hm hin.1.1 hin.1.2) (hc _ hv) h1
     · by_cases e:q=i
       · subst e
         rw[hpre q (by omega)] at hh
         exact k4 h hh
       · have hq3:(q:Int)<s.order.length:=by omega
         rw[hpre q hq3] at hh
         have:=hq q (by omega) hq3 h hh
         unfold kN;rw[k2];simp[this]
   · rw[if_neg c]
     refine⟨hs,hc,h0,λx hx h hh=>?_⟩
     obtain⟨q,hq1,e⟩:=List.mem_iff_getElem.1 hx
     have eq1:gI s.order (q:Int)=x:=by simp[gI,hq1,e]
     exact hq q (by omega) (by omega) h (by rw[eq1];exact hh)
theorem jy{g:bB}(hm:bf g){s0:Int}(h0:gD g s0):(∀x∈(dv g s0).order,gD g x)/\∀x,x∈(dv g s0).order↔Cn g s0 x:=by
 obtain⟨k1,k2,k3,k4⟩:=oZ hm (s0:=s0) g.1.toNat 0 (eR g s0) (jH.start h0.1 h0.2) (by simp[eR];exact(Cn.eqv g).rfl s0 h0) (by simp[eR]) h0 (λq hq=>by omega) (by have:=hm.1;omega)
 refine⟨k1.rng,λx=>⟨k2 x,λhc=>?_⟩⟩
 exact pc (S:=λx=>x∈(dv g s0).order) (λx h hx hh=>k4 x hx h hh) hc k3
theorem ll{n:Int}:∀(O p:List Int) (v:Int),0<=v->v<p.length->(∀x∈O,0<=x/\x<p.length)->gI (O.foldl (λl w=>l.set w.toNat n) p) v=if v∈O then n else gI p v
 |[],p,v,h0,h1,_=>by simp
 |a::O,p,v,h0,h1,ho=>by
   have ha:=ho a (by simp)
   rw[List.foldl_cons,ll O _ v h0 (by simpa using h1) (λx hx=>by simpa using ho x (by simp[hx])),bV ha.1 ha.2 h0]
   by_cases e:v=a
   · subst e;simp
   · by_cases hv:v∈O
     · simp[hv]
     · simp[hv,e]
end TL
/-
  TlOrb: going round by a permutation; two places changed; what that does to the numbers of rounds.
  By an AI agent.
-/
set_option linter.all false
namespace TL
def tr(a b x:Int):Int:=if x=a then b else if x=b then a else x
end TL
/-
  TlDfs: components found by a stack: the document's way.
  By an AI agent.
-/
set_option linter.all false
namespace TL
def fQ(c:List Int):Nat:=(c.filter λx=>decide (x<0)).length
theorem q7{c:List Int}{w n:Int}(h0:0<=w)(h1:w<c.length)(hc:gI c w<0)(hn:0<=n):fQ (c.set w.toNat n)+1=fQ c:=by
 have hlt:w.toNat<c.length:=by omega
 have e0:gI c w=c[w.toNat]:=by simp[gI,hlt]
 have e1:c=c.take w.toNat++c[w.toNat]::c.drop (w.toNat+1):=by
   rw[<-List.drop_eq_getElem_cons hlt,List.take_append_drop]
 have e2:c.set w.toNat n=c.take w.toNat++n::c.drop (w.toNat+1):=List.set_eq_take_append_cons_drop.trans (if_pos hlt)
 rw[e2]
 conv=>rhs;rw[e1]
 unfold fQ
 rw[List.filter_append,List.filter_append,List.filter_cons,List.filter_cons,if_neg (by simp;omega),if_pos (by rw[<-e0];simpa using hc)]
 simp
 omega
theorem cW{g:bB}{v:Int}(h0:0<=v)(h1:v<g.1):gI (aq g) v=bA g v:=by
 unfold aq gI
 have:v.toNat<g.1.toNat:=by omega
 simp[List.getD_eq_getElem?_getD,this]
 congr 1
 omega
theorem kT(g:bB)(h:0<=g.1):((aq g).length:Int)=g.1:=by simp[aq];omega
section
variable{g:bB}{c0 c todo x:List Int}{n s:Int}
variable{v:Int}{k M:Nat}
end
end TL
