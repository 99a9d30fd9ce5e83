/- Plain texts of this claim, part 1. By an AI agent. -/
import Derived.Test.YtgneelmmomohdaaSmTlP0
import Derived.Laws.StructEq
import Derived.OrdersHeld
/-
  TlDraw: regions that draw their order, taken operation by operation.
  By an AI agent.
-/
set_option linter.all false
namespace TL
open Go
def bY(n:Nat)(done:List Nat):Array Bool:=((List.range n).map λi=>decide (i∈done)).toArray
theorem dd(n:Nat)(done:List Nat)(j:Nat)(d:Bool):(bY n done).getD j d=if j<n then decide (j∈done) else d:=by
 unfold bY
 by_cases h:j<n
 · simp[h]
 · simp[h]
theorem cX{n i:Nat}(done:List Nat)(hi:i<n):(bY n done).setIfInBounds i true=bY n (i::done):=by
 apply Array.ext
 · simp[bY]
 · intro j h1 h2
   have hj:j<n:=by simpa[bY] using h2
   simp only[bY]
   by_cases hij:i=j
   · subst hij;simp
   · have:¬j=i:=λh=>hij h.symm
     simp[Array.getElem_setIfInBounds,hij,this]
section
variable{P:Program}{ops:Array Oper}{Q:Exit->Act->World->Prop}{md:Region.Mode}{qs:Nat->Bool}
def lI(P:Program)(md:Region.Mode)(ops:Array Oper)(qs:Nat->Bool)(Q:Exit->Act->World->Prop):Nat->Array Bool->Act->World->Prop
  |0,listed,a,w=>Region.ready md ops listed=[]/\Q .normal a w
  |fuel+1,listed,a,w=>(Region.ready md ops listed=[]->Q .normal a w)/\
    ∀i∈Region.ready md ops listed,if qs i then stOp P ops w i (λa'=>lI P md ops qs Q fuel (listed.setIfInBounds i true) a' w) a
      else wpOp P ops Q i (lI P md ops qs Q fuel (listed.setIfInBounds i true)) a w
theorem fX:∀(fuel:Nat) (listed:Array Bool) (a:Act) (w:World),lI P md ops qs Q fuel listed a w->wpAny P md ops Q fuel listed a w
 |0,_,_,_,h=>h
 |fuel+1,listed,a,w,h=>by
   refine⟨h.1,λi hi=>?_⟩
   have h2:=h.2 i hi
   cases hq:qs i with
   |true=>
     simp only[hq,if_true] at h2
     exact wpOp_of_stOp (λa' h'=>fX fuel _ a' w h') h2
   |false=>
     simp only[hq,Bool.false_eq_true,if_false] at h2
     exact wpOp_mono (λa' w' h'=>fX fuel _ a' w' h') h2
theorem oU{i:Nat}{oi:Oper}{v:Value}{w:World}{M D:Array Bool}(hi:ops[i]? =some oi)(hsel:∀(j:Nat) (o:Oper) cs b,ops[j]? =some o->o.op≠ .select cs b)(hqi:qs i=true)
    (hM:∀j oj,ops[j]? =some oj->M.getD j false=false->j≠i->∃e∈oj.after,Region.binds md e=true/\M.getD e.on false=false)
    (hMq:∀j oj,ops[j]? =some oj->M.getD j false=true->D.getD j true=false->j≠i->qs j=true):
    ∀(fuel:Nat) (listed:Array Bool) (a:Act),listed.size=ops.size->(∀j,listed.getD j false=true->M.getD j false=true)->(∀j,listed.getD j true=false->D.getD j true=false)->
      (∀j oj,ops[j]? =some oj->j≠i->listed.getD j true=false->(∀e∈oj.after,Region.binds md e=true->e.on≠i)->oi.apart ops oj=true)->
      i∈Region.ready md ops listed->YieldsAt P ops w oi v a->
      lI P md ops qs Q fuel (listed.setIfInBounds i true) (a.put oi.dst v) w->lI P md ops qs Q (fuel+1) listed a w:=by
  intro fuel
  induction fuel with
  |zero=>
    intro listed a _ _ _ _ hr hy H
    refine⟨λh=>(by rw[h] at hr;cases hr),λj hj=>?_⟩
    by_cases hji:j=i
    · subst hji;rw[if_pos hqi];exact hy.stOp hi H
    · have:=ready_mono hj hji
      rw[H.1] at this
      cases this
  |succ fuel ih=>
    intro listed a hsz hsub hD hfree hr hy H
    refine⟨λh=>(by rw[h] at hr;cases hr),λj hj=>?_⟩
    by_cases hji:j=i
    · subst hji;rw[if_pos hqi];exact hy.stOp hi H
    · obtain⟨hjun,oj,hoj,hall⟩:=mem_ready.1 hj
      have hMj:M.getD j false=true:=by
        cases hm:M.getD j false with
        |true=>rfl
        |false=>
          obtain⟨e,he,hb,hn⟩:=hM j oj hoj hm hji
          have:=hsub _ (hall e he hb)
          rw[hn] at this;cases this
      have hqj:=hMq j oj hoj hMj (hD j hjun) hji
      have h1:=H.2 j (ready_mono hj hji)
      rw[if_pos hqj] at h1 ⊢
      have hnot:∀e∈oj.after,Region.binds md e=true->e.on≠i:=λe he hb heq=>by
        have h1:=hall e he hb
        have h0:=(mem_ready.1 hr).1
        rw[heq] at h1
        rw[getD_both h0] at h1
        cases h1
      have h2:=stOp_put hoj (hfree j oj hoj hji hjun hnot) (λcs b=>hsel i oi cs b hi) (λcs b=>hsel j oj cs b hoj) hy h1
      have hfree':∀k ok,ops[k]? =some ok->k≠i->(listed.setIfInBounds j true).getD k true=false->
          (∀e∈ok.after,Region.binds md e=true->e.on≠i)->oi.apart ops ok=true:=λk ok hk hki hun hno=>by
        refine hfree k ok hk hki ?_ hno
        by_cases hjk:j=k
        · subst hjk;exact hjun
        · rw[getD_set_ne true hjk] at hun;exact hun
      have hsub':∀k,(listed.setIfInBounds j true).getD k false=true->M.getD k false=true:=λk hk=>by
        by_cases hjk:j=k
        · subst hjk;exact hMj
        · rw[getD_set_ne false hjk] at hk;exact hsub k hk
      have hD':∀k,(listed.setIfInBounds j true).getD k true=false->D.getD k true=false:=λk hk=>by
        by_cases hjk:j=k
        · subst hjk;exact hD j hjun
        · rw[getD_set_ne true hjk] at hk;exact hD k hk
      refine stOp_mono (λa' h3=>ih (listed.setIfInBounds j true) a' (by simpa using hsz) hsub' hD' hfree' (ready_mono hr (Ne.symm hji)) h3.1 ?_) h2
      rw[Array.setIfInBounds_comm _ _ hji]
      exact h3.2
def aI{α:Type}(s:Sem α):Prop:=∀(P:Program) (w:World) (x:α) (w':World),s.run P w= .ok x w'->dU w.heap.size w w'
theorem aI.bind{α β:Type}{s:Sem α}{f:α->Sem β}(h:aI s)(hf:∀a,aI (f a)):aI (s>>=f):=by
 intro P w x w' hr
 rw[Sem.run_bind] at hr
 cases h1:s.run P w with
 |halt e w1=>rw[h1] at hr;cases hr
 |ok a w1=>
   rw[h1] at hr
   have k1:=h P w a w1 h1
   have k2:=hf a P w1 x w' hr
   exact k1.trans (k2.mono k1.size)
theorem aI.pure{α:Type}(a:α):aI (Pure.pure a:Sem α):=λP w x w' h=>by
 simp only[Sem.run_pure] at h
 cases h;exact dU.refl _ _
theorem aI.halt{α:Type}(e:Halt):aI (Sem.halt e:Sem α):=λP w x w' h=>by cases h
theorem aI.stuck{α:Type}(e:String):aI (Go.stuck e:Sem α):=aI.halt _
theorem aI.unsupported{α:Type}(e:Unsupported):aI (Go.unsupported e:Sem α):=aI.halt _
theorem aI.program:aI Go.program:=λP w x w' h=>by
 simp only[run_program] at h
 cases h;exact dU.refl _ _
theorem aI.new(o:Obj):aI (newObj o):=λP w x w' h=>by
 simp only[run_newObj] at h
 cases h
 exact(dU.refl _ w).alloc (Nat.le_refl _) o
theorem aI.typeInfo(t:TypeId):aI (Go.typeInfo t):=aI.bind aI.program λp=>by
 cases p.info? t with
 |some i=>exact aI.pure i
 |none=>exact aI.stuck _
theorem aI.underlying(t:TypeId):aI (Go.underlying t):=aI.bind aI.program λp=>by
 cases p.underlying t with
 |some i=>exact aI.pure i
 |none=>exact aI.stuck _
theorem aI.sizeOf(t:TypeId):aI (Go.sizeOf t):=aI.bind (aI.typeInfo t) λi=>aI.pure _
theorem aI.zeroValue(t:TypeId):aI (Go.zeroValue t):=aI.bind (aI.typeInfo t) λi=>by
 cases i.zero with
 |some v=>exact aI.pure v
 |none=>exact aI.unsupported _
theorem aI.newVar(t:TypeId)(v:Value):aI (Go.newVar t v):=aI.bind (aI.new _) λ_=>aI.pure _
theorem jA(t:TypeId)(len:Nat)(parts:Array (Nat×Value)):aI (Instr.buildSlice t len parts):=by
 unfold Instr.buildSlice
 refine aI.bind (aI.underlying t) λd=>?_
 split
 · refine aI.bind (aI.sizeOf _) λsize=>?_
   have tail:∀(elem:TypeId) (zero:Array Value),aI (match Instr.fill (λi=>some (i*size,size)) ((Array.range (len*size)).map (zero[· %zero.size]!)) parts.toList with
       |some cells=>(do pure (Value.slice (some (<-newRow elem cells)) len len):Sem Value)
       |_=>Go.stuck "buildSlice: a part of the wrong size"):=λelem zero=>by
     split
     · exact aI.bind (aI.bind (aI.new _) λ_=>aI.pure _) λ_=>aI.pure _
     · exact aI.stuck _
   by_cases h1:len*size>2^24
   · simp only[h1,if_true]
     refine aI.bind (aI.unsupported _) λx=>?_
     by_cases h2:len*size=0
     · rw[if_pos h2]
       exact aI.bind (aI.pure _) λzero=>tail _ zero
     · simp only[h2,if_false]
       exact aI.bind (aI.zeroValue _) λ_=>aI.bind (aI.pure _) λzero=>tail _ zero
   · simp only[h1,if_false]
     by_cases h2:len*size=0
     · rw[if_pos h2]
       exact aI.bind (aI.pure _) λzero=>tail _ zero
     · simp only[h2,if_false]
       exact aI.bind (aI.zeroValue _) λ_=>aI.bind (aI.pure _) λzero=>tail _ zero
 · exact aI.stuck _
theorem tx{P:Program}{w w':World}{s:Sem Value}{nx:Next}(h:(do pure (Next.value (<-s)):Sem Next).run P w= .ok nx w'):∃u,nx= .value u:=by
 rw[Sem.run_bind] at h
 cases hs:s.run P w with
 |ok a w1=>rw[hs] at h;cases h;exact⟨a,rfl⟩
 |halt e w1=>rw[hs] at h;cases h
theorem aI.load(a:Addr)(m:Mode):aI (Go.load a m):=λP w x w' h=>by
 simp only[Go.load,Sem.run] at h
 split at h
 · cases h;exact dU.refl _ _
 · split at h
   · cases h;exact dU.refl _ _
   · cases h
theorem aI.cells(a:Addr):∀(n i:Nat) (acc:Array Value),aI (loadCellsFrom a i n acc)
 |0,_,_=>aI.pure _
 |n+1,i,_=>aI.bind (aI.load _ _) λ_=>aI.cells a n (i+1) _
theorem aI.isAgg(t:TypeId):aI (Go.isAgg t):=aI.bind (aI.underlying t) λd=>by
 split<;>exact aI.pure _
theorem aI.error{α:Type}(m:String):aI (runtimePanic (.error m):Sem α):=aI.bind aI.program λp=>aI.halt _
theorem aI.asIntOf(v:Value):aI (Go.asIntOf v):=by
 unfold Go.asIntOf
 split
 · exact aI.pure _
 · exact aI.unsupported _
 · exact aI.stuck _
theorem aI.asInt(v:Value):aI (Go.asInt v):=aI.bind (aI.asIntOf v) λ_=>aI.pure _
theorem aI.choose(q:Question):aI (Go.choose q):=λP w x w' h=>by
 simp only[Go.choose,Sem.run] at h
 split at h
 · cases h;exact dU.refl _ _
 · cases h;exact⟨rfl,rfl,rfl,Nat.le_refl _,λ_ _=>rfl,Nat.le_succ _⟩
theorem aI.room(n:Nat):aI (askRoom n):=λP w x w' h=>by
 unfold askRoom at h
 split at h
 · simp only[Go.mark,Sem.run] at h
   cases h;exact⟨rfl,rfl,rfl,Nat.le_refl _,λ_ _=>rfl,Nat.le_refl _⟩
 · cases h;exact dU.refl _ _
theorem my(t:TypeId)(a:Value):aI (Instr.loadAt t a):=by
 unfold Instr.loadAt
 refine aI.bind ?_ λb=>?_
 · unfold Instr.sureAddr
   split
   · exact aI.pure _
   · exact aI.stuck _
 · unfold loadVar
   refine aI.bind (aI.isAgg t) λc=>?_
   split
   · exact aI.bind (aI.sizeOf t) λn=>aI.bind (aI.cells _ _ _ _) λ_=>aI.pure _
   · exact aI.load _ _
theorem kb(t:TypeId)(a b:Value):aI (Instr.makeSlice t a b):=by
 unfold Instr.makeSlice
 refine aI.bind (aI.underlying t) λd=>?_
 split
 · refine aI.bind (aI.asInt _) λl=>aI.bind (aI.asInt _) λc=>aI.bind (aI.typeInfo _) λi=>?_
   have tail:∀(c:Int) (l:Int) (elem:TypeId),aI (do
       let n:=c.toNat*(<-sizeOf elem)
       let zero<-if n=0 then pure #[] else do pure (<-zeroValue elem).cells
       let a<-newRow elem ((Array.range n).map (zero[· %zero.size]!))
       pure (Value.slice (some a) l.toNat c.toNat)):=λc l elem=>by
     refine aI.bind (aI.sizeOf _) λn=>?_
     have last:∀zero:Array Value,aI (do
       let a<-newRow elem ((Array.range (c.toNat*n)).map (zero[· %zero.size]!))
       pure (Value.slice (some a) l.toNat c.toNat)):=λzero=>aI.bind (aI.bind (aI.new _) λ_=>aI.pure _) λ_=>aI.pure _
     by_cases h:c.toNat*n=0
     · simp only[h,if_true]
       have:=last #[]
       simp only[h] at this
       exact aI.bind (aI.pure _) λ_=>aI.bind (aI.bind (aI.new _) λ_=>aI.pure _) λ_=>aI.pure _
     · simp only[h,if_false]
       exact aI.bind (aI.zeroValue _) λ_=>aI.bind (aI.pure _) λz=>last z
   dsimp only
   repeat' (first
     |exact aI.error _
     |exact aI.choose _
     |exact aI.room _
     |exact tail _ _ _
     |exact aI.pure _
     |refine aI.bind ?_ λ_=>?_
     |split)
 · exact aI.stuck _
def hX:Op->Bool
 | .alloc _| .box .. | .buildSlice .. | .load .. | .makeSlice .. =>true
 |_=>false
theorem oI{ρ:Operand->Value}{o:Oper}(h:hX o.op=true):aI (execOp ρ o):=by
 obtain⟨dst,op,ty,pos,after,g⟩:=o
 cases op<;>simp only[hX,Bool.false_eq_true] at h
 case alloc e=>exact aI.bind (aI.bind (aI.zeroValue _) λ_=>aI.bind (aI.newVar _ _) λ_=>aI.pure _) λ_=>aI.pure _
 case box e x=>exact aI.bind (aI.bind (aI.newVar _ _) λ_=>aI.pure _) λ_=>aI.pure _
 case buildSlice t n ps=>exact aI.bind (jA _ _ _) λ_=>aI.pure _
 case load t a=>exact aI.bind (my _ _) λ_=>aI.pure _
 case makeSlice t a b=>exact aI.bind (kb _ _ _) λ_=>aI.pure _
theorem qW{i:Nat}{oi:Oper}{v:Value}{w0:World}{M D:Array Bool}(hi:ops[i]? =some oi)(hsel:∀(j:Nat) (o:Oper) cs b,ops[j]? =some o->o.op≠ .select cs b)(hqi:qs i=true)
    (hQ:∀c a w,Q (.panic c) (a.put oi.dst v) w->Q (.panic c) a w)
    (hM:∀j oj,ops[j]? =some oj->M.getD j false=false->j≠i->∃e∈oj.after,Region.binds md e=true/\M.getD e.on false=false)
    (hMq:∀j oj,ops[j]? =some oj->M.getD j false=true->D.getD j true=false->j≠i->qs j=true\/hX oj.op=true):
    ∀(fuel:Nat) (listed:Array Bool) (a:Act) (w:World),dU w0.heap.size w0 w->(∀j,listed.getD j false=true->M.getD j false=true)->(∀j,listed.getD j true=false->D.getD j true=false)->
      (∀j oj,ops[j]? =some oj->j≠i->listed.getD j true=false->(∀e∈oj.after,Region.binds md e=true->e.on≠i)->oi.apart ops oj=true)->
      i∈Region.ready md ops listed->(∀w,dU w0.heap.size w0 w->YieldsAt P ops w oi v a)->
      lI P md ops qs Q fuel (listed.setIfInBounds i true) (a.put oi.dst v) w->lI P md ops qs Q (fuel+1) listed a w:=by
  intro fuel
  induction fuel with
  |zero=>
    intro listed a w hw _ _ _ hr hy H
    refine⟨λh=>(by rw[h] at hr;cases hr),λj hj=>?_⟩
    by_cases hji:j=i
    · subst hji;rw[if_pos hqi];exact(hy w hw).stOp hi H
    · have:=ready_mono hj hji
      rw[H.1] at this
      cases this
  |succ fuel ih=>
    intro listed a w hw hsub hD hfree hr hy H
    refine⟨λh=>(by rw[h] at hr;cases hr),λj hj=>?_⟩
    by_cases hji:j=i
    · subst hji;rw[if_pos hqi];exact(hy w hw).stOp hi H
    · obtain⟨hjun,oj,hoj,hall⟩:=mem_ready.1 hj
      have hMj:M.getD j false=true:=by
        cases hm:M.getD j false with
        |true=>rfl
        |false=>
          obtain⟨e,he,hb,hn⟩:=hM j oj hoj hm hji
          have:=hsub _ (hall e he hb)
          rw[hn] at this;cases this
      have hqj:=hMq j oj hoj hMj (hD j hjun) hji
      have h1:=H.2 j (ready_mono hj hji)
      have hnot:∀e∈oj.after,Region.binds md e=true->e.on≠i:=λe he hb heq=>by
        have h1:=hall e he hb
        have h0:=(mem_ready.1 hr).1
        rw[heq] at h1
        rw[getD_both h0] at h1
        cases h1
      have hap:=hfree j oj hoj hji hjun hnot
      have hfree':∀k ok,ops[k]? =some ok->k≠i->(listed.setIfInBounds j true).getD k true=false->
          (∀e∈ok.after,Region.binds md e=true->e.on≠i)->oi.apart ops ok=true:=λk ok hk hki hun hno=>by
        refine hfree k ok hk hki ?_ hno
        by_cases hjk:j=k
        · subst hjk;exact hjun
        · rw[getD_set_ne true hjk] at hun;exact hun
      have hsub':∀k,(listed.setIfInBounds j true).getD k false=true->M.getD k false=true:=λk hk=>by
        by_cases hjk:j=k
        · subst hjk;exact hMj
        · rw[getD_set_ne false hjk] at hk;exact hsub k hk
      have hD':∀k,(listed.setIfInBounds j true).getD k true=false->D.getD k true=false:=λk hk=>by
        by_cases hjk:j=k
        · subst hjk;exact hD j hjun
        · rw[getD_set_ne true hjk] at hk;exact hD k hk
      obtain⟨g1,g2,g3⟩:=Oper.apart_spec hap
      have keep:∀u w,dU w0.heap.size w0 w->YieldsAt P ops w oi v (a.put oj.dst u):=λu w hw=>
        (hy w hw).of_same (execOp_put oi (λcs b=>hsel i oi cs b hi) a oj.dst u g3) (wanted_put oi a oj.dst u g3)
      cases hqj':qs j with
      |true=>
        simp only[hqj',if_true] at h1 ⊢
        obtain⟨u,hyu,hK⟩:=yieldsAt_of_stOp hoj h1
        have hyj:YieldsAt P ops w oj u a:=by
          rcases hyu with⟨k1,k2⟩|⟨k1,k2⟩
          · refine .inl ⟨by rw[<-wanted_put oj a oi.dst v g1];exact k1,?_⟩
            rw[execOp_put oj (λcs b=>hsel j oj cs b hoj) a oi.dst v g1] at k2
            exact k2
          · exact .inr ⟨by rw[<-wanted_put oj a oi.dst v g1];exact k1,k2⟩
        refine hyj.stOp hoj (ih (listed.setIfInBounds j true) (a.put oj.dst u) w hw hsub' hD' hfree' (ready_mono hr (Ne.symm hji)) (keep u) ?_)
        rw[<-Act.put_comm a v u g2,Array.setIfInBounds_comm _ _ hji]
        exact hK
      |false=>
        have hkk:=hqj.resolve_left (by rw[hqj'];simp)
        simp only[hqj',Bool.false_eq_true,if_false] at h1 ⊢
        unfold wpOp at h1 ⊢
        simp only[hoj] at h1 ⊢
        rw[wanted_put oj a oi.dst v g1] at h1
        cases hwt:Region.wanted oj (yielded ops a.tmps) with
        |false=>
          simp only[hwt,Bool.false_eq_true,if_false] at h1 ⊢
          refine ih (listed.setIfInBounds j true) (a.put oj.dst undef) w hw hsub' hD' hfree' (ready_mono hr (Ne.symm hji)) (keep undef) ?_
          rw[<-Act.put_comm a v undef g2,Array.setIfInBounds_comm _ _ hji]
          exact h1
        |true=>
          simp only[hwt,if_true] at h1 ⊢
          have hke:=oI (ρ:=a.eval) hkk P w
          rcases h1 with h1|⟨h1,h2⟩
          · left
            unfold Oper.wp at h1 ⊢
            rw[execOp_put oj (λcs b=>hsel j oj cs b hoj) a oi.dst v g1] at h1
            obtain⟨dst,op,ty,pos,after,gd⟩:=oj
            cases hrun:(execOp a.eval ⟨dst,op,ty,pos,after,gd⟩).run P w with
            |halt x w'=>
              rw[hrun] at h1
              cases x<;>simp only[Oper.upon] at h1 ⊢
              case panic u=>exact hQ _ _ _ h1
            |ok nx w'=>
              rw[hrun] at h1
              have hb:=hke nx w' hrun
              have hw':dU w0.heap.size w0 w':=hw.trans (hb.mono hw.size)
              -- these operations yield values alone
              have hval:∃u,nx= .value u:=by
                cases op<;>simp only[hX,Bool.false_eq_true] at hkk
                all_goals exact tx hrun
              obtain⟨u,rfl⟩:=hval
              simp only[Oper.upon] at h1 ⊢
              refine ih (listed.setIfInBounds j true) (a.put dst u) w' hw' hsub' hD' hfree' (ready_mono hr (Ne.symm hji)) (keep u) ?_
              have h3:=h1
              rw[show(a.put oi.dst v).put dst u=(a.put dst u).put oi.dst v from Act.put_comm a v u g2,Array.setIfInBounds_comm _ _ (Ne.symm hji)] at h3
              exact h3
          · right
            refine⟨?_,h2⟩
            unfold Oper.asks at*
            rw[execOp_put oj (λcs b=>hsel j oj cs b hoj) a oi.dst v g1] at h1
            exact h1
theorem mc{i:Nat}{oi:Oper}{v:Value}(hi:ops[i]? =some oi)(hsel:∀(j:Nat) (o:Oper) cs b,ops[j]? =some o->o.op≠ .select cs b)(hqi:qs i=true)
    (hQ:∀c a w,Q (.panic c) (a.put oi.dst v) w->Q (.panic c) a w):
    ∀(fuel:Nat) (listed:Array Bool) (a:Act) (w:World),
      (∀j oj,ops[j]? =some oj->j≠i->listed.getD j true=false->(∀e∈oj.after,Region.binds md e=true->e.on≠i)->oi.apart ops oj=true)->
      i∈Region.ready md ops listed->Yields P ops oi v a->
      lI P md ops qs Q fuel (listed.setIfInBounds i true) (a.put oi.dst v) w->lI P md ops qs Q (fuel+1) listed a w:=by
  have hat:∀{a:Act} {w:World},Yields P ops oi v a->YieldsAt P ops w oi v a:=λ {a w} hy=>by
    rcases hy with⟨h1,h2⟩|⟨h1,h2⟩
    · exact .inl ⟨h1,.inl (h2 w)⟩
    · exact .inr ⟨h1,h2⟩
  intro fuel
  induction fuel with
  |zero=>
    intro listed a w _ hr hy H
    refine⟨λh=>(by rw[h] at hr;cases hr),λj hj=>?_⟩
    by_cases hji:j=i
    · subst hji;rw[if_pos hqi];exact(hat hy).stOp hi H
    · have:=ready_mono hj hji
      rw[H.1] at this
      cases this
  |succ fuel ih=>
    intro listed a w hfree hr hy H
    refine⟨λh=>(by rw[h] at hr;cases hr),λj hj=>?_⟩
    by_cases hji:j=i
    · subst hji;rw[if_pos hqi];exact(hat hy).stOp hi H
    · obtain⟨hjun,oj,hoj,hall⟩:=mem_ready.1 hj
      have h1:=H.2 j (ready_mono hj hji)
      have hnot:∀e∈oj.after,Region.binds md e=true->e.on≠i:=λe he hb heq=>by
        have h1:=hall e he hb
        have h0:=(mem_ready.1 hr).1
        rw[heq] at h1
        rw[getD_both h0] at h1
        cases h1
      have hap:=hfree j oj hoj hji hjun hnot
      have hfree':∀k ok,ops[k]? =some ok->k≠i->(listed.setIfInBounds j true).getD k true=false->
          (∀e∈ok.after,Region.binds md e=true->e.on≠i)->oi.apart ops ok=true:=λk ok hk hki hun hno=>by
        refine hfree k ok hk hki ?_ hno
        by_cases hjk:j=k
        · subst hjk;exact hjun
        · rw[getD_set_ne true hjk] at hun;exact hun
      cases hqj:qs j with
      |true=>
        simp only[hqj,if_true] at h1 ⊢
        -- a step that leaves the world
        have hy':=hy
        obtain⟨g1,g2,g3⟩:=Oper.apart_spec hap
        have keep:∀(a:Act),Yields P ops oi v a->∀u,Yields P ops oi v (a.put oj.dst u):=λa hy u=>
          hy.of_same (execOp_put oi (λcs b=>hsel i oi cs b hi) a oj.dst u g3) (wanted_put oi a oj.dst u g3)
        obtain⟨u,hyu,hK⟩:=yieldsAt_of_stOp hoj h1
        have hyj:YieldsAt P ops w oj u a:=by
          rcases hyu with⟨k1,k2⟩|⟨k1,k2⟩
          · refine .inl ⟨by rw[<-wanted_put oj a oi.dst v g1];exact k1,?_⟩
            rw[execOp_put oj (λcs b=>hsel j oj cs b hoj) a oi.dst v g1] at k2
            exact k2
          · exact .inr ⟨by rw[<-wanted_put oj a oi.dst v g1];exact k1,k2⟩
        refine hyj.stOp hoj (ih (listed.setIfInBounds j true) (a.put oj.dst u) w hfree' (ready_mono hr (Ne.symm hji)) (keep a hy u) ?_)
        rw[<-Act.put_comm a v u g2,Array.setIfInBounds_comm _ _ hji]
        exact hK
      |false=>
        simp only[hqj,Bool.false_eq_true,if_false] at h1 ⊢
        have h2:=wpOp_put hoj hap (λcs b=>hsel i oi cs b hi) (λcs b=>hsel j oj cs b hoj) hQ hy h1
        refine wpOp_mono (λa' w' h3=>ih (listed.setIfInBounds j true) a' w' hfree' (ready_mono hr (Ne.symm hji)) h3.1 ?_) h2
        rw[Array.setIfInBounds_comm _ _ hji]
        exact h3.2
end
section
variable{P:Program}{n:Nat}{l:List Oper}{qs:List Nat}{K:Fr->World->Prop}{f:Fr}{w:World}{done:List Nat}{fuel:Nat}
def iW(P:Program)(n:Nat)(l:List Oper)(qs:List Nat)(K:Fr->World->Prop)(fuel:Nat)(done:List Nat)(f:Fr)(w:World):Prop:=
  ∀a,Ag n a f->lI P .any l.toArray (λi=>decide (i∈qs)) (λe a' w'=>e= .normal/\∃f',Ag n a' f'/\K f' w') fuel (bY l.length done) a w
theorem bA{fid:Nat}{R:Ending->World->Prop}{k:List Item}{id:Nat}(γ:aG)(qs:List Nat)(hm:P.follows .mixedOrders=true)
   (h:∀w1,bv no γ w γ w1->iW P n l qs (fl P fid n R k) l.length [] f w1):fl P fid n R (.code (.region id l.toArray true)::k) f w:=
 ij λa ha=>wp_region_any hm (by
   have h0:=fX _ _ _ _ (h _ (bv.refl _ _ _).drew a ha)
   have hmask:bY l.length []=Array.replicate l.toArray.size false:=by
     apply Array.ext
     · simp[bY]
     · intro j h1 h2;simp[bY]
   rw[hmask] at h0
   simpa using h0)
theorem dw{fid:Nat}{R:Ending->World->Prop}{k:List Item}{id:Nat}{σ:Type}(Mid:σ->Fr->World->Prop)(γ:aG)(qs:List Nat)(hm:P.follows .mixedOrders=true)
    (h:(∀s f w,Mid s f w->fl P fid n R k f w)->∀w1,bv no γ w γ w1->iW P n l qs (fl P fid n R k) l.length [] f w1)(hk:∀s f w,Mid s f w->fl P fid n R k f w):fl P fid n R (.code (.region id l.toArray true)::k) f w:=
  bA γ qs hm (h hk)
def fG(l:List Oper)(done:List Nat)(i:Nat):Bool:=
 !done.contains i&&match l[i]? with
   |some o=>o.after.all λe=> !Region.binds .any e||done.contains e.on&&decide (e.on<l.length)
   |none=>false
def i7(l:List Oper)(done:List Nat)(i:Nat):Bool:=
 match l[i]? with
 |none=>false
 |some oi=>(List.range l.length).all λj=>j==i||done.contains j||match l[j]? with
     |some oj=>oj.after.any (λe=>Region.binds .any e&&e.on==i)||oi.apart l.toArray oj
     |none=>true
def mF(l:List Oper)(qs done M:List Nat)(i:Nat):Bool:=
  ((List.range l.length).all λj=>M.contains j||j==i||match l[j]? with
      |some oj=>oj.after.any λe=>Region.binds .any e&& !M.contains e.on
      |none=>true)&&
  (M.all λj=>j==i||done.contains j||qs.contains j)&&(done.all λj=>M.contains j&&decide (j<l.length))&&M.all λj=>decide (j<l.length)
def fV(l:List Oper):Bool:=Region.noSelect l.toArray
theorem fb{i:Nat}(h:fG l done i=true):i<l.length/\i∈Region.ready .any l.toArray (bY l.length done):=by
 unfold fG at h
 simp only[Bool.and_eq_true,Bool.not_eq_true'] at h
 obtain⟨h1,h2⟩:=h
 split at h2
 · rename_i o ho
   have hlt:i<l.length:=(List.getElem?_eq_some_iff.1 ho).1
   refine⟨hlt,mem_ready.2 ⟨by rw[dd];simp[hlt];simpa using h1,o,by simpa using ho,λe he hb=>?_⟩⟩
   have h3:=Array.all_eq_true_iff_forall_mem.1 h2 e he
   simp only[hb,Bool.not_true,Bool.false_or,Bool.and_eq_true,decide_eq_true_eq] at h3
   rw[dd,if_pos h3.2]
   simpa using h3.1
 · cases h2
theorem fD{i:Nat}{oi:Oper}(hi:l[i]? =some oi)(h:i7 l done i=true)(j:Nat)(oj:Oper)(hj:l.toArray[j]? =some oj)(hne:j≠i)(hun:(bY l.length done).getD j true=false)
   (hno:∀e∈oj.after,Region.binds .any e=true->e.on≠i):oi.apart l.toArray oj=true:=by
 have hj':l[j]? =some oj:=by simpa using hj
 have hlt:j<l.length:=(List.getElem?_eq_some_iff.1 hj').1
 unfold i7 at h
 simp only[hi,List.all_eq_true,List.mem_range] at h
 have h1:=h j hlt
 rw[dd,if_pos hlt] at hun
 have hd:done.contains j=false:=by simpa using hun
 simp only[hj',Bool.or_eq_true,beq_iff_eq,hne,false_or,hd,Bool.false_eq_true] at h1
 rcases h1 with h1|h1
 · obtain⟨e,he,hb⟩:=Array.any_eq_true'.1 h1
   simp only[Bool.and_eq_true,beq_iff_eq] at hb
   exact absurd hb.2 (hno e he hb.1)
 · exact h1
theorem hZ(h:fV l=true):∀(j:Nat) (o:Oper) cs b,l.toArray[j]? =some o->o.op≠ .select cs b:=Region.noSelect_spec h
theorem jG{i:Nat}(h:qs.contains i=true):decide (i∈qs)=true:=by simpa using h
variable{dst:Option Tmp}{op:Op}{ty:TypeId}{pos:String}{after:Array Edge}{g:Option (Nat×Bool)}{v:Value}
theorem db(i:Nat)(M:List Nat)(hi:l[i]? =some ⟨dst,op,ty,pos,after,g⟩)(hn:fV l=true)(hc:(qs.contains i&&fG l done i&&i7 l done i&&mF l qs done M i&&jY n ⟨dst,op,ty,pos,after,g⟩)=true)
    (hw:cM l ⟨dst,op,ty,pos,after,g⟩ f=true)(h:(execOp (ev f) ⟨dst,op,ty,pos,after,g⟩).run P w= .ok (.value v) w)(hk:iW P n l qs K fuel (i::done) (fM f dst v) w):iW P n l qs K (fuel+1) done f w:=by
  simp only[Bool.and_eq_true] at hc
  obtain⟨⟨⟨⟨hq,hr⟩,hf⟩,hb⟩,hd⟩:=hc
  obtain⟨hlt,hr'⟩:=fb hr
  intro a ha
  unfold mF at hb
  simp only[Bool.and_eq_true,List.all_eq_true,List.mem_range] at hb
  obtain⟨⟨⟨b1,b2⟩,b3⟩,b4⟩:=hb
  have hgM:∀j,(bY l.length M).getD j false=true↔j∈M:=λj=>by
    rw[dd]
    by_cases hjl:j<l.length
    · simp[hjl]
    · simp only[hjl,if_false,Bool.false_eq_true,false_iff]
      exact λhm=>hjl (by simpa using b4 j hm)
  refine oU (v:=v) (M:=bY l.length M) (D:=bY l.length done) (by simpa using hi) (hZ hn) (jG hq) (λj oj hj hm hne=>?_) (λj oj hj hm hD hne=>?_) fuel _ a (by simp[bY]) (λj hj=>?_) (λj hj=>hj) (fD hi hf) hr' ?_ ?_
  · have hj':l[j]? =some oj:=by simpa using hj
    have hjl:j<l.length:=(List.getElem?_eq_some_iff.1 hj').1
    have h1:=b1 j hjl
    have hmM:M.contains j=false:=by
      cases hc:M.contains j with
      |false=>rfl
      |true=>have h9:=(hgM j).2 (by simpa using hc);rw[hm] at h9;cases h9
    simp only[hmM,hj',Bool.false_or,Bool.or_eq_true,beq_iff_eq,hne,false_or] at h1
    obtain⟨e,he,hbb⟩:=Array.any_eq_true'.1 h1
    simp only[Bool.and_eq_true,Bool.not_eq_true'] at hbb
    refine⟨e,he,hbb.1,?_⟩
    cases hc:(bY l.length M).getD e.on false with
    |false=>rfl
    |true=>
      have:=(hgM _).1 hc
      have h2:=hbb.2
      simp[this] at h2
  · have h1:=b2 j ((hgM j).1 hm)
    have hj':l[j]? =some oj:=by simpa using hj
    have hjl:j<l.length:=(List.getElem?_eq_some_iff.1 hj').1
    rw[dd,if_pos hjl] at hD
    have hd:done.contains j=false:=by simpa using hD
    simp only[Bool.or_eq_true,beq_iff_eq,hne,hd,false_or,Bool.false_eq_true] at h1
    exact jG h1
  · rw[dd] at hj
    split at hj
    · have h1:=b3 j (by simpa using hj)
      exact(hgM j).2 (by simpa using h1.1)
    · cases hj
  · refine .inl ⟨?_,.inl ?_⟩
    · rw[ha.yielded];exact hw
    · rw[ha.eval];exact h
  · rw[cX done hlt]
    exact hk _ (ha.put hd v)
def mR(l:List Oper)(qs done M:List Nat)(i:Nat):Bool:=
 ((List.range l.length).all λj=>M.contains j||j==i||match l[j]? with
     |some oj=>oj.after.any λe=>Region.binds .any e&& !M.contains e.on
     |none=>true)&&
 (M.all λj=>j==i||done.contains j||qs.contains j||match l[j]? with
     |some oj=>hX oj.op
     |none=>false)&&(done.all λj=>M.contains j&&decide (j<l.length))&&M.all λj=>decide (j<l.length)
theorem vM(i:Nat)(M:List Nat)(hi:l[i]? =some ⟨dst,op,ty,pos,after,g⟩)(hn:fV l=true)(hc:(qs.contains i&&fG l done i&&i7 l done i&&mR l qs done M i&&jY n ⟨dst,op,ty,pos,after,g⟩)=true)
    (hw:cM l ⟨dst,op,ty,pos,after,g⟩ f=true)(h:∀w',dU w.heap.size w w'->(execOp (ev f) ⟨dst,op,ty,pos,after,g⟩).run P w'= .ok (.value v) w')(hk:iW P n l qs K fuel (i::done) (fM f dst v) w):iW P n l qs K (fuel+1) done f w:=by
  simp only[Bool.and_eq_true] at hc
  obtain⟨⟨⟨⟨hq,hr⟩,hf⟩,hb⟩,hd⟩:=hc
  obtain⟨hlt,hr'⟩:=fb hr
  intro a ha
  unfold mR at hb
  simp only[Bool.and_eq_true,List.all_eq_true,List.mem_range] at hb
  obtain⟨⟨⟨b1,b2⟩,b3⟩,b4⟩:=hb
  have hgM:∀j,(bY l.length M).getD j false=true↔j∈M:=λj=>by
    rw[dd]
    by_cases hjl:j<l.length
    · simp[hjl]
    · simp only[hjl,if_false,Bool.false_eq_true,false_iff]
      exact λhm=>hjl (by simpa using b4 j hm)
  refine qW (v:=v) (w0:=w) (M:=bY l.length M) (D:=bY l.length done) (by simpa using hi) (hZ hn) (jG hq) (λc a w h=>by cases h.1) (λj oj hj hm hne=>?_) (λj oj hj hm hD hne=>?_) fuel _ a w (dU.refl _ _) (λj hj=>?_) (λj hj=>hj) (fD hi hf) hr' (λw' hw'=>?_) ?_
  · have hj':l[j]? =some oj:=by simpa using hj
    have hjl:j<l.length:=(List.getElem?_eq_some_iff.1 hj').1
    have h1:=b1 j hjl
    have hmM:M.contains j=false:=by
      cases hc:M.contains j with
      |false=>rfl
      |true=>have h9:=(hgM j).2 (by simpa using hc);rw[hm] at h9;cases h9
    simp only[hmM,hj',Bool.false_or,Bool.or_eq_true,beq_iff_eq,hne,false_or] at h1
    obtain⟨e,he,hbb⟩:=Array.any_eq_true'.1 h1
    simp only[Bool.and_eq_true,Bool.not_eq_true'] at hbb
    refine⟨e,he,hbb.1,?_⟩
    cases hc:(bY l.length M).getD e.on false with
    |false=>rfl
    |true=>
      have:=(hgM _).1 hc
      have h2:=hbb.2
      simp[this] at h2
  · have h1:=b2 j ((hgM j).1 hm)
    have hj':l[j]? =some oj:=by simpa using hj
    have hjl:j<l.length:=(List.getElem?_eq_some_iff.1 hj').1
    rw[dd,if_pos hjl] at hD
    have hd:done.contains j=false:=by simpa using hD
    simp only[hj',Bool.or_eq_true,beq_iff_eq,hne,hd,false_or,Bool.false_eq_true] at h1
    rcases h1 with h1|h1
    · exact .inl (jG h1)
    · exact .inr h1
  · rw[dd] at hj
    split at hj
    · have h1:=b3 j (by simpa using hj)
      exact(hgM j).2 (by simpa using h1.1)
    · cases hj
  · refine .inl ⟨?_,.inl ?_⟩
    · rw[ha.yielded];exact hw
    · rw[ha.eval];exact h w' hw'
  · rw[cX done hlt]
    exact hk _ (ha.put hd v)
theorem bI(i:Nat)(hi:l[i]? =some ⟨dst,op,ty,pos,after,g⟩)(hn:fV l=true)(hc:(qs.contains i&&fG l done i&&i7 l done i&&jY n ⟨dst,op,ty,pos,after,g⟩)=true)
    (hw:cM l ⟨dst,op,ty,pos,after,g⟩ f=true)(h:∀w,(execOp (ev f) ⟨dst,op,ty,pos,after,g⟩).run P w= .ok (.value v) w)(hk:iW P n l qs K fuel (i::done) (fM f dst v) w):iW P n l qs K (fuel+1) done f w:=by
  simp only[Bool.and_eq_true] at hc
  obtain⟨⟨⟨hq,hr⟩,hf⟩,hd⟩:=hc
  obtain⟨hlt,hr'⟩:=fb hr
  intro a ha
  refine mc (v:=v) (by simpa using hi) (hZ hn) (jG hq) (λc a w h=>by cases h.1) fuel _ a w (fD hi hf) hr' (.inl ⟨by rw[ha.yielded];exact hw,λw=>by rw[ha.eval];exact h w⟩) ?_
  rw[cX done hlt]
  exact hk _ (ha.put hd v)
theorem aO(i:Nat)(hi:l[i]? =some ⟨dst,op,ty,pos,after,g⟩)(hn:fV l=true)(hc:(qs.contains i&&fG l done i&&i7 l done i&&jY n ⟨dst,op,ty,pos,after,g⟩)=true)
   (hw:cM l ⟨dst,op,ty,pos,after,g⟩ f=false)(hk:iW P n l qs K fuel (i::done) (fM f dst undef) w):iW P n l qs K (fuel+1) done f w:=by
 simp only[Bool.and_eq_true] at hc
 obtain⟨⟨⟨hq,hr⟩,hf⟩,hd⟩:=hc
 obtain⟨hlt,hr'⟩:=fb hr
 intro a ha
 refine mc (v:=undef) (by simpa using hi) (hZ hn) (jG hq) (λc a w h=>by cases h.1) fuel _ a w (fD hi hf) hr' (.inr ⟨by rw[ha.yielded];exact hw,rfl⟩) ?_
 rw[cX done hlt]
 exact hk _ (ha.put hd undef)
theorem fc{i:Nat}{o:Oper}{a:Act}{K':Act->World->Prop}{Q:Exit->Act->World->Prop}{N:Value->World->Prop}(ha:Ag n a f)(hi:l[i]? =some o)(hw:cM l o f=true)(h:eZ P o f w N)(hN:∀v w',N v w'->K' (a.put o.dst v) w'):wpOp P l.toArray Q i K' a w:=by
 unfold wpOp
 have hi':l.toArray[i]? =some o:=by simpa using hi
 simp only[hi']
 have hw':Region.wanted o (yielded l.toArray a.tmps)=true:=by rw[ha.yielded];exact hw
 simp only[hw',if_true]
 refine .inl ?_
 unfold Oper.wp
 rw[ha.eval]
 unfold eZ at h
 generalize(execOp (ev f) o).run P w=r at*
 cases r with
 |halt x w'=>exact h.elim
 |ok nx w'=>
   cases nx<;>simp only[px] at h<;>simp only[Oper.upon]
   case value v=>exact hN _ _ h
   case skip=>exact hN _ _ h
   case enter g args=>
     refine h.mono λe w'' he=>?_
     cases e with
     |returned v=>exact hN _ _ he
     |panicked c=>exact he.elim
     |outgrown=>exact he.elim
theorem ba(i:Nat)(hi:l[i]? =some ⟨dst,op,ty,pos,after,g⟩)(hc:(decide (Region.ready .any l.toArray (bY l.length done)=[i])&& !qs.contains i&&jY n ⟨dst,op,ty,pos,after,g⟩)=true)
    (hw:cM l ⟨dst,op,ty,pos,after,g⟩ f=true)(h:eZ P ⟨dst,op,ty,pos,after,g⟩ f w (λv w'=>iW P n l qs K fuel (i::done) (fM f dst v) w')):iW P n l qs K (fuel+1) done f w:=by
  simp only[Bool.and_eq_true,decide_eq_true_eq,Bool.not_eq_true'] at hc
  obtain⟨⟨hr,hq⟩,hd⟩:=hc
  have hlt:i<l.length:=(List.getElem?_eq_some_iff.1 hi).1
  intro a ha
  refine⟨λh0=>(by rw[hr] at h0;cases h0),λj hj=>?_⟩
  rw[hr] at hj
  obtain rfl:j=i:=by simpa using hj
  have hq':decide (j∈qs)=false:=by simpa using hq
  simp only[hq',Bool.false_eq_true,if_false]
  refine fc ha hi hw h λv w' hk=>?_
  rw[cX done hlt]
  exact hk _ (ha.put hd v)
theorem f4(i j:Nat){dst':Option Tmp}{op':Op}{ty':TypeId}{pos':String}{after':Array Edge}{g':Option (Nat×Bool)}(hi:l[i]? =some ⟨dst,op,ty,pos,after,g⟩)(hj:l[j]? =some ⟨dst',op',ty',pos',after',g'⟩)
    (hc:(decide (Region.ready .any l.toArray (bY l.length done)=[i,j])&& !qs.contains i&& !qs.contains j&&jY n ⟨dst,op,ty,pos,after,g⟩&&jY n ⟨dst',op',ty',pos',after',g'⟩)=true)
    (hw:cM l ⟨dst,op,ty,pos,after,g⟩ f=true)(hw':cM l ⟨dst',op',ty',pos',after',g'⟩ f=true)
    (h:eZ P ⟨dst,op,ty,pos,after,g⟩ f w (λv w'=>iW P n l qs K fuel (i::done) (fM f dst v) w'))(h':eZ P ⟨dst',op',ty',pos',after',g'⟩ f w (λv w'=>iW P n l qs K fuel (j::done) (fM f dst' v) w')):iW P n l qs K (fuel+1) done f w:=by
  simp only[Bool.and_eq_true,decide_eq_true_eq,Bool.not_eq_true'] at hc
  obtain⟨⟨⟨⟨hr,hq⟩,hq2⟩,hd⟩,hd'⟩:=hc
  have hlt:i<l.length:=(List.getElem?_eq_some_iff.1 hi).1
  have hlt':j<l.length:=(List.getElem?_eq_some_iff.1 hj).1
  intro a ha
  refine⟨λh0=>(by rw[hr] at h0;cases h0),λk hk=>?_⟩
  rw[hr] at hk
  have hk':k=i\/k=j:=by simpa using hk
  rcases hk' with rfl|rfl
  · have hq':decide (k∈qs)=false:=by simpa using hq
    simp only[hq',Bool.false_eq_true,if_false]
    refine fc ha hi hw h λv w' hk=>?_
    rw[cX done hlt]
    exact hk _ (ha.put hd v)
  · have hq':decide (k∈qs)=false:=by simpa using hq2
    simp only[hq',Bool.false_eq_true,if_false]
    refine fc ha hj hw' h' λv w' hk=>?_
    rw[cX done hlt']
    exact hk _ (ha.put hd' v)
theorem bX(hr:decide (Region.ready .any l.toArray (bY l.length done)=[])=true)(h:K f w):iW P n l qs K 0 done f w:=λ_ ha=>⟨of_decide_eq_true hr,rfl,f,ha,h⟩
end
end TL
/-
  TlHold: regions that draw their order, where what is read stays: on the kit's OrdersHeld.
  By an AI agent.
-/
set_option linter.all false
namespace TL
open Go
section
variable{P:Program}{n:Nat}{l:List Oper}{S:World->Prop}{K:Fr->World->Prop}{f:Fr}{w:World}{done:List Nat}{fuel:Nat}
def rq(P:Program)(n:Nat)(l:List Oper)(S:World->Prop)(K:Fr->World->Prop)(fuel:Nat)(done:List Nat)(f:Fr)(w:World):Prop:=
  ∀a,Ag n a f->wpAnyH P .any l.toArray (λe a' w'=>e= .normal/\∃f',Ag n a' f'/\K f' w') S fuel (bY l.length done) a w
theorem bv.same{J:cj->Prop}{γ γ':aG}{w w':World}(h:bv J γ w γ' w'):bv J γ w γ w':=⟨h.os,h.tape,h.output,h.size,λ_ _ _=>rfl,h.keep,h.drawn⟩
theorem gJ{fid:Nat}{R:Ending->World->Prop}{k:List Item}{id:Nat}(γ:aG)(J:cj->Prop)(hm:P.follows .mixedOrders=true)
   (h:∀w1,bv no γ w γ w1->rq P n l (λw'=>bv J γ w1 γ w') (fl P fid n R k) l.length [] f w1):fl P fid n R (.code (.region id l.toArray true)::k) f w:=
 ij λa ha=>wp_region_held hm (by
   have h0:=h _ (bv.refl _ _ _).drew a ha
   have hmask:bY l.length []=Array.replicate l.toArray.size false:=by
     apply Array.ext
     · simp[bY]
     · intro j h1 h2;simp[bY]
   rw[hmask] at h0
   simpa using h0)
theorem ia{fid:Nat}{R:Ending->World->Prop}{k:List Item}{id:Nat}{σ:Type}(Mid:σ->Fr->World->Prop)(γ:aG)(J:cj->Prop)(hm:P.follows .mixedOrders=true)
    (h:(∀s f w,Mid s f w->fl P fid n R k f w)->∀w1,bv no γ w γ w1->rq P n l (λw'=>bv J γ w1 γ w') (fl P fid n R k) l.length [] f w1)(hk:∀s f w,Mid s f w->fl P fid n R k f w):fl P fid n R (.code (.region id l.toArray true)::k) f w:=
  gJ γ J hm (h hk)
variable{dst:Option Tmp}{op:Op}{ty:TypeId}{pos:String}{after:Array Edge}{g:Option (Nat×Bool)}{v:Value}
theorem vY(i:Nat)(hi:l[i]? =some ⟨dst,op,ty,pos,after,g⟩)(hn:fV l=true)(hc:(fG l done i&&i7 l done i&&jY n ⟨dst,op,ty,pos,after,g⟩)=true)
   (hw:cM l ⟨dst,op,ty,pos,after,g⟩ f=true)(hS:S w)(h:∀w,S w->(execOp (ev f) ⟨dst,op,ty,pos,after,g⟩).run P w= .ok (.value v) w)(hk:rq P n l S K fuel (i::done) (fM f dst v) w):rq P n l S K (fuel+1) done f w:=by
 simp only[Bool.and_eq_true] at hc
 obtain⟨⟨hr,hf⟩,hd⟩:=hc
 obtain⟨hlt,hr'⟩:=fb hr
 intro a ha
 refine wpAnyH_first (v:=v) (by simpa using hi) (hZ hn) (λc a w h=>by cases h.1) fuel _ a w (fD hi hf) hr' (.inl ⟨by rw[ha.yielded];exact hw,λw hs=>by rw[ha.eval];exact h w hs⟩) hS ?_
 rw[cX done hlt]
 exact hk _ (ha.put hd v)
def vV(P:Program)(n:Nat)(l:List Oper)(S:World->Prop)(K:Fr->World->Prop)(fuel:Nat)(done:List Nat)(f:Fr)(w:World)(i:Nat):Prop:=
  ∃o,l[i]? =some o/\i<l.length/\(cM l o f=true/\jY n o=true/\eZ P o f w (λv w'=>S w'/\rq P n l S K fuel (i::done) (fM f o.dst v) w'))
theorem iU(i:Nat)(hi:l[i]? =some ⟨dst,op,ty,pos,after,g⟩)(hc:jY n ⟨dst,op,ty,pos,after,g⟩=true)(hw:cM l ⟨dst,op,ty,pos,after,g⟩ f=true)
   (h:eZ P ⟨dst,op,ty,pos,after,g⟩ f w (λv w'=>S w'/\rq P n l S K fuel (i::done) (fM f dst v) w')):vV P n l S K fuel done f w i:=
 ⟨_,hi,(List.getElem?_eq_some_iff.1 hi).1,hw,hc,h⟩
def ut(P:Program)(n:Nat)(l:List Oper)(S:World->Prop)(K:Fr->World->Prop)(fuel:Nat)(done:List Nat)(f:Fr)(w:World):List Nat->Prop
 |[]=>True
 |i::r=>vV P n l S K fuel done f w i/\ut P n l S K fuel done f w r
theorem ut.mem{L:List Nat}(h:ut P n l S K fuel done f w L):∀i∈L,vV P n l S K fuel done f w i:=by
 induction L with
 |nil=>intro i hi;cases hi
 |cons j r ih=>
   intro i hi
   rcases List.mem_cons.1 hi with rfl|hi
   · exact h.1
   · exact ih h.2 i hi
theorem i8(i:Nat)(L:List Nat)(hr:decide (Region.ready .any l.toArray (bY l.length done)=i::L)=true)(h:ut P n l S K fuel done f w (i::L)):rq P n l S K (fuel+1) done f w:=by
 have hr:=of_decide_eq_true hr
 intro a ha
 refine⟨λh0=>(by rw[hr] at h0;cases h0),λk hk=>?_⟩
 rw[hr] at hk
 obtain⟨o,hi,hlt,hw,hd,ho⟩:=h.mem k (by simpa using hk)
 obtain⟨dst,op,ty,pos,after,g⟩:=o
 refine fc ha hi hw ho λv w' hk=>⟨hk.1,?_⟩
 rw[cX done hlt]
 exact hk.2 _ (ha.put hd v)
theorem cd(i:Nat)(hi:l[i]? =some ⟨dst,op,ty,pos,after,g⟩)(hc:(decide (Region.ready .any l.toArray (bY l.length done)=[i])&&jY n ⟨dst,op,ty,pos,after,g⟩)=true)
   (hw:cM l ⟨dst,op,ty,pos,after,g⟩ f=true)(h:eZ P ⟨dst,op,ty,pos,after,g⟩ f w (λv w'=>S w'/\rq P n l S K fuel (i::done) (fM f dst v) w')):rq P n l S K (fuel+1) done f w:=by
 simp only[Bool.and_eq_true] at hc
 exact i8 i [] hc.1 ⟨iU i hi hc.2 hw h,trivial⟩
theorem gN(hr:decide (Region.ready .any l.toArray (bY l.length done)=[])=true)(h:K f w):rq P n l S K 0 done f w:=λ_ ha=>⟨of_decide_eq_true hr,rfl,f,ha,h⟩
end
end TL
namespace TL
open Go
end TL
/-
  TlNet: nets, and what layer 3 says of them, as plain functions.
  By an AI agent.
-/
set_option linter.all false
namespace TL
abbrev bh:=Int×List (Int×Int)
def nJ(n:Int)(e:Int×Int):Prop:=(0<=e.1/\e.1<n)/\0<=e.2/\e.2<n
instance (n:Int)(e:Int×Int):Decidable (nJ n e):=by unfold nJ;infer_instance
def aV(g:bh):Prop:=0<=g.1/\g.1<=1024/\g.2.length<=3072/\∀e∈g.2,nJ g.1 e
instance (g:bh):Decidable (aV g):=by unfold aV;infer_instance
def cE(g:bh):Bool:=decide (aV g)
theorem lS{g:bh}(h:aV g):cE g=true:=decide_eq_true h
theorem cB{g:bh}(h:¬aV g):cE g=false:=decide_eq_false h
end TL
namespace TL
def f3(n:Int):List Int->List Int->Int
  |[],_=>0
  |i::r,seen=>if i<0\/n<=i then 2 else if i∈seen then 18 else f3 n r (seen++[i])
def cm(l:List Int)(n:Int):Int:=f3 n l []
structure dP(seen:List Bool)(l:List Int)(n:Int)(k:Nat):Prop where
 len:(seen.length:Int)=n
 seen:∀i,0<=i->i<n->gI seen i=decide (i∈l.take k)
 rest:f3 n (l.drop k) (l.take k)=cm l n
 all:∀i∈l.take k,0<=i/\i<n
theorem mI{α:Type}[Inhabited α]{xs:List α}{k:Nat}(h:(k:Int)<xs.length):xs.drop k=gI xs k::xs.drop (k+1):=by
 have h':k<xs.length:=by omega
 rw[List.drop_eq_getElem_cons h']
 simp[gI,h']
theorem c5{α:Type}[Inhabited α]{xs:List α}{i j:Int}{y:α}(hi:0<=i)(hi':i<xs.length)(hj:0<=j):gI (xs.set i.toNat y) j=if j=i then y else gI xs j:=by
 unfold gI
 by_cases h:j=i
 · subst h
   have:j.toNat<xs.length:=by omega
   simp[this]
 · have:i.toNat≠j.toNat:=by omega
   simp[h,List.getElem?_set_ne this]
theorem fZ{α:Type}[Inhabited α]{n:Nat}{x:α}{i:Int}(h0:0<=i)(h1:i<n):gI (List.replicate n x) i=x:=by
 have:i.toNat<n:=by omega
 simp[gI,this]
theorem dP.start(l:List Int)(n:Int)(hn:0<=n):dP (List.replicate n.toNat false) l n 0:=
 ⟨by simp;omega,λi h0 h1=>by rw[fZ h0 (by omega)];simp,by simp[cm],by simp⟩
theorem dP.next{seen:List Bool}{l:List Int}{n:Int}{k:Nat}(h:dP seen l n k)(hk:(k:Int)<l.length)(h0:0<=gI l k)(h1:gI l k<n)(hs:gI seen (gI l k)=false):dP (seen.set (gI l k).toNat true) l n (k+1):=by
 have ht:=c8 hk
 have hd:=mI hk
 have hl:=h.len
 have hni:gI l k∉l.take k:=by
   have:=h.seen _ h0 h1
   rw[hs] at this
   simpa using this.symm
 refine⟨by simpa using h.len,λi h2 h3=>?_,?_,λi hi=>?_⟩
 · rw[c5 h0 (by omega) h2,ht]
   by_cases he:i=gI l k
   · subst he;simp
   · rw[if_neg he,h.seen i h2 h3]
     simp[he]
 · rw[<-h.rest,hd,ht]
   simp only[f3]
   rw[if_neg (by omega),if_neg hni]
 · rw[ht] at hi
   rcases List.mem_append.1 hi with h'|h'
   · exact h.all i h'
   · obtain rfl:=List.mem_singleton.1 h'
     exact⟨h0,h1⟩
theorem dP.bad{seen:List Bool}{l:List Int}{n:Int}{k:Nat}(h:dP seen l n k)(hk:(k:Int)<l.length)(h0:gI l k<0\/n<=gI l k):(2:Int)=cm l n:=by
 rw[<-h.rest,mI hk];simp only[f3];rw[if_pos h0]
theorem dP.twice{seen:List Bool}{l:List Int}{n:Int}{k:Nat}(h:dP seen l n k)(hk:(k:Int)<l.length)(h0:0<=gI l k)(h1:gI l k<n)(hs:gI seen (gI l k)=true):(18:Int)=cm l n:=by
 have hni:gI l k∈l.take k:=by
   have:=h.seen _ h0 h1
   rw[hs] at this
   simpa using this.symm
 rw[<-h.rest,mI hk];simp only[f3];rw[if_neg (by omega),if_pos hni]
theorem dP.done{seen:List Bool}{l:List Int}{n:Int}{k:Nat}(h:dP seen l n k)(hk:¬(k:Int)<l.length):(0:Int)=cm l n:=by
 rw[<-h.rest,List.drop_of_length_le (by omega)];rfl
theorem iJ{n:Int}:∀(l seen:List Int),f3 n l seen=0->(∀i∈l,0<=i/\i<n)/\l.Nodup/\∀i∈l,i∉seen
 |[],seen,_=>by simp
 |i::r,seen,h=>by
   simp only[f3] at h
   split at h
   · cases h
   · split at h
     · cases h
     · rename_i h1 h2
       obtain⟨a,b,c⟩:=iJ r (seen++[i]) h
       refine⟨λj hj=>?_,List.nodup_cons.2 ⟨λhi=>c i hi (by simp),b⟩,λj hj=>?_⟩
       · rcases List.mem_cons.1 hj with rfl|hj
         · omega
         · exact a j hj
       · rcases List.mem_cons.1 hj with rfl|hj
         · exact h2
         · exact λhs=>c j hj (by simp[hs])
theorem pa{n:Int}{l:List Int}(h:cm l n=0):(∀i∈l,0<=i/\i<n)/\l.Nodup:=⟨(iJ l [] h).1,(iJ l [] h).2.1⟩
def dc(nodes:List Int)(v:Int):Int:=if v∈nodes then(nodes.idxOf v:Int)+1 else 0
def lj(g:bh)(nodes:List Int):List Int:=((List.range g.2.length).map (λ(i:Nat)=>(i:Int))).filter λi=>decide ((gI g.2 i).1∈nodes)&&decide ((gI g.2 i).2∈nodes)
def cK(g:bh)(nodes:List Int):bh×List Int×Int:=
 if aV g then
   if cm nodes g.1=0 then(((nodes.length:Int),(lj g nodes).map λi=>(dc nodes (gI g.2 i).1-1,dc nodes (gI g.2 i).2-1)),lj g nodes,0) else((0,[]),[],cm nodes g.1)
 else((0,[]),[],1)
end TL
namespace TL
structure hG(T:List Int)(nodes:List Int)(n:Int)(k:Nat):Prop where
 len:(T.length:Int)=n
 pos:∀v,0<=v->v<n->gI T v=dc (nodes.take k) v
theorem hG.start(nodes:List Int)(n:Int)(hn:0<=n):hG (List.replicate n.toNat 0) nodes n 0:=
 ⟨by simp;omega,λv h0 h1=>by rw[fZ h0 (by omega)];simp[dc]⟩
theorem qO{l:List Int}{x v:Int}(hx:x∉l):dc (l++[x]) v=if v=x then(l.length:Int)+1 else dc l v:=by
 unfold dc
 by_cases h:v=x
 · subst h
   simp[List.idxOf_append,hx]
 · by_cases hv:v∈l
   · simp[h,hv,List.idxOf_append]
   · simp[h,hv]
theorem hG.next{T nodes:List Int}{n:Int}{k:Nat}(h:hG T nodes n k)(hk:(k:Int)<nodes.length)(h0:0<=gI nodes k)(h1:gI nodes k<n)(hd:nodes.Nodup):hG (T.set (gI nodes k).toNat ((k:Int)+1)) nodes n (k+1):=by
 have ht:=c8 hk
 have hl:=h.len
 have hn:gI nodes k∉nodes.take k:=by
   have h2:(nodes.take (k+1)).Nodup:=hd.sublist (List.take_sublist _ _)
   rw[ht] at h2
   have:=List.nodup_append.1 h2
   intro hm
   exact this.2.2 _ hm _ (by simp) rfl
 have hlk:(nodes.take k).length=k:=by simp;omega
 refine⟨by simpa using h.len,λv h2 h3=>?_⟩
 rw[c5 h0 (by omega) h2,ht,qO hn,h.pos v h2 h3,hlk]
def d3(g:bh)(nodes:List Int)(k:Nat):List Int:=((List.range k).map (λ(i:Nat)=>(i:Int))).filter λi=>decide ((gI g.2 i).1∈nodes)&&decide ((gI g.2 i).2∈nodes)
theorem gQ(g:bh)(nodes:List Int)(k:Nat):d3 g nodes (k+1)=if(gI g.2 k).1∈nodes/\(gI g.2 k).2∈nodes then d3 g nodes k++[(k:Int)] else d3 g nodes k:=by
 unfold d3
 rw[List.range_succ,List.map_append,List.filter_append]
 by_cases h:(gI g.2 k).1∈nodes/\(gI g.2 k).2∈nodes
 · rw[if_pos h];simp[h.1,h.2]
 · rw[if_neg h]
   have:¬((gI g.2 (k:Int)).1∈nodes/\(gI g.2 (k:Int)).2∈nodes):=h
   by_cases h1:(gI g.2 (k:Int)).1∈nodes
   · have h2:(gI g.2 (k:Int)).2∉nodes:=λh2=>h ⟨h1,h2⟩
     simp[h1,h2]
   · simp[h1]
theorem oX(g:bh)(nodes:List Int)(k:Nat):(d3 g nodes k).length<=k:=by
 unfold d3
 have:=List.length_filter_le (λi=>decide ((gI g.2 i).1∈nodes)&&decide ((gI g.2 i).2∈nodes)) ((List.range k).map (λ(i:Nat)=>(i:Int)))
 simpa using this
theorem fJ{l:List Int}{v:Int}:0<dc l v↔v∈l:=by
 unfold dc
 by_cases h:v∈l
 · simp[h]
 · simp[h]
theorem jh(l:List Int)(v:Int):dc l v<=l.length:=by
 unfold dc
 split
 · rename_i h
   have:=List.idxOf_lt_length_iff.2 h
   omega
 · omega
end TL
namespace TL
theorem oK{g:bh}{nodes:List Int}{k:Nat}(h1:0<dc nodes (gI g.2 k).1)(h2:0<dc nodes (gI g.2 k).2):d3 g nodes (k+1)=d3 g nodes k++[(k:Int)]:=by
 rw[gQ,if_pos ⟨fJ.1 h1,fJ.1 h2⟩]
theorem pk{g:bh}{nodes:List Int}{k:Nat}(h1:¬0<dc nodes (gI g.2 k).1):d3 g nodes (k+1)=d3 g nodes k:=by
 rw[gQ,if_neg λh=>h1 (fJ.2 h.1)]
theorem oM{g:bh}{nodes:List Int}{k:Nat}(h1:¬0<dc nodes (gI g.2 k).2):d3 g nodes (k+1)=d3 g nodes k:=by
 rw[gQ,if_neg λh=>h1 (fJ.2 h.2)]
end TL
namespace TL
def aK(g:bh)(h:Int):Int:=pI (gI g.2 (h/2)) (h%2)
def gK(g:bh)(v:Int)(k:Nat):List Int:=((List.range (2*k)).map (λ(i:Nat)=>(i:Int))).filter λh=>decide (aK g h=v)
def dQ(g:bh)(v:Int):List Int:=gK g v g.2.length
theorem kF(g:bh)(k:Nat):aK g (2*(k:Int))=(gI g.2 k).1:=by
 unfold aK
 have h1:2*(k:Int)/2=k:=by omega
 have h2:2*(k:Int)%2=0:=by omega
 rw[h1,h2];rfl
theorem m7(g:bh)(k:Nat):aK g (2*(k:Int)+1)=(gI g.2 k).2:=by
 unfold aK
 have h1:(2*(k:Int)+1)/2=k:=by omega
 have h2:(2*(k:Int)+1)%2=1:=by omega
 rw[h1,h2];rfl
theorem oV(g:bh)(v:Int)(k:Nat):gK g v (k+1)=gK g v k++((if(gI g.2 k).1=v then[2*(k:Int)] else[])++(if(gI g.2 k).2=v then[2*(k:Int)+1] else[])):=by
 unfold gK
 rw[show 2*(k+1)=2*k+1+1 by omega,List.range_succ,List.range_succ]
 simp only[List.map_append,List.filter_append,List.map_cons,List.map_nil,List.append_assoc]
 congr 1
 have e1:((2*k:Nat):Int)=2*(k:Int):=by omega
 have e2:((2*k+1:Nat):Int)=2*(k:Int)+1:=by omega
 rw[e1,e2]
 congr 1
 · by_cases h:(gI g.2 (k:Int)).1=v
   · simp[kF,h]
   · simp[kF,h]
 · by_cases h:(gI g.2 (k:Int)).2=v
   · simp[m7,h]
   · simp[m7,h]
theorem qL(g:bh)(v:Int)(k:Nat):(gK g v k).length<=2*k:=by
 unfold gK
 have:=List.length_filter_le (λh=>decide (aK g h=v)) ((List.range (2*k)).map (λ(i:Nat)=>(i:Int)))
 simpa using this
end TL
namespace TL
theorem o4{α:Type}[Inhabited α]{l l':List α}(hl:l.length=l'.length)(h:∀i:Nat,i<l.length->gI l i=gI l' i):l=l':=by
 apply List.ext_getElem hl
 intro i h1 h2
 have:=h i h1
 simpa[gI,h1,h2] using this
end TL
namespace TL
def fO(e:Int×Int):Int×Int:=(min e.1 e.2,max e.1 e.2)
end TL
namespace TL
theorem iD{g:bh}{k:Nat}(hk:(k:Int)<g.2.length):(g.2.map fO).take (k+1)=(g.2.map fO).take k++[fO (gI g.2 k)]:=by
 rw[c8 (by simpa using hk)]
 have h':k<g.2.length:=by omega
 simp[gI,h']
end TL
namespace TL
section
variable{l0 l1:Int}{F:Int×Int->Int}{g:bh}{k:Nat}
end
end TL
/-
  TlNetLaws: what follows of nets: parts of parts, subs of subs.
  By an AI agent.
-/
set_option linter.all false
namespace TL
theorem jg{n:Int}:∀(l seen:List Int),(∀i∈l,0<=i/\i<n)->l.Nodup->(∀i∈l,i∉seen)->f3 n l seen=0
 |[],_,_,_,_=>rfl
 |i::r,seen,h1,h2,h3=>by
   have h4:=h1 i (by simp)
   obtain⟨h5,h6⟩:=List.nodup_cons.1 h2
   simp only[f3]
   rw[if_neg (by omega),if_neg (h3 i (by simp))]
   refine jg r _ (λj hj=>h1 j (by simp[hj])) h6 (λj hj hs=>?_)
   rcases List.mem_append.1 hs with h|h
   · exact h3 j (by simp[hj]) h
   · obtain rfl:=List.mem_singleton.1 h
     exact h5 hj
theorem mC{n:Int}{l:List Int}(h1:∀i∈l,0<=i/\i<n)(h2:l.Nodup):cm l n=0:=jg l [] h1 h2 (by simp)
theorem oB{α β:Type}[Inhabited α][Inhabited β](f:α->β){l:List α}{i:Int}(h0:0<=i)(h1:i<l.length):gI (l.map f) i=f (gI l i):=by
 have:i.toNat<l.length:=by omega
 simp[gI,this]
theorem vU{l:List Int}(h:l.Nodup){i j:Int}(hi0:0<=i)(hi:i<l.length)(hj0:0<=j)(hj:j<l.length)(he:gI l i=gI l j):i=j:=by
 have h1:i.toNat<l.length:=by omega
 have h2:j.toNat<l.length:=by omega
 simp[gI,h1,h2] at he
 have:=(List.getElem_inj h).1 he
 omega
theorem ux{l:List Int}{v:Int}(h:v∈l):gI l (dc l v-1)=v:=by
 have h1:=List.idxOf_lt_length_iff.2 h
 unfold dc gI
 rw[if_pos h]
 have:((l.idxOf v:Int)+1-1).toNat=l.idxOf v:=by omega
 rw[this]
 simp[h1]
theorem qp{l:List Int}(hn:l.Nodup){i:Int}(h0:0<=i)(h1:i<l.length):dc l (gI l i)=i+1:=by
 have hm:=bF (xs:=l) h0 h1
 have h2:=ux hm
 have h3:=fJ.2 hm
 have h4:=jh l (gI l i)
 have:=vU hn (i:=dc l (gI l i)-1) (j:=i) (by omega) (by omega) h0 h1 h2
 omega
end TL
/-
  TlNetSums: degrees' sum; all edges, all nodes; moved there and back.
  By an AI agent.
-/
set_option linter.all false
namespace TL
def bG(n:Nat):List Int:=(List.range n).map λ(i:Nat)=>(i:Int)
theorem gu(n:Nat):(bG n).length=n:=by simp[bG]
theorem cY(n:Nat):bG (n+1)=bG n++[(n:Int)]:=by simp[bG,List.range_succ]
theorem ck{n:Nat}{x:Int}:x∈bG n↔0<=x/\x<n:=by
 unfold bG
 rw[List.mem_map]
 constructor
 · rintro⟨i,hi,rfl⟩
   have:=List.mem_range.1 hi
   omega
 · rintro⟨h1,h2⟩
   exact⟨x.toNat,List.mem_range.2 (by omega),by omega⟩
theorem gG(n:Nat):(bG n).Nodup:=by
 induction n with
 |zero=>simp[bG]
 |succ n ih=>
   rw[cY,List.nodup_append]
   refine⟨ih,by simp,λa ha b hb=>?_⟩
   have:=ck.1 ha
   have:=List.mem_singleton.1 hb
   omega
theorem ox:∀(n:Nat) (l:List Int),l.Nodup->(∀x∈l,0<=x/\x<(n:Int))->l.length<=n
 |0,l,_,h=>by
   cases l with
   |nil=>simp
   |cons a l=>have:=h a (by simp);omega
 |n+1,l,hn,h=>by
   have h1:(l.erase (n:Int)).Nodup:=hn.erase _
   have h2:=ox n (l.erase (n:Int)) h1 (λx hx=>by
     have h3:=hn.mem_erase_iff.1 hx
     have:=h x h3.2
     omega)
   by_cases hm:(n:Int)∈l
   · have:=List.length_erase_of_mem hm
     omega
   · rw[List.erase_of_not_mem hm] at h2
     omega
end TL
/-
  TlNet3: nets split, merged, bared: what they come to.
  By an AI agent.
-/
set_option linter.all false
namespace TL
def gh(g:bh)(i:Int):Bool:=decide (¬(gI g.2 i).1=(gI g.2 i).2)&&decide (¬fO (gI g.2 i)∈(g.2.map fO).take i.toNat)
def eV(g:bh)(k:Nat):List Int:=(bG k).filter (gh g)
def bu(g:bh):bh×List Int×Int:=if aV g then((g.1,(eV g g.2.length).map (gI g.2)),eV g g.2.length,0) else((0,[]),[],1)
theorem fK(g:bh)(k:Nat):eV g (k+1)=if gh g k=true then eV g k++[(k:Int)] else eV g k:=by
 unfold eV
 rw[cY,List.filter_append]
 by_cases h:gh g (k:Int)=true
 · rw[if_pos h];simp[h]
 · rw[if_neg h];simp[h]
theorem jv(g:bh)(k:Nat):(eV g k).length<=k:=by
 unfold eV
 have:=List.length_filter_le (gh g) (bG k)
 rw[gu] at this
 exact this
end TL
namespace TL
structure cV(left:List Int)(out:List (Int×Int))(F:Int×Int->Int)(g:bh)(k:Nat):Prop where
 left:left=eV g k
 out:out=(eV g k).map (gI g.2)
 seen:∀q,F q=(((g.2.map fO).take k).count q:Nat)
theorem cV.start(g:bh):cV [] [] (λ_=>0) g 0:=⟨rfl,rfl,λq=>by simp⟩
section
variable{left:List Int}{out:List (Int×Int)}{F:Int×Int->Int}{g:bh}{k:Nat}
theorem cV.bd(h:cV left out F g k):left.length<=k/\out.length<=k/\∀q,0<=F q/\F q<=k:=by
 refine⟨by rw[h.left];exact jv g k,by rw[h.out,List.length_map];exact jv g k,λq=>?_⟩
 rw[h.seen]
 have h1:=List.count_le_length (a:=q) (l:=(g.2.map fO).take k)
 have h2:((g.2.map fO).take k).length<=k:=List.length_take_le _ _
 omega
theorem cV.seen_next(h:cV left out F g k)(hk:(k:Int)<g.2.length)(q:Int×Int):(if q=fO (gI g.2 k) then F (fO (gI g.2 k))+1 else F q)=(((g.2.map fO).take (k+1)).count q:Nat):=by
 rw[iD hk,List.count_append,h.seen,h.seen]
 by_cases h2:q=fO (gI g.2 (k:Int))
 · subst h2;simp
 · have h3:¬fO (gI g.2 (k:Int))=q:=λh=>h2 h.symm
   simp[h2,h3]
theorem cV.none_iff(h:cV left out F g k):F (fO (gI g.2 k))=0↔¬fO (gI g.2 k)∈(g.2.map fO).take k:=by
 rw[h.seen,<-List.count_eq_zero];omega
theorem cV.take(h:cV left out F g k)(hk:(k:Int)<g.2.length)(c1:¬(gI g.2 k).1=(gI g.2 k).2)(c2:F (min (gI g.2 k).1 (gI g.2 k).2,max (gI g.2 k).1 (gI g.2 k).2)=0):
   cV (left++[(k:Int)]) (out++[gI g.2 k]) (λq=>if q=(min (gI g.2 k).1 (gI g.2 k).2,max (gI g.2 k).1 (gI g.2 k).2) then F (min (gI g.2 k).1 (gI g.2 k).2,max (gI g.2 k).1 (gI g.2 k).2)+1 else F q) g (k+1):=by
 have hp:gh g (k:Int)=true:=by
   unfold gh
   have:=h.none_iff.1 c2
   simp only[Int.toNat_natCast,Bool.and_eq_true,decide_eq_true_eq]
   exact⟨c1,this⟩
 refine⟨by rw[fK,if_pos hp,h.left],by rw[fK,if_pos hp,h.out];simp,λq=>h.seen_next hk q⟩
theorem cV.skip(h:cV left out F g k)(hk:(k:Int)<g.2.length)(c:(gI g.2 k).1=(gI g.2 k).2\/¬F (min (gI g.2 k).1 (gI g.2 k).2,max (gI g.2 k).1 (gI g.2 k).2)=0):
   cV left out (λq=>if q=(min (gI g.2 k).1 (gI g.2 k).2,max (gI g.2 k).1 (gI g.2 k).2) then F (min (gI g.2 k).1 (gI g.2 k).2,max (gI g.2 k).1 (gI g.2 k).2)+1 else F q) g (k+1):=by
 have hp:¬gh g (k:Int)=true:=by
   unfold gh
   simp only[Int.toNat_natCast,Bool.and_eq_true,decide_eq_true_eq]
   rintro⟨c1,c3⟩
   rcases c with c|c
   · exact c1 c
   · exact c (h.none_iff.2 c3)
 exact⟨by rw[fK,if_neg hp,h.left],by rw[fK,if_neg hp,h.out],λq=>h.seen_next hk q⟩
end
end TL
/-
  TlNetChg: degrees behind a split and a merge; a bare net is simple, and bare again the same.
  By an AI agent.
-/
set_option linter.all false
namespace TL
end TL
namespace TL
theorem li(g:bh):∀k:Nat,(k:Int)<=g.2.length->(((eV g k).map (gI g.2)).map fO).Nodup/\(∀q∈((eV g k).map (gI g.2)).map fO,q∈(g.2.map fO).take k)/\(∀d∈(eV g k).map (gI g.2),d∈g.2/\¬d.1=d.2):=by
  intro k
  induction k with
  |zero=>intro _;simp[eV,bG]
  |succ k ih=>
    intro hk
    obtain⟨a,b,c⟩:=ih (by omega)
    rw[fK,iD (by omega)]
    by_cases hp:gh g (k:Int)=true
    · rw[if_pos hp]
      have hp':=hp
      unfold gh at hp'
      simp only[Int.toNat_natCast,Bool.and_eq_true,decide_eq_true_eq] at hp'
      simp only[List.map_append,List.map_cons,List.map_nil]
      refine⟨?_,λq hq=>?_,λd hd=>?_⟩
      · rw[List.nodup_append]
        refine⟨a,by simp,λx hx y hy=>?_⟩
        obtain rfl:=List.mem_singleton.1 hy
        intro e
        exact hp'.2 (e▸b x hx)
      · rcases List.mem_append.1 hq with h|h
        · exact List.mem_append.2 (.inl (b q h))
        · exact List.mem_append.2 (.inr h)
      · rcases List.mem_append.1 hd with h|h
        · exact c d h
        · obtain rfl:=List.mem_singleton.1 h
          exact⟨bF (by omega) (by omega),hp'.1⟩
    · rw[if_neg hp]
      exact⟨a,λq hq=>List.mem_append.2 (.inl (b q hq)),c⟩
theorem fa{g:bh}(hm:aV g):bu g=((g.1,(eV g g.2.length).map (gI g.2)),eV g g.2.length,0):=by unfold bu;rw[if_pos hm]
theorem ja{g:bh}(hm:aV g):aV (bu g).1:=by
 obtain⟨m1,m2,m3,m4⟩:=hm
 rw[fa ⟨m1,m2,m3,m4⟩]
 refine⟨m1,m2,?_,λd hd=>m4 d ((li g _ (Int.le_refl _)).2.2 d hd).1⟩
 have:=jv g g.2.length
 simp only[List.length_map];omega
theorem tg{g:bh}(hm:aV g):∀i:Nat,i<(bu g).1.2.length->¬(gI (bu g).1.2 (i:Int)).1=(gI (bu g).1.2 (i:Int)).2/\¬fO (gI (bu g).1.2 (i:Int))∈((bu g).1.2.map fO).take i:=by
 obtain⟨a,b,c⟩:=li g g.2.length (Int.le_refl _)
 rw[fa hm]
 intro i hi
 simp only at hi ⊢
 refine⟨(c _ (bF (by omega) (by omega))).2,λhmem=>?_⟩
 generalize(eV g g.2.length).map (gI g.2)=L at a hi hmem
 have hs:(L.map fO).take (i+1)=(L.map fO).take i++[fO (gI L (i:Int))]:=by
   rw[c8 (xs:=L.map fO) (by simp;omega),oB fO (by omega) (by omega)]
 have hn:=a.sublist (List.take_sublist (i+1) (L.map fO))
 rw[hs,List.nodup_append] at hn
 exact hn.2.2 _ hmem _ (by simp) rfl
end TL
namespace TL
end TL
/-
  TlRef3: what the document's own answer of layer 3 goes through.
  By an AI agent.
-/
set_option linter.all false
namespace TL
theorem qy{g:bh}{i:Nat}(hi:(i:Int)<g.2.length):gh g i=true↔(¬(gI g.2 i).1=(gI g.2 i).2)/\¬fO (gI g.2 i)∈(g.2.map fO).take i:=by
 unfold gh
 simp only[Int.toNat_natCast,Bool.and_eq_true,decide_eq_true_eq]
end TL
/-
  TlKeep: rows of an own list given away one by one while the list stays readable; rows with a mark behind each.
  By an AI agent.
-/
set_option linter.all false
namespace TL
open Go
def j3(q i k:Nat):cj->Prop:=λc=>c.1=q\/(c.1=i/\c.2=0)\/c.1=k
theorem bv.l3{L:List Nat}{q i k:Nat}{γ γ':aG}{w w':World}(h:bv (j3 q i k) γ w γ' w')(h1:L.contains q=true)(h2:L.contains i=true)(h3:L.contains k=true):bv (inl L) γ w γ' w':=h.mono λc hc=>by
 unfold inl
 rcases hc with hc|hc|hc
 · rw[hc];exact h1
 · rw[hc.1];exact h2
 · rw[hc];exact h3
section
variable{P:Program}{w:World}{t t':TypeId}{f:Fr}{x y:Operand}{dst:Option Tmp}{ty:TypeId}{pos:String}{after:Array Edge}{g:Option (Nat×Bool)}{N:Value->World->Prop}{α:Type}[Rp α]{γ:aG}{v u:Value}{xss:List (List α)}{l:List α}{i k j:Nat}
end
section
variable{α:Type}[Rp α][Fl α]{γ γ':aG}{w w':World}{v:Value}{us:List Vc}{xss:List (List α)}{i k j q:Nat}
end
inductive Rw where
  |mk (l:List Int) (m:Int)
  |pl (l:List Int)
instance:Inhabited Rw:=⟨.pl []⟩
theorem ra{α:Type}[Rp α]{γ:aG}{S:cj->Prop}{w:World}{v:Value}{xs:List α}{m:α}(h:Sl γ S w (xl v) (xs++[m])):∃a l c,v= .slice a l c:=by
 rcases h with⟨_,h0⟩|⟨b,off,cap,hv,_⟩
 · simp at h0
 · cases v<;>simp[xl] at hv
   exact⟨_,_,_,rfl⟩
def wE(γ:aG)(S:cj->Prop)(w:World)(v:Value):Rw->Prop
  | .mk l m=>Sl γ S w (xl v) (l++[m])
  | .pl l=>Sl γ S w v l
theorem wE.one{γ:aG}{S:cj->Prop}{w:World}{v:Value}{x:Rw}(h:wE γ S w v x):v.oneCell'=true:=by
 cases x with
 |mk l m=>
   obtain⟨a,b,c,rfl⟩:=ra h
   rfl
 |pl l=>
   rcases h with⟨⟨_,rfl⟩,_⟩|⟨b,off,cap,rfl,_⟩<;>rfl
theorem wE.tr{γ γ':aG}{S S':cj->Prop}{w w':World}{v:Value}{x:Rw}(hsz:w.heap.size<=w'.heap.size)(h:∀b,b<w.heap.size->S (γ b)->w'.heap[b]? =w.heap[b]? /\S' (γ' b))(hx:wE γ S w v x):wE γ' S' w' v x:=by
 cases x with
 |mk l m=>exact Sl.tr h hx hsz
 |pl l=>exact Sl.tr h hx hsz
instance:Rp Rw where
 sz:=1
 rep γ S w cs x:=∃v,cs=[v]/\wE γ S w v x
 len:=by rintro _ _ _ _ _ ⟨v,rfl,_⟩;rfl
 one:=by
   rintro _ _ _ _ _ ⟨v,rfl,h⟩ u hu
   obtain rfl:u=v:=by simpa using hu
   exact h.one
 tr:=by
   rintro _ _ _ _ _ _ _ _ hs h ⟨v,rfl,hv⟩
   exact⟨v,rfl,hv.tr hs h⟩
section
variable{P:Program}{w:World}{t t':TypeId}{f:Fr}{x y:Operand}{dst:Option Tmp}{ty:TypeId}{pos:String}{after:Array Edge}{g:Option (Nat×Bool)}{N:Value->World->Prop}{γ:aG}{v u:Value}{xss:List (List Int)}{l:List Int}{i:Nat}
end
end TL
/-
  TlEq: structs compared; a pointer looked at for nil; a bit turned.
  By an AI agent.
-/
set_option linter.all false
namespace TL
open Go
section
variable{P:Program}{f:Fr}{w:World}{dst:Option Tmp}{ty:TypeId}{pos:String}{after:Array Edge}{g:Option (Nat×Bool)}{t t' e:TypeId}{x y:Operand}
theorem aq{a:Addr}(hx:ev f x= .pointer (some a)):(execOp (ev f) ⟨dst,.nilCheck x,ty,pos,after,g⟩).run P w= .ok (.value (.pointer (some a))) w:=by
 simp only[execOp,hx,Sem.run_pure]
end
end TL
namespace TL
open Go
section
variable{P:Program}{f:Fr}{w:World}{dst:Option Tmp}{ty:TypeId}{pos:String}{after:Array Edge}{g:Option (Nat×Bool)}{t:TypeId}{x:Operand}
end
end TL
namespace TL
open Go
section
variable{P:Program}{f:Fr}{w:World}{dst:Option Tmp}{ty:TypeId}{pos:String}{after:Array Edge}{g:Option (Nat×Bool)}{t t':TypeId}{x y:Operand}{m n:Int}
end
end TL
namespace TL
open Go
theorem rz{f:Fr}{x:Operand}{xs:List Operand}{v:Value}{vs:List Value}(h:ev f x=v)(h2:xs.map (ev f)=vs):(x::xs).map (ev f)=v::vs:=by subst h h2;rfl
end TL
/-
  TlRot: rotations: which may be, turned to their gg, faces.
  By an AI agent.
-/
set_option linter.all false
namespace TL
abbrev ip:=List (List Int)
def wK(g:bh)(r:ip):Prop:=(r.length:Int)=g.1/\(∀v:Nat,v<r.length->∀h∈gI r (v:Int),(0<=h/\h<2*(g.2.length:Int))/\aK g h=v)/\r.flatten.Nodup/\(r.flatten.length:Int)=2*g.2.length
instance (g:bh)(r:ip):Decidable (wK g r):=by unfold wK;infer_instance
theorem sU{n:Int}{l:List Int}(h0:0<=n)(hn:l.Nodup)(h:∀x∈l,0<=x/\x<n):(l.length:Int)<=n:=by
 have:=ox n.toNat l hn (λx hx=>by have:=h x hx;omega)
 omega
section
variable{seen:List Bool}{n:Int}{g:bh}{r:ip}{k i:Nat}
end
end TL
namespace TL
end TL
/-
  TlMap: maps that the call makes.
  By an AI agent.
-/
set_option linter.all false
namespace TL
open Go
class Ky (K:Type) where
  val:K->Value
structure lz(P:Program)(kt:TypeId)(K:Type)[DecidableEq K][Ky K]:Prop where
 check:∀(b:Bool) (k:K) (w:World),(Instr.checkKey b 10000 kt (Ky.val k)).run P w= .ok () w
 find:∀(k:K) (es:List MapEntry) (ks:List K) (w:World),es.map (·.key)=ks.map Ky.val->(Instr.findKey kt (Ky.val k) es).run P w= .ok ((ks.findIdx? (· =k)).bind λi=>(es[i]?).map λe=>(i,e.val)) w
 bits:∀k:K,Instr.sameBits 10000 (Ky.val k) (Ky.val k)=true
structure cw(K:Type) where
  key:K
  val:Int
  born:Nat
def ch{K:Type}[Ky K](e:cw K):MapEntry:={key:=Ky.val e.key,val:=.int .i64 e.val,born:=e.born}
def dM{K:Type}[DecidableEq K](es:List (cw K))(k:K):Int:=((es.find? λe=>decide (e.key=k)).map (·.val)).getD 0
structure we{K:Type}(es:List (cw K))(clock:Nat):Prop where
 keys:(es.map (·.key)).Nodup
 born:(es.map (·.born)).Nodup
 lt:∀e∈es,e.born<clock
def Mp{K:Type}[DecidableEq K][Ky K](γ:aG)(J:cj->Prop)(w:World)(v:Value)(F:K->Int):Prop:=
  ∃(r:Nat) (es:List (cw K)) (clock:Nat),v= .map (some r)/\J (γ r)/\w.heap[r]? =some (.map (es.map ch).toArray clock)/\we es clock/\F=dM es
def ov{K:Type}[DecidableEq K][Ky K](γ:aG)(J:cj->Prop)(w:World)(v:Value)(F:K->Int)(s:Int)(k:K):Prop:=
  ∃(r:Nat) (es:List (cw K)) (clock:Nat),v= .map (some r)/\J (γ r)/\w.heap[r]? =some (.map (es.map ch).toArray clock)/\we es clock/\F=dM es/\∃(i:Nat) (e:cw K),es[i]? =some e/\e.key=k/\(e.born:Int)=s
theorem Mp.chg{K:Type}[DecidableEq K][Ky K]{γ γ':aG}{J J':cj->Prop}{w w':World}{v:Value}{F:K->Int}(h:Mp γ J w v F)(hc:bv J' γ w γ' w')(hJ:∀c,J c->¬J' c):Mp γ' J w' v F:=by
 obtain⟨r,es,clock,h1,h2,h3,h4⟩:=h
 exact⟨r,es,clock,h1,by rw[hc.col r (c7 h3) (hJ _ h2)];exact h2,by rw[hc.keep r (c7 h3) (hJ _ h2)];exact h3,h4⟩
theorem ov.chg{K:Type}[DecidableEq K][Ky K]{γ γ':aG}{J J':cj->Prop}{w w':World}{v:Value}{F:K->Int}{s:Int}{k:K}(h:ov γ J w v F s k)(hc:bv J' γ w γ' w')(hJ:∀c,J c->¬J' c):ov γ' J w' v F s k:=by
 obtain⟨r,es,clock,h1,h2,h3,h4⟩:=h
 exact⟨r,es,clock,h1,by rw[hc.col r (c7 h3) (hJ _ h2)];exact h2,by rw[hc.keep r (c7 h3) (hJ _ h2)];exact h3,h4⟩
theorem Mp.bel{K:Type}[DecidableEq K][Ky K]{γ:aG}{J:cj->Prop}{w w':World}{v:Value}{F:K->Int}(h:Mp γ J w v F)(hc:dU w.heap.size w w'):Mp γ J w' v F:=by
 obtain⟨r,es,clock,h1,h2,h3,h4⟩:=h
 exact⟨r,es,clock,h1,h2,by rw[hc.block r (c7 h3)];exact h3,h4⟩
theorem g0{K:Type}[DecidableEq K][Ky K](es:List (cw K))(k:K):(((es.map (·.key)).findIdx? (· =k)).bind λi=>((es.map ch)[i]?).map λe=>(i,e.val))=((es.map (·.key)).findIdx? (· =k)).map λi=>(i,Value.int .i64 (dM es k)):=by
 cases h:(es.map (·.key)).findIdx? (· =k) with
 |none=>rfl
 |some i=>
   obtain⟨hi,hk,hlt⟩:=List.findIdx?_eq_some_iff_getElem.1 h
   have hi':i<es.length:=by simpa using hi
   have hke:es[i].key=k:=by simpa using hk
   have hf:es.find? (λe=>decide (e.key=k))=some es[i]:=by
     rw[List.find?_eq_some_iff_getElem]
     refine⟨by simpa using hke,i,hi',rfl,λj hj=>?_⟩
     have:=hlt j hj
     simpa using this
   simp[hi',ch,dM,hf]
section
variable{P:Program}{f:Fr}{w:World}{dst:Option Tmp}{ty:TypeId}{pos:String}{after:Array Edge}{g:Option (Nat×Bool)}{t:TypeId}{x y z:Operand}{N:Value->World->Prop}
theorem bS{r:Nat}{es:Array MapEntry}{clock:Nat}(h:w.heap[r]? =some (.map es clock)):(getObj r).run P w= .ok (.map es clock) w:=by
 simp[getObj,Sem.run,h]
theorem cO{r:Nat}{es:Array MapEntry}{clock:Nat}{o:Obj}(h:w.heap[r]? =some (.map es clock)):(setObj r o).run P w= .ok () {w with heap:=w.heap.setIfInBounds r o}:=by
 simp[setObj,Sem.run,h]
theorem dT(γ:aG){r:Nat}(o:Obj){J:cj->Prop}(hJ:J (γ r)):bv J γ w γ {w with heap:=w.heap.setIfInBounds r o}:=
 ⟨rfl,rfl,rfl,by simp,λ_ _ _=>rfl,λk _ hk=>by
   have:r≠k:=λh=>hk (h▸hJ)
   simp[Array.getElem?_setIfInBounds_ne this],Nat.le_refl _⟩
theorem dv{r:Nat}{o o':Obj}(h:w.heap[r]? =some o'):({w with heap:=w.heap.setIfInBounds r o}:World).heap[r]? =some o:=by
 have:=c7 h
 simp[this]
theorem rd{K:Type}[DecidableEq K][Ky K](γ:aG)(J:cj->Prop)(c:cj)(hJ:J c)(hk:∀γ' w' v,bv no γ w γ' w'->Mp (K:=K) γ' J w' v (λ_=>0)->N v w'):eZ P ⟨dst,.makeMap t none,ty,pos,after,g⟩ f w N:=by
 refine aQ (v:=.map (some w.heap.size)) (w':=w.alloc (.map #[] 0)) (by simp[execOp,Instr.makeMap]) (hk (gi γ w.heap.size c) _ _ (eX γ w _ c) ⟨w.heap.size,[],0,rfl,by simpa[gi] using hJ,by rw[cQ];rfl,⟨by simp,by simp,by simp⟩,?_⟩)
 funext k;simp[dM]
theorem d4{K:Type}[DecidableEq K][Ky K]{γ:aG}{J:cj->Prop}{v u:Value}{F:K->Int}{kt et size bytes:Nat}{agg:Bool}(k:K)(ht:P.underlying t=some (.map kt et))(hk:lz P kt K)(he:Tp P et agg size bytes (.int .i64 0))(hx:ev f x=v)(hm:Mp γ J w v F)(hy:ev f y=u)(hu:u=Ky.val k):
   (execOp (ev f) ⟨dst,.lookup t x y false,ty,pos,after,g⟩).run P w= .ok (.value (.int .i64 (F k))) w:=by
 obtain⟨r,es,clock,rfl,hJ,hb,hok,rfl⟩:=hm
 obtain⟨i,hi,_,_,hz⟩:=he.info
 subst hu
 have hf:=hk.find k (es.map ch) (es.map (·.key)) w (by simp[ch,Function.comp_def])
 rw[g0] at hf
 cases h:(es.map (·.key)).findIdx? (· =k) with
 |none=>
   rw[h] at hf
   have h0:dM es k=0:=by
     have hn:es.find? (λe=>decide (e.key=k))=none:=by
       rw[List.find?_eq_none]
       intro e he
       have:=List.findIdx?_eq_none_iff.1 h (e.key) (List.mem_map_of_mem he)
       simpa using this
     simp[dM,hn]
   simp[execOp,hx,hy,Instr.lookup,aT ht,bS hb,hk.check,hf,dJ hi hz,h0]
 |some i=>
   rw[h] at hf
   simp[execOp,hx,hy,Instr.lookup,aT ht,bS hb,hk.check,hf]
theorem eY{K:Type}[DecidableEq K][Ky K]{γ:aG}{J:cj->Prop}{v u:Value}{F:K->Int}{kt et size bytes:Nat}{agg:Bool}(k:K)(ht:P.underlying t=some (.map kt et))(hk:lz P kt K)(he:Tp P et agg size bytes (.int .i64 0))(hx:ev f x=v)(hm:Mp γ J w v F)(hy:ev f y=u)(hu:u=Ky.val k)
   (hn:∀w' s,bv J γ w γ w'->ov γ J w' v F s k->N (.tuple (List.toArray [.int .i64 (F k),.int .i64 s])) w'):eZ P ⟨dst,.mapEntry t x y,ty,pos,after,g⟩ f w N:=by
 obtain⟨r,es,clock,rfl,hJ,hb,hok,rfl⟩:=hm
 obtain⟨q,hi,_,_,hz⟩:=he.info
 subst hu
 have hf:=hk.find k (es.map ch) (es.map (·.key)) w (by simp[ch,Function.comp_def])
 rw[g0] at hf
 cases h:(es.map (·.key)).findIdx? (· =k) with
 |none=>
   rw[h] at hf
   have hnk:∀e∈es,e.key≠k:=λe he=>by
     have:=List.findIdx?_eq_none_iff.1 h (e.key) (List.mem_map_of_mem he)
     simpa using this
   have h0:dM es k=0:=by
     have hn:es.find? (λe=>decide (e.key=k))=none:=by
       rw[List.find?_eq_none]
       intro e he
       simpa using hnk e he
     simp[dM,hn]
   refine aQ (v:=.tuple (List.toArray [.int .i64 (dM es k),.int .i64 (clock:Int)])) (w':={w with heap:=w.heap.setIfInBounds r (.map ((es++[(⟨k,0,clock⟩:cw K)]).map ch).toArray (clock+1))}) ?_ ?_
   rotate_left
   · refine hn _ _ (dT γ _ hJ) ⟨r,es++[⟨k,0,clock⟩],clock+1,rfl,hJ,dv hb,⟨?_,?_,?_⟩,?_,es.length,⟨k,0,clock⟩,by simp,rfl,rfl⟩
     rotate_left 3
     · funext k'
       simp only[dM,List.find?_append]
       by_cases hkk:k=k'
       · subst hkk
         have hn:es.find? (λe=>decide (e.key=k))=none:=by
           rw[List.find?_eq_none]
           intro e he
           simpa using hnk e he
         simp[hn]
       · cases es.find? (λe=>decide (e.key=k'))<;>simp[hkk]
     · rw[List.map_append,List.nodup_append]
       refine⟨hok.keys,by simp,λa ha b hb=>?_⟩
       obtain⟨e,he,rfl⟩:=List.mem_map.1 ha
       have:b=k:=by simpa using hb
       subst this;exact hnk e he
     · rw[List.map_append,List.nodup_append]
       refine⟨hok.born,by simp,λa ha b hb=>?_⟩
       obtain⟨e,he,rfl⟩:=List.mem_map.1 ha
       have:b=clock:=by simpa using hb
       subst this;exact Nat.ne_of_lt (hok.lt e he)
     · intro e he
       rcases List.mem_append.1 he with h|h
       · exact Nat.lt_succ_of_lt (hok.lt e h)
       · obtain rfl:=List.mem_singleton.1 h;exact Nat.lt_succ_self _
   · simp[execOp,hx,hy,Instr.mapEntry,aT ht,bS hb,hk.check,hf,dJ hi hz,cO hb,h0,ch,goInt]
 |some i=>
   rw[h] at hf
   obtain⟨hil,hke,_⟩:=List.findIdx?_eq_some_iff_getElem.1 h
   have hi':i<es.length:=by simpa using hil
   have hke':es[i].key=k:=by simpa using hke
   have hsame:(es.map ch).modify i (λe=>{e with key:=Ky.val k})=es.map ch:=by
     apply List.ext_getElem?
     intro j
     rw[List.getElem?_modify]
     by_cases hij:i=j
     · subst hij;simp[hi',ch,hke']
     · simp[hij]
   refine aQ (v:=.tuple (List.toArray [.int .i64 (dM es k),.int .i64 ((es[i].born:Nat):Int)])) (w':={w with heap:=w.heap.setIfInBounds r (.map (es.map ch).toArray clock)}) ?_
     (hn _ _ (dT γ _ hJ) ⟨r,es,clock,rfl,hJ,dv hb,hok,rfl,i,es[i],by simp,hke',rfl⟩)
   have hkb:=hk.bits k
   have hold:(Instr.keyThatStays (Ky.val k) (Ky.val k)).run P w= .ok (Ky.val k) w:=by simp[Instr.keyThatStays,hkb]
   simp[execOp,hx,hy,Instr.mapEntry,aT ht,bS hb,hk.check,hf,hi',ch,hke',hold,cO hb,goInt]
   rw[hsame]
theorem dV{K:Type}[DecidableEq K][Ky K]{γ:aG}{J:cj->Prop}{v:Value}{F:K->Int}{s m:Int}{k:K}(hx:ev f x=v)(hm:ov γ J w v F s k)(hy:ev f y= .int .i64 s)(hz:ev f z= .int .i64 m)
   (hn:∀w',bv J γ w γ w'->Mp γ J w' v (λk'=>if k'=k then m else F k')->N undef w'):eZ P ⟨dst,.entryStore t x y z,ty,pos,after,g⟩ f w N:=by
 obtain⟨r,es,clock,rfl,hJ,hb,hok,rfl,i,e,hie,rfl,rfl⟩:=hm
 have hi':i<es.length:=(List.getElem?_eq_some_iff.1 hie).1
 have hei:es[i]=e:=(List.getElem?_eq_some_iff.1 hie).2
 have hfi:((es.map ch).toArray.findIdx? (λq=>(q.born:Int)==(e.born:Int)))=some i:=by
   rw[List.findIdx?_toArray,List.findIdx?_eq_some_iff_getElem]
   refine⟨by simpa using hi',by simp[ch,hei],λj hj=>?_⟩
   have hj':j<es.length:=by omega
   have hne:es[j].born≠e.born:=λh=>by
     have h1:(es.map (·.born))[j]'(by simpa using hj')=(es.map (·.born))[i]'(by simpa using hi'):=by simp[hei,h]
     have:=(List.getElem_inj hok.born).1 h1
     omega
   simp[ch]
   omega
 have hmod:(es.map ch).modify i (λq=>{q with val:=.int .i64 m})=(es.modify i (λq=>{q with val:=m})).map ch:=by
   apply List.ext_getElem?
   intro j
   rw[List.getElem?_modify,List.getElem?_map,List.getElem?_map,List.getElem?_modify]
   by_cases hij:i=j
   · subst hij;simp[hi',ch]
   · simp[hij]
 have hkeys:(es.modify i (λq=>{q with val:=m})).map (·.key)=es.map (·.key):=by
   apply List.ext_getElem?
   intro j
   rw[List.getElem?_map,List.getElem?_map,List.getElem?_modify]
   by_cases hij:i=j
   · subst hij;simp[hi']
   · simp[hij]
 have hborn:(es.modify i (λq=>{q with val:=m})).map (·.born)=es.map (·.born):=by
   apply List.ext_getElem?
   intro j
   rw[List.getElem?_map,List.getElem?_map,List.getElem?_modify]
   by_cases hij:i=j
   · subst hij;simp[hi']
   · simp[hij]
 refine fC (w':={w with heap:=w.heap.setIfInBounds r (.map ((es.modify i (λq=>{q with val:=m})).map ch).toArray clock)}) ?_
   (hn _ (dT γ _ hJ) ⟨r,es.modify i (λq=>{q with val:=m}),clock,rfl,hJ,dv hb,⟨by rw[hkeys];exact hok.keys,by rw[hborn];exact hok.born,λq hq=>?_⟩,?_⟩)
 · simp[execOp,hx,hy,hz,Instr.entryStore,bS hb,asInt,asIntOf,hfi,cO hb]
   rw[<-hmod]
 · have:q.born∈es.map (·.born):=by rw[<-hborn];exact List.mem_map_of_mem hq
   obtain⟨q',hq',he'⟩:=List.mem_map.1 this
   rw[<-he'];exact hok.lt q' hq'
 · funext k'
   -- the entry of k' in the changed list
   have hfind:∀(l:List (cw K)),(l.map (·.key)).Nodup->∀j (hj:j<l.length),dM l l[j].key=l[j].val:=by
     intro l hl j hj
     have hf:l.find? (λe=>decide (e.key=l[j].key))=some l[j]:=by
       rw[List.find?_eq_some_iff_getElem]
       refine⟨by simp,j,hj,rfl,λq hq=>?_⟩
       have hne:l[q].key≠l[j].key:=λh=>by
         have h1:(l.map (·.key))[q]'(by simp;omega)=(l.map (·.key))[j]'(by simpa using hj):=by simp[h]
         have:=(List.getElem_inj hl).1 h1
         omega
       simpa using hne
     simp[dM,hf]
   by_cases hkk:k'=e.key
   · subst hkk
     rw[if_pos rfl]
     have h1:=hfind (es.modify i (λq=>{q with val:=m})) (by rw[hkeys];exact hok.keys) i (by simpa using hi')
     simp[List.getElem_modify,hei] at h1
     exact h1.symm
   · rw[if_neg hkk]
     have hfe:(es.modify i (λq=>{q with val:=m})).find? (λe=>decide (e.key=k'))=es.find? (λe=>decide (e.key=k')):=by
       have hgen:∀(l:List (cw K)) (i:Nat) (e:cw K),l[i]? =some e->k'≠e.key->(l.modify i (λq=>{q with val:=m})).find? (λe=>decide (e.key=k'))=l.find? (λe=>decide (e.key=k')):=by
         intro l
         induction l with
         |nil=>intro i e h;simp at h
         |cons a l ih=>
           intro i e h hne
           cases i with
           |zero=>
             obtain rfl:a=e:=by simpa using h
             have:decide (a.key=k')=false:=by simpa using λh=>hne h.symm
             simp[List.find?_cons,this]
           |succ i=>
             have h':l[i]? =some e:=by simpa using h
             simp only[List.modify_succ_cons,List.find?_cons,ih i e h' hne]
       exact hgen es i e hie hkk
     simp[dM,hfe]
end
instance:Ky Int where
 val k:=.int .i64 k
instance:Ky (Int×Int) where
 val k:=.agg (List.toArray [.int .i64 k.1,.int .i64 k.2])
theorem bB{P:Program}{kt e bytes:Nat}{z:Value}(ht:P.underlying kt=some (.array 2 e))(he:P.underlying e=some (.int .i64))(hp:Tp P e false 1 bytes z):lz P kt (Int×Int) where
 check b k w:=by
   obtain⟨i,hi,hs,_⟩:=hp.info
   have h0:=λ(x y:Int)=>gw (P:=P) (w:=w) (cs:= #[.int .i64 x,.int .i64 y]) (o:=0) hp (v:=.int .i64 x) (by rfl)
   have h1:=λ(x y:Int)=>gw (P:=P) (w:=w) (cs:= #[.int .i64 x,.int .i64 y]) (o:=1) hp (v:=.int .i64 y) (by rfl)
   have hr:(List.range' 0 2 1)=[0,1]:=rfl
   have hc:∀x:Int,(Instr.checkKey b 9999 e (.int .i64 x)).run P w= .ok () w:=λx=>by
     rw[Instr.checkKey]
     simp only[Sem.run_bind,aT he,Result.andThen_ok]
     rfl
   show(Instr.checkKey b (9999+1) kt _).run P w=_
   rw[Instr.checkKey]
   simp only[Ky.val,Sem.run_bind,aT ht,Result.andThen_ok]
   rw[Std.Legacy.Range.forIn_eq_forIn_range']
   simp only[Std.Legacy.Range.size,Nat.sub_zero,Nat.reduceAdd,Nat.reduceSub,Nat.div_one,hr]
   simp[cI hi,hs,h0,h1,hc]
 find k es ks w hm:=by
   have hfn:∀(es:List MapEntry) (i:Nat),es≠[]->(∀e∈es,∃c,e.key= .agg c)->Instr.findNow (.array 2 e) (Ky.val k) es i=none:=by
     intro es i h0 _
     cases es with
     |nil=>exact absurd rfl h0
     |cons a l=>simp[Instr.findNow,Instr.sameNow]
   have hask:∀(es:List MapEntry) (ks:List (Int×Int)) (i:Nat),es.map (·.key)=ks.map Ky.val->(Instr.findAsking kt (Ky.val k) es i).run P w= .ok ((ks.findIdx? (· =k)).bind λj=>(es[j]?).map λe=>(i+j,e.val)) w:=by
     intro es
     induction es with
     |nil=>
       intro ks i h
       have:ks=[]:=by cases ks<;>simp at h ⊢
       subst this;simp[Instr.findAsking]
     |cons a l ih=>
       intro ks i h
       cases ks with
       |nil=>simp at h
       |cons q ks=>
         simp only[List.map_cons,List.cons.injEq] at h
         obtain⟨ha,hl⟩:=h
         have heq:=jf (P:=P) (w:=w) (a:=k) (b:=q) ht he hp
         have heq':(Op.equal kt (Ky.val k) a.key).run P w= .ok (decide (k=q)) w:=by rw[ha];exact heq
         by_cases hkq:k=q
         · subst hkq
           simp[Instr.findAsking,heq',List.findIdx?_cons]
         · have hqk:¬q=k:=λh=>hkq h.symm
           have ih':=ih ks (i+1) hl
           simp[Instr.findAsking,heq',hkq,List.findIdx?_cons,hqk,ih']
           cases ks.findIdx? (λx=>decide (x=k)) with
           |none=>rfl
           |some j=>simp[Nat.add_comm 1 j,Nat.add_assoc]
   simp only[Instr.findKey,Sem.run_bind,aT ht,Result.andThen_ok]
   cases es with
   |nil=>
     have:ks=[]:=by cases ks<;>simp at hm ⊢
     subst this;simp[Instr.findNow]
   |cons a l=>
     rw[hfn (a::l) 0 (by simp) (λe he=>by
       have:e.key∈(a::l).map (·.key):=List.mem_map_of_mem he
       rw[hm] at this
       obtain⟨q,_,hq⟩:=List.mem_map.1 this
       exact⟨_,hq.symm⟩)]
     simp only[hask (a::l) ks 0 hm,Nat.zero_add]
 bits k:=by
   show Instr.sameBits (9999+1) _ _=true
   simp[Ky.val,Instr.sameBits]
theorem dL{P:Program}{kt:Nat}(ht:P.underlying kt=some (.int .i64)):lz P kt Int where
 check b k w:=by
   show(Instr.checkKey b (9999+1) kt _).run P w=_
   rw[Instr.checkKey]
   simp only[Ky.val,Sem.run_bind,aT ht,Result.andThen_ok]
   rfl
 find k es ks w hm:=by
   have hnow:∀(es:List MapEntry) (ks:List Int) (i:Nat),es.map (·.key)=ks.map Ky.val->Instr.findNow (.int .i64) (Ky.val k) es i=some ((ks.findIdx? (· =k)).bind λj=>(es[j]?).map λe=>(i+j,e.val)):=by
     intro es
     induction es with
     |nil=>
       intro ks i h
       have:ks=[]:=by cases ks<;>simp at h ⊢
       subst this;simp[Instr.findNow]
     |cons a l ih=>
       intro ks i h
       cases ks with
       |nil=>simp at h
       |cons q ks=>
         simp only[List.map_cons,List.cons.injEq] at h
         obtain⟨ha,hl⟩:=h
         have hs:Instr.sameNow (.int .i64) (Ky.val k) a.key=some (k==q):=by rw[ha];simp[Ky.val,Instr.sameNow]
         by_cases hkq:k=q
         · subst hkq
           simp[Instr.findNow,hs,List.findIdx?_cons]
         · have hqk:¬q=k:=λh=>hkq h.symm
           have ih':=ih ks (i+1) hl
           have hb:(k==q)=false:=by simpa using hkq
           simp[Instr.findNow,hs,hb,List.findIdx?_cons,hqk,ih']
           cases ks.findIdx? (λx=>decide (x=k)) with
           |none=>rfl
           |some j=>simp[Nat.add_comm 1 j,Nat.add_assoc]
   simp only[Instr.findKey,Sem.run_bind,aT ht,Result.andThen_ok,hnow es ks 0 hm,Nat.zero_add]
   rfl
 bits k:=by
   show Instr.sameBits (9999+1) _ _=true
   simp[Ky.val,Instr.sameBits]
end TL
namespace TL
open Go
theorem ov.mp{K:Type}[DecidableEq K][Ky K]{γ:aG}{J:cj->Prop}{w:World}{v:Value}{F:K->Int}{s:Int}{k:K}(h:ov γ J w v F s k):Mp γ J w v F:=by
 obtain⟨r,es,clock,h1,h2,h3,h4,h5,_⟩:=h
 exact⟨r,es,clock,h1,h2,h3,h4,h5⟩
end TL
/-
  TlMapD: maps that the call makes, with the keys that they have.
  By an AI agent.
-/
set_option linter.all false
namespace TL
open Go
def Md{K:Type}[DecidableEq K][Ky K](γ:aG)(J:cj->Prop)(w:World)(v:Value)(F:K->Int)(D:List K):Prop:=
 ∃(r:Nat) (es:List (cw K)) (clock:Nat),v= .map (some r)/\J (γ r)/\w.heap[r]? =some (.map (es.map ch).toArray clock)/\we es clock/\F=dM es/\D=es.map (·.key)
def ow{K:Type}[DecidableEq K][Ky K](γ:aG)(J:cj->Prop)(w:World)(v:Value)(F:K->Int)(D:List K)(s:Int)(k:K):Prop:=
 ∃(r:Nat) (es:List (cw K)) (clock:Nat),v= .map (some r)/\J (γ r)/\w.heap[r]? =some (.map (es.map ch).toArray clock)/\we es clock/\F=dM es/\D=es.map (·.key)/\∃(i:Nat) (e:cw K),es[i]? =some e/\e.key=k/\(e.born:Int)=s
variable{K:Type}[DecidableEq K][Ky K]
theorem Md.chg{γ γ':aG}{J J':cj->Prop}{w w':World}{v:Value}{F:K->Int}{D:List K}(h:Md γ J w v F D)(hc:bv J' γ w γ' w')(hJ:∀c,J c->¬J' c):Md γ' J w' v F D:=by
 obtain⟨r,es,clock,h1,h2,h3,h4⟩:=h
 exact⟨r,es,clock,h1,by rw[hc.col r (c7 h3) (hJ _ h2)];exact h2,by rw[hc.keep r (c7 h3) (hJ _ h2)];exact h3,h4⟩
theorem ow.chg{γ γ':aG}{J J':cj->Prop}{w w':World}{v:Value}{F:K->Int}{D:List K}{s:Int}{k:K}(h:ow γ J w v F D s k)(hc:bv J' γ w γ' w')(hJ:∀c,J c->¬J' c):ow γ' J w' v F D s k:=by
 obtain⟨r,es,clock,h1,h2,h3,h4⟩:=h
 exact⟨r,es,clock,h1,by rw[hc.col r (c7 h3) (hJ _ h2)];exact h2,by rw[hc.keep r (c7 h3) (hJ _ h2)];exact h3,h4⟩
theorem Md.mp{γ:aG}{J:cj->Prop}{w:World}{v:Value}{F:K->Int}{D:List K}(h:Md γ J w v F D):Mp γ J w v F:=by
 obtain⟨r,es,clock,h1,h2,h3,h4,h5,_⟩:=h
 exact⟨r,es,clock,h1,h2,h3,h4,h5⟩
theorem ow.md{γ:aG}{J:cj->Prop}{w:World}{v:Value}{F:K->Int}{D:List K}{s:Int}{k:K}(h:ow γ J w v F D s k):Md γ J w v F D:=by
 obtain⟨r,es,clock,h1,h2,h3,h4,h5,h6,_⟩:=h
 exact⟨r,es,clock,h1,h2,h3,h4,h5,h6⟩
theorem Md.bel{γ:aG}{J:cj->Prop}{w w':World}{v:Value}{F:K->Int}{D:List K}(h:Md γ J w v F D)(hc:dU w.heap.size w w'):Md γ J w' v F D:=by
 obtain⟨r,es,clock,h1,h2,h3,h4⟩:=h
 exact⟨r,es,clock,h1,h2,by rw[hc.block r (c7 h3)];exact h3,h4⟩
section
variable{P:Program}{f:Fr}{w:World}{dst:Option Tmp}{ty:TypeId}{pos:String}{after:Array Edge}{g:Option (Nat×Bool)}{t:TypeId}{x y z:Operand}{N:Value->World->Prop}
theorem iV(γ:aG)(J:cj->Prop)(c:cj)(hJ:J c)(hk:∀γ' w' v,bv no γ w γ' w'->Md (K:=K) γ' J w' v (λ_=>0) []->N v w'):eZ P ⟨dst,.makeMap t none,ty,pos,after,g⟩ f w N:=by
 refine aQ (v:=.map (some w.heap.size)) (w':=w.alloc (.map #[] 0)) (by simp[execOp,Instr.makeMap]) (hk (gi γ w.heap.size c) _ _ (eX γ w _ c) ⟨w.heap.size,[],0,rfl,by simpa[gi] using hJ,by rw[cQ];rfl,⟨by simp,by simp,by simp⟩,?_,rfl⟩)
 funext k;simp[dM]
theorem fR{γ:aG}{J:cj->Prop}{v u:Value}{F:K->Int}{D:List K}{kt et size bytes:Nat}{agg:Bool}(k:K)(ht:P.underlying t=some (.map kt et))(hk:lz P kt K)(he:Tp P et agg size bytes (.int .i64 0))(hx:ev f x=v)(hm:Md γ J w v F D)(hy:ev f y=u)(hu:u=Ky.val k):
   (execOp (ev f) ⟨dst,.lookup t x y true,ty,pos,after,g⟩).run P w= .ok (.value (.tuple #[.int .i64 (F k),.bool (decide (k∈D))])) w:=by
 obtain⟨r,es,clock,rfl,hJ,hb,hok,rfl,rfl⟩:=hm
 obtain⟨i,hi,_,_,hz⟩:=he.info
 subst hu
 have hf:=hk.find k (es.map ch) (es.map (·.key)) w (by simp[ch,Function.comp_def])
 rw[g0] at hf
 cases h:(es.map (·.key)).findIdx? (· =k) with
 |none=>
   rw[h] at hf
   have hnk:k∉es.map (·.key):=λhmm=>by
     have:=List.findIdx?_eq_none_iff.1 h k hmm
     simp at this
   have h0:dM es k=0:=by
     have hn:es.find? (λe=>decide (e.key=k))=none:=by
       rw[List.find?_eq_none]
       intro e he
       have:=List.findIdx?_eq_none_iff.1 h (e.key) (List.mem_map_of_mem he)
       simpa using this
     simp[dM,hn]
   rw[decide_eq_false hnk]
   simp[execOp,hx,hy,Instr.lookup,aT ht,bS hb,hk.check,hf,dJ hi hz,h0]
 |some i=>
   rw[h] at hf
   obtain⟨hil,hke,_⟩:=List.findIdx?_eq_some_iff_getElem.1 h
   have hke':(es.map (·.key))[i]=k:=by simpa using hke
   have hmm:k∈es.map (·.key):=by rw[<-hke'];exact List.getElem_mem hil
   rw[decide_eq_true hmm]
   simp[execOp,hx,hy,Instr.lookup,aT ht,bS hb,hk.check,hf]
theorem lU{γ:aG}{J:cj->Prop}{v:Value}{F:K->Int}{D:List K}{kt et:Nat}(ht:P.underlying t=some (.map kt et))(hx:ev f x=v)(hm:Md γ J w v F D):
   (execOp (ev f) ⟨dst,.call {callee:=.builtin .len,args:= #[x],argTypes:= #[t]},ty,pos,after,g⟩).run P w= .ok (.value (.int .i64 (D.length:Int))) w:=by
 obtain⟨r,es,clock,rfl,hJ,hb,hok,rfl,rfl⟩:=hm
 simp[execOp,resolve,invoke,builtin,hx,Builtin.len_,aT ht,bS hb,goInt]
theorem eA{γ:aG}{J:cj->Prop}{v u:Value}{F:K->Int}{D:List K}{kt et size bytes:Nat}{agg:Bool}(k:K)(ht:P.underlying t=some (.map kt et))(hk:lz P kt K)(he:Tp P et agg size bytes (.int .i64 0))(hx:ev f x=v)(hm:Md γ J w v F D)(hy:ev f y=u)(hu:u=Ky.val k)
   (hn:∀w' s,bv J γ w γ w'->ow γ J w' v F (if k∈D then D else D++[k]) s k->N (.tuple (List.toArray [.int .i64 (F k),.int .i64 s])) w'):eZ P ⟨dst,.mapEntry t x y,ty,pos,after,g⟩ f w N:=by
 obtain⟨r,es,clock,rfl,hJ,hb,hok,rfl,rfl⟩:=hm
 obtain⟨q,hi,_,_,hz⟩:=he.info
 subst hu
 have hf:=hk.find k (es.map ch) (es.map (·.key)) w (by simp[ch,Function.comp_def])
 rw[g0] at hf
 cases h:(es.map (·.key)).findIdx? (· =k) with
 |none=>
   rw[h] at hf
   have hnk:∀e∈es,e.key≠k:=λe he=>by
     have:=List.findIdx?_eq_none_iff.1 h (e.key) (List.mem_map_of_mem he)
     simpa using this
   have h0:dM es k=0:=by
     have hn:es.find? (λe=>decide (e.key=k))=none:=by
       rw[List.find?_eq_none]
       intro e he
       simpa using hnk e he
     simp[dM,hn]
   refine aQ (v:=.tuple (List.toArray [.int .i64 (dM es k),.int .i64 (clock:Int)])) (w':={w with heap:=w.heap.setIfInBounds r (.map ((es++[(⟨k,0,clock⟩:cw K)]).map ch).toArray (clock+1))}) ?_ ?_
   rotate_left
   · refine hn _ _ (dT γ _ hJ) ⟨r,es++[⟨k,0,clock⟩],clock+1,rfl,hJ,dv hb,⟨?_,?_,?_⟩,?_,by rw[if_neg (λhmm=>by obtain⟨e,he,hke⟩:=List.mem_map.1 hmm;exact hnk e he hke)];simp,es.length,⟨k,0,clock⟩,by simp,rfl,rfl⟩
     rotate_left 3
     · funext k'
       simp only[dM,List.find?_append]
       by_cases hkk:k=k'
       · subst hkk
         have hn:es.find? (λe=>decide (e.key=k))=none:=by
           rw[List.find?_eq_none]
           intro e he
           simpa using hnk e he
         simp[hn]
       · cases es.find? (λe=>decide (e.key=k'))<;>simp[hkk]
     · rw[List.map_append,List.nodup_append]
       refine⟨hok.keys,by simp,λa ha b hb=>?_⟩
       obtain⟨e,he,rfl⟩:=List.mem_map.1 ha
       have:b=k:=by simpa using hb
       subst this;exact hnk e he
     · rw[List.map_append,List.nodup_append]
       refine⟨hok.born,by simp,λa ha b hb=>?_⟩
       obtain⟨e,he,rfl⟩:=List.mem_map.1 ha
       have:b=clock:=by simpa using hb
       subst this;exact Nat.ne_of_lt (hok.lt e he)
     · intro e he
       rcases List.mem_append.1 he with h|h
       · exact Nat.lt_succ_of_lt (hok.lt e h)
       · obtain rfl:=List.mem_singleton.1 h;exact Nat.lt_succ_self _
   · simp[execOp,hx,hy,Instr.mapEntry,aT ht,bS hb,hk.check,hf,dJ hi hz,cO hb,h0,ch,goInt]
 |some i=>
   rw[h] at hf
   obtain⟨hil,hke,_⟩:=List.findIdx?_eq_some_iff_getElem.1 h
   have hi':i<es.length:=by simpa using hil
   have hke':es[i].key=k:=by simpa using hke
   have hsame:(es.map ch).modify i (λe=>{e with key:=Ky.val k})=es.map ch:=by
     apply List.ext_getElem?
     intro j
     rw[List.getElem?_modify]
     by_cases hij:i=j
     · subst hij;simp[hi',ch,hke']
     · simp[hij]
   refine aQ (v:=.tuple (List.toArray [.int .i64 (dM es k),.int .i64 ((es[i].born:Nat):Int)])) (w':={w with heap:=w.heap.setIfInBounds r (.map (es.map ch).toArray clock)}) ?_
     (hn _ _ (dT γ _ hJ) ⟨r,es,clock,rfl,hJ,dv hb,hok,rfl,by rw[if_pos (by rw[<-hke'];exact List.mem_map_of_mem (List.getElem_mem hi'))],i,es[i],by simp,hke',rfl⟩)
   have hkb:=hk.bits k
   have hold:(Instr.keyThatStays (Ky.val k) (Ky.val k)).run P w= .ok (Ky.val k) w:=by simp[Instr.keyThatStays,hkb]
   simp[execOp,hx,hy,Instr.mapEntry,aT ht,bS hb,hk.check,hf,hi',ch,hke',hold,cO hb,goInt]
   rw[hsame]
theorem dK{γ:aG}{J:cj->Prop}{v:Value}{F:K->Int}{D:List K}{s m:Int}{k:K}(hx:ev f x=v)(hm:ow γ J w v F D s k)(hy:ev f y= .int .i64 s)(hz:ev f z= .int .i64 m)
   (hn:∀w',bv J γ w γ w'->Md γ J w' v (λk'=>if k'=k then m else F k') D->N undef w'):eZ P ⟨dst,.entryStore t x y z,ty,pos,after,g⟩ f w N:=by
 obtain⟨r,es,clock,rfl,hJ,hb,hok,rfl,rfl,i,e,hie,rfl,rfl⟩:=hm
 have hi':i<es.length:=(List.getElem?_eq_some_iff.1 hie).1
 have hei:es[i]=e:=(List.getElem?_eq_some_iff.1 hie).2
 have hfi:((es.map ch).toArray.findIdx? (λq=>(q.born:Int)==(e.born:Int)))=some i:=by
   rw[List.findIdx?_toArray,List.findIdx?_eq_some_iff_getElem]
   refine⟨by simpa using hi',by simp[ch,hei],λj hj=>?_⟩
   have hj':j<es.length:=by omega
   have hne:es[j].born≠e.born:=λh=>by
     have h1:(es.map (·.born))[j]'(by simpa using hj')=(es.map (·.born))[i]'(by simpa using hi'):=by simp[hei,h]
     have:=(List.getElem_inj hok.born).1 h1
     omega
   simp[ch]
   omega
 have hmod:(es.map ch).modify i (λq=>{q with val:=.int .i64 m})=(es.modify i (λq=>{q with val:=m})).map ch:=by
   apply List.ext_getElem?
   intro j
   rw[List.getElem?_modify,List.getElem?_map,List.getElem?_map,List.getElem?_modify]
   by_cases hij:i=j
   · subst hij;simp[hi',ch]
   · simp[hij]
 have hkeys:(es.modify i (λq=>{q with val:=m})).map (·.key)=es.map (·.key):=by
   apply List.ext_getElem?
   intro j
   rw[List.getElem?_map,List.getElem?_map,List.getElem?_modify]
   by_cases hij:i=j
   · subst hij;simp[hi']
   · simp[hij]
 have hborn:(es.modify i (λq=>{q with val:=m})).map (·.born)=es.map (·.born):=by
   apply List.ext_getElem?
   intro j
   rw[List.getElem?_map,List.getElem?_map,List.getElem?_modify]
   by_cases hij:i=j
   · subst hij;simp[hi']
   · simp[hij]
 refine fC (w':={w with heap:=w.heap.setIfInBounds r (.map ((es.modify i (λq=>{q with val:=m})).map ch).toArray clock)}) ?_
   (hn _ (dT γ _ hJ) ⟨r,es.modify i (λq=>{q with val:=m}),clock,rfl,hJ,dv hb,⟨by rw[hkeys];exact hok.keys,by rw[hborn];exact hok.born,λq hq=>?_⟩,?_,hkeys.symm⟩)
 · simp[execOp,hx,hy,hz,Instr.entryStore,bS hb,asInt,asIntOf,hfi,cO hb]
   rw[<-hmod]
 · have:q.born∈es.map (·.born):=by rw[<-hborn];exact List.mem_map_of_mem hq
   obtain⟨q',hq',he'⟩:=List.mem_map.1 this
   rw[<-he'];exact hok.lt q' hq'
 · funext k'
   -- the entry of k' in the changed list
   have hfind:∀(l:List (cw K)),(l.map (·.key)).Nodup->∀j (hj:j<l.length),dM l l[j].key=l[j].val:=by
     intro l hl j hj
     have hf:l.find? (λe=>decide (e.key=l[j].key))=some l[j]:=by
       rw[List.find?_eq_some_iff_getElem]
       refine⟨by simp,j,hj,rfl,λq hq=>?_⟩
       have hne:l[q].key≠l[j].key:=λh=>by
         have h1:(l.map (·.key))[q]'(by simp;omega)=(l.map (·.key))[j]'(by simpa using hj):=by simp[h]
         have:=(List.getElem_inj hl).1 h1
         omega
       simpa using hne
     simp[dM,hf]
   by_cases hkk:k'=e.key
   · subst hkk
     rw[if_pos rfl]
     have h1:=hfind (es.modify i (λq=>{q with val:=m})) (by rw[hkeys];exact hok.keys) i (by simpa using hi')
     simp[List.getElem_modify,hei] at h1
     exact h1.symm
   · rw[if_neg hkk]
     have hfe:(es.modify i (λq=>{q with val:=m})).find? (λe=>decide (e.key=k'))=es.find? (λe=>decide (e.key=k')):=by
       have hgen:∀(l:List (cw K)) (i:Nat) (e:cw K),l[i]? =some e->k'≠e.key->(l.modify i (λq=>{q with val:=m})).find? (λe=>decide (e.key=k'))=l.find? (λe=>decide (e.key=k')):=by
         intro l
         induction l with
         |nil=>intro i e h;simp at h
         |cons a l ih=>
           intro i e h hne
           cases i with
           |zero=>
             obtain rfl:a=e:=by simpa using h
             have:decide (a.key=k')=false:=by simpa using λh=>hne h.symm
             simp[List.find?_cons,this]
           |succ i=>
             have h':l[i]? =some e:=by simpa using h
             simp only[List.modify_succ_cons,List.find?_cons,ih i e h' hne]
       exact hgen es i e hie hkk
     simp[dM,hfe]
end
end TL
namespace TL
open Go
variable{K:Type}[DecidableEq K][Ky K]
theorem nS{es:List (cw K)}{m:Int}(hn:(es.map (·.key)).Nodup){i:Nat}{e:cw K}(hie:es[i]? =some e):dM (es.modify i (λq=>{q with val:=m}))=λk'=>if k'=e.key then m else dM es k':=by
 have hi':i<es.length:=(List.getElem?_eq_some_iff.1 hie).1
 have hei:es[i]=e:=(List.getElem?_eq_some_iff.1 hie).2
 have hkeys:(es.modify i (λq=>{q with val:=m})).map (·.key)=es.map (·.key):=by
   apply List.ext_getElem?
   intro j
   rw[List.getElem?_map,List.getElem?_map,List.getElem?_modify]
   by_cases hij:i=j
   · subst hij;simp[hi']
   · simp[hij]
 funext k'
 have hfind:∀(l:List (cw K)),(l.map (·.key)).Nodup->∀j (hj:j<l.length),dM l l[j].key=l[j].val:=by
   intro l hl j hj
   have hf:l.find? (λe=>decide (e.key=l[j].key))=some l[j]:=by
     rw[List.find?_eq_some_iff_getElem]
     refine⟨by simp,j,hj,rfl,λq hq=>?_⟩
     have hne:l[q].key≠l[j].key:=λh=>by
       have h1:(l.map (·.key))[q]'(by simp;omega)=(l.map (·.key))[j]'(by simpa using hj):=by simp[h]
       have:=(List.getElem_inj hl).1 h1
       omega
     simpa using hne
   simp[dM,hf]
 by_cases hkk:k'=e.key
 · subst hkk
   rw[if_pos rfl]
   have h1:=hfind (es.modify i (λq=>{q with val:=m})) (by rw[hkeys];exact hn) i (by simpa using hi')
   simp[List.getElem_modify,hei] at h1
   exact h1
 · rw[if_neg hkk]
   have hfe:(es.modify i (λq=>{q with val:=m})).find? (λe=>decide (e.key=k'))=es.find? (λe=>decide (e.key=k')):=by
     have hgen:∀(l:List (cw K)) (i:Nat) (e:cw K),l[i]? =some e->k'≠e.key->(l.modify i (λq=>{q with val:=m})).find? (λe=>decide (e.key=k'))=l.find? (λe=>decide (e.key=k')):=by
       intro l
       induction l with
       |nil=>intro i e h;simp at h
       |cons a l ih=>
         intro i e h hne
         cases i with
         |zero=>
           obtain rfl:a=e:=by simpa using h
           have:decide (a.key=k')=false:=by simpa using λh=>hne h.symm
           simp[List.find?_cons,this]
         |succ i=>
           have h':l[i]? =some e:=by simpa using h
           simp only[List.modify_succ_cons,List.find?_cons,ih i e h' hne]
     exact hgen es i e hie hkk
   simp[dM,hfe]
section
variable{P:Program}{f:Fr}{w:World}{dst:Option Tmp}{ty:TypeId}{pos:String}{after:Array Edge}{g:Option (Nat×Bool)}{t:TypeId}{x y z:Operand}{N:Value->World->Prop}
theorem fx{γ:aG}{J:cj->Prop}{v u:Value}{F:K->Int}{D:List K}{kt et:Nat}{m:Int}(k:K)(ht:P.underlying t=some (.map kt et))(hk:lz P kt K)(hx:ev f x=v)(hm:Md γ J w v F D)(hy:ev f y=u)(hu:u=Ky.val k)(hz:ev f z= .int .i64 m)
   (hn:∀w',bv J γ w γ w'->Md γ J w' v (λk'=>if k'=k then m else F k') (if k∈D then D else D++[k])->N undef w'):eZ P ⟨dst,.mapUpdate t x y z,ty,pos,after,g⟩ f w N:=by
 obtain⟨r,es,clock,rfl,hJ,hb,hok,rfl,rfl⟩:=hm
 subst hu
 have hf:=hk.find k (es.map ch) (es.map (·.key)) w (by simp[ch,Function.comp_def])
 rw[g0] at hf
 cases h:(es.map (·.key)).findIdx? (· =k) with
 |none=>
   rw[h] at hf
   have hnk:∀e∈es,e.key≠k:=λe he=>by
     have:=List.findIdx?_eq_none_iff.1 h (e.key) (List.mem_map_of_mem he)
     simpa using this
   have hnD:k∉es.map (·.key):=λhmm=>by obtain⟨e,he,hke⟩:=List.mem_map.1 hmm;exact hnk e he hke
   refine fC (w':={w with heap:=w.heap.setIfInBounds r (.map ((es++[(⟨k,m,clock⟩:cw K)]).map ch).toArray (clock+1))}) ?_
     (hn _ (dT γ _ hJ) ⟨r,es++[⟨k,m,clock⟩],clock+1,rfl,hJ,dv hb,⟨?_,?_,?_⟩,?_,by rw[if_neg hnD];simp⟩)
   · simp[execOp,hx,hy,hz,Instr.mapUpdate,aT ht,bS hb,hk.check,hf,cO hb,ch]
   · rw[List.map_append,List.nodup_append]
     refine⟨hok.keys,by simp,λa ha b hb=>?_⟩
     have:b=k:=by simpa using hb
     subst this;intro e;subst e;exact hnD ha
   · rw[List.map_append,List.nodup_append]
     refine⟨hok.born,by simp,λa ha b hb=>?_⟩
     obtain⟨e,he,rfl⟩:=List.mem_map.1 ha
     have:b=clock:=by simpa using hb
     subst this;exact Nat.ne_of_lt (hok.lt e he)
   · intro e he
     rcases List.mem_append.1 he with h|h
     · exact Nat.lt_succ_of_lt (hok.lt e h)
     · obtain rfl:=List.mem_singleton.1 h;exact Nat.lt_succ_self _
   · funext k'
     simp only[dM,List.find?_append]
     by_cases hkk:k'=k
     · subst hkk
       have hn:es.find? (λe=>decide (e.key=k'))=none:=by
         rw[List.find?_eq_none]
         intro e he
         simpa using hnk e he
       simp[hn]
     · have hkk':¬k=k':=λe=>hkk e.symm
       rw[if_neg hkk]
       cases es.find? (λe=>decide (e.key=k'))<;>simp[hkk']
 |some i=>
   rw[h] at hf
   obtain⟨hil,hke,_⟩:=List.findIdx?_eq_some_iff_getElem.1 h
   have hi':i<es.length:=by simpa using hil
   have hke':es[i].key=k:=by simpa using hke
   have hmod:(es.map ch).modify i (λq=>{q with key:=Ky.val k,val:=.int .i64 m})=(es.modify i (λq=>{q with val:=m})).map ch:=by
     apply List.ext_getElem?
     intro j
     rw[List.getElem?_modify,List.getElem?_map,List.getElem?_map,List.getElem?_modify]
     by_cases hij:i=j
     · subst hij;simp[hi',ch,hke']
     · simp[hij]
   have hkeys:(es.modify i (λq=>{q with val:=m})).map (·.key)=es.map (·.key):=by
     apply List.ext_getElem?
     intro j
     rw[List.getElem?_map,List.getElem?_map,List.getElem?_modify]
     by_cases hij:i=j
     · subst hij;simp[hi']
     · simp[hij]
   have hborn:(es.modify i (λq=>{q with val:=m})).map (·.born)=es.map (·.born):=by
     apply List.ext_getElem?
     intro j
     rw[List.getElem?_map,List.getElem?_map,List.getElem?_modify]
     by_cases hij:i=j
     · subst hij;simp[hi']
     · simp[hij]
   have hkb:=hk.bits k
   have hold:(Instr.keyThatStays (Ky.val k) (Ky.val k)).run P w= .ok (Ky.val k) w:=by simp[Instr.keyThatStays,hkb]
   refine fC (w':={w with heap:=w.heap.setIfInBounds r (.map ((es.modify i (λq=>{q with val:=m})).map ch).toArray clock)}) ?_
     (hn _ (dT γ _ hJ) ⟨r,es.modify i (λq=>{q with val:=m}),clock,rfl,hJ,dv hb,⟨by rw[hkeys];exact hok.keys,by rw[hborn];exact hok.born,λq hq=>?_⟩,?_,by rw[if_pos (by rw[<-hke'];exact List.mem_map_of_mem (List.getElem_mem hi')),hkeys]⟩)
   · simp[execOp,hx,hy,hz,Instr.mapUpdate,aT ht,bS hb,hk.check,hf,hi',ch,hke',hold,cO hb]
     rw[<-hmod]
   · have:q.born∈es.map (·.born):=by rw[<-hborn];exact List.mem_map_of_mem hq
     obtain⟨q',hq',he'⟩:=List.mem_map.1 this
     rw[<-he'];exact hok.lt q' hq'
   · rw[nS hok.keys (e:=es[i]) (by simp),hke']
end
end TL
/-
  TlShort: short names for the commonest steps (used by packed claims only).
  By an AI agent.
-/
set_option linter.all false
namespace TL
open Go
abbrev vi(x:Int):Value:=Value.int .i64 x
abbrev vp(b o:Nat):Value:=Value.pointer (some ⟨b,o,none⟩)
abbrev vn:Value:=Value.slice none 0 0
abbrev vt(l:List Value):Value:=Value.tuple (List.toArray l)
abbrev vg(l:List Value):Value:=Value.agg (List.toArray l)
theorem cg(L:List Nat){γ γ':aG}{w w':World}(h:bv (inl L) γ w γ' w'):bv (inl L) γ w γ' w':=h
theorem dt{p:Prop}[Decidable p](h:p):decide p=true:=decide_eq_true h
theorem df{p:Prop}[Decidable p](h:¬p):decide p=false:=decide_eq_false h
section
variable{P:Program}{all rest:List Oper}{K:Fr->World->Prop}{f:Fr}{w w':World}{x:Operand}
variable{dst:Option Tmp}{op:Op}{ty:TypeId}{pos:String}{after:Array Edge}{g:Option (Nat×Bool)}{o:Oper}
theorem lv(v:Value)(hw:cM all ⟨dst,op,ty,pos,after,g⟩ f=true)(h:(execOp (ev f) ⟨dst,op,ty,pos,after,g⟩).run P w= .ok (.value v) w')(hk:iH P all rest K (fM f dst v) w'):iH P all (⟨dst,op,ty,pos,after,g⟩::rest) K f w:=k5 hw h hk
theorem lx{v:Value}(h:(execOp (ev f) ⟨dst,op,ty,pos,after,none⟩).run P w= .ok (.value v) w')(hk:iH P all rest K (fM f dst v) w'):iH P all (⟨dst,op,ty,pos,after,none⟩::rest) K f w:=k5 rfl h hk
theorem lw(v:Value)(h:(execOp (ev f) ⟨dst,op,ty,pos,after,none⟩).run P w= .ok (.value v) w')(hk:iH P all rest K (fM f dst v) w'):iH P all (⟨dst,op,ty,pos,after,none⟩::rest) K f w:=k5 rfl h hk
theorem mv(v:Value)(hk:iH P all rest K (fM f dst v) w)(h:ev f x=v:=by exact rfl):iH P all (⟨dst,.move x,ty,pos,after,none⟩::rest) K f w:=k5 rfl (au h) hk
theorem ma(v:Value)(hk:iH P all rest K (fM f dst v) w)(h:ev f x=v:=by exact rfl):iH P all (⟨dst,.assign x,ty,pos,after,none⟩::rest) K f w:=k5 rfl (cG h) hk
theorem mi(v:Int)(hk:iH P all rest K (fM f dst (.int .i64 v)) w)(h:ev f x= .int .i64 v:=by exact rfl):iH P all (⟨dst,.move x,ty,pos,after,none⟩::rest) K f w:=k5 rfl (au h) hk
theorem ai(v:Int)(hk:iH P all rest K (fM f dst (.int .i64 v)) w)(h:ev f x= .int .i64 v:=by exact rfl):iH P all (⟨dst,.assign x,ty,pos,after,none⟩::rest) K f w:=k5 rfl (cG h) hk
theorem mz{v:Value}(h:ev f x=v)(hk:iH P all rest K (fM f dst v) w):iH P all (⟨dst,.move x,ty,pos,after,none⟩::rest) K f w:=k5 rfl (au h) hk
theorem lo(h:eZ P ⟨dst,op,ty,pos,after,none⟩ f w (λv w'=>iH P all rest K (fM f dst v) w')):iH P all (⟨dst,op,ty,pos,after,none⟩::rest) K f w:=cA rfl h
theorem wy{j:Nat}{x:Bool}{d:Nat}{b:Bool}(hx:b=x)(hg:o.guard=some (j,x):=by exact rfl)(hj:(all[j]?).bind (·.dst)=some d:=by exact rfl)(hb:f d= .bool b:=by exact rfl):cM all o f=true:=vX hg hj hb hx
theorem wn{j:Nat}{x:Bool}{d:Nat}{b:Bool}(hx:b= !x)(hg:o.guard=some (j,x):=by exact rfl)(hj:(all[j]?).bind (·.dst)=some d:=by exact rfl)(hb:f d= .bool b:=by exact rfl):cM all o f=false:=wb hg hj hb hx
variable{C:World->Prop}{KQ:Fr->Prop}
theorem qv(v:Value)(h:∀w,C w->(execOp (ev f) ⟨dst,op,ty,pos,after,none⟩).run P w= .ok (.value v) w)(hk:lG P all C rest KQ (fM f dst v)):lG P all C (⟨dst,op,ty,pos,after,none⟩::rest) KQ f:=dO rfl h hk
theorem qx{v:Value}(h:∀w,C w->(execOp (ev f) ⟨dst,op,ty,pos,after,none⟩).run P w= .ok (.value v) w)(hk:lG P all C rest KQ (fM f dst v)):lG P all C (⟨dst,op,ty,pos,after,none⟩::rest) KQ f:=dO rfl h hk
theorem qm(v:Value)(hk:lG P all C rest KQ (fM f dst v))(h:ev f x=v:=by exact rfl):lG P all C (⟨dst,.move x,ty,pos,after,none⟩::rest) KQ f:=dO rfl (λ_ _=>au h) hk
theorem qz{v:Value}(h:ev f x=v)(hk:lG P all C rest KQ (fM f dst v)):lG P all C (⟨dst,.move x,ty,pos,after,none⟩::rest) KQ f:=dO rfl (λ_ _=>au h) hk
end
section
variable{P:Program}{n:Nat}{l:List Oper}{S:World->Prop}{K:Fr->World->Prop}{f:Fr}{w:World}{done:List Nat}{fuel:Nat}{qs:List Nat}
variable{dst:Option Tmp}{op:Op}{ty:TypeId}{pos:String}{after:Array Edge}{g:Option (Nat×Bool)}{v:Value}
theorem ht(i:Nat)(hi:l[i]? =some ⟨dst,op,ty,pos,after,none⟩)(hS:S w)(h:∀w,S w->(execOp (ev f) ⟨dst,op,ty,pos,after,none⟩).run P w= .ok (.value v) w)(hk:rq P n l S K fuel (i::done) (fM f dst v) w)(hn:fV l=true:=by kernel_rfl)(hc:(fG l done i&&i7 l done i&&jY n ⟨dst,op,ty,pos,after,none⟩)=true:=by kernel_rfl):rq P n l S K (fuel+1) done f w:=vY i hi hn hc rfl hS h hk
theorem xv(i:Nat)(M:List Nat)(hi:l[i]? =some ⟨dst,op,ty,pos,after,none⟩)(h:(execOp (ev f) ⟨dst,op,ty,pos,after,none⟩).run P w= .ok (.value v) w)(hk:iW P n l qs K fuel (i::done) (fM f dst v) w)(hn:fV l=true:=by kernel_rfl)(hc:(qs.contains i&&fG l done i&&i7 l done i&&mF l qs done M i&&jY n ⟨dst,op,ty,pos,after,none⟩)=true:=by kernel_rfl):iW P n l qs K (fuel+1) done f w:=db i M hi hn hc rfl h hk
theorem xh(i:Nat)(M:List Nat)(hi:l[i]? =some ⟨dst,op,ty,pos,after,none⟩)(h:∀w',dU w.heap.size w w'->(execOp (ev f) ⟨dst,op,ty,pos,after,none⟩).run P w'= .ok (.value v) w')(hk:iW P n l qs K fuel (i::done) (fM f dst v) w)(hn:fV l=true:=by kernel_rfl)(hc:(qs.contains i&&fG l done i&&i7 l done i&&mR l qs done M i&&jY n ⟨dst,op,ty,pos,after,none⟩)=true:=by kernel_rfl):iW P n l qs K (fuel+1) done f w:=vM i M hi hn hc rfl h hk
theorem xp(i:Nat)(hi:l[i]? =some ⟨dst,op,ty,pos,after,none⟩)(h:∀w,(execOp (ev f) ⟨dst,op,ty,pos,after,none⟩).run P w= .ok (.value v) w)(hk:iW P n l qs K fuel (i::done) (fM f dst v) w)(hn:fV l=true:=by kernel_rfl)(hc:(qs.contains i&&fG l done i&&i7 l done i&&jY n ⟨dst,op,ty,pos,after,none⟩)=true:=by kernel_rfl):iW P n l qs K (fuel+1) done f w:=bI i hi hn hc rfl h hk
end
section
variable{γ γ':aG}{w w':World}{v:Value}{j k:Nat}{L:List Nat}
theorem bm.ca{w0:World}(h:bm w0 γ w)(hc:bv (inl L) γ w γ' w')(hj:L.contains 0=false:=by exact rfl):bm w0 γ' w':=h.chg hc (cS hj)
theorem bm.ce{w0:World}(h:bm w0 γ w)(hc:bv (is k) γ w γ' w')(hj:Nat.beq 0 k=false:=by exact rfl):bm w0 γ' w':=h.chg hc (fS hj)
theorem bm.cn{w0:World}(h:bm w0 γ w)(hc:bv no γ w γ' w'):bm w0 γ' w':=h.chg hc (cH _)
theorem Bx.ca{b:Nat}{cs:List Value}(h:Bx γ (is j) w b cs)(hc:bv (inl L) γ w γ' w')(hj:L.contains j=false:=by exact rfl):Bx γ' (is j) w' b cs:=h.chg hc (cS hj)
theorem Bx.ce{b:Nat}{cs:List Value}(h:Bx γ (is j) w b cs)(hc:bv (is k) γ w γ' w')(hj:Nat.beq j k=false:=by exact rfl):Bx γ' (is j) w' b cs:=h.chg hc (fS hj)
theorem Bx.cn{J:cj->Prop}{b:Nat}{cs:List Value}(h:Bx γ J w b cs)(hc:bv no γ w γ' w'):Bx γ' J w' b cs:=h.chg hc (cH _)
theorem Sl.ca{α:Type}[Rp α]{xs:List α}(h:Sl γ (is j) w v xs)(hc:bv (inl L) γ w γ' w')(hj:L.contains j=false:=by exact rfl):Sl γ' (is j) w' v xs:=h.chg hc (cS hj)
theorem Sl.ce{α:Type}[Rp α]{xs:List α}(h:Sl γ (is j) w v xs)(hc:bv (is k) γ w γ' w')(hj:Nat.beq j k=false:=by exact rfl):Sl γ' (is j) w' v xs:=h.chg hc (fS hj)
theorem Sl.cn{α:Type}[Rp α]{S:cj->Prop}{xs:List α}(h:Sl γ S w v xs)(hc:bv no γ w γ' w'):Sl γ' S w' v xs:=h.chg hc (cH _)
theorem Ow.ca{α:Type}[Rp α]{xs:List α}(h:Ow γ (is j) (is j) w v xs)(hc:bv (inl L) γ w γ' w')(hj:L.contains j=false:=by exact rfl):Ow γ' (is j) (is j) w' v xs:=h.chg hc (cS hj) (cS hj)
theorem Ow.ce{α:Type}[Rp α]{xs:List α}(h:Ow γ (is j) (is j) w v xs)(hc:bv (is k) γ w γ' w')(hj:Nat.beq j k=false:=by exact rfl):Ow γ' (is j) (is j) w' v xs:=h.chg hc (fS hj) (fS hj)
theorem Ow.cn{α:Type}[Rp α]{J S:cj->Prop}{xs:List α}(h:Ow γ J S w v xs)(hc:bv no γ w γ' w'):Ow γ' J S w' v xs:=h.chg hc (cH _) (cH _)
theorem dF.ca{α:Type}[Rp α]{xs:List (List α)}(h:dF γ j w v xs)(hc:bv (inl L) γ w γ' w')(hj:L.contains j=false:=by exact rfl):dF γ' j w' v xs:=h.chg hc (cS hj)
theorem dF.ce{α:Type}[Rp α]{xs:List (List α)}(h:dF γ j w v xs)(hc:bv (is k) γ w γ' w')(hj:Nat.beq j k=false:=by exact rfl):dF γ' j w' v xs:=h.chg hc (fS hj)
theorem dF.cn{α:Type}[Rp α]{xs:List (List α)}(h:dF γ j w v xs)(hc:bv no γ w γ' w'):dF γ' j w' v xs:=h.chg hc (cH _)
theorem fU.ca{α:Type}[Rp α]{h0:Nat}{xs:List (List α)}(h:fU γ j h0 w v xs)(hc:bv (inl L) γ w γ' w')(hj:L.contains j=false:=by exact rfl):fU γ' j h0 w' v xs:=h.chg hc (cS hj)
theorem fU.ce{α:Type}[Rp α]{h0:Nat}{xs:List (List α)}(h:fU γ j h0 w v xs)(hc:bv (is k) γ w γ' w')(hj:Nat.beq j k=false:=by exact rfl):fU γ' j h0 w' v xs:=h.chg hc (fS hj)
theorem fU.cn{α:Type}[Rp α]{h0:Nat}{xs:List (List α)}(h:fU γ j h0 w v xs)(hc:bv no γ w γ' w'):fU γ' j h0 w' v xs:=h.chg hc (cH _)
def xo(δ g:aG)(w:World)(ren:Nat->Nat):Prop:=(∀{α:Type} [Rp α] {i:Nat} {v:Value} {xs:List α},Ow δ (is i) (is i) w v xs->∀k:Nat,Nat.beq i 0=false->ren i=k->Ow g (is k) (is k) w v xs)/\(∀{α:Type} [Rp α] {i:Nat} {v:Value} {xs:List (List α)},dF δ i w v xs->∀k:Nat,Nat.beq i 0=false->ren i=k->dF g k w v xs)
theorem jL{δ:aG}(γ:aG)(fr:eQ w δ w')(ren:Nat->Nat):∃g,bv no γ w g w'/\xo δ g w' ren:=
 ⟨_,tj fr.below γ δ ren,λh k hi hr=>h.glue fr.col hi hr,λh k hi hr=>h.glue fr.col hi hr⟩
theorem Ow.gl{α:Type}[Rp α]{δ g:aG}{ren:Nat->Nat}{i:Nat}{xs:List α}(h:Ow δ (is i) (is i) w v xs)(G:xo δ g w ren)(k:Nat)(hi:Nat.beq i 0=false:=by exact rfl)(hr:ren i=k:=by exact rfl):Ow g (is k) (is k) w v xs:=G.1 h k hi hr
theorem dF.gl{α:Type}[Rp α]{δ g:aG}{ren:Nat->Nat}{i:Nat}{xs:List (List α)}(h:dF δ i w v xs)(G:xo δ g w ren)(k:Nat)(hi:Nat.beq i 0=false:=by exact rfl)(hr:ren i=k:=by exact rfl):dF g k w v xs:=G.2 h k hi hr
end
section
variable{K:Type}[DecidableEq K][Ky K]
theorem Md.ca{γ γ':aG}{j:Nat}{L:List Nat}{w w':World}{v:Value}{F:K->Int}{D:List K}(h:Md γ (is j) w v F D)(hc:bv (inl L) γ w γ' w')(hj:L.contains j=false:=by exact rfl):Md γ' (is j) w' v F D:=h.chg hc (cS hj)
theorem Md.ce{γ γ':aG}{j k:Nat}{w w':World}{v:Value}{F:K->Int}{D:List K}(h:Md γ (is j) w v F D)(hc:bv (is k) γ w γ' w')(hj:Nat.beq j k=false:=by exact rfl):Md γ' (is j) w' v F D:=h.chg hc (fS hj)
theorem Md.cn{γ γ':aG}{J:cj->Prop}{w w':World}{v:Value}{F:K->Int}{D:List K}(h:Md γ J w v F D)(hc:bv no γ w γ' w'):Md γ' J w' v F D:=h.chg hc (cH _)
theorem ow.ca{γ γ':aG}{j:Nat}{L:List Nat}{w w':World}{v:Value}{F:K->Int}{D:List K}{s:Int}{k:K}(h:ow γ (is j) w v F D s k)(hc:bv (inl L) γ w γ' w')(hj:L.contains j=false:=by exact rfl):ow γ' (is j) w' v F D s k:=h.chg hc (cS hj)
theorem ow.ce{γ γ':aG}{j q:Nat}{w w':World}{v:Value}{F:K->Int}{D:List K}{s:Int}{k:K}(h:ow γ (is j) w v F D s k)(hc:bv (is q) γ w γ' w')(hj:Nat.beq j q=false:=by exact rfl):ow γ' (is j) w' v F D s k:=h.chg hc (fS hj)
theorem ow.cn{γ γ':aG}{J:cj->Prop}{w w':World}{v:Value}{F:K->Int}{D:List K}{s:Int}{k:K}(h:ow γ J w v F D s k)(hc:bv no γ w γ' w'):ow γ' J w' v F D s k:=h.chg hc (cH _)
theorem Mp.ca{γ γ':aG}{j:Nat}{L:List Nat}{w w':World}{v:Value}{F:K->Int}(h:Mp γ (is j) w v F)(hc:bv (inl L) γ w γ' w')(hj:L.contains j=false:=by exact rfl):Mp γ' (is j) w' v F:=h.chg hc (cS hj)
theorem Mp.ce{γ γ':aG}{j k:Nat}{w w':World}{v:Value}{F:K->Int}(h:Mp γ (is j) w v F)(hc:bv (is k) γ w γ' w')(hj:Nat.beq j k=false:=by exact rfl):Mp γ' (is j) w' v F:=h.chg hc (fS hj)
theorem Mp.cn{γ γ':aG}{J:cj->Prop}{w w':World}{v:Value}{F:K->Int}(h:Mp γ J w v F)(hc:bv no γ w γ' w'):Mp γ' J w' v F:=h.chg hc (cH _)
theorem ov.ca{γ γ':aG}{j:Nat}{L:List Nat}{w w':World}{v:Value}{F:K->Int}{s:Int}{k:K}(h:ov γ (is j) w v F s k)(hc:bv (inl L) γ w γ' w')(hj:L.contains j=false:=by exact rfl):ov γ' (is j) w' v F s k:=h.chg hc (cS hj)
theorem ov.ce{γ γ':aG}{j q:Nat}{w w':World}{v:Value}{F:K->Int}{s:Int}{k:K}(h:ov γ (is j) w v F s k)(hc:bv (is q) γ w γ' w')(hj:Nat.beq j q=false:=by exact rfl):ov γ' (is j) w' v F s k:=h.chg hc (fS hj)
theorem ov.cn{γ γ':aG}{J:cj->Prop}{w w':World}{v:Value}{F:K->Int}{s:Int}{k:K}(h:ov γ J w v F s k)(hc:bv no γ w γ' w'):ov γ' J w' v F s k:=h.chg hc (cH _)
end
end TL
/-
  TlFace: half-edges' next ones, faces.
  By an AI agent.
-/
set_option linter.all false
namespace TL
end TL
namespace TL
structure dp(out:List (List Int))(g:bh)(k:Nat):Prop where
  len:(out.length:Int)=g.1
  at_:∀v,0<=v->v<g.1->gI out v=gK g v k
theorem dp.start{g:bh}(h:0<=g.1):dp (List.replicate g.1.toNat []) g 0:=⟨by simp;omega,λv h0 h1=>by rw[fZ h0 (by omega)];simp[gK]⟩
theorem dp.next{out:List (List Int)}{g:bh}{k:Nat}(h:dp out g k)(h1:0<=(gI g.2 k).1)(h2:(gI g.2 k).1<g.1)(h3:0<=(gI g.2 k).2)(h4:(gI g.2 k).2<g.1){a b:Int}(ha:a=2*(k:Int))(hb:b=2*(k:Int)+1):
   dp ((out.set (gI g.2 k).1.toNat (gI out (gI g.2 k).1++[a])).set (gI g.2 k).2.toNat (gI (out.set (gI g.2 k).1.toNat (gI out (gI g.2 k).1++[a])) (gI g.2 k).2++[b])) g (k+1):=by
 have hl:=h.len
 refine⟨by simpa using hl,λv h5 h6=>?_⟩
 rw[c5 h3 (by simp;omega) h5,c5 h1 (by omega) h3,c5 h1 (by omega) h5,oV,h.at_ _ h1 h2,h.at_ _ h3 h4,h.at_ v h5 h6,ha,hb]
 by_cases e2:v=(gI g.2 (k:Int)).2
 · by_cases e1:v=(gI g.2 (k:Int)).1
   · rw[<-e1,<-e2];simp
   · have e3:¬(gI g.2 (k:Int)).2=(gI g.2 (k:Int)).1:=λh=>e1 (e2.trans h)
     have e6:¬(gI g.2 (k:Int)).1=(gI g.2 (k:Int)).2:=λh=>e3 h.symm
     simp[e2,e3,e6]
 · have e4:¬(gI g.2 (k:Int)).2=v:=λh=>e2 h.symm
   by_cases e1:v=(gI g.2 (k:Int)).1
   · rw[if_neg e2,if_pos e1,if_neg e4,if_pos e1.symm,<-e1];simp
   · have e5:¬(gI g.2 (k:Int)).1=v:=λh=>e1 h.symm
     rw[if_neg e2,if_neg e1,if_neg e4,if_neg e5];simp
end TL
namespace TL
end TL
/-
  TlWalk: going through a net breadth first, and its components, as the program does.
  By an AI agent.
-/
set_option linter.all false
namespace TL
def bC(g:bh)(h:Int):Int:=pI (gI g.2 (h/2)) (1-h%2)
theorem gF{g:bh}(hm:aV g){h:Int}(h0:0<=h)(h1:h<2*(g.2.length:Int)):0<=bC g h/\bC g h<g.1:=by
 have hok:=hm.2.2.2 _ (bF (xs:=g.2) (i:=h/2) (by omega) (by omega))
 unfold nJ at hok
 unfold bC pI
 split<;>omega
structure Bf where
 order:List Int
 by_:List Int
 far:List Int
def eU(g:bh)(v:Int)(s:Bf)(h:Int):Bf:=
 if gI s.far (bC g h)<0 then⟨s.order++[bC g h],s.by_.set (bC g h).toNat h,s.far.set (bC g h).toNat (gI s.far v+1)⟩ else s
def lf(g:bh)(v:Int)(s:Bf):Bf:=(dQ g v).foldl (eU g v) s
def k8(g:bh):Nat->Nat->Bf->Bf
 |0,_,s=>s
 |n+1,i,s=>if i<s.order.length then k8 g n (i+1) (lf g (gI s.order (i:Int)) s) else s
def eo(g:bh)(s0:Int):Bf:=⟨[s0],List.replicate g.1.toNat (-1),(List.replicate g.1.toNat (-1)).set s0.toNat 0⟩
def cF(g:bh)(s0:Int):Bf:=k8 g g.1.toNat 0 (eo g s0)
structure iv(g:bh)(s:Bf):Prop where
 far:(s.far.length:Int)=g.1
 by_:(s.by_.length:Int)=g.1
 nodup:s.order.Nodup
 rng:∀x∈s.order,0<=x/\x<g.1
 iff:∀w,0<=w->w<g.1->(gI s.far w<0↔w∉s.order)
 le:∀w,0<=w->w<g.1->gI s.far w<=s.order.length
theorem iv.start{g:bh}{s0:Int}(h0:0<=s0)(h1:s0<g.1):iv g (eo g s0):=by
 refine⟨by simp[eo];omega,by simp[eo];omega,by simp[eo],by simp[eo];omega,λw hw0 hw1=>?_,λw hw0 hw1=>?_⟩
 · simp only[eo]
   rw[c5 h0 (by simp;omega) hw0]
   by_cases e:w=s0
   · subst e;simp
   · rw[if_neg e,fZ hw0 (by omega)];simp[e]
 · simp only[eo]
   rw[c5 h0 (by simp;omega) hw0]
   by_cases e:w=s0
   · subst e;simp
   · rw[if_neg e,fZ hw0 (by omega)];simp
theorem iv.len{g:bh}{s:Bf}(h:iv g s)(hg:0<=g.1):(s.order.length:Int)<=g.1:=sU hg h.nodup h.rng
theorem iv.one{g:bh}{s:Bf}{v h:Int}(hs:iv g s)(hv:v∈s.order)(h0:0<=bC g h)(h1:bC g h<g.1):iv g (eU g v s h):=by
 obtain⟨hv0,hv1⟩:=hs.rng v hv
 unfold eU
 by_cases c:gI s.far (bC g h)<0
 · rw[if_pos c]
   have hn:=(hs.iff _ h0 h1).1 c
   have hf:=hs.far
   have hlv:=hs.le v hv0 hv1
   refine⟨by simpa using hs.far,by simpa using hs.by_,?_,λx hx=>?_,λw hw0 hw1=>?_,λw hw0 hw1=>?_⟩
   · rw[List.nodup_append]
     refine⟨hs.nodup,by simp,λa ha b hb=>?_⟩
     obtain rfl:=List.mem_singleton.1 hb
     intro e;subst e;exact hn ha
   · rcases List.mem_append.1 hx with hx|hx
     · exact hs.rng x hx
     · obtain rfl:=List.mem_singleton.1 hx;exact⟨h0,h1⟩
   · simp only
     rw[c5 h0 (by omega) hw0]
     by_cases e:w=bC g h
     · subst e
       rw[if_pos rfl]
       have hx:¬gI s.far v<0:=λhh=>(hs.iff v hv0 hv1).1 hh hv
       constructor
       · intro hh;omega
       · intro hh;simp at hh
     · rw[if_neg e,hs.iff w hw0 hw1];simp[e]
   · simp only
     rw[c5 h0 (by omega) hw0]
     by_cases e:w=bC g h
     · subst e;rw[if_pos rfl];simp;omega
     · rw[if_neg e]
       have:=hs.le w hw0 hw1
       simp;omega
 · rw[if_neg c];exact hs
end TL
namespace TL
theorem eP{g:bh}{v h:Int}(hh:h∈dQ g v):(0<=h/\h<2*(g.2.length:Int))/\aK g h=v:=by
 unfold dQ gK at hh
 obtain⟨h1,h2⟩:=List.mem_filter.1 hh
 obtain⟨k,hk,rfl⟩:=List.mem_map.1 h1
 have:=List.mem_range.1 hk
 exact⟨by omega,by simpa using h2⟩
theorem lV(g:bh)(v:Int)(s:Bf)(h:Int):∃t,(eU g v s h).order=s.order++t:=by
 unfold eU
 split
 · exact⟨_,rfl⟩
 · exact⟨[],by simp⟩
structure di(s:Bf)(g:bh)(s0:Bf)(v:Int)(j:Nat):Prop where
  eq:s=((dQ g v).take j).foldl (eU g v) s0
  ok:iv g s
  mem:v∈s.order
  pre:∃t,s.order=s0.order++t
theorem di.start{g:bh}{s0:Bf}{v:Int}(h:iv g s0)(hv:v∈s0.order):di s0 g s0 v 0:=⟨rfl,h,hv,[],by simp⟩
theorem di.next{s s0:Bf}{g:bh}{v:Int}{j:Nat}(h:di s g s0 v j)(hm:aV g)(hj:(j:Int)<(dQ g v).length):di (eU g v s (gI (dQ g v) (j:Int))) g s0 v (j+1):=by
 have hin:=(eP (bF (xs:=dQ g v) (i:=(j:Int)) (by omega) hj)).1
 have ht:=gF hm hin.1 hin.2
 obtain⟨t,ht2⟩:=h.pre
 obtain⟨t',ht3⟩:=lV g v s (gI (dQ g v) (j:Int))
 refine⟨by rw[c8 hj,List.foldl_append,<-h.eq];rfl,h.ok.one h.mem ht.1 ht.2,by rw[ht3];simp[h.mem],t++t',by rw[ht3,ht2,List.append_assoc]⟩
theorem di.done{s s0:Bf}{g:bh}{v:Int}{j:Nat}(h:di s g s0 v j)(hj:¬(j:Int)<(dQ g v).length):s=lf g v s0:=by
 rw[h.eq,List.take_of_length_le (by omega)];rfl
structure f8(s:Bf)(g:bh)(s0:Int)(i:Nat):Prop where
  ok:iv g s
  le:(i:Int)<=s.order.length
  eq:k8 g (g.1.toNat-i) i s=cF g s0
theorem f8.start{g:bh}{s0:Int}(h0:0<=s0)(h1:s0<g.1):f8 (eo g s0) g s0 0:=⟨iv.start h0 h1,by omega,rfl⟩
theorem f8.next{s s':Bf}{g:bh}{s0:Int}{i j:Nat}(h:f8 s g s0 i)(hg:0<=g.1)(hi:(i:Int)<s.order.length)(hr:di s' g s (gI s.order (i:Int)) j)(hj:¬(j:Int)<(dQ g (gI s.order (i:Int))).length):f8 s' g s0 (i+1):=by
 obtain⟨t,ht⟩:=hr.pre
 have hl:=h.ok.len hg
 refine⟨hr.ok,by rw[ht];simp;omega,?_⟩
 rw[<-h.eq,show g.1.toNat-i=(g.1.toNat-(i+1))+1 by omega]
 simp only[k8]
 rw[if_pos (by omega),hr.done hj]
theorem f8.done{s:Bf}{g:bh}{s0:Int}{i:Nat}(h:f8 s g s0 i)(hi:¬(i:Int)<s.order.length):s=cF g s0:=by
 rw[<-h.eq]
 cases g.1.toNat-i with
 |zero=>rfl
 |succ n=>simp only[k8];rw[if_neg (by omega)]
def ik(g:bh)(p:List Int×Int)(v:Int):List Int×Int:=
 if 0<=gI p.1 v then p else((cF g v).order.foldl (λl w=>l.set w.toNat p.2) p.1,p.2+1)
def ci(g:bh)(k:Nat):List Int×Int:=(bG k).foldl (ik g) (List.replicate g.1.toNat (-1),0)
def aD(g:bh):List Int×Int×Int:=if aV g then((ci g g.1.toNat).1,(ci g g.1.toNat).2,0) else([],0,1)
theorem gP(g:bh)(k:Nat):ci g (k+1)=ik g (ci g k) (k:Int):=by
 unfold ci
 rw[cY,List.foldl_append];rfl
theorem lR(g:bh):∀k:Nat,(ci g k).1.length=g.1.toNat/\0<=(ci g k).2/\(ci g k).2<=k:=by
 intro k
 induction k with
 |zero=>simp[ci,bG]
 |succ k ih=>
   rw[gP]
   unfold ik
   have key:∀(l:List Int) (p:List Int) (x:Int),(l.foldl (λl w=>l.set w.toNat x) p).length=p.length:=by
     intro l
     induction l with
     |nil=>intro p x;rfl
     |cons a l ih=>intro p x;rw[List.foldl_cons,ih];simp
   split
   · exact⟨ih.1,ih.2.1,by omega⟩
   · simp only
     rw[key]
     exact⟨ih.1,by omega,by omega⟩
theorem lL{l p:List Int}{x:Int}{k:Nat}(hk:(k:Int)<l.length):(l.take (k+1)).foldl (λl w=>l.set w.toNat x) p=((l.take k).foldl (λl w=>l.set w.toNat x) p).set (gI l (k:Int)).toNat x:=by
 rw[c8 hk,List.foldl_append];rfl
theorem gH(x:Int):∀(l p:List Int),(l.foldl (λl w=>l.set w.toNat x) p).length=p.length
 |[],p=>rfl
 |a::l,p=>by rw[List.foldl_cons,gH x l];simp
end TL
namespace TL
theorem qR{k n:Nat}{x:Int}(hk:k<n):(List.replicate k x++List.replicate (n-k) 0).set (k:Int).toNat x=List.replicate (k+1) x++List.replicate (n-(k+1)) (0:Int):=by
 have e:n-k=(n-(k+1))+1:=by omega
 rw[e,List.replicate_succ]
 simp only[Int.toNat_natCast]
 rw[List.set_append_right _ _ (by simp)]
 simp only[List.length_replicate,Nat.sub_self,List.set_cons_zero]
 rw[List.replicate_succ']
 simp
theorem dp.rl{out:List (List Int)}{g:bh}{k:Nat}(h:dp out g k){v:Int}(h0:0<=v)(h1:v<g.1):((gI out v).length:Int)<=2*(k:Int):=by
 rw[h.at_ v h0 h1]
 have:=qL g v k
 omega
theorem dp.rl2{out:List (List Int)}{g:bh}{k:Nat}(h:dp out g k){u v:Int}(h2:0<=u)(h3:u<g.1)(h0:0<=v)(h1:v<g.1)(a:Int):((gI (out.set u.toNat (gI out u++[a])) v).length:Int)<=2*(k:Int)+1:=by
 have hl:=h.len
 rw[c5 h2 (by omega) h0]
 split
 · have:=h.rl h2 h3;simp;omega
 · have:=h.rl h0 h1;omega
theorem dp.done{out:List (List Int)}{g:bh}{k:Nat}(h:dp out g k)(hk:k=g.2.length):∀v,0<=v->v<g.1->gI out v=dQ g v:=λv h0 h1=>by
 subst hk;exact h.at_ v h0 h1
theorem di.yes{O B F:List Int}{s0:Bf}{g:bh}{v h:Int}{j:Nat}(hr:di ⟨O,B,F⟩ g s0 v j)(hm:aV g)(hj:(j:Int)<(dQ g v).length)(hh:h=gI (dQ g v) (j:Int))(c:gI F (bC g h)<0):di ⟨O++[bC g h],B.set (bC g h).toNat h,F.set (bC g h).toNat (gI F v+1)⟩ g s0 v (j+1):=by
 have h1:=hr.next hm hj
 rw[<-hh] at h1
 unfold eU at h1
 rw[if_pos (show gI (Bf.mk O B F).far (bC g h)<0 from c)] at h1
 exact h1
theorem di.no{O B F:List Int}{s0:Bf}{g:bh}{v h:Int}{j:Nat}(hr:di ⟨O,B,F⟩ g s0 v j)(hm:aV g)(hj:(j:Int)<(dQ g v).length)(hh:h=gI (dQ g v) (j:Int))(c:¬gI F (bC g h)<0):di ⟨O,B,F⟩ g s0 v (j+1):=by
 have h1:=hr.next hm hj
 rw[<-hh] at h1
 unfold eU at h1
 rw[if_neg (show¬gI (Bf.mk O B F).far (bC g h)<0 from c)] at h1
 exact h1
theorem di.facts{O B F:List Int}{s0:Bf}{g:bh}{v:Int}{j:Nat}(hr:di ⟨O,B,F⟩ g s0 v j)(hg:0<=g.1):(F.length:Int)=g.1/\(B.length:Int)=g.1/\(O.length:Int)<=g.1/\(0<=v/\v<g.1)/\gI F v<=O.length/\¬gI F v<0:=by
 have h1:=hr.ok
 have hv:=h1.rng v hr.mem
 exact⟨h1.far,h1.by_,h1.len hg,hv,h1.le v hv.1 hv.2,λhh=>(h1.iff v hv.1 hv.2).1 hh hr.mem⟩
theorem f8.facts{O B F:List Int}{g:bh}{s0:Int}{i:Nat}(hr:f8 ⟨O,B,F⟩ g s0 i)(hg:0<=g.1):(F.length:Int)=g.1/\(B.length:Int)=g.1/\(O.length:Int)<=g.1/\(i:Int)<=O.length:=⟨hr.ok.far,hr.ok.by_,hr.ok.len hg,hr.le⟩
theorem f8.node{O B F:List Int}{g:bh}{s0:Int}{i:Nat}(hr:f8 ⟨O,B,F⟩ g s0 i)(hi:(i:Int)<O.length):0<=gI O (i:Int)/\gI O (i:Int)<g.1:=hr.ok.rng _ (bF (by omega) hi)
theorem f8.row{O B F:List Int}{g:bh}{s0:Int}{i:Nat}(hr:f8 ⟨O,B,F⟩ g s0 i)(hi:(i:Int)<O.length):di ⟨O,B,F⟩ g ⟨O,B,F⟩ (gI O (i:Int)) 0:=di.start hr.ok (bF (by omega) hi)
theorem pc{g:bh}{s0:Int}{O B F:List Int}{i:Nat}(h:f8 ⟨O,B,F⟩ g s0 i)(hi:¬(i:Int)<O.length):O=(cF g s0).order/\∀x∈O,0<=x/\x<g.1:=⟨congrArg Bf.order (h.done hi),h.ok.rng⟩
end TL
namespace TL
theorem oG{g:bh}{part:List Int}{n:Int}{q:Nat}(h:part=(ci g q).1/\n=(ci g q).2)(c:0<=gI part (q:Int)):part=(ci g (q+1)).1/\n=(ci g (q+1)).2:=by
 have h1:ci g (q+1)=ci g q:=by
   rw[gP]
   unfold ik
   rw[if_pos (by rw[<-h.1];exact c)]
 rw[h1];exact h
theorem sP{g:bh}{part part2 O:List Int}{n:Int}{q j:Nat}(h:part=(ci g q).1/\n=(ci g q).2)(c:¬0<=gI part (q:Int))(hO:O=(cF g (q:Int)).order)(hp:part2=(O.take j).foldl (λl w=>l.set w.toNat n) part)(hj:¬(j:Int)<O.length):part2=(ci g (q+1)).1/\n+1=(ci g (q+1)).2:=by
 rw[List.take_of_length_le (by omega)] at hp
 have h1:ci g (q+1)=((cF g (q:Int)).order.foldl (λl w=>l.set w.toNat (ci g q).2) (ci g q).1,(ci g q).2+1):=by
   rw[gP]
   unfold ik
   rw[if_neg (by rw[<-h.1];exact c)]
 rw[h1]
 exact⟨by rw[hp,hO,h.1,h.2],by rw[h.2]⟩
theorem iR{g:bh}(hm:aV g){q:Nat}(hq:(q:Int)=g.1){part:List Int}{n:Int}(h:part=(ci g q).1/\n=(ci g q).2):part=(aD g).1/\n=(aD g).2.1/\0=(aD g).2.2:=by
 have e:q=g.1.toNat:=by omega
 subst e
 unfold aD
 rw[if_pos hm]
 exact⟨h.1,h.2,rfl⟩
end TL
namespace TL
end TL
/-
  TlRot2: rotations: faces of half-edges, first ones, parts, moved ones.
  By an AI agent.
-/
set_option linter.all false
namespace TL
def bg(g:bh):ip:=(List.range g.1.toNat).map λ(v:Nat)=>dQ g (v:Int)
theorem dp.first{out:ip}{g:bh}{k:Nat}(h:dp out g k)(hk:k=g.2.length):out=bg g:=by
 have hl:=h.len
 apply o4
 · simp[bg];omega
 · intro i hi
   rw[h.done hk _ (by omega) (by omega)]
   have:i<g.1.toNat:=by omega
   simp[bg,gI,this]
end TL
