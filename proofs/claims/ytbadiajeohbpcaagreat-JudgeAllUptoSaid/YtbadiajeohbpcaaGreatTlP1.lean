/- Plain texts of this claim, part 1. By an AI agent. -/
import Derived.Test.YtbadiajeohbpcaaGreatTlP0
import Derived.Laws.StructEq
import Derived.OrdersHeld
/-
  TlDraw: regions that draw their order, taken operation by operation.
  By an AI agent.
-/
set_option linter.all false
namespace TL
open Go
def cu(n:Nat)(done:List Nat):Array Bool:=((List.range n).map λi=>decide (i∈done)).toArray
theorem cP(n:Nat)(done:List Nat)(j:Nat)(d:Bool):(cu n done).getD j d=if j<n then decide (j∈done) else d:=by
 unfold cu
 by_cases h:j<n
 · simp[h]
 · simp[h]
theorem dl{n i:Nat}(done:List Nat)(hi:i<n):(cu n done).setIfInBounds i true=cu n (i::done):=by
 apply Array.ext
 · simp[cu]
 · intro j h1 h2
   have hj:j<n:=by simpa[cu] using h2
   simp only[cu]
   by_cases hij:i=j
   · subst hij;simp
   · have:¬j=i:=λh=>hij h.symm
     simp[Array.getElem_setIfInBounds,hij,this]
section
variable{P:Program}{ops:Array Oper}{Q:Exit->Act->World->Prop}{md:Region.Mode}{qs:Nat->Bool}
def ms(P:Program)(md:Region.Mode)(ops:Array Oper)(qs:Nat->Bool)(Q:Exit->Act->World->Prop):Nat->Array Bool->Act->World->Prop
  |0,listed,a,w=>Region.ready md ops listed=[]/\Q .normal a w
  |fuel+1,listed,a,w=>(Region.ready md ops listed=[]->Q .normal a w)/\
    ∀i∈Region.ready md ops listed,if qs i then stOp P ops w i (λa'=>ms P md ops qs Q fuel (listed.setIfInBounds i true) a' w) a
      else wpOp P ops Q i (ms P md ops qs Q fuel (listed.setIfInBounds i true)) a w
theorem gJ:∀(fuel:Nat) (listed:Array Bool) (a:Act) (w:World),ms P md ops qs Q fuel listed a w->wpAny P md ops Q fuel listed a w
 |0,_,_,_,h=>h
 |fuel+1,listed,a,w,h=>by
   refine⟨h.1,λi hi=>?_⟩
   have h2:=h.2 i hi
   cases hq:qs i with
   |true=>
     simp only[hq,if_true] at h2
     exact wpOp_of_stOp (λa' h'=>gJ fuel _ a' w h') h2
   |false=>
     simp only[hq,Bool.false_eq_true,if_false] at h2
     exact wpOp_mono (λa' w' h'=>gJ fuel _ a' w' h') h2
theorem qe{i:Nat}{oi:Oper}{v:Value}{w:World}{M D:Array Bool}(hi:ops[i]? =some oi)(hsel:∀(j:Nat) (o:Oper) cs b,ops[j]? =some o->o.op≠ .select cs b)(hqi:qs i=true)
    (hM:∀j oj,ops[j]? =some oj->M.getD j false=false->j≠i->∃e∈oj.after,Region.binds md e=true/\M.getD e.on false=false)
    (hMq:∀j oj,ops[j]? =some oj->M.getD j false=true->D.getD j true=false->j≠i->qs j=true):
    ∀(fuel:Nat) (listed:Array Bool) (a:Act),listed.size=ops.size->(∀j,listed.getD j false=true->M.getD j false=true)->(∀j,listed.getD j true=false->D.getD j true=false)->
      (∀j oj,ops[j]? =some oj->j≠i->listed.getD j true=false->(∀e∈oj.after,Region.binds md e=true->e.on≠i)->oi.apart ops oj=true)->
      i∈Region.ready md ops listed->YieldsAt P ops w oi v a->
      ms P md ops qs Q fuel (listed.setIfInBounds i true) (a.put oi.dst v) w->ms P md ops qs Q (fuel+1) listed a w:=by
  intro fuel
  induction fuel with
  |zero=>
    intro listed a _ _ _ _ hr hy H
    refine⟨λh=>(by rw[h] at hr;cases hr),λj hj=>?_⟩
    by_cases hji:j=i
    · subst hji;rw[if_pos hqi];exact hy.stOp hi H
    · have:=ready_mono hj hji
      rw[H.1] at this
      cases this
  |succ fuel ih=>
    intro listed a hsz hsub hD hfree hr hy H
    refine⟨λh=>(by rw[h] at hr;cases hr),λj hj=>?_⟩
    by_cases hji:j=i
    · subst hji;rw[if_pos hqi];exact hy.stOp hi H
    · obtain⟨hjun,oj,hoj,hall⟩:=mem_ready.1 hj
      have hMj:M.getD j false=true:=by
        cases hm:M.getD j false with
        |true=>rfl
        |false=>
          obtain⟨e,he,hb,hn⟩:=hM j oj hoj hm hji
          have:=hsub _ (hall e he hb)
          rw[hn] at this;cases this
      have hqj:=hMq j oj hoj hMj (hD j hjun) hji
      have h1:=H.2 j (ready_mono hj hji)
      rw[if_pos hqj] at h1 ⊢
      have hnot:∀e∈oj.after,Region.binds md e=true->e.on≠i:=λe he hb heq=>by
        have h1:=hall e he hb
        have h0:=(mem_ready.1 hr).1
        rw[heq] at h1
        rw[getD_both h0] at h1
        cases h1
      have h2:=stOp_put hoj (hfree j oj hoj hji hjun hnot) (λcs b=>hsel i oi cs b hi) (λcs b=>hsel j oj cs b hoj) hy h1
      have hfree':∀k ok,ops[k]? =some ok->k≠i->(listed.setIfInBounds j true).getD k true=false->
          (∀e∈ok.after,Region.binds md e=true->e.on≠i)->oi.apart ops ok=true:=λk ok hk hki hun hno=>by
        refine hfree k ok hk hki ?_ hno
        by_cases hjk:j=k
        · subst hjk;exact hjun
        · rw[getD_set_ne true hjk] at hun;exact hun
      have hsub':∀k,(listed.setIfInBounds j true).getD k false=true->M.getD k false=true:=λk hk=>by
        by_cases hjk:j=k
        · subst hjk;exact hMj
        · rw[getD_set_ne false hjk] at hk;exact hsub k hk
      have hD':∀k,(listed.setIfInBounds j true).getD k true=false->D.getD k true=false:=λk hk=>by
        by_cases hjk:j=k
        · subst hjk;exact hD j hjun
        · rw[getD_set_ne true hjk] at hk;exact hD k hk
      refine stOp_mono (λa' h3=>ih (listed.setIfInBounds j true) a' (by simpa using hsz) hsub' hD' hfree' (ready_mono hr (Ne.symm hji)) h3.1 ?_) h2
      rw[Array.setIfInBounds_comm _ _ hji]
      exact h3.2
def aL{α:Type}(s:Sem α):Prop:=∀(P:Program) (w:World) (x:α) (w':World),s.run P w= .ok x w'->cE w.heap.size w w'
theorem aL.bind{α β:Type}{s:Sem α}{f:α->Sem β}(h:aL s)(hf:∀a,aL (f a)):aL (s>>=f):=by
 intro P w x w' hr
 rw[Sem.run_bind] at hr
 cases h1:s.run P w with
 |halt e w1=>rw[h1] at hr;cases hr
 |ok a w1=>
   rw[h1] at hr
   have k1:=h P w a w1 h1
   have k2:=hf a P w1 x w' hr
   exact k1.trans (k2.mono k1.size)
theorem aL.pure{α:Type}(a:α):aL (Pure.pure a:Sem α):=λP w x w' h=>by
 simp only[Sem.run_pure] at h
 cases h;exact cE.refl _ _
theorem aL.halt{α:Type}(e:Halt):aL (Sem.halt e:Sem α):=λP w x w' h=>by cases h
theorem aL.stuck{α:Type}(e:String):aL (Go.stuck e:Sem α):=aL.halt _
theorem aL.unsupported{α:Type}(e:Unsupported):aL (Go.unsupported e:Sem α):=aL.halt _
theorem aL.program:aL Go.program:=λP w x w' h=>by
 simp only[run_program] at h
 cases h;exact cE.refl _ _
theorem aL.new(o:Obj):aL (newObj o):=λP w x w' h=>by
 simp only[run_newObj] at h
 cases h
 exact(cE.refl _ w).alloc (Nat.le_refl _) o
theorem aL.typeInfo(t:TypeId):aL (Go.typeInfo t):=aL.bind aL.program λp=>by
 cases p.info? t with
 |some i=>exact aL.pure i
 |none=>exact aL.stuck _
theorem aL.underlying(t:TypeId):aL (Go.underlying t):=aL.bind aL.program λp=>by
 cases p.underlying t with
 |some i=>exact aL.pure i
 |none=>exact aL.stuck _
theorem aL.sizeOf(t:TypeId):aL (Go.sizeOf t):=aL.bind (aL.typeInfo t) λi=>aL.pure _
theorem aL.zeroValue(t:TypeId):aL (Go.zeroValue t):=aL.bind (aL.typeInfo t) λi=>by
 cases i.zero with
 |some v=>exact aL.pure v
 |none=>exact aL.unsupported _
theorem aL.newVar(t:TypeId)(v:Value):aL (Go.newVar t v):=aL.bind (aL.new _) λ_=>aL.pure _
theorem ky(t:TypeId)(len:Nat)(parts:Array (Nat×Value)):aL (Instr.buildSlice t len parts):=by
 unfold Instr.buildSlice
 refine aL.bind (aL.underlying t) λd=>?_
 split
 · refine aL.bind (aL.sizeOf _) λsize=>?_
   have tail:∀(elem:TypeId) (zero:Array Value),aL (match Instr.fill (λi=>some (i*size,size)) ((Array.range (len*size)).map (zero[· %zero.size]!)) parts.toList with
       |some cells=>(do pure (Value.slice (some (<-newRow elem cells)) len len):Sem Value)
       |_=>Go.stuck "buildSlice: a part of the wrong size"):=λelem zero=>by
     split
     · exact aL.bind (aL.bind (aL.new _) λ_=>aL.pure _) λ_=>aL.pure _
     · exact aL.stuck _
   by_cases h1:len*size>2^24
   · simp only[h1,if_true]
     refine aL.bind (aL.unsupported _) λx=>?_
     by_cases h2:len*size=0
     · rw[if_pos h2]
       exact aL.bind (aL.pure _) λzero=>tail _ zero
     · simp only[h2,if_false]
       exact aL.bind (aL.zeroValue _) λ_=>aL.bind (aL.pure _) λzero=>tail _ zero
   · simp only[h1,if_false]
     by_cases h2:len*size=0
     · rw[if_pos h2]
       exact aL.bind (aL.pure _) λzero=>tail _ zero
     · simp only[h2,if_false]
       exact aL.bind (aL.zeroValue _) λ_=>aL.bind (aL.pure _) λzero=>tail _ zero
 · exact aL.stuck _
theorem kh{P:Program}{w w':World}{s:Sem Value}{nx:Next}(h:(do pure (Next.value (<-s)):Sem Next).run P w= .ok nx w'):∃u,nx= .value u:=by
 rw[Sem.run_bind] at h
 cases hs:s.run P w with
 |ok a w1=>rw[hs] at h;cases h;exact⟨a,rfl⟩
 |halt e w1=>rw[hs] at h;cases h
theorem aL.load(a:Addr)(m:Mode):aL (Go.load a m):=λP w x w' h=>by
 simp only[Go.load,Sem.run] at h
 split at h
 · cases h;exact cE.refl _ _
 · split at h
   · cases h;exact cE.refl _ _
   · cases h
theorem aL.cells(a:Addr):∀(n i:Nat) (acc:Array Value),aL (loadCellsFrom a i n acc)
 |0,_,_=>aL.pure _
 |n+1,i,_=>aL.bind (aL.load _ _) λ_=>aL.cells a n (i+1) _
theorem aL.isAgg(t:TypeId):aL (Go.isAgg t):=aL.bind (aL.underlying t) λd=>by
 split<;>exact aL.pure _
theorem aL.error{α:Type}(m:String):aL (runtimePanic (.error m):Sem α):=aL.bind aL.program λp=>aL.halt _
theorem aL.asIntOf(v:Value):aL (Go.asIntOf v):=by
 unfold Go.asIntOf
 split
 · exact aL.pure _
 · exact aL.unsupported _
 · exact aL.stuck _
theorem aL.asInt(v:Value):aL (Go.asInt v):=aL.bind (aL.asIntOf v) λ_=>aL.pure _
theorem aL.choose(q:Question):aL (Go.choose q):=λP w x w' h=>by
 simp only[Go.choose,Sem.run] at h
 split at h
 · cases h;exact cE.refl _ _
 · cases h;exact⟨rfl,rfl,rfl,Nat.le_refl _,λ_ _=>rfl,Nat.le_succ _⟩
theorem aL.room(n:Nat):aL (askRoom n):=λP w x w' h=>by
 unfold askRoom at h
 split at h
 · simp only[Go.mark,Sem.run] at h
   cases h;exact⟨rfl,rfl,rfl,Nat.le_refl _,λ_ _=>rfl,Nat.le_refl _⟩
 · cases h;exact cE.refl _ _
theorem nR(t:TypeId)(a:Value):aL (Instr.loadAt t a):=by
 unfold Instr.loadAt
 refine aL.bind ?_ λb=>?_
 · unfold Instr.sureAddr
   split
   · exact aL.pure _
   · exact aL.stuck _
 · unfold loadVar
   refine aL.bind (aL.isAgg t) λc=>?_
   split
   · exact aL.bind (aL.sizeOf t) λn=>aL.bind (aL.cells _ _ _ _) λ_=>aL.pure _
   · exact aL.load _ _
theorem kU(t:TypeId)(a b:Value):aL (Instr.makeSlice t a b):=by
 unfold Instr.makeSlice
 refine aL.bind (aL.underlying t) λd=>?_
 split
 · refine aL.bind (aL.asInt _) λl=>aL.bind (aL.asInt _) λc=>aL.bind (aL.typeInfo _) λi=>?_
   have tail:∀(c:Int) (l:Int) (elem:TypeId),aL (do
       let n:=c.toNat*(<-sizeOf elem)
       let zero<-if n=0 then pure #[] else do pure (<-zeroValue elem).cells
       let a<-newRow elem ((Array.range n).map (zero[· %zero.size]!))
       pure (Value.slice (some a) l.toNat c.toNat)):=λc l elem=>by
     refine aL.bind (aL.sizeOf _) λn=>?_
     have last:∀zero:Array Value,aL (do
       let a<-newRow elem ((Array.range (c.toNat*n)).map (zero[· %zero.size]!))
       pure (Value.slice (some a) l.toNat c.toNat)):=λzero=>aL.bind (aL.bind (aL.new _) λ_=>aL.pure _) λ_=>aL.pure _
     by_cases h:c.toNat*n=0
     · simp only[h,if_true]
       have:=last #[]
       simp only[h] at this
       exact aL.bind (aL.pure _) λ_=>aL.bind (aL.bind (aL.new _) λ_=>aL.pure _) λ_=>aL.pure _
     · simp only[h,if_false]
       exact aL.bind (aL.zeroValue _) λ_=>aL.bind (aL.pure _) λz=>last z
   dsimp only
   repeat' (first
     |exact aL.error _
     |exact aL.choose _
     |exact aL.room _
     |exact tail _ _ _
     |exact aL.pure _
     |refine aL.bind ?_ λ_=>?_
     |split)
 · exact aL.stuck _
def gk:Op->Bool
 | .alloc _| .box .. | .buildSlice .. | .load .. | .makeSlice .. =>true
 |_=>false
theorem mh{ρ:Operand->Value}{o:Oper}(h:gk o.op=true):aL (execOp ρ o):=by
 obtain⟨dst,op,ty,pos,after,g⟩:=o
 cases op<;>simp only[gk,Bool.false_eq_true] at h
 case alloc e=>exact aL.bind (aL.bind (aL.zeroValue _) λ_=>aL.bind (aL.newVar _ _) λ_=>aL.pure _) λ_=>aL.pure _
 case box e x=>exact aL.bind (aL.bind (aL.newVar _ _) λ_=>aL.pure _) λ_=>aL.pure _
 case buildSlice t n ps=>exact aL.bind (ky _ _ _) λ_=>aL.pure _
 case load t a=>exact aL.bind (nR _ _) λ_=>aL.pure _
 case makeSlice t a b=>exact aL.bind (kU _ _ _) λ_=>aL.pure _
theorem sq{i:Nat}{oi:Oper}{v:Value}{w0:World}{M D:Array Bool}(hi:ops[i]? =some oi)(hsel:∀(j:Nat) (o:Oper) cs b,ops[j]? =some o->o.op≠ .select cs b)(hqi:qs i=true)
    (hQ:∀c a w,Q (.panic c) (a.put oi.dst v) w->Q (.panic c) a w)
    (hM:∀j oj,ops[j]? =some oj->M.getD j false=false->j≠i->∃e∈oj.after,Region.binds md e=true/\M.getD e.on false=false)
    (hMq:∀j oj,ops[j]? =some oj->M.getD j false=true->D.getD j true=false->j≠i->qs j=true\/gk oj.op=true):
    ∀(fuel:Nat) (listed:Array Bool) (a:Act) (w:World),cE w0.heap.size w0 w->(∀j,listed.getD j false=true->M.getD j false=true)->(∀j,listed.getD j true=false->D.getD j true=false)->
      (∀j oj,ops[j]? =some oj->j≠i->listed.getD j true=false->(∀e∈oj.after,Region.binds md e=true->e.on≠i)->oi.apart ops oj=true)->
      i∈Region.ready md ops listed->(∀w,cE w0.heap.size w0 w->YieldsAt P ops w oi v a)->
      ms P md ops qs Q fuel (listed.setIfInBounds i true) (a.put oi.dst v) w->ms P md ops qs Q (fuel+1) listed a w:=by
  intro fuel
  induction fuel with
  |zero=>
    intro listed a w hw _ _ _ hr hy H
    refine⟨λh=>(by rw[h] at hr;cases hr),λj hj=>?_⟩
    by_cases hji:j=i
    · subst hji;rw[if_pos hqi];exact(hy w hw).stOp hi H
    · have:=ready_mono hj hji
      rw[H.1] at this
      cases this
  |succ fuel ih=>
    intro listed a w hw hsub hD hfree hr hy H
    refine⟨λh=>(by rw[h] at hr;cases hr),λj hj=>?_⟩
    by_cases hji:j=i
    · subst hji;rw[if_pos hqi];exact(hy w hw).stOp hi H
    · obtain⟨hjun,oj,hoj,hall⟩:=mem_ready.1 hj
      have hMj:M.getD j false=true:=by
        cases hm:M.getD j false with
        |true=>rfl
        |false=>
          obtain⟨e,he,hb,hn⟩:=hM j oj hoj hm hji
          have:=hsub _ (hall e he hb)
          rw[hn] at this;cases this
      have hqj:=hMq j oj hoj hMj (hD j hjun) hji
      have h1:=H.2 j (ready_mono hj hji)
      have hnot:∀e∈oj.after,Region.binds md e=true->e.on≠i:=λe he hb heq=>by
        have h1:=hall e he hb
        have h0:=(mem_ready.1 hr).1
        rw[heq] at h1
        rw[getD_both h0] at h1
        cases h1
      have hap:=hfree j oj hoj hji hjun hnot
      have hfree':∀k ok,ops[k]? =some ok->k≠i->(listed.setIfInBounds j true).getD k true=false->
          (∀e∈ok.after,Region.binds md e=true->e.on≠i)->oi.apart ops ok=true:=λk ok hk hki hun hno=>by
        refine hfree k ok hk hki ?_ hno
        by_cases hjk:j=k
        · subst hjk;exact hjun
        · rw[getD_set_ne true hjk] at hun;exact hun
      have hsub':∀k,(listed.setIfInBounds j true).getD k false=true->M.getD k false=true:=λk hk=>by
        by_cases hjk:j=k
        · subst hjk;exact hMj
        · rw[getD_set_ne false hjk] at hk;exact hsub k hk
      have hD':∀k,(listed.setIfInBounds j true).getD k true=false->D.getD k true=false:=λk hk=>by
        by_cases hjk:j=k
        · subst hjk;exact hD j hjun
        · rw[getD_set_ne true hjk] at hk;exact hD k hk
      obtain⟨g1,g2,g3⟩:=Oper.apart_spec hap
      have keep:∀u w,cE w0.heap.size w0 w->YieldsAt P ops w oi v (a.put oj.dst u):=λu w hw=>
        (hy w hw).of_same (execOp_put oi (λcs b=>hsel i oi cs b hi) a oj.dst u g3) (wanted_put oi a oj.dst u g3)
      cases hqj':qs j with
      |true=>
        simp only[hqj',if_true] at h1 ⊢
        obtain⟨u,hyu,hK⟩:=yieldsAt_of_stOp hoj h1
        have hyj:YieldsAt P ops w oj u a:=by
          rcases hyu with⟨k1,k2⟩|⟨k1,k2⟩
          · refine .inl ⟨by rw[<-wanted_put oj a oi.dst v g1];exact k1,?_⟩
            rw[execOp_put oj (λcs b=>hsel j oj cs b hoj) a oi.dst v g1] at k2
            exact k2
          · exact .inr ⟨by rw[<-wanted_put oj a oi.dst v g1];exact k1,k2⟩
        refine hyj.stOp hoj (ih (listed.setIfInBounds j true) (a.put oj.dst u) w hw hsub' hD' hfree' (ready_mono hr (Ne.symm hji)) (keep u) ?_)
        rw[<-Act.put_comm a v u g2,Array.setIfInBounds_comm _ _ hji]
        exact hK
      |false=>
        have hkk:=hqj.resolve_left (by rw[hqj'];simp)
        simp only[hqj',Bool.false_eq_true,if_false] at h1 ⊢
        unfold wpOp at h1 ⊢
        simp only[hoj] at h1 ⊢
        rw[wanted_put oj a oi.dst v g1] at h1
        cases hwt:Region.wanted oj (yielded ops a.tmps) with
        |false=>
          simp only[hwt,Bool.false_eq_true,if_false] at h1 ⊢
          refine ih (listed.setIfInBounds j true) (a.put oj.dst undef) w hw hsub' hD' hfree' (ready_mono hr (Ne.symm hji)) (keep undef) ?_
          rw[<-Act.put_comm a v undef g2,Array.setIfInBounds_comm _ _ hji]
          exact h1
        |true=>
          simp only[hwt,if_true] at h1 ⊢
          have hke:=mh (ρ:=a.eval) hkk P w
          rcases h1 with h1|⟨h1,h2⟩
          · left
            unfold Oper.wp at h1 ⊢
            rw[execOp_put oj (λcs b=>hsel j oj cs b hoj) a oi.dst v g1] at h1
            obtain⟨dst,op,ty,pos,after,gd⟩:=oj
            cases hrun:(execOp a.eval ⟨dst,op,ty,pos,after,gd⟩).run P w with
            |halt x w'=>
              rw[hrun] at h1
              cases x<;>simp only[Oper.upon] at h1 ⊢
              case panic u=>exact hQ _ _ _ h1
            |ok nx w'=>
              rw[hrun] at h1
              have hb:=hke nx w' hrun
              have hw':cE w0.heap.size w0 w':=hw.trans (hb.mono hw.size)
              -- these operations yield values alone
              have hval:∃u,nx= .value u:=by
                cases op<;>simp only[gk,Bool.false_eq_true] at hkk
                all_goals exact kh hrun
              obtain⟨u,rfl⟩:=hval
              simp only[Oper.upon] at h1 ⊢
              refine ih (listed.setIfInBounds j true) (a.put dst u) w' hw' hsub' hD' hfree' (ready_mono hr (Ne.symm hji)) (keep u) ?_
              have h3:=h1
              rw[show(a.put oi.dst v).put dst u=(a.put dst u).put oi.dst v from Act.put_comm a v u g2,Array.setIfInBounds_comm _ _ (Ne.symm hji)] at h3
              exact h3
          · right
            refine⟨?_,h2⟩
            unfold Oper.asks at*
            rw[execOp_put oj (λcs b=>hsel j oj cs b hoj) a oi.dst v g1] at h1
            exact h1
theorem mQ{i:Nat}{oi:Oper}{v:Value}(hi:ops[i]? =some oi)(hsel:∀(j:Nat) (o:Oper) cs b,ops[j]? =some o->o.op≠ .select cs b)(hqi:qs i=true)
    (hQ:∀c a w,Q (.panic c) (a.put oi.dst v) w->Q (.panic c) a w):
    ∀(fuel:Nat) (listed:Array Bool) (a:Act) (w:World),
      (∀j oj,ops[j]? =some oj->j≠i->listed.getD j true=false->(∀e∈oj.after,Region.binds md e=true->e.on≠i)->oi.apart ops oj=true)->
      i∈Region.ready md ops listed->Yields P ops oi v a->
      ms P md ops qs Q fuel (listed.setIfInBounds i true) (a.put oi.dst v) w->ms P md ops qs Q (fuel+1) listed a w:=by
  have hat:∀{a:Act} {w:World},Yields P ops oi v a->YieldsAt P ops w oi v a:=λ {a w} hy=>by
    rcases hy with⟨h1,h2⟩|⟨h1,h2⟩
    · exact .inl ⟨h1,.inl (h2 w)⟩
    · exact .inr ⟨h1,h2⟩
  intro fuel
  induction fuel with
  |zero=>
    intro listed a w _ hr hy H
    refine⟨λh=>(by rw[h] at hr;cases hr),λj hj=>?_⟩
    by_cases hji:j=i
    · subst hji;rw[if_pos hqi];exact(hat hy).stOp hi H
    · have:=ready_mono hj hji
      rw[H.1] at this
      cases this
  |succ fuel ih=>
    intro listed a w hfree hr hy H
    refine⟨λh=>(by rw[h] at hr;cases hr),λj hj=>?_⟩
    by_cases hji:j=i
    · subst hji;rw[if_pos hqi];exact(hat hy).stOp hi H
    · obtain⟨hjun,oj,hoj,hall⟩:=mem_ready.1 hj
      have h1:=H.2 j (ready_mono hj hji)
      have hnot:∀e∈oj.after,Region.binds md e=true->e.on≠i:=λe he hb heq=>by
        have h1:=hall e he hb
        have h0:=(mem_ready.1 hr).1
        rw[heq] at h1
        rw[getD_both h0] at h1
        cases h1
      have hap:=hfree j oj hoj hji hjun hnot
      have hfree':∀k ok,ops[k]? =some ok->k≠i->(listed.setIfInBounds j true).getD k true=false->
          (∀e∈ok.after,Region.binds md e=true->e.on≠i)->oi.apart ops ok=true:=λk ok hk hki hun hno=>by
        refine hfree k ok hk hki ?_ hno
        by_cases hjk:j=k
        · subst hjk;exact hjun
        · rw[getD_set_ne true hjk] at hun;exact hun
      cases hqj:qs j with
      |true=>
        simp only[hqj,if_true] at h1 ⊢
        -- a step that leaves the world
        have hy':=hy
        obtain⟨g1,g2,g3⟩:=Oper.apart_spec hap
        have keep:∀(a:Act),Yields P ops oi v a->∀u,Yields P ops oi v (a.put oj.dst u):=λa hy u=>
          hy.of_same (execOp_put oi (λcs b=>hsel i oi cs b hi) a oj.dst u g3) (wanted_put oi a oj.dst u g3)
        obtain⟨u,hyu,hK⟩:=yieldsAt_of_stOp hoj h1
        have hyj:YieldsAt P ops w oj u a:=by
          rcases hyu with⟨k1,k2⟩|⟨k1,k2⟩
          · refine .inl ⟨by rw[<-wanted_put oj a oi.dst v g1];exact k1,?_⟩
            rw[execOp_put oj (λcs b=>hsel j oj cs b hoj) a oi.dst v g1] at k2
            exact k2
          · exact .inr ⟨by rw[<-wanted_put oj a oi.dst v g1];exact k1,k2⟩
        refine hyj.stOp hoj (ih (listed.setIfInBounds j true) (a.put oj.dst u) w hfree' (ready_mono hr (Ne.symm hji)) (keep a hy u) ?_)
        rw[<-Act.put_comm a v u g2,Array.setIfInBounds_comm _ _ hji]
        exact hK
      |false=>
        simp only[hqj,Bool.false_eq_true,if_false] at h1 ⊢
        have h2:=wpOp_put hoj hap (λcs b=>hsel i oi cs b hi) (λcs b=>hsel j oj cs b hoj) hQ hy h1
        refine wpOp_mono (λa' w' h3=>ih (listed.setIfInBounds j true) a' w' hfree' (ready_mono hr (Ne.symm hji)) h3.1 ?_) h2
        rw[Array.setIfInBounds_comm _ _ hji]
        exact h3.2
end
section
variable{P:Program}{n:Nat}{l:List Oper}{qs:List Nat}{K:Fr->World->Prop}{f:Fr}{w:World}{done:List Nat}{fuel:Nat}
def mn(P:Program)(n:Nat)(l:List Oper)(qs:List Nat)(K:Fr->World->Prop)(fuel:Nat)(done:List Nat)(f:Fr)(w:World):Prop:=
  ∀a,Ag n a f->ms P .any l.toArray (λi=>decide (i∈qs)) (λe a' w'=>e= .normal/\∃f',Ag n a' f'/\K f' w') fuel (cu l.length done) a w
theorem c6{fid:Nat}{R:Ending->World->Prop}{k:List Item}{id:Nat}(γ:aK)(qs:List Nat)(hm:P.follows .mixedOrders=true)
   (h:∀w1,bj no γ w γ w1->mn P n l qs (fo P fid n R k) l.length [] f w1):fo P fid n R (.code (.region id l.toArray true)::k) f w:=
 iY λa ha=>wp_region_any hm (by
   have h0:=gJ _ _ _ _ (h _ (bj.refl _ _ _).drew a ha)
   have hmask:cu l.length []=Array.replicate l.toArray.size false:=by
     apply Array.ext
     · simp[cu]
     · intro j h1 h2;simp[cu]
   rw[hmask] at h0
   simpa using h0)
theorem mf{fid:Nat}{R:Ending->World->Prop}{k:List Item}{id:Nat}{σ:Type}(Mid:σ->Fr->World->Prop)(γ:aK)(qs:List Nat)(hm:P.follows .mixedOrders=true)
    (h:(∀s f w,Mid s f w->fo P fid n R k f w)->∀w1,bj no γ w γ w1->mn P n l qs (fo P fid n R k) l.length [] f w1)(hk:∀s f w,Mid s f w->fo P fid n R k f w):fo P fid n R (.code (.region id l.toArray true)::k) f w:=
  c6 γ qs hm (h hk)
def fJ(l:List Oper)(done:List Nat)(i:Nat):Bool:=
 !done.contains i&&match l[i]? with
   |some o=>o.after.all λe=> !Region.binds .any e||done.contains e.on&&decide (e.on<l.length)
   |none=>false
def ij(l:List Oper)(done:List Nat)(i:Nat):Bool:=
 match l[i]? with
 |none=>false
 |some oi=>(List.range l.length).all λj=>j==i||done.contains j||match l[j]? with
     |some oj=>oj.after.any (λe=>Region.binds .any e&&e.on==i)||oi.apart l.toArray oj
     |none=>true
def nu(l:List Oper)(qs done M:List Nat)(i:Nat):Bool:=
  ((List.range l.length).all λj=>M.contains j||j==i||match l[j]? with
      |some oj=>oj.after.any λe=>Region.binds .any e&& !M.contains e.on
      |none=>true)&&
  (M.all λj=>j==i||done.contains j||qs.contains j)&&(done.all λj=>M.contains j&&decide (j<l.length))&&M.all λj=>decide (j<l.length)
def g7(l:List Oper):Bool:=Region.noSelect l.toArray
theorem eV{i:Nat}(h:fJ l done i=true):i<l.length/\i∈Region.ready .any l.toArray (cu l.length done):=by
 unfold fJ at h
 simp only[Bool.and_eq_true,Bool.not_eq_true'] at h
 obtain⟨h1,h2⟩:=h
 split at h2
 · rename_i o ho
   have hlt:i<l.length:=(List.getElem?_eq_some_iff.1 ho).1
   refine⟨hlt,mem_ready.2 ⟨by rw[cP];simp[hlt];simpa using h1,o,by simpa using ho,λe he hb=>?_⟩⟩
   have h3:=Array.all_eq_true_iff_forall_mem.1 h2 e he
   simp only[hb,Bool.not_true,Bool.false_or,Bool.and_eq_true,decide_eq_true_eq] at h3
   rw[cP,if_pos h3.2]
   simpa using h3.1
 · cases h2
theorem fx{i:Nat}{oi:Oper}(hi:l[i]? =some oi)(h:ij l done i=true)(j:Nat)(oj:Oper)(hj:l.toArray[j]? =some oj)(hne:j≠i)(hun:(cu l.length done).getD j true=false)
   (hno:∀e∈oj.after,Region.binds .any e=true->e.on≠i):oi.apart l.toArray oj=true:=by
 have hj':l[j]? =some oj:=by simpa using hj
 have hlt:j<l.length:=(List.getElem?_eq_some_iff.1 hj').1
 unfold ij at h
 simp only[hi,List.all_eq_true,List.mem_range] at h
 have h1:=h j hlt
 rw[cP,if_pos hlt] at hun
 have hd:done.contains j=false:=by simpa using hun
 simp only[hj',Bool.or_eq_true,beq_iff_eq,hne,false_or,hd,Bool.false_eq_true] at h1
 rcases h1 with h1|h1
 · obtain⟨e,he,hb⟩:=Array.any_eq_true'.1 h1
   simp only[Bool.and_eq_true,beq_iff_eq] at hb
   exact absurd hb.2 (hno e he hb.1)
 · exact h1
theorem gR(h:g7 l=true):∀(j:Nat) (o:Oper) cs b,l.toArray[j]? =some o->o.op≠ .select cs b:=Region.noSelect_spec h
theorem kB{i:Nat}(h:qs.contains i=true):decide (i∈qs)=true:=by simpa using h
variable{dst:Option Tmp}{op:Op}{ty:TypeId}{pos:String}{after:Array Edge}{g:Option (Nat×Bool)}{v:Value}
theorem jS(i:Nat)(M:List Nat)(hi:l[i]? =some ⟨dst,op,ty,pos,after,g⟩)(hn:g7 l=true)(hc:(qs.contains i&&fJ l done i&&ij l done i&&nu l qs done M i&&lz n ⟨dst,op,ty,pos,after,g⟩)=true)
    (hw:d6 l ⟨dst,op,ty,pos,after,g⟩ f=true)(h:(execOp (ev f) ⟨dst,op,ty,pos,after,g⟩).run P w= .ok (.value v) w)(hk:mn P n l qs K fuel (i::done) (gN f dst v) w):mn P n l qs K (fuel+1) done f w:=by
  simp only[Bool.and_eq_true] at hc
  obtain⟨⟨⟨⟨hq,hr⟩,hf⟩,hb⟩,hd⟩:=hc
  obtain⟨hlt,hr'⟩:=eV hr
  intro a ha
  unfold nu at hb
  simp only[Bool.and_eq_true,List.all_eq_true,List.mem_range] at hb
  obtain⟨⟨⟨b1,b2⟩,b3⟩,b4⟩:=hb
  have hgM:∀j,(cu l.length M).getD j false=true↔j∈M:=λj=>by
    rw[cP]
    by_cases hjl:j<l.length
    · simp[hjl]
    · simp only[hjl,if_false,Bool.false_eq_true,false_iff]
      exact λhm=>hjl (by simpa using b4 j hm)
  refine qe (v:=v) (M:=cu l.length M) (D:=cu l.length done) (by simpa using hi) (gR hn) (kB hq) (λj oj hj hm hne=>?_) (λj oj hj hm hD hne=>?_) fuel _ a (by simp[cu]) (λj hj=>?_) (λj hj=>hj) (fx hi hf) hr' ?_ ?_
  · have hj':l[j]? =some oj:=by simpa using hj
    have hjl:j<l.length:=(List.getElem?_eq_some_iff.1 hj').1
    have h1:=b1 j hjl
    have hmM:M.contains j=false:=by
      cases hc:M.contains j with
      |false=>rfl
      |true=>have h9:=(hgM j).2 (by simpa using hc);rw[hm] at h9;cases h9
    simp only[hmM,hj',Bool.false_or,Bool.or_eq_true,beq_iff_eq,hne,false_or] at h1
    obtain⟨e,he,hbb⟩:=Array.any_eq_true'.1 h1
    simp only[Bool.and_eq_true,Bool.not_eq_true'] at hbb
    refine⟨e,he,hbb.1,?_⟩
    cases hc:(cu l.length M).getD e.on false with
    |false=>rfl
    |true=>
      have:=(hgM _).1 hc
      have h2:=hbb.2
      simp[this] at h2
  · have h1:=b2 j ((hgM j).1 hm)
    have hj':l[j]? =some oj:=by simpa using hj
    have hjl:j<l.length:=(List.getElem?_eq_some_iff.1 hj').1
    rw[cP,if_pos hjl] at hD
    have hd:done.contains j=false:=by simpa using hD
    simp only[Bool.or_eq_true,beq_iff_eq,hne,hd,false_or,Bool.false_eq_true] at h1
    exact kB h1
  · rw[cP] at hj
    split at hj
    · have h1:=b3 j (by simpa using hj)
      exact(hgM j).2 (by simpa using h1.1)
    · cases hj
  · refine .inl ⟨?_,.inl ?_⟩
    · rw[ha.yielded];exact hw
    · rw[ha.eval];exact h
  · rw[dl done hlt]
    exact hk _ (ha.put hd v)
def nN(l:List Oper)(qs done M:List Nat)(i:Nat):Bool:=
 ((List.range l.length).all λj=>M.contains j||j==i||match l[j]? with
     |some oj=>oj.after.any λe=>Region.binds .any e&& !M.contains e.on
     |none=>true)&&
 (M.all λj=>j==i||done.contains j||qs.contains j||match l[j]? with
     |some oj=>gk oj.op
     |none=>false)&&(done.all λj=>M.contains j&&decide (j<l.length))&&M.all λj=>decide (j<l.length)
theorem zm(i:Nat)(M:List Nat)(hi:l[i]? =some ⟨dst,op,ty,pos,after,g⟩)(hn:g7 l=true)(hc:(qs.contains i&&fJ l done i&&ij l done i&&nN l qs done M i&&lz n ⟨dst,op,ty,pos,after,g⟩)=true)
    (hw:d6 l ⟨dst,op,ty,pos,after,g⟩ f=true)(h:∀w',cE w.heap.size w w'->(execOp (ev f) ⟨dst,op,ty,pos,after,g⟩).run P w'= .ok (.value v) w')(hk:mn P n l qs K fuel (i::done) (gN f dst v) w):mn P n l qs K (fuel+1) done f w:=by
  simp only[Bool.and_eq_true] at hc
  obtain⟨⟨⟨⟨hq,hr⟩,hf⟩,hb⟩,hd⟩:=hc
  obtain⟨hlt,hr'⟩:=eV hr
  intro a ha
  unfold nN at hb
  simp only[Bool.and_eq_true,List.all_eq_true,List.mem_range] at hb
  obtain⟨⟨⟨b1,b2⟩,b3⟩,b4⟩:=hb
  have hgM:∀j,(cu l.length M).getD j false=true↔j∈M:=λj=>by
    rw[cP]
    by_cases hjl:j<l.length
    · simp[hjl]
    · simp only[hjl,if_false,Bool.false_eq_true,false_iff]
      exact λhm=>hjl (by simpa using b4 j hm)
  refine sq (v:=v) (w0:=w) (M:=cu l.length M) (D:=cu l.length done) (by simpa using hi) (gR hn) (kB hq) (λc a w h=>by cases h.1) (λj oj hj hm hne=>?_) (λj oj hj hm hD hne=>?_) fuel _ a w (cE.refl _ _) (λj hj=>?_) (λj hj=>hj) (fx hi hf) hr' (λw' hw'=>?_) ?_
  · have hj':l[j]? =some oj:=by simpa using hj
    have hjl:j<l.length:=(List.getElem?_eq_some_iff.1 hj').1
    have h1:=b1 j hjl
    have hmM:M.contains j=false:=by
      cases hc:M.contains j with
      |false=>rfl
      |true=>have h9:=(hgM j).2 (by simpa using hc);rw[hm] at h9;cases h9
    simp only[hmM,hj',Bool.false_or,Bool.or_eq_true,beq_iff_eq,hne,false_or] at h1
    obtain⟨e,he,hbb⟩:=Array.any_eq_true'.1 h1
    simp only[Bool.and_eq_true,Bool.not_eq_true'] at hbb
    refine⟨e,he,hbb.1,?_⟩
    cases hc:(cu l.length M).getD e.on false with
    |false=>rfl
    |true=>
      have:=(hgM _).1 hc
      have h2:=hbb.2
      simp[this] at h2
  · have h1:=b2 j ((hgM j).1 hm)
    have hj':l[j]? =some oj:=by simpa using hj
    have hjl:j<l.length:=(List.getElem?_eq_some_iff.1 hj').1
    rw[cP,if_pos hjl] at hD
    have hd:done.contains j=false:=by simpa using hD
    simp only[hj',Bool.or_eq_true,beq_iff_eq,hne,hd,false_or,Bool.false_eq_true] at h1
    rcases h1 with h1|h1
    · exact .inl (kB h1)
    · exact .inr h1
  · rw[cP] at hj
    split at hj
    · have h1:=b3 j (by simpa using hj)
      exact(hgM j).2 (by simpa using h1.1)
    · cases hj
  · refine .inl ⟨?_,.inl ?_⟩
    · rw[ha.yielded];exact hw
    · rw[ha.eval];exact h w' hw'
  · rw[dl done hlt]
    exact hk _ (ha.put hd v)
theorem dE(i:Nat)(hi:l[i]? =some ⟨dst,op,ty,pos,after,g⟩)(hn:g7 l=true)(hc:(qs.contains i&&fJ l done i&&ij l done i&&lz n ⟨dst,op,ty,pos,after,g⟩)=true)
    (hw:d6 l ⟨dst,op,ty,pos,after,g⟩ f=true)(h:∀w,(execOp (ev f) ⟨dst,op,ty,pos,after,g⟩).run P w= .ok (.value v) w)(hk:mn P n l qs K fuel (i::done) (gN f dst v) w):mn P n l qs K (fuel+1) done f w:=by
  simp only[Bool.and_eq_true] at hc
  obtain⟨⟨⟨hq,hr⟩,hf⟩,hd⟩:=hc
  obtain⟨hlt,hr'⟩:=eV hr
  intro a ha
  refine mQ (v:=v) (by simpa using hi) (gR hn) (kB hq) (λc a w h=>by cases h.1) fuel _ a w (fx hi hf) hr' (.inl ⟨by rw[ha.yielded];exact hw,λw=>by rw[ha.eval];exact h w⟩) ?_
  rw[dl done hlt]
  exact hk _ (ha.put hd v)
theorem ci(i:Nat)(hi:l[i]? =some ⟨dst,op,ty,pos,after,g⟩)(hn:g7 l=true)(hc:(qs.contains i&&fJ l done i&&ij l done i&&lz n ⟨dst,op,ty,pos,after,g⟩)=true)
   (hw:d6 l ⟨dst,op,ty,pos,after,g⟩ f=false)(hk:mn P n l qs K fuel (i::done) (gN f dst undef) w):mn P n l qs K (fuel+1) done f w:=by
 simp only[Bool.and_eq_true] at hc
 obtain⟨⟨⟨hq,hr⟩,hf⟩,hd⟩:=hc
 obtain⟨hlt,hr'⟩:=eV hr
 intro a ha
 refine mQ (v:=undef) (by simpa using hi) (gR hn) (kB hq) (λc a w h=>by cases h.1) fuel _ a w (fx hi hf) hr' (.inr ⟨by rw[ha.yielded];exact hw,rfl⟩) ?_
 rw[dl done hlt]
 exact hk _ (ha.put hd undef)
theorem gA{i:Nat}{o:Oper}{a:Act}{K':Act->World->Prop}{Q:Exit->Act->World->Prop}{N:Value->World->Prop}(ha:Ag n a f)(hi:l[i]? =some o)(hw:d6 l o f=true)(h:h7 P o f w N)(hN:∀v w',N v w'->K' (a.put o.dst v) w'):wpOp P l.toArray Q i K' a w:=by
 unfold wpOp
 have hi':l.toArray[i]? =some o:=by simpa using hi
 simp only[hi']
 have hw':Region.wanted o (yielded l.toArray a.tmps)=true:=by rw[ha.yielded];exact hw
 simp only[hw',if_true]
 refine .inl ?_
 unfold Oper.wp
 rw[ha.eval]
 unfold h7 at h
 generalize(execOp (ev f) o).run P w=r at*
 cases r with
 |halt x w'=>exact h.elim
 |ok nx w'=>
   cases nx<;>simp only[vo] at h<;>simp only[Oper.upon]
   case value v=>exact hN _ _ h
   case skip=>exact hN _ _ h
   case enter g args=>
     refine h.mono λe w'' he=>?_
     cases e with
     |returned v=>exact hN _ _ he
     |panicked c=>exact he.elim
     |outgrown=>exact he.elim
theorem ct(i:Nat)(hi:l[i]? =some ⟨dst,op,ty,pos,after,g⟩)(hc:(decide (Region.ready .any l.toArray (cu l.length done)=[i])&& !qs.contains i&&lz n ⟨dst,op,ty,pos,after,g⟩)=true)
    (hw:d6 l ⟨dst,op,ty,pos,after,g⟩ f=true)(h:h7 P ⟨dst,op,ty,pos,after,g⟩ f w (λv w'=>mn P n l qs K fuel (i::done) (gN f dst v) w')):mn P n l qs K (fuel+1) done f w:=by
  simp only[Bool.and_eq_true,decide_eq_true_eq,Bool.not_eq_true'] at hc
  obtain⟨⟨hr,hq⟩,hd⟩:=hc
  have hlt:i<l.length:=(List.getElem?_eq_some_iff.1 hi).1
  intro a ha
  refine⟨λh0=>(by rw[hr] at h0;cases h0),λj hj=>?_⟩
  rw[hr] at hj
  obtain rfl:j=i:=by simpa using hj
  have hq':decide (j∈qs)=false:=by simpa using hq
  simp only[hq',Bool.false_eq_true,if_false]
  refine gA ha hi hw h λv w' hk=>?_
  rw[dl done hlt]
  exact hk _ (ha.put hd v)
theorem rX(i j:Nat){dst':Option Tmp}{op':Op}{ty':TypeId}{pos':String}{after':Array Edge}{g':Option (Nat×Bool)}(hi:l[i]? =some ⟨dst,op,ty,pos,after,g⟩)(hj:l[j]? =some ⟨dst',op',ty',pos',after',g'⟩)
    (hc:(decide (Region.ready .any l.toArray (cu l.length done)=[i,j])&& !qs.contains i&& !qs.contains j&&lz n ⟨dst,op,ty,pos,after,g⟩&&lz n ⟨dst',op',ty',pos',after',g'⟩)=true)
    (hw:d6 l ⟨dst,op,ty,pos,after,g⟩ f=true)(hw':d6 l ⟨dst',op',ty',pos',after',g'⟩ f=true)
    (h:h7 P ⟨dst,op,ty,pos,after,g⟩ f w (λv w'=>mn P n l qs K fuel (i::done) (gN f dst v) w'))(h':h7 P ⟨dst',op',ty',pos',after',g'⟩ f w (λv w'=>mn P n l qs K fuel (j::done) (gN f dst' v) w')):mn P n l qs K (fuel+1) done f w:=by
  simp only[Bool.and_eq_true,decide_eq_true_eq,Bool.not_eq_true'] at hc
  obtain⟨⟨⟨⟨hr,hq⟩,hq2⟩,hd⟩,hd'⟩:=hc
  have hlt:i<l.length:=(List.getElem?_eq_some_iff.1 hi).1
  have hlt':j<l.length:=(List.getElem?_eq_some_iff.1 hj).1
  intro a ha
  refine⟨λh0=>(by rw[hr] at h0;cases h0),λk hk=>?_⟩
  rw[hr] at hk
  have hk':k=i\/k=j:=by simpa using hk
  rcases hk' with rfl|rfl
  · have hq':decide (k∈qs)=false:=by simpa using hq
    simp only[hq',Bool.false_eq_true,if_false]
    refine gA ha hi hw h λv w' hk=>?_
    rw[dl done hlt]
    exact hk _ (ha.put hd v)
  · have hq':decide (k∈qs)=false:=by simpa using hq2
    simp only[hq',Bool.false_eq_true,if_false]
    refine gA ha hj hw' h' λv w' hk=>?_
    rw[dl done hlt']
    exact hk _ (ha.put hd' v)
theorem ec(hr:decide (Region.ready .any l.toArray (cu l.length done)=[])=true)(h:K f w):mn P n l qs K 0 done f w:=λ_ ha=>⟨of_decide_eq_true hr,rfl,f,ha,h⟩
end
end TL
/-
  TlHold: regions that draw their order, where what is read stays: on the kit's OrdersHeld.
  By an AI agent.
-/
set_option linter.all false
namespace TL
open Go
section
variable{P:Program}{n:Nat}{l:List Oper}{S:World->Prop}{K:Fr->World->Prop}{f:Fr}{w:World}{done:List Nat}{fuel:Nat}
def rQ(P:Program)(n:Nat)(l:List Oper)(S:World->Prop)(K:Fr->World->Prop)(fuel:Nat)(done:List Nat)(f:Fr)(w:World):Prop:=
  ∀a,Ag n a f->wpAnyH P .any l.toArray (λe a' w'=>e= .normal/\∃f',Ag n a' f'/\K f' w') S fuel (cu l.length done) a w
theorem bj.same{J:cx->Prop}{γ γ':aK}{w w':World}(h:bj J γ w γ' w'):bj J γ w γ w':=⟨h.os,h.tape,h.output,h.size,λ_ _ _=>rfl,h.keep,h.drawn⟩
theorem eu{fid:Nat}{R:Ending->World->Prop}{k:List Item}{id:Nat}(γ:aK)(J:cx->Prop)(hm:P.follows .mixedOrders=true)
   (h:∀w1,bj no γ w γ w1->rQ P n l (λw'=>bj J γ w1 γ w') (fo P fid n R k) l.length [] f w1):fo P fid n R (.code (.region id l.toArray true)::k) f w:=
 iY λa ha=>wp_region_held hm (by
   have h0:=h _ (bj.refl _ _ _).drew a ha
   have hmask:cu l.length []=Array.replicate l.toArray.size false:=by
     apply Array.ext
     · simp[cu]
     · intro j h1 h2;simp[cu]
   rw[hmask] at h0
   simpa using h0)
theorem dj{fid:Nat}{R:Ending->World->Prop}{k:List Item}{id:Nat}{σ:Type}(Mid:σ->Fr->World->Prop)(γ:aK)(J:cx->Prop)(hm:P.follows .mixedOrders=true)
    (h:(∀s f w,Mid s f w->fo P fid n R k f w)->∀w1,bj no γ w γ w1->rQ P n l (λw'=>bj J γ w1 γ w') (fo P fid n R k) l.length [] f w1)(hk:∀s f w,Mid s f w->fo P fid n R k f w):fo P fid n R (.code (.region id l.toArray true)::k) f w:=
  eu γ J hm (h hk)
variable{dst:Option Tmp}{op:Op}{ty:TypeId}{pos:String}{after:Array Edge}{g:Option (Nat×Bool)}{v:Value}
theorem yW(i:Nat)(hi:l[i]? =some ⟨dst,op,ty,pos,after,g⟩)(hn:g7 l=true)(hc:(fJ l done i&&ij l done i&&lz n ⟨dst,op,ty,pos,after,g⟩)=true)
   (hw:d6 l ⟨dst,op,ty,pos,after,g⟩ f=true)(hS:S w)(h:∀w,S w->(execOp (ev f) ⟨dst,op,ty,pos,after,g⟩).run P w= .ok (.value v) w)(hk:rQ P n l S K fuel (i::done) (gN f dst v) w):rQ P n l S K (fuel+1) done f w:=by
 simp only[Bool.and_eq_true] at hc
 obtain⟨⟨hr,hf⟩,hd⟩:=hc
 obtain⟨hlt,hr'⟩:=eV hr
 intro a ha
 refine wpAnyH_first (v:=v) (by simpa using hi) (gR hn) (λc a w h=>by cases h.1) fuel _ a w (fx hi hf) hr' (.inl ⟨by rw[ha.yielded];exact hw,λw hs=>by rw[ha.eval];exact h w hs⟩) hS ?_
 rw[dl done hlt]
 exact hk _ (ha.put hd v)
def A7(P:Program)(n:Nat)(l:List Oper)(S:World->Prop)(K:Fr->World->Prop)(fuel:Nat)(done:List Nat)(f:Fr)(w:World)(i:Nat):Prop:=
  ∃o,l[i]? =some o/\i<l.length/\(d6 l o f=true/\lz n o=true/\h7 P o f w (λv w'=>S w'/\rQ P n l S K fuel (i::done) (gN f o.dst v) w'))
theorem cv(i:Nat)(hi:l[i]? =some ⟨dst,op,ty,pos,after,g⟩)(hc:lz n ⟨dst,op,ty,pos,after,g⟩=true)(hw:d6 l ⟨dst,op,ty,pos,after,g⟩ f=true)
   (h:h7 P ⟨dst,op,ty,pos,after,g⟩ f w (λv w'=>S w'/\rQ P n l S K fuel (i::done) (gN f dst v) w')):A7 P n l S K fuel done f w i:=
 ⟨_,hi,(List.getElem?_eq_some_iff.1 hi).1,hw,hc,h⟩
def xG(P:Program)(n:Nat)(l:List Oper)(S:World->Prop)(K:Fr->World->Prop)(fuel:Nat)(done:List Nat)(f:Fr)(w:World):List Nat->Prop
 |[]=>True
 |i::r=>A7 P n l S K fuel done f w i/\xG P n l S K fuel done f w r
theorem xG.mem{L:List Nat}(h:xG P n l S K fuel done f w L):∀i∈L,A7 P n l S K fuel done f w i:=by
 induction L with
 |nil=>intro i hi;cases hi
 |cons j r ih=>
   intro i hi
   rcases List.mem_cons.1 hi with rfl|hi
   · exact h.1
   · exact ih h.2 i hi
theorem cy(i:Nat)(L:List Nat)(hr:decide (Region.ready .any l.toArray (cu l.length done)=i::L)=true)(h:xG P n l S K fuel done f w (i::L)):rQ P n l S K (fuel+1) done f w:=by
 have hr:=of_decide_eq_true hr
 intro a ha
 refine⟨λh0=>(by rw[hr] at h0;cases h0),λk hk=>?_⟩
 rw[hr] at hk
 obtain⟨o,hi,hlt,hw,hd,ho⟩:=h.mem k (by simpa using hk)
 obtain⟨dst,op,ty,pos,after,g⟩:=o
 refine gA ha hi hw ho λv w' hk=>⟨hk.1,?_⟩
 rw[dl done hlt]
 exact hk.2 _ (ha.put hd v)
theorem aP(i:Nat)(hi:l[i]? =some ⟨dst,op,ty,pos,after,g⟩)(hc:(decide (Region.ready .any l.toArray (cu l.length done)=[i])&&lz n ⟨dst,op,ty,pos,after,g⟩)=true)
   (hw:d6 l ⟨dst,op,ty,pos,after,g⟩ f=true)(h:h7 P ⟨dst,op,ty,pos,after,g⟩ f w (λv w'=>S w'/\rQ P n l S K fuel (i::done) (gN f dst v) w')):rQ P n l S K (fuel+1) done f w:=by
 simp only[Bool.and_eq_true] at hc
 exact cy i [] hc.1 ⟨cv i hi hc.2 hw h,trivial⟩
theorem c9(hr:decide (Region.ready .any l.toArray (cu l.length done)=[])=true)(h:K f w):rQ P n l S K 0 done f w:=λ_ ha=>⟨of_decide_eq_true hr,rfl,f,ha,h⟩
end
end TL
namespace TL
open Go
theorem fz{α:Type}[Rp α]{γ:aK}{w:World}{v:Value}{xss:List (List α)}{S:cx->Prop}{r:Int}(hs:Sl γ S w v xss)(h0:0<=r)(h1:r<xss.length):
    ∃u,(∀(J:cx->Prop) (w':World),(∀c,S c->¬J c)->bj J γ w γ w'->w'.cell? (aR v 1 r.toNat)=some u)/\Sl γ S w u (gI xss r):=by
  obtain⟨u,h2,h3⟩:=cA hs h0 h1
  refine⟨u,λJ w' hJ hc=>?_,h3⟩
  have h4:=hs.chg hc hJ
  obtain⟨u',h5,_⟩:=cA h4 h0 h1
  rcases hs with⟨⟨_,rfl⟩,rfl⟩|⟨b,off,cap,rfl,_,hx⟩
  · simp at h1;omega
  · obtain⟨hb,hS,_⟩:=hx r.toNat _ (fI h0 h1)
    rw[<-h2]
    exact h8 (hc.keep b hb (hJ _ hS))
end TL
/-
  TlNet: nets, and what layer 3 says of them, as plain functions.
  By an AI agent.
-/
set_option linter.all false
namespace TL
abbrev d5:=Int×List (Int×Int)
def pJ(n:Int)(e:Int×Int):Prop:=(0<=e.1/\e.1<n)/\0<=e.2/\e.2<n
instance (n:Int)(e:Int×Int):Decidable (pJ n e):=by unfold pJ;infer_instance
def c8(g:d5):Prop:=0<=g.1/\g.1<=1024/\g.2.length<=3072/\∀e∈g.2,pJ g.1 e
instance (g:d5):Decidable (c8 g):=by unfold c8;infer_instance
def dq(g:d5):Bool:=decide (c8 g)
theorem mW{g:d5}(h:c8 g):dq g=true:=decide_eq_true h
theorem cJ{g:d5}(h:¬c8 g):dq g=false:=decide_eq_false h
end TL
namespace TL
theorem tS{α:Type}[Inhabited α](xs:List α)(k:Nat):gI xs (k:Int)=xs.getD k default:=by simp[gI]
theorem fu{α:Type}[Inhabited α]{xs:List α}{i j:Int}{y:α}(hi:0<=i)(hi':i<xs.length)(hj:0<=j):gI (xs.set i.toNat y) j=if j=i then y else gI xs j:=by
 unfold gI
 by_cases h:j=i
 · subst h
   have:j.toNat<xs.length:=by omega
   simp[this]
 · have:i.toNat≠j.toNat:=by omega
   simp[h,List.getElem?_set_ne this]
theorem ns{α:Type}[Inhabited α]{n:Nat}{x:α}{i:Int}(h0:0<=i)(h1:i<n):gI (List.replicate n x) i=x:=by
 have:i.toNat<n:=by omega
 simp[gI,this]
end TL
namespace TL
end TL
namespace TL
end TL
namespace TL
def bv(g:d5)(h:Int):Int:=pI (gI g.2 (h/2)) (h%2)
def jk(g:d5)(v:Int)(k:Nat):List Int:=((List.range (2*k)).map (λ(i:Nat)=>(i:Int))).filter λh=>decide (bv g h=v)
def cU(g:d5)(v:Int):List Int:=jk g v g.2.length
theorem lL(g:d5)(k:Nat):bv g (2*(k:Int))=(gI g.2 k).1:=by
 unfold bv
 have h1:2*(k:Int)/2=k:=by omega
 have h2:2*(k:Int)%2=0:=by omega
 rw[h1,h2];rfl
theorem mO(g:d5)(k:Nat):bv g (2*(k:Int)+1)=(gI g.2 k).2:=by
 unfold bv
 have h1:(2*(k:Int)+1)/2=k:=by omega
 have h2:(2*(k:Int)+1)%2=1:=by omega
 rw[h1,h2];rfl
theorem pO(g:d5)(v:Int)(k:Nat):jk g v (k+1)=jk g v k++((if(gI g.2 k).1=v then[2*(k:Int)] else[])++(if(gI g.2 k).2=v then[2*(k:Int)+1] else[])):=by
 unfold jk
 rw[show 2*(k+1)=2*k+1+1 by omega,List.range_succ,List.range_succ]
 simp only[List.map_append,List.filter_append,List.map_cons,List.map_nil,List.append_assoc]
 congr 1
 have e1:((2*k:Nat):Int)=2*(k:Int):=by omega
 have e2:((2*k+1:Nat):Int)=2*(k:Int)+1:=by omega
 rw[e1,e2]
 congr 1
 · by_cases h:(gI g.2 (k:Int)).1=v
   · simp[lL,h]
   · simp[lL,h]
 · by_cases h:(gI g.2 (k:Int)).2=v
   · simp[mO,h]
   · simp[mO,h]
theorem mM(g:d5)(v:Int)(k:Nat):(jk g v k).length<=2*k:=by
 unfold jk
 have:=List.length_filter_le (λh=>decide (bv g h=v)) ((List.range (2*k)).map (λ(i:Nat)=>(i:Int)))
 simpa using this
end TL
namespace TL
theorem kM{α:Type}[Inhabited α]{l l':List α}(hl:l.length=l'.length)(h:∀i:Nat,i<l.length->gI l i=gI l' i):l=l':=by
 apply List.ext_getElem hl
 intro i h1 h2
 have:=h i h1
 simpa[gI,h1,h2] using this
end TL
namespace TL
def pj(x:List Int)(i:Nat):Int:=((x.take i).drop 1).foldl min (gI x 0)
def dW(x:List Int):Int:=pj x x.length
theorem m5{x:List Int}{i:Nat}(h1:1<=i)(hi:(i:Int)<x.length):(x.take (i+1)).drop 1=(x.take i).drop 1++[gI x i]:=by
 rw[bB hi,List.drop_append_of_le_length (by simp;omega)]
theorem sE{x:List Int}{i:Nat}(h1:1<=i)(hi:(i:Int)<x.length):pj x (i+1)=min (pj x i) (gI x i):=by
 unfold pj;rw[m5 h1 hi];simp
end TL
namespace TL
end TL
namespace TL
section
variable{l0 l1:Int}{F:Int×Int->Int}{g:d5}{k:Nat}
end
end TL
/-
  TlNetLaws: what follows of nets: parts of parts, subs of subs.
  By an AI agent.
-/
set_option linter.all false
namespace TL
theorem zD{α β:Type}[Inhabited α][Inhabited β](f:α->β){l:List α}{i:Int}(h0:0<=i)(h1:i<l.length):gI (l.map f) i=f (gI l i):=by
 have:i.toNat<l.length:=by omega
 simp[gI,this]
end TL
/-
  TlNetSums: degrees' sum; all edges, all nodes; moved there and back.
  By an AI agent.
-/
set_option linter.all false
namespace TL
def jl(n:Nat):List Int:=(List.range n).map λ(i:Nat)=>(i:Int)
theorem tO(n:Nat):(jl n).length=n:=by simp[jl]
theorem sB(n:Nat):jl (n+1)=jl n++[(n:Int)]:=by simp[jl,List.range_succ]
theorem oM{n:Nat}{x:Int}:x∈jl n↔0<=x/\x<n:=by
 unfold jl
 rw[List.mem_map]
 constructor
 · rintro⟨i,hi,rfl⟩
   have:=List.mem_range.1 hi
   omega
 · rintro⟨h1,h2⟩
   exact⟨x.toNat,List.mem_range.2 (by omega),by omega⟩
theorem qf(n:Nat):(jl n).Nodup:=by
 induction n with
 |zero=>simp[jl]
 |succ n ih=>
   rw[sB,List.nodup_append]
   refine⟨ih,by simp,λa ha b hb=>?_⟩
   have:=oM.1 ha
   have:=List.mem_singleton.1 hb
   omega
theorem uv:∀(n:Nat) (l:List Int),l.Nodup->(∀x∈l,0<=x/\x<(n:Int))->l.length<=n
 |0,l,_,h=>by
   cases l with
   |nil=>simp
   |cons a l=>have:=h a (by simp);omega
 |n+1,l,hn,h=>by
   have h1:(l.erase (n:Int)).Nodup:=hn.erase _
   have h2:=uv n (l.erase (n:Int)) h1 (λx hx=>by
     have h3:=hn.mem_erase_iff.1 hx
     have:=h x h3.2
     omega)
   by_cases hm:(n:Int)∈l
   · have:=List.length_erase_of_mem hm
     omega
   · rw[List.erase_of_not_mem hm] at h2
     omega
end TL
/-
  TlRef3: what the document's own answer of layer 3 goes through.
  By an AI agent.
-/
set_option linter.all false
namespace TL
def ni(g:d5)(v:Int)(h:Nat):List Int:=((List.range h).map (λ(i:Nat)=>(i:Int))).filter λh=>decide (bv g h=v)
theorem sx(g:d5)(v:Int)(h:Nat):ni g v (h+1)=if bv g h=v then ni g v h++[(h:Int)] else ni g v h:=by
 unfold ni
 rw[List.range_succ,List.map_append,List.filter_append]
 by_cases e:bv g (h:Int)=v
 · rw[if_pos e];simp[e]
 · rw[if_neg e];simp[e]
theorem tK(g:d5)(v:Int)(h:Nat):(ni g v h).length<=h:=by
 unfold ni
 have:=List.length_filter_le (λh=>decide (bv g h=v)) ((List.range h).map (λ(i:Nat)=>(i:Int)))
 simpa using this
theorem vk(g:d5)(v:Int){h:Nat}(hh:h=2*g.2.length):ni g v h=cU g v:=by subst hh;rfl
theorem ot{g:d5}(hm:c8 g){h:Int}(h0:0<=h)(h1:h<2*(g.2.length:Int)):0<=bv g h/\bv g h<g.1:=by
 have hok:=hm.2.2.2 _ (bk (xs:=g.2) (i:=h/2) (by omega) (by omega))
 unfold pJ at hok
 unfold bv pI
 split<;>omega
end TL
/-
  TlInts: lists that are kept, written full, and read again.
  By an AI agent.
-/
set_option linter.all false
namespace TL
def gm(K:List (List Int))(s:Int):Prop:=(K.length:Int)<=s/\s<=1048576/\∀l∈K,l.length<=1048576
theorem gm.nil:gm [] 0:=⟨by simp,by omega,by simp⟩
theorem gm.add{K:List (List Int)}{s n:Int}{l:List Int}(h:gm K s)(h0:0<n)(h1:s+n<=1048576)(hl:(l.length:Int)<=n):gm (K++[l]) (s+n):=by
 obtain⟨a,b,c⟩:=h
 refine⟨by simp;omega,h1,λx hx=>?_⟩
 rcases List.mem_append.1 hx with hx|hx
 · exact c x hx
 · obtain rfl:=List.mem_singleton.1 hx
   omega
theorem gm.len{K:List (List Int)}{s:Int}(h:gm K s):(K.length:Int)<=s/\s<=1048576/\0<=s:=by
 obtain⟨a,b,c⟩:=h
 omega
structure kP(L:List (List Int))(i:Nat):Prop where
  le:(i:Int)<=L.length
  few:L.length<=1048576
  done:∀r:Nat,r<i->∀q:Nat,q<(gI L r).length->gI (gI L (r:Int)) (q:Int)= -1000-(r:Int)
  rest:∀r:Nat,i<=r->r<L.length->(gI L (r:Int)).length<=1048576
theorem gm.ap{K:List (List Int)}{s:Int}(h:gm K s):kP K 0:=by
 obtain⟨a,b,c⟩:=h
 refine⟨by simp,by omega,λr hr=>by omega,λr _ hr=>c _ (bk (by omega) (by omega))⟩
structure ii(L1 L:List (List Int))(i:Nat)(n:Int):Prop where
  len:L1.length=L.length
  le:((gI L1 i).length:Int)<=1050577
  other:∀r:Nat,r≠i->gI L1 (r:Int)=gI L (r:Int)
theorem ii.start{L:List (List Int)}{i:Nat}{n:Int}(h:kP L i)(hi:(i:Int)<L.length):ii L L i n:=⟨rfl,by have:=h.rest i (Nat.le_refl _) (by omega);omega,λr _=>rfl⟩
theorem i0{α:Type}[Inhabited α]{L:List α}{i r:Nat}{x:α}(h:r≠i):gI (L.set i x) (r:Int)=gI L (r:Int):=by
 simp[gI,List.getElem?_set_ne (Ne.symm h)]
theorem gz{α:Type}[Inhabited α]{L:List α}{i:Nat}{x:α}(h:(i:Int)<L.length):gI (L.set i x) (i:Int)=x:=by
 simp[gI,show i<L.length by omega]
theorem ii.next{L1 L:List (List Int)}{i:Nat}{n:Int}(h:ii L1 L i n)(hi:(i:Int)<L.length)(hn:((gI L1 i).length:Int)<n)(hb:n<=1050577):ii (L1.set (i:Int).toNat (gI L1 i++[0])) L i n:=by
 have hl:=h.len
 refine⟨by simpa using hl,?_,λr hr=>?_⟩
 · simp only[Int.toNat_natCast]
   rw[gz (by omega)];simp;omega
 · simp only[Int.toNat_natCast]
   rw[i0 hr,h.other r hr]
theorem ii.meas{L1 L:List (List Int)}{i:Nat}{n:Int}(h:ii L1 L i n)(hi:(i:Int)<L.length):((gI (L1.set (i:Int).toNat (gI L1 i++[0])) i).length:Int)=(gI L1 i).length+1:=by
 have hl:=h.len
 simp only[Int.toNat_natCast]
 rw[gz (by omega)];simp
structure kL(L2 L:List (List Int))(i:Nat)(k:Nat):Prop where
  len:L2.length=L.length
  le:(k:Int)<=(gI L2 (i:Int)).length
  few:((gI L2 i).length:Int)<=1050577
  done:∀q:Nat,q<k->gI (gI L2 (i:Int)) (q:Int)= -1000-(i:Int)
  other:∀r:Nat,r≠i->gI L2 (r:Int)=gI L (r:Int)
theorem ii.wr{L1 L:List (List Int)}{i:Nat}{n:Int}(h:ii L1 L i n):kL L1 L i 0:=⟨h.len,by simp,h.le,λq hq=>by omega,h.other⟩
theorem kL.next{L2 L:List (List Int)}{i k:Nat}(h:kL L2 L i k)(hi:(i:Int)<L.length)(hk:(k:Int)<(gI L2 i).length):kL (L2.set (i:Int).toNat ((gI L2 i).set (k:Int).toNat (-1000-(i:Int)))) L i (k+1)/\(gI (L2.set (i:Int).toNat ((gI L2 i).set (k:Int).toNat (-1000-(i:Int)))) (i:Int)).length=(gI L2 (i:Int)).length:=by
 have hl:=h.len
 simp only[Int.toNat_natCast]
 have e:gI (L2.set i ((gI L2 (i:Int)).set k (-1000-(i:Int)))) (i:Int)=(gI L2 (i:Int)).set k (-1000-(i:Int)):=gz (by omega)
 refine⟨⟨by simpa using hl,by rw[e];simp;omega,by rw[e];simpa using h.few,λq hq=>?_,λr hr=>by rw[i0 hr,h.other r hr]⟩,by rw[e];simp⟩
 rw[e]
 by_cases hq2:q=k
 · subst hq2;exact gz hk
 · rw[i0 hq2];exact h.done q (by omega)
theorem kL.fin{L2 L:List (List Int)}{i k:Nat}(h:kL L2 L i k)(ha:kP L i)(hi:(i:Int)<L.length)(hk:¬(k:Int)<(gI L2 i).length):kP L2 (i+1):=by
 have hl:=h.len
 have hle:=h.le
 refine⟨by omega,by have:=ha.few;omega,λr hr q hq=>?_,λr h1 h2=>?_⟩
 · by_cases e:r=i
   · subst e;exact h.done q (by omega)
   · rw[h.other r e] at hq ⊢;exact ha.done r (by omega) q hq
 · rw[h.other r (by omega)];exact ha.rest r (by omega) (by omega)
theorem kP.read{L:List (List Int)}{m i k:Nat}(h:kP L m)(hm:(m:Int)=L.length)(hi:(i:Int)<L.length)(hk:(k:Int)<(gI L i).length):gI (gI L (i:Int)) (k:Int)= -1000-(i:Int):=h.done i (by omega) k (by omega)
end TL
namespace TL
end TL
namespace TL
end TL
/-
  TlKeep: rows of an own list given away one by one while the list stays readable; rows with a mark behind each.
  By an AI agent.
-/
set_option linter.all false
namespace TL
open Go
def gv(i k j:Nat):cx->Prop:=λc=>(c.1=i/\c.2≠0)\/(c.1=k/\1<=c.2/\c.2<=j)
def j3(q i k:Nat):cx->Prop:=λc=>c.1=q\/(c.1=i/\c.2=0)\/c.1=k
def jr(q i k r:Nat):cx->Prop:=λc=>c.1=q\/(c.1=i/\c.2=0)\/(c.1=k/\c.2=r)
theorem AD{q i k r:Nat}:∀c,jr q i k r c->j3 q i k c:=λc h=>h.elim .inl λh=>h.elim (λh=>.inr (.inl h)) λh=>.inr (.inr h.1)
theorem bj.l3{L:List Nat}{q i k:Nat}{γ γ':aK}{w w':World}(h:bj (j3 q i k) γ w γ' w')(h1:L.contains q=true)(h2:L.contains i=true)(h3:L.contains k=true):bj (bV L) γ w γ' w':=h.mono λc hc=>by
 unfold bV
 rcases hc with hc|hc|hc
 · rw[hc];exact h1
 · rw[hc.1];exact h2
 · rw[hc];exact h3
def kJ(γ:aK)(k r:Nat)(c:cx):aK:=λb=>if γ b=(k,r) then c else γ b
section
variable{P:Program}{w:World}{t t':TypeId}{f:Fr}{x y:Operand}{dst:Option Tmp}{ty:TypeId}{pos:String}{after:Array Edge}{g:Option (Nat×Bool)}{N:Value->World->Prop}{α:Type}[Rp α]{γ:aK}{v u:Value}{xss:List (List α)}{l:List α}{i k j:Nat}
theorem nl[Fl α]{S':cx->Prop}{tv:Value}{c:Vc}(hcv:c.v=u){e bytes:Nat}{z:Value}(ht:P.underlying t=some (.slice e))(he:Tp P e false 1 bytes z)(hzc:z.cells.size=1)(hx:ev f x=v)(hy:ev f y=tv)
    (hn:dr γ i w v xss)(htv:Sl γ S' w tv [c])(hu:Ow γ (row k (j+1)) (row k (j+1)) w u l)(hk:Nat.beq k i=false)(hby:bytes<=128)(hlen:xss.length+1<=1099511627776)
    (hN:∀γ' w' v',bj (λc=>row i 0 c\/row k (j+1) c) γ w γ' w'->dr γ' i w' v' (xss++[l])->Sl γ' (gv i k (j+1)) w' u l->N v' w'):h7 P ⟨dst,.call {callee:=.builtin .append,args:= #[x,y],argTypes:= #[t,t]},ty,pos,after,g⟩ f w N:=by
  obtain⟨us,h2,h3,h4⟩:=hn
  have hki:=js hk
  refine aV γ (J:=row i 0) (S:=row i 0) (i,0) rfl ht he (Nat.zero_lt_one) hzc hx hy h2 htv hby (by simpa[h3] using hlen) λγ1 w1 v1 hc ho=>?_
  have hrw:∀q b,row i q (γ1 b)->row i q (kJ γ1 k (j+1) (i,xss.length+1) b):=λq b hq=>by
    unfold row at hq
    unfold kJ
    rw[if_neg (by rw[hq];intro h;exact hki (congrArg Prod.fst h).symm)]
    exact hq
  have hch:=hu.chg hc (sd hk) (sd hk)
  have hto:∀b,row k (j+1) (γ1 b)->row i (xss.length+1) (kJ γ1 k (j+1) (i,xss.length+1) b):=λb hb=>by
    unfold row at hb
    unfold kJ row
    rw[if_pos hb]
  have hrow:=hch.recol hto hto
  refine hN (kJ γ1 k (j+1) (i,xss.length+1)) w1 v1 ?_ ⟨us++[c],ho.recol (hrw 0) (hrw 0),by simp[h3],λr u' x hu' hx'=>?_⟩ (hrow.flat.mono λc h=>.inl ⟨dd c h,by unfold row at h;rw[h];simp⟩)
  · refine⟨hc.os,hc.tape,hc.output,hc.size,λb hb hn=>?_,λb hb hn=>hc.keep b hb λhj=>hn (.inl hj),hc.drawn⟩
    have h5:=hc.col b hb λhj=>hn (.inl hj)
    unfold kJ
    rw[h5]
    rw[if_neg (show¬γ b=(k,j+1) from λh=>hn (.inr h))]
  · by_cases hr:r<us.length
    · rw[List.getElem?_append_left hr] at hu'
      rw[List.getElem?_append_left (by omega)] at hx'
      exact((h4 r u' x hu' hx').chg hc (d7 (by omega)) (d7 (by omega))).recol (hrw _) (hrw _)
    · rw[List.getElem?_append_right (by omega)] at hu' hx'
      have e0:r-us.length=0:=by
        have:=(List.getElem?_eq_some_iff.1 hu').1
        simp at this;omega
      have er:r=xss.length:=by omega
      rw[e0] at hu'
      rw[<-h3,e0] at hx'
      obtain rfl:c=u':=by simpa using hu'
      obtain rfl:l=x:=by simpa using hx'
      subst er
      rw[hcv];exact hrow
end
section
variable{α:Type}[Rp α][Fl α]{γ γ':aK}{w w':World}{v:Value}{us:List Vc}{xss:List (List α)}{i k j q:Nat}
structure jh(γ:aK)(i k j:Nat)(w:World)(v:Value)(us:List Vc)(xss:List (List α)):Prop where
  heads:Ow γ (row k 0) (row k 0) w v us
  len:us.length=xss.length
  rows:∀(r:Nat) (u:Vc) (x:List α),us[r]? =some u->xss[r]? =some x->(r<j->Sl γ (gv i k j) w u.v x)/\(¬r<j->Ow γ (row k (r+1)) (row k (r+1)) w u.v x)
theorem jh.start(h:dr γ k w v xss):∃us,jh γ i k 0 w v us xss:=by
 obtain⟨us,h1,h2,h3⟩:=h
 exact⟨us,h1,h2,λr u x hu hx=>⟨λh=>by omega,λ_=>h3 r u x hu hx⟩⟩
theorem jh.next(h:jh γ i k j w v us xss)(hc:bj (jr q i k (j+1)) γ w γ' w')(hqk:Nat.beq k q=false)(hik:Nat.beq k i=false)(hqi:Nat.beq i q=false){u:Vc}{x:List α}(hu:us[j]? =some u)(hx:xss[j]? =some x)(hs:Sl γ' (gv i k (j+1)) w' u.v x):jh γ' i k (j+1) w' v us xss:=by
 have a1:=js hqk
 have a2:=js hik
 have a3:=js hqi
 have rowk:∀r,r≠j+1->∀c,row k r c->¬jr q i k (j+1) c:=λr hr c h1 h2=>by
   unfold row at h1
   subst h1
   rcases h2 with h2|h2|h2
   · exact a1 h2
   · exact a2 h2.1
   · exact hr h2.2
 refine⟨h.heads.chg hc (rowk 0 (by omega)) (rowk 0 (by omega)),h.len,λr u' x' hu' hx'=>⟨λhr=>?_,λhr=>?_⟩⟩
 · by_cases e:r=j
   · subst e
     rw[hu] at hu'
     rw[hx] at hx'
     obtain rfl:=Option.some.inj hu'
     obtain rfl:=Option.some.inj hx'
     exact hs
   · have h1:=(h.rows r u' x' hu' hx').1 (by omega)
     refine(h1.chg hc λc h2 h3=>?_).mono λc h2=>?_
     · rcases h2 with⟨h4,h5⟩|⟨h4,h5,h6⟩
       · rcases h3 with h3|h3|h3
         · exact a3 (h4.symm.trans h3)
         · exact h5 h3.2
         · exact a2 (h3.1.symm.trans h4)
       · rcases h3 with h3|h3|h3
         · exact a1 (h4.symm.trans h3)
         · exact a2 (h4.symm.trans h3.1)
         · have:=h3.2;omega
     · rcases h2 with h2|⟨h4,h5,h6⟩
       · exact .inl h2
       · exact .inr ⟨h4,h5,by omega⟩
 · have h1:=(h.rows r u' x' hu' hx').2 (by omega)
   exact h1.chg hc (rowk _ (by omega)) (rowk _ (by omega))
theorem Aj{S:cx->Prop}(h:Sl γ S w v us)(hl:us.length=xss.length)(hr:∀(r:Nat) (u:Vc) (x:List α),us[r]? =some u->xss[r]? =some x->Sl γ S w u.v x):Sl γ S w v xss:=by
  rcases h with⟨h0,rfl⟩|⟨b,off,cap,rfl,hc,hx⟩
  · have:xss=[]:=List.eq_nil_of_length_eq_zero (by simpa using hl.symm)
    subst this
    exact .inl ⟨h0,rfl⟩
  · refine .inr ⟨b,off,cap,by rw[hl],by rw[<-hl];exact hc,λr x hrx=>?_⟩
    have hlt:r<us.length:=by rw[hl];exact(List.getElem?_eq_some_iff.1 hrx).1
    have hu:us[r]? =some us[r]:=List.getElem?_eq_getElem hlt
    obtain⟨h1,h2,cs,hcs,hrep⟩:=hx r _ hu
    have hrep':cs=[us[r].v]:=hrep
    exact⟨h1,h2,cs,hcs,us[r].v,hrep',hr r _ x hu hrx⟩
theorem jh.done(h:jh γ i k j w v us xss)(hj:xss.length<=j):Sl γ (AS k i) w v xss:=by
 refine Aj ((h.heads.flat).mono λc hc=>?_) h.len λr u x hu hx=>?_
 · exact .inl (dd c hc)
 · have hlt:=(List.getElem?_eq_some_iff.1 hx).1
   refine((h.rows r u x hu hx).1 (by omega)).mono λc hc=>?_
   rcases hc with hc|hc
   · exact .inr hc
   · exact .inl hc.1
end
inductive Rw where
  |mk (l:List Int) (m:Int)
  |pl (l:List Int)
instance:Inhabited Rw:=⟨.pl []⟩
theorem mD{α:Type}[Rp α]{γ:aK}{S:cx->Prop}{w:World}{v:Value}{xs:List α}{m:α}(h:Sl γ S w (fS v) (xs++[m])):∃a l c,v= .slice a l c:=by
 rcases h with⟨_,h0⟩|⟨b,off,cap,hv,_⟩
 · simp at h0
 · cases v<;>simp[fS] at hv
   exact⟨_,_,_,rfl⟩
def Aa(γ:aK)(S:cx->Prop)(w:World)(v:Value):Rw->Prop
  | .mk l m=>Sl γ S w (fS v) (l++[m])
  | .pl l=>Sl γ S w v l
theorem Aa.one{γ:aK}{S:cx->Prop}{w:World}{v:Value}{x:Rw}(h:Aa γ S w v x):v.oneCell'=true:=by
 cases x with
 |mk l m=>
   obtain⟨a,b,c,rfl⟩:=mD h
   rfl
 |pl l=>
   rcases h with⟨⟨_,rfl⟩,_⟩|⟨b,off,cap,rfl,_⟩<;>rfl
theorem Aa.tr{γ γ':aK}{S S':cx->Prop}{w w':World}{v:Value}{x:Rw}(hsz:w.heap.size<=w'.heap.size)(h:∀b,b<w.heap.size->S (γ b)->w'.heap[b]? =w.heap[b]? /\S' (γ' b))(hx:Aa γ S w v x):Aa γ' S' w' v x:=by
 cases x with
 |mk l m=>exact Sl.tr h hx hsz
 |pl l=>exact Sl.tr h hx hsz
instance:Rp Rw where
 sz:=1
 rep γ S w cs x:=∃v,cs=[v]/\Aa γ S w v x
 len:=by rintro _ _ _ _ _ ⟨v,rfl,_⟩;rfl
 one:=by
   rintro _ _ _ _ _ ⟨v,rfl,h⟩ u hu
   obtain rfl:u=v:=by simpa using hu
   exact h.one
 tr:=by
   rintro _ _ _ _ _ _ _ _ hs h ⟨v,rfl,hv⟩
   exact⟨v,rfl,hv.tr hs h⟩
theorem Ow.sl_same{α:Type}[Rp α]{γ:aK}{S:cx->Prop}{w:World}{v:Value}{xs:List α}(hs:Ow γ S S w v xs):Sl γ S w v xs:=by
 rcases hs with hs|⟨b,cap,c,e,rfl,hc,hm,hJb,hb,hcs,hx⟩
 · exact .inl ⟨⟨_,hs.1⟩,hs.2⟩
 · refine .inr ⟨b,0,cap,rfl,hc,λi x hi=>?_⟩
   obtain⟨cs,hcs',hr⟩:=hx i x hi
   refine⟨dg hb,hJb,cs,λj hj=>?_,hr⟩
   rw[<-hcs' j hj]
   simp[World.cell?,hb]
section
variable{P:Program}{w:World}{t t':TypeId}{f:Fr}{x y:Operand}{dst:Option Tmp}{ty:TypeId}{pos:String}{after:Array Edge}{g:Option (Nat×Bool)}{N:Value->World->Prop}{γ:aK}{v u:Value}{xss:List (List Int)}{l:List Int}{i:Nat}
end
end TL
/-
  TlEq: structs compared; a pointer looked at for nil; a bit turned.
  By an AI agent.
-/
set_option linter.all false
namespace TL
open Go
section
variable{P:Program}{f:Fr}{w:World}{dst:Option Tmp}{ty:TypeId}{pos:String}{after:Array Edge}{g:Option (Nat×Bool)}{t t' e:TypeId}{x y:Operand}
theorem aI{a:Addr}(hx:ev f x= .pointer (some a)):(execOp (ev f) ⟨dst,.nilCheck x,ty,pos,after,g⟩).run P w= .ok (.value (.pointer (some a))) w:=by
 simp only[execOp,hx,Sem.run_pure]
inductive EqV (P:Program) (t:TypeId):Value->Value->Bool->Prop
 |int {a b:Int} (h:P.underlying t=some (.int .i64)):EqV P t (.int .i64 a) (.int .i64 b) (decide (a=b))
 |bool {a b:Bool} (h:P.underlying t=some .bool):EqV P t (.bool a) (.bool b) (decide (a=b))
inductive EqF (P:Program) (xs ys:Array Value):List Field->List Bool->Prop
 |nil:EqF P xs ys [] []
 |cons {fd:Field} {fs:List Field} {bs:List Bool} {a b z:Value} {r:Bool} {size bytes:Nat} (hn:(fd.name != "_")=true) (he:Tp P fd.type false size bytes z) (ha:xs[fd.offset]? =some a) (hb:ys[fd.offset]? =some b) (hq:EqV P fd.type a b r) (hr:EqF P xs ys fs bs):EqF P xs ys (fd::fs) (r::bs)
theorem hZ{xs ys:Array Value}{fs:List Field}{bs:List Bool}(h:EqF P xs ys fs bs)(d:Nat):(Op.eqFields (d+1) xs ys fs).run P w= .ok (bs.all id) w:=by
 induction h with
 |nil=>simp[Op.eqFields,Sem.run_pure]
 | @cons fd fs bs a b z r size bytes hn he ha hb hq hr ih=>
   have hn':fd.name≠ "_" :=by simpa using hn
   have h1:=go (P:=P) (w:=w) he ha
   have h2:=go (P:=P) (w:=w) he hb
   have h3:(Op.equalIn (d+1) fd.type a b).run P w= .ok r w:=by
     cases hq with
     |int h=>simp[Op.equalIn,bf h,Sem.run_pure];rfl
     |bool h=>simp[Op.equalIn,bf h,Sem.run_pure];rfl
   simp only[Op.eqFields,if_pos hn',Sem.run_bind,h1,h2,h3,Result.andThen_ok]
   cases r with
   |true=>simp[ih]
   |false=>simp[Sem.run_pure]
theorem dh{fs:Array Field}{xs ys:List Value}{bs:List Bool}{q:Bool}(ht:P.underlying t=some (.struct fs))(hp:P.stoodInHeld t=false)(hg:P.eqGuardType P.depth t=false)(hx:ev f x= .agg xs.toArray)(hy:ev f y= .agg ys.toArray)(h:EqF P xs.toArray ys.toArray fs.toList bs)(hq:bs.all id=q):
   (execOp (ev f) ⟨dst,.binOp .eql t x y t',ty,pos,after,g⟩).run P w= .ok (.value (.bool q)) w:=by
 have e1:P.fieldsOf t=fs:=by simp[Program.fieldsOf,ht]
 have hr:(Op.equal t (.agg xs.toArray) (.agg ys.toArray)).run P w= .ok q w:=by
   have:=run_equalIn_struct (P:=P) w 9999 t xs.toArray ys.toArray (by rw[e1];exact ht) hp
   rw[e1,hZ h 9998,hq] at this
   exact this
 exact oE .eql hx hy (by simp[eqGuard,hg]) (by simp[binOp,hr])
end
end TL
namespace TL
open Go
section
variable{P:Program}{f:Fr}{w:World}{dst:Option Tmp}{ty:TypeId}{pos:String}{after:Array Edge}{g:Option (Nat×Bool)}{t:TypeId}{x:Operand}
end
end TL
namespace TL
open Go
section
variable{P:Program}{f:Fr}{w:World}{dst:Option Tmp}{ty:TypeId}{pos:String}{after:Array Edge}{g:Option (Nat×Bool)}{t t':TypeId}{x y:Operand}{m n:Int}
end
end TL
namespace TL
open Go
theorem Ac{f:Fr}{x:Operand}{xs:List Operand}{v:Value}{vs:List Value}(h:ev f x=v)(h2:xs.map (ev f)=vs):(x::xs).map (ev f)=v::vs:=by subst h h2;rfl
end TL
/-
  TlRot: rotations: which may be, turned to their least, faces.
  By an AI agent.
-/
set_option linter.all false
namespace TL
abbrev cT:=List (List Int)
def je(g:d5)(r:cT):Prop:=(r.length:Int)=g.1/\(∀v:Nat,v<r.length->∀h∈gI r (v:Int),(0<=h/\h<2*(g.2.length:Int))/\bv g h=v)/\r.flatten.Nodup/\(r.flatten.length:Int)=2*g.2.length
instance (g:d5)(r:cT):Decidable (je g r):=by unfold je;infer_instance
def bg(g:d5)(r:cT):Int:=if c8 g then if je g r then 0 else 4 else 1
theorem xM{g:d5}{r:cT}(h:bg g r=0):c8 g/\je g r:=by
 unfold bg at h
 by_cases h1:c8 g
 · by_cases h2:je g r
   · exact⟨h1,h2⟩
   · rw[if_pos h1,if_neg h2] at h;cases h
 · rw[if_neg h1] at h;cases h
theorem jH{g:d5}{r:cT}(h1:c8 g)(h2:je g r):bg g r=0:=by unfold bg;rw[if_pos h1,if_pos h2]
theorem eO{g:d5}{r:cT}(h1:c8 g)(h2:¬je g r):bg g r=4:=by unfold bg;rw[if_pos h1,if_neg h2]
theorem vL{n:Int}{l:List Int}(h0:0<=n)(hn:l.Nodup)(h:∀x∈l,0<=x/\x<n):(l.length:Int)<=n:=by
 have:=uv n.toNat l hn (λx hx=>by have:=h x hx;omega)
 omega
theorem ga{r:cT}{k:Nat}(hk:(k:Int)<r.length):(r.take (k+1)).flatten=(r.take k).flatten++gI r (k:Int):=by
 rw[bB hk];simp
structure gQ(seen:List Bool)(P:List Int)(n:Int):Prop where
  len:(seen.length:Int)=n
  seen:∀h,0<=h->h<n->gI seen h=decide (h∈P)
  nodup:P.Nodup
  rng:∀h∈P,0<=h/\h<n
theorem gQ.start{n:Int}(hn:0<=n):gQ (List.replicate n.toNat false) [] n:=
 ⟨by simp;omega,λh h0 h1=>by rw[ns h0 (by omega)];simp,by simp,by simp⟩
theorem gQ.next{seen:List Bool}{P:List Int}{n h:Int}(hi:gQ seen P n)(h0:0<=h)(h1:h<n)(hs:gI seen h=false):gQ (seen.set h.toNat true) (P++[h]) n:=by
 have hl:=hi.len
 have hn:h∉P:=by
   have:=hi.seen h h0 h1
   rw[hs] at this
   simpa using this.symm
 refine⟨by simpa using hl,λx hx0 hx1=>?_,?_,λx hx=>?_⟩
 · rw[fu h0 (by omega) hx0]
   by_cases e:x=h
   · subst e;simp
   · rw[if_neg e,hi.seen x hx0 hx1];simp[e]
 · rw[List.nodup_append]
   refine⟨hi.nodup,by simp,λa ha b hb=>?_⟩
   obtain rfl:=List.mem_singleton.1 hb
   intro e;subst e;exact hn ha
 · rcases List.mem_append.1 hx with hx|hx
   · exact hi.rng x hx
   · obtain rfl:=List.mem_singleton.1 hx;exact⟨h0,h1⟩
theorem gQ.bd{seen:List Bool}{P:List Int}{n:Int}(hi:gQ seen P n):(P.length:Int)<=n:=vL (by have:=hi.len;omega) hi.nodup hi.rng
theorem gQ.mem{seen:List Bool}{P:List Int}{n h:Int}(hi:gQ seen P n)(h0:0<=h)(h1:h<n)(hs:gI seen h=true):h∈P:=by
 have:=hi.seen h h0 h1
 rw[hs] at this
 simpa using this.symm
structure cX(seen:List Bool)(n:Int)(g:d5)(r:cT)(k i:Nat):Prop where
  rm:gQ seen ((r.take k).flatten++(gI r (k:Int)).take i) (2*(g.2.length:Int))
  n:n=(((r.take k).flatten++(gI r (k:Int)).take i).length:Int)
  ok:∀v:Nat,v<k->∀h∈gI r (v:Int),(0<=h/\h<2*(g.2.length:Int))/\bv g h=v
  row:∀h∈(gI r (k:Int)).take i,(0<=h/\h<2*(g.2.length:Int))/\bv g h=k
theorem cX.start(g:d5)(r:cT):cX (List.replicate (2*(g.2.length:Int)).toNat false) 0 g r 0 0:=
 ⟨by simpa using gQ.start (n:=2*(g.2.length:Int)) (by omega),by simp,λv hv=>by omega,by simp⟩
section
variable{seen:List Bool}{n:Int}{g:d5}{r:cT}{k i:Nat}
theorem cX.bd(h:cX seen n g r k i):0<=n/\n<=2*(g.2.length:Int):=by
 have h1:=h.rm.bd
 rw[h.n]
 exact⟨by omega,h1⟩
theorem cX.next(h:cX seen n g r k i)(hi:(i:Int)<(gI r (k:Int)).length)(h0:0<=gI (gI r (k:Int)) (i:Int))(h1:gI (gI r (k:Int)) (i:Int)<2*(g.2.length:Int))(hs:gI seen (gI (gI r (k:Int)) (i:Int))=false)(hf:bv g (gI (gI r (k:Int)) (i:Int))=k):
   cX (seen.set (gI (gI r (k:Int)) (i:Int)).toNat true) (n+1) g r k (i+1):=by
 have e:=bB hi
 refine⟨?_,?_,h.ok,λx hx=>?_⟩
 · rw[e,<-List.append_assoc];exact h.rm.next h0 h1 hs
 · rw[e,<-List.append_assoc,List.length_append,h.n];simp
 · rw[e] at hx
   rcases List.mem_append.1 hx with hx|hx
   · exact h.row x hx
   · obtain rfl:=List.mem_singleton.1 hx;exact⟨⟨h0,h1⟩,hf⟩
theorem cX.row_done(h:cX seen n g r k i)(hk:(k:Int)<r.length)(hi:¬(i:Int)<(gI r (k:Int)).length):cX seen n g r (k+1) 0:=by
 have e:(gI r (k:Int)).take i=gI r (k:Int):=List.take_of_length_le (by omega)
 have h1:=h.rm
 have h2:=h.n
 have h3:=h.row
 rw[e] at h1 h2 h3
 refine⟨by rw[ga hk];simpa using h1,by rw[ga hk];simpa using h2,λv hv x hx=>?_,by simp⟩
 by_cases hvk:v=k
 · subst hvk;exact h3 x hx
 · exact h.ok v (by omega) x hx
theorem cX.bad(h:cX seen n g r k i)(hk:(k:Int)<r.length)(hi:(i:Int)<(gI r (k:Int)).length)(hb:¬((0<=gI (gI r (k:Int)) (i:Int)/\gI (gI r (k:Int)) (i:Int)<2*(g.2.length:Int))/\bv g (gI (gI r (k:Int)) (i:Int))=k)):¬je g r:=λhr=>
 hb (hr.2.1 k (by omega) _ (bk (by omega) hi))
theorem cX.twice(h:cX seen n g r k i)(hk:(k:Int)<r.length)(hi:(i:Int)<(gI r (k:Int)).length)(h0:0<=gI (gI r (k:Int)) (i:Int))(h1:gI (gI r (k:Int)) (i:Int)<2*(g.2.length:Int))(hs:gI seen (gI (gI r (k:Int)) (i:Int))=true):¬je g r:=λhr=>by
 have hm:=h.rm.mem h0 h1 hs
 have hn:=hr.2.2.1
 have hsub:List.Sublist ((r.take k).flatten++(gI r (k:Int)).take i++[gI (gI r (k:Int)) (i:Int)]) r.flatten:=by
   rw[List.append_assoc,<-bB hi]
   have e1:r=r.take (k+1)++r.drop (k+1):=(List.take_append_drop _ _).symm
   have e2:r.flatten=(r.take (k+1)).flatten++(r.drop (k+1)).flatten:=by rw[<-List.flatten_append,<-e1]
   rw[e2,ga hk]
   exact(List.Sublist.append_left (List.take_sublist _ _) _).trans (List.sublist_append_left _ _)
 have:=hn.sublist hsub
 rw[List.nodup_append] at this
 exact this.2.2 _ hm _ (by simp) rfl
theorem cX.fin(h:cX seen n g r k i)(hl:(r.length:Int)=g.1)(hk:k=r.length)(hi:i=0):je g r↔n=2*(g.2.length:Int):=by
 subst hk hi
 have h1:=h.rm
 have h2:=h.n
 simp only[List.take_zero,List.append_nil,List.take_length] at h1 h2
 rw[h2]
 exact⟨λhr=>hr.2.2.2,λe=>⟨hl,h.ok,h1.nodup,e⟩⟩
end
def fq(l:List Int):List Int:=if l=[] then[] else l.drop (l.idxOf (dW l))++l.take (l.idxOf (dW l))
def aU(r:cT):cT:=r.map fq
def dK(s:List Int)(v:Int):Int:=if v∈s then(s.idxOf v:Int) else-1
theorem pw{s:List Int}{v:Int}{i:Nat}(h:∀j:Nat,j<i->¬v=gI s (j:Int))(hi:(i:Int)<s.length)(he:v=gI s (i:Int)):(i:Int)=dK s v:=by
 have hlt:i<s.length:=by omega
 have e:gI s (i:Int)=s[i]:=by simp[gI,hlt]
 have hm:v∈s:=by rw[he];exact bk (by omega) hi
 unfold dK
 rw[if_pos hm]
 have hlt2:=List.idxOf_lt_length_iff.2 hm
 have h1:¬s.idxOf v<i:=λhlt'=>h _ hlt' (by simp[gI,hlt2])
 have h2:¬i<s.idxOf v:=λhlt'=>by
   have:=List.not_of_lt_findIdx (xs:=s) (p:=(· ==v)) (i:=i) hlt'
   simp at this
   exact this (by rw[<-e,<-he])
 omega
theorem ye{s:List Int}{v:Int}{i:Nat}(h:∀j:Nat,j<i->¬v=gI s (j:Int))(hi:¬(i:Int)<s.length):(-1:Int)=dK s v:=by
 unfold dK
 rw[if_neg]
 intro hm
 obtain⟨j,hj,e⟩:=List.mem_iff_getElem.1 hm
 exact h j (by omega) (by simp[gI,hj,e])
theorem jo:∀(l:List Int) (a:Int),l.foldl min a=a\/l.foldl min a∈l
 |[],a=>.inl rfl
 |x::l,a=>by
   simp only[List.foldl_cons]
   rcases jo l (min a x) with h|h
   · rw[h]
     rcases Int.le_total a x with h1|h1
     · rw[Int.min_eq_left h1];exact .inl rfl
     · rw[Int.min_eq_right h1];exact .inr (by simp)
   · exact .inr (by simp[h])
theorem jQ:∀(l:List Int) (a:Int),l.foldl min a<=a/\∀x∈l,l.foldl min a<=x
 |[],a=>⟨Int.le_refl _,by simp⟩
 |y::l,a=>by
   obtain⟨h1,h2⟩:=jQ l (min a y)
   simp only[List.foldl_cons]
   refine⟨by omega,λx hx=>?_⟩
   rcases List.mem_cons.1 hx with rfl|hx
   · omega
   · exact h2 x hx
theorem qR{l:List Int}(hl:l≠[]):dW l=(l.drop 1).foldl min (gI l 0):=by
 unfold dW pj;rw[List.take_length]
theorem oI{l:List Int}(hl:l≠[]):dW l∈l:=by
 rw[qR hl]
 cases l with
 |nil=>exact absurd rfl hl
 |cons a l=>
   simp only[List.drop_succ_cons,List.drop_zero]
   rcases jo l (gI (a::l) 0) with h|h
   · rw[h];simp[gI]
   · exact List.mem_cons_of_mem _ h
theorem x4{l:List Int}(hl:l≠[]){x:Int}(hx:x∈l):dW l<=x:=by
 rw[qR hl]
 cases l with
 |nil=>exact absurd rfl hl
 |cons a l=>
   simp only[List.drop_succ_cons,List.drop_zero]
   obtain⟨h1,h2⟩:=jQ l (gI (a::l) 0)
   rcases List.mem_cons.1 hx with rfl|hx
   · simpa[gI] using h1
   · exact h2 x hx
theorem mT{l:List Int}(hl:l≠[]):fq l=l.drop (dK l (dW l)).toNat++l.take (dK l (dW l)).toNat/\0<=dK l (dW l)/\dK l (dW l)<l.length:=by
 have hm:=oI hl
 unfold fq dK
 rw[if_neg hl,if_pos hm]
 have:=List.idxOf_lt_length_iff.2 hm
 exact⟨by simp,by omega,by omega⟩
structure e8(at_:Int)(l:List Int)(i:Nat):Prop where
  lo:0<=at_
  hi:at_<l.length\/at_=0/\l=[]
  le:∀q:Nat,q<i->q<l.length->gI l at_<=gI l (q:Int)
  lt:∀q:Nat,(q:Int)<at_->gI l at_<gI l (q:Int)
theorem e8.start(l:List Int):e8 0 l 0:=by
 refine⟨by omega,?_,λq hq=>by omega,λq hq=>by omega⟩
 cases l with
 |nil=>exact .inr ⟨rfl,rfl⟩
 |cons a l=>left;simp
theorem e8.yes{at_:Int}{l:List Int}{i:Nat}(h:e8 at_ l i)(hi:(i:Int)<l.length)(hc:gI l (i:Int)<gI l at_):e8 (i:Int) l (i+1):=
 ⟨by omega,.inl hi,λq hq hl=>by
   by_cases e:q=i
   · subst e;omega
   · have:=h.le q (by omega) hl;omega,λq hq=>by
   have:=h.le q (by omega) (by omega);omega⟩
theorem e8.no{at_:Int}{l:List Int}{i:Nat}(h:e8 at_ l i)(hc:¬gI l (i:Int)<gI l at_):e8 at_ l (i+1):=
 ⟨h.lo,h.hi,λq hq hl=>by
   by_cases e:q=i
   · subst e;omega
   · exact h.le q (by omega) hl,h.lt⟩
theorem e8.done{at_:Int}{l:List Int}{i:Nat}(h:e8 at_ l i)(hi:¬(i:Int)<l.length):l.drop at_.toNat++l.take at_.toNat=fq l:=by
 rcases h.hi with hh|⟨rfl,rfl⟩
 · have hl:l≠[]:=λe=>by subst e;simp at hh;have:=h.lo;omega
   obtain⟨e1,e2,e3⟩:=mT hl
   have hlo:=h.lo
   have hmin:dW l=gI l at_:=by
     have h1:=x4 hl (bk (xs:=l) hlo hh)
     obtain⟨j,hj,ej⟩:=List.mem_iff_getElem.1 (oI hl)
     have h2:=h.le j (by omega) hj
     have e:gI l (j:Int)=l[j]:=by simp[gI,hj]
     rw[e,ej] at h2
     omega
   have hat:dK l (dW l)=at_:=by
     have:=pw (s:=l) (v:=dW l) (i:=at_.toNat) (λj hj=>by
       rw[hmin]
       have:=h.lt j (by omega)
       omega) (by omega) (by rw[hmin,show((at_.toNat:Nat):Int)=at_ by omega])
     omega
   rw[e1,hat]
 · simp[fq]
end TL
namespace TL
theorem oH{α β:Type}[Inhabited α]{f:α->β}{r:List α}{k:Nat}{d y:β}(hk:(k:Int)<r.length)(hy:y=f (gI r (k:Int))):(List.map f (List.take k r)++List.replicate (r.length-k) d).set (k:Int).toNat y=List.map f (List.take (k+1) r)++List.replicate (r.length-(k+1)) d:=by
 have hl:(List.map f (List.take k r)).length=k:=by simp;omega
 have e:r.length-k=(r.length-(k+1))+1:=by omega
 rw[e,List.replicate_succ,bB hk,List.map_append,hy]
 simp only[Int.toNat_natCast]
 rw[List.set_append_right _ _ (by omega),hl]
 simp
theorem tD{α β:Type}[Inhabited α]{f:α->β}{r:List α}{k:Nat}{d:β}(hk:(k:Int)<r.length)(hy:f (gI r (k:Int))=d):(List.map f (List.take k r)++List.replicate (r.length-k) d)=List.map f (List.take (k+1) r)++List.replicate (r.length-(k+1)) d:=by
 have e:r.length-k=(r.length-(k+1))+1:=by omega
 rw[e,List.replicate_succ,bB hk,List.map_append,List.map_cons,hy]
 simp
def cW(g:d5)(a b:cT):Bool×Int:=
 if bg g a=0 then if bg g b=0 then(decide (aU a=aU b),0) else(false,bg g b) else(false,bg g a)
end TL
/-
  TlShort: short names for the commonest steps (used by packed claims only).
  By an AI agent.
-/
set_option linter.all false
namespace TL
open Go
abbrev vi(x:Int):Value:=Value.int .i64 x
abbrev vp(b o:Nat):Value:=Value.pointer (some ⟨b,o,none⟩)
abbrev vn:Value:=Value.slice none 0 0
abbrev vt(l:List Value):Value:=Value.tuple (List.toArray l)
abbrev vg(l:List Value):Value:=Value.agg (List.toArray l)
theorem cg(L:List Nat){γ γ':aK}{w w':World}(h:bj (bV L) γ w γ' w'):bj (bV L) γ w γ' w':=h
theorem dt{p:Prop}[Decidable p](h:p):decide p=true:=decide_eq_true h
theorem df{p:Prop}[Decidable p](h:¬p):decide p=false:=decide_eq_false h
section
variable{P:Program}{all rest:List Oper}{K:Fr->World->Prop}{f:Fr}{w w':World}{x:Operand}
variable{dst:Option Tmp}{op:Op}{ty:TypeId}{pos:String}{after:Array Edge}{g:Option (Nat×Bool)}{o:Oper}
theorem lv(v:Value)(hw:d6 all ⟨dst,op,ty,pos,after,g⟩ f=true)(h:(execOp (ev f) ⟨dst,op,ty,pos,after,g⟩).run P w= .ok (.value v) w')(hk:jj P all rest K (gN f dst v) w'):jj P all (⟨dst,op,ty,pos,after,g⟩::rest) K f w:=kR hw h hk
theorem lx{v:Value}(h:(execOp (ev f) ⟨dst,op,ty,pos,after,none⟩).run P w= .ok (.value v) w')(hk:jj P all rest K (gN f dst v) w'):jj P all (⟨dst,op,ty,pos,after,none⟩::rest) K f w:=kR rfl h hk
theorem lw(v:Value)(h:(execOp (ev f) ⟨dst,op,ty,pos,after,none⟩).run P w= .ok (.value v) w')(hk:jj P all rest K (gN f dst v) w'):jj P all (⟨dst,op,ty,pos,after,none⟩::rest) K f w:=kR rfl h hk
theorem mv(v:Value)(hk:jj P all rest K (gN f dst v) w)(h:ev f x=v:=by exact rfl):jj P all (⟨dst,.move x,ty,pos,after,none⟩::rest) K f w:=kR rfl (aq h) hk
theorem ma(v:Value)(hk:jj P all rest K (gN f dst v) w)(h:ev f x=v:=by exact rfl):jj P all (⟨dst,.assign x,ty,pos,after,none⟩::rest) K f w:=kR rfl (br h) hk
theorem mi(v:Int)(hk:jj P all rest K (gN f dst (.int .i64 v)) w)(h:ev f x= .int .i64 v:=by exact rfl):jj P all (⟨dst,.move x,ty,pos,after,none⟩::rest) K f w:=kR rfl (aq h) hk
theorem ai(v:Int)(hk:jj P all rest K (gN f dst (.int .i64 v)) w)(h:ev f x= .int .i64 v:=by exact rfl):jj P all (⟨dst,.assign x,ty,pos,after,none⟩::rest) K f w:=kR rfl (br h) hk
theorem mz{v:Value}(h:ev f x=v)(hk:jj P all rest K (gN f dst v) w):jj P all (⟨dst,.move x,ty,pos,after,none⟩::rest) K f w:=kR rfl (aq h) hk
theorem lo(h:h7 P ⟨dst,op,ty,pos,after,none⟩ f w (λv w'=>jj P all rest K (gN f dst v) w')):jj P all (⟨dst,op,ty,pos,after,none⟩::rest) K f w:=bW rfl h
theorem wy{j:Nat}{x:Bool}{d:Nat}{b:Bool}(hx:b=x)(hg:o.guard=some (j,x):=by exact rfl)(hj:(all[j]?).bind (·.dst)=some d:=by exact rfl)(hb:f d= .bool b:=by exact rfl):d6 all o f=true:=yZ hg hj hb hx
theorem wn{j:Nat}{x:Bool}{d:Nat}{b:Bool}(hx:b= !x)(hg:o.guard=some (j,x):=by exact rfl)(hj:(all[j]?).bind (·.dst)=some d:=by exact rfl)(hb:f d= .bool b:=by exact rfl):d6 all o f=false:=zf hg hj hb hx
variable{C:World->Prop}{KQ:Fr->Prop}
theorem qv(v:Value)(h:∀w,C w->(execOp (ev f) ⟨dst,op,ty,pos,after,none⟩).run P w= .ok (.value v) w)(hk:lb P all C rest KQ (gN f dst v)):lb P all C (⟨dst,op,ty,pos,after,none⟩::rest) KQ f:=aH rfl h hk
theorem qx{v:Value}(h:∀w,C w->(execOp (ev f) ⟨dst,op,ty,pos,after,none⟩).run P w= .ok (.value v) w)(hk:lb P all C rest KQ (gN f dst v)):lb P all C (⟨dst,op,ty,pos,after,none⟩::rest) KQ f:=aH rfl h hk
theorem qm(v:Value)(hk:lb P all C rest KQ (gN f dst v))(h:ev f x=v:=by exact rfl):lb P all C (⟨dst,.move x,ty,pos,after,none⟩::rest) KQ f:=aH rfl (λ_ _=>aq h) hk
theorem qz{v:Value}(h:ev f x=v)(hk:lb P all C rest KQ (gN f dst v)):lb P all C (⟨dst,.move x,ty,pos,after,none⟩::rest) KQ f:=aH rfl (λ_ _=>aq h) hk
end
section
variable{P:Program}{n:Nat}{l:List Oper}{S:World->Prop}{K:Fr->World->Prop}{f:Fr}{w:World}{done:List Nat}{fuel:Nat}{qs:List Nat}
variable{dst:Option Tmp}{op:Op}{ty:TypeId}{pos:String}{after:Array Edge}{g:Option (Nat×Bool)}{v:Value}
theorem ht(i:Nat)(hi:l[i]? =some ⟨dst,op,ty,pos,after,none⟩)(hS:S w)(h:∀w,S w->(execOp (ev f) ⟨dst,op,ty,pos,after,none⟩).run P w= .ok (.value v) w)(hk:rQ P n l S K fuel (i::done) (gN f dst v) w)(hn:g7 l=true:=by kernel_rfl)(hc:(fJ l done i&&ij l done i&&lz n ⟨dst,op,ty,pos,after,none⟩)=true:=by kernel_rfl):rQ P n l S K (fuel+1) done f w:=yW i hi hn hc rfl hS h hk
theorem xv(i:Nat)(M:List Nat)(hi:l[i]? =some ⟨dst,op,ty,pos,after,none⟩)(h:(execOp (ev f) ⟨dst,op,ty,pos,after,none⟩).run P w= .ok (.value v) w)(hk:mn P n l qs K fuel (i::done) (gN f dst v) w)(hn:g7 l=true:=by kernel_rfl)(hc:(qs.contains i&&fJ l done i&&ij l done i&&nu l qs done M i&&lz n ⟨dst,op,ty,pos,after,none⟩)=true:=by kernel_rfl):mn P n l qs K (fuel+1) done f w:=jS i M hi hn hc rfl h hk
theorem xh(i:Nat)(M:List Nat)(hi:l[i]? =some ⟨dst,op,ty,pos,after,none⟩)(h:∀w',cE w.heap.size w w'->(execOp (ev f) ⟨dst,op,ty,pos,after,none⟩).run P w'= .ok (.value v) w')(hk:mn P n l qs K fuel (i::done) (gN f dst v) w)(hn:g7 l=true:=by kernel_rfl)(hc:(qs.contains i&&fJ l done i&&ij l done i&&nN l qs done M i&&lz n ⟨dst,op,ty,pos,after,none⟩)=true:=by kernel_rfl):mn P n l qs K (fuel+1) done f w:=zm i M hi hn hc rfl h hk
theorem xp(i:Nat)(hi:l[i]? =some ⟨dst,op,ty,pos,after,none⟩)(h:∀w,(execOp (ev f) ⟨dst,op,ty,pos,after,none⟩).run P w= .ok (.value v) w)(hk:mn P n l qs K fuel (i::done) (gN f dst v) w)(hn:g7 l=true:=by kernel_rfl)(hc:(qs.contains i&&fJ l done i&&ij l done i&&lz n ⟨dst,op,ty,pos,after,none⟩)=true:=by kernel_rfl):mn P n l qs K (fuel+1) done f w:=dE i hi hn hc rfl h hk
end
section
variable{γ γ':aK}{w w':World}{v:Value}{j k:Nat}{L:List Nat}
theorem aT.ca{w0:World}(h:aT w0 γ w)(hc:bj (bV L) γ w γ' w')(hj:L.contains 0=false:=by exact rfl):aT w0 γ' w':=h.chg hc (bD hj)
theorem aT.ce{w0:World}(h:aT w0 γ w)(hc:bj (is k) γ w γ' w')(hj:Nat.beq 0 k=false:=by exact rfl):aT w0 γ' w':=h.chg hc (dT hj)
theorem aT.cn{w0:World}(h:aT w0 γ w)(hc:bj no γ w γ' w'):aT w0 γ' w':=h.chg hc (i4 _)
theorem Bx.ca{b:Nat}{cs:List Value}(h:Bx γ (is j) w b cs)(hc:bj (bV L) γ w γ' w')(hj:L.contains j=false:=by exact rfl):Bx γ' (is j) w' b cs:=h.chg hc (bD hj)
theorem Bx.ce{b:Nat}{cs:List Value}(h:Bx γ (is j) w b cs)(hc:bj (is k) γ w γ' w')(hj:Nat.beq j k=false:=by exact rfl):Bx γ' (is j) w' b cs:=h.chg hc (dT hj)
theorem Bx.cn{J:cx->Prop}{b:Nat}{cs:List Value}(h:Bx γ J w b cs)(hc:bj no γ w γ' w'):Bx γ' J w' b cs:=h.chg hc (i4 _)
theorem Sl.ca{α:Type}[Rp α]{xs:List α}(h:Sl γ (is j) w v xs)(hc:bj (bV L) γ w γ' w')(hj:L.contains j=false:=by exact rfl):Sl γ' (is j) w' v xs:=h.chg hc (bD hj)
theorem Sl.ce{α:Type}[Rp α]{xs:List α}(h:Sl γ (is j) w v xs)(hc:bj (is k) γ w γ' w')(hj:Nat.beq j k=false:=by exact rfl):Sl γ' (is j) w' v xs:=h.chg hc (dT hj)
theorem Sl.cn{α:Type}[Rp α]{S:cx->Prop}{xs:List α}(h:Sl γ S w v xs)(hc:bj no γ w γ' w'):Sl γ' S w' v xs:=h.chg hc (i4 _)
theorem Ow.ca{α:Type}[Rp α]{xs:List α}(h:Ow γ (is j) (is j) w v xs)(hc:bj (bV L) γ w γ' w')(hj:L.contains j=false:=by exact rfl):Ow γ' (is j) (is j) w' v xs:=h.chg hc (bD hj) (bD hj)
theorem Ow.ce{α:Type}[Rp α]{xs:List α}(h:Ow γ (is j) (is j) w v xs)(hc:bj (is k) γ w γ' w')(hj:Nat.beq j k=false:=by exact rfl):Ow γ' (is j) (is j) w' v xs:=h.chg hc (dT hj) (dT hj)
theorem Ow.cn{α:Type}[Rp α]{J S:cx->Prop}{xs:List α}(h:Ow γ J S w v xs)(hc:bj no γ w γ' w'):Ow γ' J S w' v xs:=h.chg hc (i4 _) (i4 _)
theorem dr.ca{α:Type}[Rp α]{xs:List (List α)}(h:dr γ j w v xs)(hc:bj (bV L) γ w γ' w')(hj:L.contains j=false:=by exact rfl):dr γ' j w' v xs:=h.chg hc (bD hj)
theorem dr.ce{α:Type}[Rp α]{xs:List (List α)}(h:dr γ j w v xs)(hc:bj (is k) γ w γ' w')(hj:Nat.beq j k=false:=by exact rfl):dr γ' j w' v xs:=h.chg hc (dT hj)
theorem dr.cn{α:Type}[Rp α]{xs:List (List α)}(h:dr γ j w v xs)(hc:bj no γ w γ' w'):dr γ' j w' v xs:=h.chg hc (i4 _)
theorem gu.ca{α:Type}[Rp α]{h0:Nat}{xs:List (List α)}(h:gu γ j h0 w v xs)(hc:bj (bV L) γ w γ' w')(hj:L.contains j=false:=by exact rfl):gu γ' j h0 w' v xs:=h.chg hc (bD hj)
theorem gu.ce{α:Type}[Rp α]{h0:Nat}{xs:List (List α)}(h:gu γ j h0 w v xs)(hc:bj (is k) γ w γ' w')(hj:Nat.beq j k=false:=by exact rfl):gu γ' j h0 w' v xs:=h.chg hc (dT hj)
theorem gu.cn{α:Type}[Rp α]{h0:Nat}{xs:List (List α)}(h:gu γ j h0 w v xs)(hc:bj no γ w γ' w'):gu γ' j h0 w' v xs:=h.chg hc (i4 _)
def AW(δ g:aK)(w:World)(ren:Nat->Nat):Prop:=(∀{α:Type} [Rp α] {i:Nat} {v:Value} {xs:List α},Ow δ (is i) (is i) w v xs->∀k:Nat,Nat.beq i 0=false->ren i=k->Ow g (is k) (is k) w v xs)/\(∀{α:Type} [Rp α] {i:Nat} {v:Value} {xs:List (List α)},dr δ i w v xs->∀k:Nat,Nat.beq i 0=false->ren i=k->dr g k w v xs)
theorem fC{δ:aK}(γ:aK)(fr:em w δ w')(ren:Nat->Nat):∃g,bj no γ w g w'/\AW δ g w' ren:=
 ⟨_,vF fr.below γ δ ren,λh k hi hr=>h.glue fr.col hi hr,λh k hi hr=>h.glue fr.col hi hr⟩
theorem Ow.gl{α:Type}[Rp α]{δ g:aK}{ren:Nat->Nat}{i:Nat}{xs:List α}(h:Ow δ (is i) (is i) w v xs)(G:AW δ g w ren)(k:Nat)(hi:Nat.beq i 0=false:=by exact rfl)(hr:ren i=k:=by exact rfl):Ow g (is k) (is k) w v xs:=G.1 h k hi hr
theorem dr.gl{α:Type}[Rp α]{δ g:aK}{ren:Nat->Nat}{i:Nat}{xs:List (List α)}(h:dr δ i w v xs)(G:AW δ g w ren)(k:Nat)(hi:Nat.beq i 0=false:=by exact rfl)(hr:ren i=k:=by exact rfl):dr g k w v xs:=G.2 h k hi hr
end
end TL
/-
  TlGeom: points with whole coordinates: turns, segments, how they meet.
  By an AI agent.
-/
set_option linter.all false
namespace TL
abbrev Pt:=Int×Int
def bE(x y:Int):Int:=if x<y then-1 else if y<x then 1 else 0
theorem sy(x:Int):bE x 0=x.sign:=by
 unfold bE
 rcases Int.lt_trichotomy x 0 with h|h|h
 · rw[if_pos h,Int.sign_eq_neg_one_of_neg h]
 · subst h;rfl
 · rw[if_neg (by omega),if_pos h,Int.sign_eq_one_of_pos h]
theorem iz(x:Int):x.sign= -1/\x<0\/x.sign=0/\x=0\/x.sign=1/\0<x:=by
 rcases Int.lt_trichotomy x 0 with h|h|h
 · exact .inl ⟨Int.sign_eq_neg_one_of_neg h,h⟩
 · exact .inr (.inl ⟨by rw[h];rfl,h⟩)
 · exact .inr (.inr ⟨Int.sign_eq_one_of_pos h,h⟩)
def dQ(a b:Pt):Int:=a.1*b.2-a.2*b.1
def aY(b a:Pt):Pt:=(b.1-a.1,b.2-a.2)
def bG(a b c:Pt):Int:=bE (dQ (aY b a) (aY c a)) 0
theorem ml{a b c:Pt}:bG a b c=0↔(b.1-a.1)*(c.2-a.2)=(b.2-a.2)*(c.1-a.1):=by
 unfold bG
 rw[sy,Int.sign_eq_zero_iff_zero]
 unfold dQ aY
 simp only
 omega
theorem gy(a b c:Pt): -1<=bG a b c/\bG a b c<=1:=by unfold bG bE;split<;>(try split)<;>omega
def jy(a b p:Pt):Prop:=(min a.1 b.1<=p.1/\p.1<=max a.1 b.1)/\min a.2 b.2<=p.2/\p.2<=max a.2 b.2
instance (a b p:Pt):Decidable (jy a b p):=by unfold jy;infer_instance
def cF(a b p:Pt):Prop:=bG a b p=0/\jy a b p
instance (a b p:Pt):Decidable (cF a b p):=by unfold cF;infer_instance
theorem fG(a b:Pt):cF a b a/\cF a b b:=by
 have e1:bG a b a=0:=ml.2 (by simp)
 have e2:bG a b b=0:=ml.2 (by rw[Int.mul_comm])
 unfold cF jy
 rw[e1,e2]
 omega
def cr(a b:Pt):Int:=if bE a.1 b.1≠0 then bE a.1 b.1 else bE a.2 b.2
def fL(a b c d:Pt):Int:=
 let a':=if 0<cr a b then b else a
 let b':=if 0<cr a b then a else b
 let c':=if 0<cr c d then d else c
 let d':=if 0<cr c d then c else d
 let low:=if 0<cr c' a' then c' else a'
 let high:=if cr d' b'<0 then d' else b'
 if 0<cr low high then 0 else if cr low high=0 then 2 else 3
def bx(a b c d:Pt):Int:=
 if bG a b c=0/\bG a b d=0/\bG c d a=0/\bG c d b=0 then fL a b c d
 else if bG a b c*bG a b d<0/\bG c d a*bG c d b<0 then 1
 else if cF a b c\/cF a b d\/cF c d a\/cF c d b then 2 else 0
def key(p:Pt):Int:=p.1*1073741824+p.2
def dH(p:Pt):Prop:=(-4194304<=p.1/\p.1<=4194304)/\ -4194304<=p.2/\p.2<=4194304
theorem gV{a b:Pt}(ha:dH a)(hb:dH b):cr a b=bE (key a) (key b):=by
 unfold cr bE key
 unfold dH at ha hb
 repeat' split
 all_goals omega
def eY(a b c d:Int):Int:=
 if min (max a b) (max c d)<max (min a b) (min c d) then 0 else if min (max a b) (max c d)=max (min a b) (min c d) then 2 else 3
theorem iD{x y:Int}:0<bE x y↔y<x:=by unfold bE;split<;>(try split)<;>omega
theorem o7{x y:Int}:bE x y<0↔x<y:=by unfold bE;split<;>(try split)<;>omega
theorem qW{x y:Int}:bE x y=0↔x=y:=by unfold bE;split<;>(try split)<;>omega
theorem sS{a b c d:Pt}(ha:dH a)(hb:dH b)(hc:dH c)(hd:dH d):fL a b c d=eY (key a) (key b) (key c) (key d):=by
 unfold fL
 simp only
 have e1:0<cr a b↔key b<key a:=by rw[gV ha hb,iD]
 have e2:0<cr c d↔key d<key c:=by rw[gV hc hd,iD]
 have fin:∀a b c d:Pt,dH a->dH b->dH c->dH d->key a<=key b->key c<=key d->
     (if 0<cr (if 0<cr c a then c else a) (if cr d b<0 then d else b) then(0:Int) else if cr (if 0<cr c a then c else a) (if cr d b<0 then d else b)=0 then 2 else 3)=eY (key a) (key b) (key c) (key d):=by
   intro a b c d ha hb hc hd h1 h2
   have e3:0<cr c a↔key a<key c:=by rw[gV hc ha,iD]
   have e4:cr d b<0↔key d<key b:=by rw[gV hd hb,o7]
   have low:∃p,(if 0<cr c a then c else a)=p/\dH p/\key p=max (key a) (key c):=by
     by_cases h:0<cr c a
     · rw[if_pos h];exact⟨c,rfl,hc,by have:=e3.1 h;omega⟩
     · rw[if_neg h];exact⟨a,rfl,ha,by have:=mt e3.2 h;omega⟩
   have high:∃p,(if cr d b<0 then d else b)=p/\dH p/\key p=min (key b) (key d):=by
     by_cases h:cr d b<0
     · rw[if_pos h];exact⟨d,rfl,hd,by have:=e4.1 h;omega⟩
     · rw[if_neg h];exact⟨b,rfl,hb,by have:=mt e4.2 h;omega⟩
   obtain⟨p,ep,hp,kp⟩:=low
   obtain⟨q,eq,hq,kq⟩:=high
   rw[ep,eq,gV hp hq]
   unfold eY
   have m1:max (key a) (key b)=key b:=by omega
   have m2:max (key c) (key d)=key d:=by omega
   have m3:min (key a) (key b)=key a:=by omega
   have m4:min (key c) (key d)=key c:=by omega
   rw[m1,m2,m3,m4,<-kp,<-kq]
   by_cases c1:key q<key p
   · rw[if_pos (iD.2 c1),if_pos c1]
   · rw[if_neg (mt iD.1 c1),if_neg c1]
     by_cases c2:key q=key p
     · rw[if_pos (qW.2 c2.symm),if_pos c2]
     · rw[if_neg (λh=>c2 (qW.1 h).symm),if_neg c2]
 have lk1:∀x y z t:Int,eY y x z t=eY x y z t:=λx y z t=>by unfold eY;rw[Int.max_comm y x,Int.min_comm y x]
 have lk2:∀x y z t:Int,eY x y t z=eY x y z t:=λx y z t=>by unfold eY;rw[Int.max_comm t z,Int.min_comm t z]
 by_cases c1:0<cr a b
 · have k1:=e1.1 c1
   by_cases c2:0<cr c d
   · have k2:=e2.1 c2
     simp only[if_pos c1,if_pos c2]
     rw[fin b a d c hb ha hd hc (by omega) (by omega),lk1,lk2]
   · have k2:=mt e2.2 c2
     simp only[if_pos c1,if_neg c2]
     rw[fin b a c d hb ha hc hd (by omega) (by omega),lk1]
 · have k1:=mt e1.2 c1
   by_cases c2:0<cr c d
   · have k2:=e2.1 c2
     simp only[if_neg c1,if_pos c2]
     rw[fin a b d c ha hb hd hc (by omega) (by omega),lk2]
   · have k2:=mt e2.2 c2
     simp only[if_neg c1,if_neg c2]
     rw[fin a b c d ha hb hc hd (by omega) (by omega)]
theorem oo(x y z t:Int):(min (max x y) (max z t)<max (min x y) (min z t))↔((x<z/\x<t)/\y<z/\y<t)\/((z<x/\t<x)/\z<y/\t<y):=by omega
theorem oP(x y z t:Int):(max (min x y) (min z t)<min (max x y) (max z t))↔((x<y\/y<x)/\(z<t\/t<z))/\((x<z\/x<t)\/y<z\/y<t)/\((z<x\/t<x)\/z<y\/t<y):=by omega
theorem ly{x y z t x' y' z' t':Int}(h1:x<y↔x'<y')(h1':y<x↔y'<x')(h2:x<z↔x'<z')(h2':z<x↔z'<x')(h3:x<t↔x'<t')(h3':t<x↔t'<x')(h4:y<z↔y'<z')(h4':z<y↔z'<y')(h5:y<t↔y'<t')(h5':t<y↔t'<y')(h6:z<t↔z'<t')(h6':t<z↔t'<z'):eY x' y' z' t'=eY x y z t:=by
  have e1:(min (max x' y') (max z' t')<max (min x' y') (min z' t'))↔(min (max x y) (max z t)<max (min x y) (min z t)):=by
    rw[oo,oo,h2,h2',h3,h3',h4,h4',h5,h5']
  have e2:(max (min x' y') (min z' t')<min (max x' y') (max z' t'))↔(max (min x y) (min z t)<min (max x y) (max z t)):=by
    rw[oP,oP,h1,h1',h2,h2',h3,h3',h4,h4',h5,h5',h6,h6']
  have e3:(min (max x' y') (max z' t')=max (min x' y') (min z' t'))↔(min (max x y) (max z t)=max (min x y) (min z t)):=by
    constructor
    · intro h
      have a:=mt e1.2 (by omega)
      have b:=mt e2.2 (by omega)
      omega
    · intro h
      have a:=mt e1.1 (by omega)
      have b:=mt e2.1 (by omega)
      omega
  unfold eY
  simp only[e1,e3]
theorem t7(x y z t:Int):eY (-x) (-y) (-z) (-t)=eY x y z t:=by
 unfold eY
 have e1:(min (max (-x) (-y)) (max (-z) (-t))<max (min (-x) (-y)) (min (-z) (-t)))↔(min (max x y) (max z t)<max (min x y) (min z t)):=by omega
 have e2:(min (max (-x) (-y)) (max (-z) (-t))=max (min (-x) (-y)) (min (-z) (-t)))↔(min (max x y) (max z t)=max (min x y) (min z t)):=by omega
 simp only[e1,e2]
end TL
namespace TL
theorem eT{x y:Int}(h1: -16777216<=x/\x<=16777216)(h2: -16777216<=y/\y<=16777216): -281474976710656<=x*y/\x*y<=281474976710656:=by
 have h:=Int.natAbs_mul x y
 have a:x.natAbs<=16777216:=by omega
 have b:y.natAbs<=16777216:=by omega
 have c:x.natAbs*y.natAbs<=16777216*16777216:=Nat.mul_le_mul a b
 omega
def sG(p:Pt):Prop:=(-16777216<=p.1/\p.1<=16777216)/\ -16777216<=p.2/\p.2<=16777216
theorem iU{a b:Pt}(ha:dH a)(hb:dH b):sG (aY b a):=by
 unfold dH at ha hb
 unfold sG aY
 simp only
 omega
def cC(p:Pt):Prop:=(-1048576<=p.1/\p.1<=1048576)/\ -1048576<=p.2/\p.2<=1048576
instance (p:Pt):Decidable (cC p):=by unfold cC;infer_instance
theorem cC.bd{p:Pt}(h:cC p):dH p:=by unfold cC at h;unfold dH;omega
def dy(ps:List Pt):Prop:=ps.length<=4096/\∀p∈ps,cC p
instance (ps:List Pt):Decidable (dy ps):=by unfold dy;infer_instance
theorem vR{ps:List Pt}(h:∀j:Nat,j<ps.length->cC (gI ps (j:Int))):∀p∈ps,cC p:=λp hp=>by
 obtain⟨i,hi,rfl⟩:=List.mem_iff_getElem.1 hp
 have:=h i hi
 have e:gI ps (i:Int)=ps[i]:=by simp[gI,hi]
 rwa[e] at this
def ls:List Int->Int
 |[]=>0
 |x::l=>if x=0 then ls l else x
theorem uS(a b:Pt):cr a b=ls [bE a.1 b.1,bE a.2 b.2]:=by
 unfold cr ls
 by_cases h:bE a.1 b.1=0
 · rw[if_neg (by simp[h]),if_pos h]
   unfold ls
   by_cases h2:bE a.2 b.2=0
   · rw[if_pos h2,h2];rfl
   · rw[if_neg h2]
 · rw[if_pos h,if_neg h]
theorem vf{l:List Int}{k:Nat}(h:∀j:Nat,j<k->gI l (j:Int)=0)(hk:(k:Int)<l.length)(hx:gI l (k:Int)≠0):gI l (k:Int)=ls l:=by
 induction l generalizing k with
 |nil=>simp at hk;omega
 |cons a l ih=>
   cases k with
   |zero=>
     have e:gI (a::l) ((0:Nat):Int)=a:=by simp[gI]
     rw[e] at hx ⊢
     unfold ls;rw[if_neg hx]
   |succ k=>
     have e:∀j:Nat,gI (a::l) ((j+1:Nat):Int)=gI l (j:Int):=λj=>by simp[gI]
     have e0:gI (a::l) ((0:Nat):Int)=a:=by simp[gI]
     have h0:=h 0 (by omega)
     rw[e0] at h0
     rw[e] at hx ⊢
     unfold ls;rw[if_pos h0]
     exact ih (λj hj=>by rw[<-e];exact h (j+1) (by omega)) (by simp at hk;omega) hx
theorem uD{l:List Int}{k:Nat}(h:∀j:Nat,j<k->gI l (j:Int)=0)(hk:¬(k:Int)<l.length):0=ls l:=by
 induction l generalizing k with
 |nil=>rfl
 |cons a l ih=>
   have e:∀j:Nat,gI (a::l) ((j+1:Nat):Int)=gI l (j:Int):=λj=>by simp[gI]
   have e0:gI (a::l) ((0:Nat):Int)=a:=by simp[gI]
   simp at hk
   have h0:=h 0 (by omega)
   rw[e0] at h0
   unfold ls;rw[if_pos h0]
   exact ih (k:=k-1) (λj hj=>by rw[<-e];exact h (j+1) (by omega)) (by omega)
def ft(a b c:Pt):Bool×Int:=if cC a/\cC b/\cC c then(decide (cF a b c),0) else(false,1)
def dA(a b c d:Pt):Int×Int:=if(cC a/\cC b)/\cC c/\cC d then(bx a b c d,0) else(0,1)
theorem AA{a b c:Pt}:dy [a,b,c]↔cC a/\cC b/\cC c:=by simp[dy]
theorem Au{a b c d:Pt}:dy [a,b,c,d]↔(cC a/\cC b)/\cC c/\cC d:=by simp[dy,and_assoc]
theorem zw{a:Pt}:dy [a]↔cC a:=by simp[dy]
def bm(p:Pt):Int:=if 0<p.1\/p.1=0/\0<p.2 then 0 else 1
section
variable{a b c d:Pt}
theorem pW(h1:bG a b c=0)(h2:bG a b d=0)(h3:bG c d a=0)(h4:bG c d b=0):fL a b c d=bx a b c d:=by
 unfold bx;rw[if_pos ⟨h1,h2,h3,h4⟩]
theorem oB(h1:bG a b c*bG a b d<0)(h2:bG c d a*bG c d b<0):1=bx a b c d:=by
 unfold bx
 rw[if_neg (λh=>by rw[h.1,Int.zero_mul] at h1;omega),if_pos ⟨h1,h2⟩]
theorem gC(h0:¬(bG a b c=0/\bG a b d=0/\bG c d a=0/\bG c d b=0))(h1:¬(bG a b c*bG a b d<0/\bG c d a*bG c d b<0))(h2:cF a b c\/cF a b d\/cF c d a\/cF c d b):2=bx a b c d:=by
 unfold bx
 rw[if_neg h0,if_neg h1,if_pos h2]
theorem nW(h0:¬(bG a b c=0/\bG a b d=0/\bG c d a=0/\bG c d b=0))(h1:¬(bG a b c*bG a b d<0/\bG c d a*bG c d b<0))(h2:¬(cF a b c\/cF a b d\/cF c d a\/cF c d b)):0=bx a b c d:=by
 unfold bx
 rw[if_neg h0,if_neg h1,if_neg h2]
end
end TL
/-
  TlGeomR: what is told of many points: areas, boxes, whether a polyline is simple.
  By an AI agent.
-/
set_option linter.all false
namespace TL
def gL(ps:List Pt):Nat->Pt
 |0=>gI ps 0
 |k+1=>(min (gL ps k).1 (gI ps (k:Int)).1,min (gL ps k).2 (gI ps (k:Int)).2)
def gO(ps:List Pt):Nat->Pt
 |0=>gI ps 0
 |k+1=>(max (gO ps k).1 (gI ps (k:Int)).1,max (gO ps k).2 (gI ps (k:Int)).2)
def cO(ps:List Pt):Prop:=4<=(ps.length:Int)/\gI ps 0=gI ps ((ps.length:Int)-1)
instance (ps:List Pt):Decidable (cO ps):=by unfold cO;infer_instance
def eU(ps:List Pt)(i k:Nat):Prop:=k=i+1\/i=0/\(k:Int)=(ps.length:Int)-2/\cO ps
instance (ps:List Pt)(i k:Nat):Decidable (eU ps i k):=by unfold eU;infer_instance
def Ao(ps:List Pt)(i k:Nat):Int:=bx (gI ps (i:Int)) (gI ps ((i:Int)+1)) (gI ps (k:Int)) (gI ps ((k:Int)+1))
def fh(ps:List Pt)(i k:Nat):Prop:=eU ps i k/\Ao ps i k=3\/¬eU ps i k/\Ao ps i k≠0
instance (ps:List Pt)(i k:Nat):Decidable (fh ps i k):=by unfold fh;infer_instance
def sK(ps:List Pt)(i:Nat):Prop:=gI ps (i:Int)≠gI ps ((i:Int)+1)/\∀k<ps.length,i<k->(k:Int)<=(ps.length:Int)-2->¬fh ps i k
instance (ps:List Pt)(i:Nat):Decidable (sK ps i):=by unfold sK;infer_instance
def fp(ps:List Pt):Prop:=∀i<ps.length,(i:Int)<=(ps.length:Int)-2->sK ps i
instance (ps:List Pt):Decidable (fp ps):=by unfold fp;infer_instance
def ex(ps:List Pt):Bool×Int:=if(ps.length:Int)=0\/¬dy ps then(false,1) else(decide (fp ps),0)
section
variable{ps:List Pt}
theorem kb(h:(ps.length:Int)=0\/¬dy ps):ex ps=(false,1):=by unfold ex;rw[if_pos h]
theorem dO(h0:¬(ps.length:Int)=0)(h:dy ps):ex ps=(decide (fp ps),0):=by unfold ex;rw[if_neg (by rintro(c|c);exact h0 c;exact c h)]
theorem vD{i:Nat}(hi:(i:Int)<=(ps.length:Int)-2)(h:gI ps (i:Int)=gI ps ((i:Int)+1)):false=decide (fp ps):=
 (decide_eq_false λhs=>(hs i (by omega) hi).1 h).symm
theorem dZ{i k:Nat}(hi:(i:Int)<=(ps.length:Int)-2)(hk:(k:Int)<=(ps.length:Int)-2)(hik:i<k)(h:fh ps i k):false=decide (fp ps):=
 (decide_eq_false λhs=>(hs i (by omega) hi).2 k (by omega) hik hk h).symm
theorem x0{i:Nat}(h:∀j:Nat,j<i->sK ps j)(hi:¬(i:Int)<=(ps.length:Int)-2):true=decide (fp ps):=
 (decide_eq_true λj _ hj2=>h j (by omega)).symm
variable{i k:Nat}
theorem jm(h:(k:Int)=(i:Int)+1):eU ps i k:=.inl (by omega)
theorem yR(h1:(i:Int)=0)(h2:(k:Int)=(ps.length:Int)-2)(h3:decide (cO ps)=true):eU ps i k:=.inr ⟨by omega,h2,of_decide_eq_true h3⟩
theorem kY(h:¬(k:Int)=(i:Int)+1)(h1:¬(i:Int)=0):¬eU ps i k:=by
 rintro(c|⟨c,_⟩)<;>omega
theorem nE(h:¬(k:Int)=(i:Int)+1)(h1:¬(k:Int)=(ps.length:Int)-2):¬eU ps i k:=by
 rintro(c|⟨_,c,_⟩)<;>omega
theorem rR(h:¬(k:Int)=(i:Int)+1)(h1:¬decide (cO ps)=true):¬eU ps i k:=by
 rintro(c|⟨_,_,c⟩)
 · omega
 · exact h1 (decide_eq_true c)
theorem Ax(hj:eU ps i k)(hm:bx (gI ps (i:Int)) (gI ps ((i:Int)+1)) (gI ps (k:Int)) (gI ps ((k:Int)+1))=3):fh ps i k:=.inl ⟨hj,hm⟩
theorem pQ(hj:¬eU ps i k)(hm:¬bx (gI ps (i:Int)) (gI ps ((i:Int)+1)) (gI ps (k:Int)) (gI ps ((k:Int)+1))=0):fh ps i k:=.inr ⟨hj,hm⟩
theorem uE(hj:eU ps i k)(hm:¬bx (gI ps (i:Int)) (gI ps ((i:Int)+1)) (gI ps (k:Int)) (gI ps ((k:Int)+1))=3):¬fh ps i k:=by
 rintro(⟨_,h⟩|⟨h,_⟩)
 · exact hm h
 · exact h hj
theorem lM(hj:¬eU ps i k)(hm:bx (gI ps (i:Int)) (gI ps ((i:Int)+1)) (gI ps (k:Int)) (gI ps ((k:Int)+1))=0):¬fh ps i k:=by
 rintro(⟨h,_⟩|⟨_,h⟩)
 · exact hj h
 · exact h hm
end
end TL
/-
  TlConv: whole numbers turned to another kind, a string's byte, functions that bear values.
  By an AI agent.
-/
set_option linter.all false
namespace TL
open Go
section
variable{P:Program}{w:World}{f:Fr}{dst:Option Tmp}{ty:TypeId}{pos:String}{after:Array Edge}{g:Option (Nat×Bool)}{x y:Operand}{s d t:TypeId}{m:Int}{k k0:IntKind}
theorem pY{fid:Nat}{cs:List Operand}{vals:List Value}(h:cs.map (ev f)=vals):(execOp (ev f) ⟨dst,.makeFunc (.func fid) #[] cs.toArray,ty,pos,after,g⟩).run P w= .ok (.value (.func (.func fid) #[] vals.toArray)) w:=by
 have h:cs.toArray.map (ev f)=vals.toArray:=by rw[<-h];simp
 simp[execOp,Instr.makeFunc,h]
end
end TL
namespace TL
open Go
section
variable{P:Program}{w:World}{f:Fr}{dst:Option Tmp}{ty:TypeId}{pos:String}{after:Array Edge}{g:Option (Nat×Bool)}{x y:Operand}{t t':TypeId}
theorem de{fs:Array Field}{xs ys:List Value}{bs:List Bool}{q:Bool}(ht:P.underlying t=some (.struct fs))(hp:P.stoodInHeld t=false)(hg:P.eqGuardType P.depth t=false)(hx:ev f x= .agg xs.toArray)(hy:ev f y= .agg ys.toArray)(h:EqF P xs.toArray ys.toArray fs.toList bs)(hq:bs.all id=q):
   (execOp (ev f) ⟨dst,.binOp .neq t x y t',ty,pos,after,g⟩).run P w= .ok (.value (.bool !q)) w:=by
 have e1:P.fieldsOf t=fs:=by simp[Program.fieldsOf,ht]
 have hr:(Op.equal t (.agg xs.toArray) (.agg ys.toArray)).run P w= .ok q w:=by
   have:=run_equalIn_struct (P:=P) w 9999 t xs.toArray ys.toArray (by rw[e1];exact ht) hp
   rw[e1,hZ h 9998,hq] at this
   exact this
 exact oE .neq hx hy (by simp[eqGuard,hg]) (by simp[binOp,hr])
end
end TL
namespace TL
open Go
section
variable{P:Program}{w:World}{f:Fr}{dst:Option Tmp}{ty:TypeId}{pos:String}{after:Array Edge}{g:Option (Nat×Bool)}{x y:Operand}{t t':TypeId}
theorem ck{α:Type}[Rp α][Fl α][Inhabited α]{γ:aK}{S:cx->Prop}{xs:List α}{v:Value}{size bytes q:Nat}{z:Value}{i:Int}{ds:List Value}(ht:Tp P t true size bytes z)(hx:ev f x= .pointer (some ⟨(aR v (Rp.sz α) i.toNat).block,(aR v (Rp.sz α) i.toNat).off+q,none⟩))(hv:Sl γ S w v xs)(h0:0<=i)(h1:i<xs.length)
    (hl:ds.length=size)(hz:q+size<=Rp.sz α)(hu:((Fl.cells (gI xs i)).drop q).take size=ds):(execOp (ev f) ⟨dst,.load t x,ty,pos,after,g⟩).run P w= .ok (.value (.agg ds.toArray)) w:=by
  obtain⟨cs,hcs,hr⟩:=hv.elem (fI h0 h1)
  refine nO ht hx hl λj hj=>?_
  have:=hcs (q+j) (by omega)
  rw[i7,Nat.add_assoc,<-hu,<-Fl.rep_iff.1 hr]
  rw[gU] at this
  rw[this]
  simp[hj]
end
end TL
/-
  TlGeomL: how segments meet, moved, turned, named another way about.
  By an AI agent.
-/
set_option linter.all false
namespace TL
theorem mL(x y:Int):bE x y=(x-y).sign:=by
 unfold bE
 rcases iz (x-y) with⟨h,h'⟩|⟨h,h'⟩|⟨h,h'⟩
 · rw[h,if_pos (by omega)]
 · rw[h,if_neg (by omega),if_neg (by omega)]
 · rw[h,if_neg (by omega),if_pos (by omega)]
def fM(u w:Pt):Prop:=u.1*w.2=u.2*w.1
def Dw(w p:Pt):Int:=p.1*w.1+p.2*w.2
theorem qu(w p q:Pt):Dw w (aY p q)=Dw w p-Dw w q:=by
 unfold Dw aY;simp only;grind
theorem iG{u w:Pt}(h:fM u w):u.1*(w.1*w.1+w.2*w.2)=Dw w u*w.1/\u.2*(w.1*w.1+w.2*w.2)=Dw w u*w.2:=by
 unfold fM at h
 unfold Dw
 constructor<;>grind
theorem kH(x:Int):0<=x*x:=by
 rcases Int.le_total 0 x with h|h
 · exact Int.mul_nonneg h h
 · exact Int.mul_nonneg_of_nonpos_of_nonpos h h
theorem vq{x:Int}(h:x≠0):0<x*x:=by
 have h1:=kH x
 have h2:x*x≠0:=λe=>by rcases Int.mul_eq_zero.1 e with e|e<;>exact h e
 omega
theorem pN{w:Pt}(hw:w≠(0,0)):(w.1*w.1+w.2*w.2).sign=1:=by
 have h1:0<=w.1*w.1:=kH _
 have h2:0<=w.2*w.2:=kH _
 refine Int.sign_eq_one_of_pos ?_
 by_cases c:w.1=0
 · by_cases d:w.2=0
   · exact absurd (Prod.ext c d) hw
   · have:=vq d
     omega
 · have:=vq c
   omega
theorem jN{u w:Pt}(hw:w≠(0,0))(h:fM u w):u.1.sign=(Dw w u).sign*w.1.sign/\u.2.sign=(Dw w u).sign*w.2.sign:=by
 obtain⟨h1,h2⟩:=iG h
 have hn:=pN hw
 have e1:=congrArg Int.sign h1
 have e2:=congrArg Int.sign h2
 rw[Int.sign_mul,Int.sign_mul,hn,Int.mul_one] at e1 e2
 exact⟨e1,e2⟩
def mq(u:Pt):Int:=if u.1≠0 then u.1.sign else u.2.sign
theorem up(a b:Pt):cr a b=mq (aY a b):=by
 unfold cr mq aY
 simp only
 rw[mL,mL]
 by_cases h:a.1-b.1=0
 · rw[h];simp
 · rw[if_pos (λe=>h (Int.sign_eq_zero_iff_zero.1 e)),if_pos h]
theorem xD{u w:Pt}(hw:w≠(0,0))(h:fM u w):mq u=(Dw w u).sign*mq w:=by
 obtain⟨h1,h2⟩:=jN hw h
 unfold mq
 by_cases c:w.1=0
 · rw[c] at h1
   have hu:u.1=0:=by
     have:u.1.sign=0:=by rw[h1];simp
     exact Int.sign_eq_zero_iff_zero.1 this
   rw[if_neg (by simp[hu]),if_neg (by simp[c]),h2]
 · rw[if_pos c]
   by_cases d:u.1=0
   · rw[if_neg (by simp[d])]
     rw[d] at h1
     have h3:(Dw w u).sign*w.1.sign=0:=by rw[<-h1];rfl
     rcases Int.mul_eq_zero.1 h3 with e|e
     · rw[h2,e];simp
     · exact absurd (Int.sign_eq_zero_iff_zero.1 e) c
   · rw[if_pos d,h1]
theorem tN{w:Pt}(hw:w≠(0,0)):mq w=1\/mq w= -1:=by
 unfold mq
 by_cases c:w.1=0
 · rw[if_neg (by simp[c])]
   have:w.2≠0:=λd=>hw (Prod.ext c d)
   rcases iz w.2 with⟨h,h'⟩|⟨h,h'⟩|⟨h,h'⟩
   · exact .inr h
   · exact absurd h' this
   · exact .inl h
 · rw[if_pos c]
   rcases iz w.1 with⟨h,h'⟩|⟨h,h'⟩|⟨h,h'⟩
   · exact .inr h
   · exact absurd h' c
   · exact .inl h
structure n8(l:List Pt)(w:Pt):Prop where
  pr:∀p∈l,∀q∈l,fM (aY p q) w
  one:w=(0,0)->∀p∈l,∀q∈l,p=q
theorem iB(a:Pt)(w:Pt):fM (aY a a) w:=by unfold TL.fM aY;simp
theorem i2{a b w:Pt}(h:fM (aY a b) w):fM (aY b a) w:=by
 unfold TL.fM aY at*;simp only at*;grind
theorem fR{a b c w:Pt}(h1:fM (aY a b) w)(h2:fM (aY b c) w):fM (aY a c) w:=by
 unfold TL.fM aY at*;simp only at*;grind
theorem dD{a b c:Pt}:bG a b c=0↔fM (aY c a) (aY b a):=by
 rw[ml]
 unfold TL.fM aY
 simp only
 constructor
 · intro h;grind
 · intro h;grind
theorem fc{a b:Pt}:aY a b=(0,0)↔a=b:=by
 unfold aY
 constructor
 · intro h
   have h1:=congrArg Prod.fst h
   have h2:=congrArg Prod.snd h
   simp only at h1 h2
   exact Prod.ext (by omega) (by omega)
 · rintro rfl;simp
theorem n8.base{l:List Pt}{w o:Pt}(h1:∀p∈l,fM (aY p o) w)(h2:w=(0,0)->∀p∈l,p=o):n8 l w:=
 ⟨λp hp q hq=>fR (h1 p hp) (i2 (h1 q hq)),λe p hp q hq=>by rw[h2 e p hp,h2 e q hq]⟩
theorem tY{a b c d:Pt}(h1:bG a b c=0)(h2:bG a b d=0)(h3:bG c d a=0)(h4:bG c d b=0):∃w,n8 [a,b,c,d] w:=by
 have k1:=dD.1 h1
 have k2:=dD.1 h2
 have k3:=dD.1 h3
 by_cases hab:a=b
 · subst hab
   by_cases hcd:c=d
   · subst hcd
     refine⟨aY c a,n8.base (o:=a) (λp hp=>?_) (λe p hp=>?_)⟩
     · simp only[List.mem_cons,List.not_mem_nil,or_false] at hp
       rcases hp with rfl|rfl|rfl|rfl
       · exact iB _ _
       · exact iB _ _
       · unfold TL.fM;rw[Int.mul_comm]
       · unfold TL.fM;rw[Int.mul_comm]
     · have:=fc.1 e
       simp only[List.mem_cons,List.not_mem_nil,or_false] at hp
       rcases hp with rfl|rfl|rfl|rfl
       · rfl
       · rfl
       · exact this
       · exact this
   · refine⟨aY d c,n8.base (o:=c) (λp hp=>?_) (λe p hp=>absurd (fc.1 e).symm hcd)⟩
     simp only[List.mem_cons,List.not_mem_nil,or_false] at hp
     rcases hp with rfl|rfl|rfl|rfl
     · exact k3
     · exact k3
     · exact iB _ _
     · unfold TL.fM;rw[Int.mul_comm]
 · refine⟨aY b a,n8.base (o:=a) (λp hp=>?_) (λe p hp=>absurd (fc.1 e).symm hab)⟩
   simp only[List.mem_cons,List.not_mem_nil,or_false] at hp
   rcases hp with rfl|rfl|rfl|rfl
   · exact iB _ _
   · unfold TL.fM;rw[Int.mul_comm]
   · exact k1
   · exact k2
theorem n8.ord{l:List Pt}{w p q:Pt}(h:n8 l w)(hw:w≠(0,0))(hp:p∈l)(hq:q∈l):cr p q=(Dw w p-Dw w q).sign*mq w:=by
 rw[up,xD hw (h.pr p hp q hq),qu]
theorem n8.inj{l:List Pt}{w p q:Pt}(h:n8 l w)(hp:p∈l)(hq:q∈l)(e:Dw w p=Dw w q):p=q:=by
 by_cases hw:w=(0,0)
 · exact h.one hw p hp q hq
 · have h1:=jN hw (h.pr p hp q hq)
   rw[qu,e] at h1
   have e1:(aY p q).1.sign=0:=by rw[h1.1];simp
   have e2:(aY p q).2.sign=0:=by rw[h1.2];simp
   exact fc.1 (Prod.ext (Int.sign_eq_zero_iff_zero.1 e1) (Int.sign_eq_zero_iff_zero.1 e2))
theorem uV{a b c d w:Pt}(ha:dH a)(hb:dH b)(hc:dH c)(hd:dH d)(h:n8 [a,b,c,d] w):fL a b c d=eY (Dw w a) (Dw w b) (Dw w c) (Dw w d):=by
  rw[sS ha hb hc hd]
  by_cases hw:w=(0,0)
  · have e1:=h.one hw b (by simp) a (by simp)
    have e2:=h.one hw c (by simp) a (by simp)
    have e3:=h.one hw d (by simp) a (by simp)
    subst e1 e2 e3
    unfold eY
    simp
  · have key:∀p q,p∈[a,b,c,d]->q∈[a,b,c,d]->dH p->dH q->(key p<key q↔(Dw w p-Dw w q).sign*mq w<0):=λp q hp hq bp bq=>by
      rw[<-h.ord hw hp hq,gV bp bq,o7]
    rcases tN hw with e|e
    · have key2:∀p q,p∈[a,b,c,d]->q∈[a,b,c,d]->dH p->dH q->(Dw w p<Dw w q↔TL.key p<TL.key q):=λp q hp hq bp bq=>by
        rw[key p q hp hq bp bq,e]
        rcases iz (Dw w p-Dw w q) with⟨s,s'⟩|⟨s,s'⟩|⟨s,s'⟩<;>rw[s]<;>omega
      exact ly (key2 a b (by simp) (by simp) ha hb) (key2 b a (by simp) (by simp) hb ha) (key2 a c (by simp) (by simp) ha hc) (key2 c a (by simp) (by simp) hc ha) (key2 a d (by simp) (by simp) ha hd) (key2 d a (by simp) (by simp) hd ha) (key2 b c (by simp) (by simp) hb hc) (key2 c b (by simp) (by simp) hc hb) (key2 b d (by simp) (by simp) hb hd) (key2 d b (by simp) (by simp) hd hb) (key2 c d (by simp) (by simp) hc hd) (key2 d c (by simp) (by simp) hd hc)
    · have key2:∀p q,p∈[a,b,c,d]->q∈[a,b,c,d]->dH p->dH q->(Dw w p<Dw w q↔-TL.key p< -TL.key q):=λp q hp hq bp bq=>by
        have:=key q p hq hp bq bp
        rw[e] at this
        rcases iz (Dw w q-Dw w p) with⟨s,s'⟩|⟨s,s'⟩|⟨s,s'⟩<;>rw[s] at this<;>omega
      rw[<-t7]
      exact ly (key2 a b (by simp) (by simp) ha hb) (key2 b a (by simp) (by simp) hb ha) (key2 a c (by simp) (by simp) ha hc) (key2 c a (by simp) (by simp) hc ha) (key2 a d (by simp) (by simp) ha hd) (key2 d a (by simp) (by simp) hd ha) (key2 b c (by simp) (by simp) hb hc) (key2 c b (by simp) (by simp) hc hb) (key2 b d (by simp) (by simp) hb hd) (key2 d b (by simp) (by simp) hd hb) (key2 c d (by simp) (by simp) hc hd) (key2 d c (by simp) (by simp) hd hc)
theorem ia(a b p:Int):(min a b<=p/\p<=max a b)↔(p-a).sign*(p-b).sign<=0:=by
 rcases iz (p-a) with⟨s,s'⟩|⟨s,s'⟩|⟨s,s'⟩<;>rcases iz (p-b) with⟨t,t'⟩|⟨t,t'⟩|⟨t,t'⟩<;>rw[s,t]<;>omega
theorem rt{l:List Pt}{w a b p:Pt}(h:n8 l w)(ha:a∈l)(hb:b∈l)(hp:p∈l):jy a b p↔min (Dw w a) (Dw w b)<=Dw w p/\Dw w p<=max (Dw w a) (Dw w b):=by
 by_cases hw:w=(0,0)
 · have e1:=h.one hw b hb a ha
   have e2:=h.one hw p hp a ha
   subst e1 e2
   unfold jy
   omega
 · obtain⟨u1,u2⟩:=jN hw (h.pr p hp a ha)
   obtain⟨v1,v2⟩:=jN hw (h.pr p hp b hb)
   rw[qu] at u1 u2 v1 v2
   unfold jy
   rw[ia,ia,ia]
   have f1:(p.1-a.1).sign=(aY p a).1.sign:=rfl
   have f2:(p.2-a.2).sign=(aY p a).2.sign:=rfl
   have f3:(p.1-b.1).sign=(aY p b).1.sign:=rfl
   have f4:(p.2-b.2).sign=(aY p b).2.sign:=rfl
   rw[f1,f2,f3,f4,u1,u2,v1,v2]
   have hne:w.1≠0\/w.2≠0:=by
     by_cases c:w.1=0
     · exact .inr λd=>hw (Prod.ext c d)
     · exact .inl c
   rcases iz (Dw w p-Dw w a) with⟨s,_⟩|⟨s,_⟩|⟨s,_⟩<;>rcases iz (Dw w p-Dw w b) with⟨t,_⟩|⟨t,_⟩|⟨t,_⟩<;>rcases iz w.1 with⟨x,x'⟩|⟨x,x'⟩|⟨x,x'⟩<;>rcases iz w.2 with⟨y,y'⟩|⟨y,y'⟩|⟨y,y'⟩<;>rw[s,t,x,y]<;>omega
end TL
/-
  TlGeomM: meeting segments: moved, turned, named another way about; what ends they share.
  By an AI agent.
-/
set_option linter.all false
namespace TL
theorem n8.sub{l l':List Pt}{w:Pt}(h:n8 l w)(hs:∀p∈l',p∈l):n8 l' w:=
 ⟨λp hp q hq=>h.pr p (hs p hp) q (hs q hq),λe p hp q hq=>h.one e p (hs p hp) q (hs q hq)⟩
section
variable{a b c d:Pt}
def cG(a b c d e:Pt):Prop:=cF a b e/\cF c d e
instance (a b c d e:Pt):Decidable (cG a b c d e):=by unfold cG;infer_instance
def fK(a b c d:Pt):Prop:=bG a b c*bG a b d<0/\bG c d a*bG c d b<0
instance (a b c d:Pt):Decidable (fK a b c d):=by unfold fK;infer_instance
theorem qt(h:fK a b c d){e:Pt}(he:e∈[a,b,c,d]):¬cG a b c d e:=λhb=>by
 obtain⟨h1,h2⟩:=h
 have k1:=hb.1.1
 have k2:=hb.2.1
 simp only[List.mem_cons,List.not_mem_nil,or_false] at he
 rcases he with rfl|rfl|rfl|rfl
 · rw[k2] at h2;simp at h2
 · rw[k2] at h2;simp at h2
 · rw[k1] at h1;simp at h1
 · rw[k1] at h1;simp at h1
theorem ob:(∃e∈[a,b,c,d],cG a b c d e)↔(cF a b c\/cF a b d\/cF c d a\/cF c d b):=by
 have h1:=fG a b
 have h2:=fG c d
 unfold cG
 constructor
 · rintro⟨e,he,k1,k2⟩
   simp only[List.mem_cons,List.not_mem_nil,or_false] at he
   rcases he with rfl|rfl|rfl|rfl
   · exact .inr (.inr (.inl k2))
   · exact .inr (.inr (.inr k2))
   · exact .inl k1
   · exact .inr (.inl k1)
 · rintro(h|h|h|h)
   · exact⟨c,by simp,h,h2.1⟩
   · exact⟨d,by simp,h,h2.2⟩
   · exact⟨a,by simp,h1.1,h⟩
   · exact⟨b,by simp,h1.2,h⟩
theorem ug(h1:bG a b c=0)(h2:bG a b d=0)(h3:bG c d a=0)(h4:bG c d b=0){w:Pt}(h:n8 [a,b,c,d] w){e:Pt}(he:e∈[a,b,c,d]):cG a b c d e↔max (min (Dw w a) (Dw w b)) (min (Dw w c) (Dw w d))<=Dw w e/\Dw w e<=min (max (Dw w a) (Dw w b)) (max (Dw w c) (Dw w d)):=by
  have t1:bG a b e=0:=by
    simp only[List.mem_cons,List.not_mem_nil,or_false] at he
    rcases he with rfl|rfl|rfl|rfl
    · exact(fG _ _).1.1
    · exact(fG _ _).2.1
    · exact h1
    · exact h2
  have t2:bG c d e=0:=by
    simp only[List.mem_cons,List.not_mem_nil,or_false] at he
    rcases he with rfl|rfl|rfl|rfl
    · exact h3
    · exact h4
    · exact(fG _ _).1.1
    · exact(fG _ _).2.1
  unfold cG cF
  rw[rt h (a:=a) (b:=b) (by simp) (by simp) he,rt h (a:=c) (b:=d) (by simp) (by simp) he,t1,t2]
  omega
theorem kF(ha:dH a)(hb:dH b)(hc:dH c)(hd:dH d):
    (bx a b c d=0/\¬fK a b c d/\∀e∈[a,b,c,d],¬cG a b c d e)\/(bx a b c d=1/\fK a b c d)\/
    (bx a b c d=2/\¬fK a b c d/\(∃e∈[a,b,c,d],cG a b c d e)/\∀e∈[a,b,c,d],∀e'∈[a,b,c,d],cG a b c d e->cG a b c d e'->e=e')\/
    (bx a b c d=3/\¬fK a b c d/\∃e∈[a,b,c,d],∃e'∈[a,b,c,d],(cG a b c d e/\cG a b c d e')/\e≠e'):=by
  unfold bx
  by_cases h:bG a b c=0/\bG a b d=0/\bG c d a=0/\bG c d b=0
  · obtain⟨w,hw⟩:=tY h.1 h.2.1 h.2.2.1 h.2.2.2
    have hbo:=λ {e:Pt} (he:e∈[a,b,c,d])=>ug h.1 h.2.1 h.2.2.1 h.2.2.2 hw he
    have hno:¬fK a b c d:=λhc=>by have:=hc.1;rw[h.1] at this;simp at this
    rw[if_pos h,uV ha hb hc hd hw]
    have low:∃e∈[a,b,c,d],Dw w e=max (min (Dw w a) (Dw w b)) (min (Dw w c) (Dw w d)):=by
      have:max (min (Dw w a) (Dw w b)) (min (Dw w c) (Dw w d))=Dw w a\/max (min (Dw w a) (Dw w b)) (min (Dw w c) (Dw w d))=Dw w b\/max (min (Dw w a) (Dw w b)) (min (Dw w c) (Dw w d))=Dw w c\/max (min (Dw w a) (Dw w b)) (min (Dw w c) (Dw w d))=Dw w d:=by omega
      rcases this with e|e|e|e
      · exact⟨a,by simp,e.symm⟩
      · exact⟨b,by simp,e.symm⟩
      · exact⟨c,by simp,e.symm⟩
      · exact⟨d,by simp,e.symm⟩
    have high:∃e∈[a,b,c,d],Dw w e=min (max (Dw w a) (Dw w b)) (max (Dw w c) (Dw w d)):=by
      have:min (max (Dw w a) (Dw w b)) (max (Dw w c) (Dw w d))=Dw w a\/min (max (Dw w a) (Dw w b)) (max (Dw w c) (Dw w d))=Dw w b\/min (max (Dw w a) (Dw w b)) (max (Dw w c) (Dw w d))=Dw w c\/min (max (Dw w a) (Dw w b)) (max (Dw w c) (Dw w d))=Dw w d:=by omega
      rcases this with e|e|e|e
      · exact⟨a,by simp,e.symm⟩
      · exact⟨b,by simp,e.symm⟩
      · exact⟨c,by simp,e.symm⟩
      · exact⟨d,by simp,e.symm⟩
    unfold eY
    generalize hL:max (min (Dw w a) (Dw w b)) (min (Dw w c) (Dw w d))=L at hbo low
    generalize hH:min (max (Dw w a) (Dw w b)) (max (Dw w c) (Dw w d))=H at hbo high
    by_cases c1:H<L
    · rw[if_pos c1]
      exact .inl ⟨rfl,hno,λe he hb=>by have:=(hbo he).1 hb;omega⟩
    · rw[if_neg c1]
      obtain⟨p,hp,ep⟩:=low
      obtain⟨q,hq,eq⟩:=high
      have bp:=(hbo hp).2 (by omega)
      have bq:=(hbo hq).2 (by omega)
      by_cases c2:H=L
      · rw[if_pos c2]
        refine .inr (.inr (.inl ⟨rfl,hno,⟨p,hp,bp⟩,λe he e' he' b1 b2=>?_⟩))
        have k1:=(hbo he).1 b1
        have k2:=(hbo he').1 b2
        exact hw.inj he he' (by omega)
      · rw[if_neg c2]
        exact .inr (.inr (.inr ⟨rfl,hno,p,hp,q,hq,⟨bp,bq⟩,λe=>by subst e;omega⟩))
  · rw[if_neg h]
    by_cases h2:fK a b c d
    · rw[if_pos (show bG a b c*bG a b d<0/\bG c d a*bG c d b<0 from h2)];exact .inr (.inl ⟨rfl,h2⟩)
    · rw[if_neg (show¬(bG a b c*bG a b d<0/\bG c d a*bG c d b<0) from h2)]
      by_cases h3:cF a b c\/cF a b d\/cF c d a\/cF c d b
      · rw[if_pos h3]
        refine .inr (.inr (.inl ⟨rfl,h2,ob.2 h3,λe he e' he' b1 b2=>?_⟩))
        refine Classical.byContradiction λhne=>h ?_
        -- two points that both have: all lie on their line
        have hw:aY e' e≠(0,0):=λe0=>hne (fc.1 e0).symm
        have pt:∀{u v w:Pt},w≠(0,0)->fM u w->fM v w->fM u v:=λ {u v w} hw h1 h2=>by
          obtain⟨s1,s2⟩:=iG h1
          obtain⟨t1,t2⟩:=iG h2
          have hn:=pN hw
          generalize hN:w.1*w.1+w.2*w.2=N at*
          have hN0:N≠0:=λe=>by rw[e] at hn;simp at hn
          unfold fM
          have:N*(N*(u.1*v.2))=N*(N*(u.2*v.1)):=by
            have f1:N*(N*(u.1*v.2))=(u.1*N)*(v.2*N):=by grind
            have f2:N*(N*(u.2*v.1))=(u.2*N)*(v.1*N):=by grind
            rw[f1,f2,s1,s2,t1,t2];grind
          exact Int.eq_of_mul_eq_mul_left hN0 (Int.eq_of_mul_eq_mul_left hN0 this)
        have ps:∀{u v:Pt},fM u v->fM v u:=λ {u v} h=>by unfold fM at*;grind
        -- a segment with two points of it
        have seg:∀{a b:Pt},cF a b e->cF a b e'->fM (aY b a) (aY e' e)/\fM (aY e a) (aY e' e):=λ {a b} k1 k2=>by
          have p1:=dD.1 k1.1
          have p2:=dD.1 k2.1
          by_cases hab:a=b
          · subst hab
            have x1:=k1.2
            have x2:=k2.2
            unfold jy at x1 x2
            exact absurd (Prod.ext (by omega) (by omega):e=e') hne
          · have hba:aY b a≠(0,0):=λe0=>hab (fc.1 e0).symm
            have p3:fM (aY e' e) (aY b a):=fR p2 (i2 p1)
            exact⟨ps p3,pt hba p1 p3⟩
        obtain⟨a1,a2⟩:=seg b1.1 b2.1
        obtain⟨c1,c2⟩:=seg b1.2 b2.2
        have ca:fM (aY c a) (aY e' e):=fR (i2 c2) a2
        have da:fM (aY d a) (aY e' e):=fR c1 ca
        have ac:fM (aY a c) (aY e' e):=i2 ca
        have bc:fM (aY b c) (aY e' e):=fR a1 ac
        exact⟨dD.2 (pt hw ca a1),dD.2 (pt hw da a1),dD.2 (pt hw ac c1),dD.2 (pt hw bc c1)⟩
      · rw[if_neg h3]
        exact .inl ⟨rfl,h2,λe he hb=>h3 (ob.1 ⟨e,he,hb⟩)⟩
end
end TL
/-
  TlGeomS: polylines gone back, and two of them named the other way about.
  By an AI agent.
-/
set_option linter.all false
namespace TL
abbrev Sg:=Pt×Pt
def jP(ps:List Pt):Nat->List Sg
 |0=>[]
 |k+1=>jP ps k++[(gI ps (k:Int),gI ps ((k:Int)+1))]
def aE(ps:List Pt):List Sg:=if ps.length=1 then[(gI ps 0,gI ps 0)] else jP ps (ps.length-1)
theorem lQ(ps:List Pt):∀k:Nat,(jP ps k).length=k
 |0=>rfl
 |k+1=>by simp[jP,lQ ps k]
theorem fk{ps:List Pt}{s:Sg}:∀{k:Nat},s∈jP ps k↔∃i:Nat,i<k/\s=(gI ps (i:Int),gI ps ((i:Int)+1))
 |0=>by simp[jP]
 |k+1=>by
   rw[jP,List.mem_append,fk,List.mem_singleton]
   constructor
   · rintro(⟨i,hi,e⟩|e)
     · exact⟨i,by omega,e⟩
     · exact⟨k,by omega,e⟩
   · rintro⟨i,hi,e⟩
     by_cases c:i=k
     · subst c;exact .inr e
     · exact .inl ⟨i,by omega,e⟩
theorem vO{ps:List Pt}(h:(ps.length:Int)=1):[(gI ps 0,gI ps 0)]=aE ps:=by
 unfold aE;rw[if_pos (by omega)]
def yQ(ps:List Pt):Pt:=gI ps ((ps.length:Int)-1)
def zu(ps:List Pt)(p:Pt):Prop:=p=gI ps 0\/p=yQ ps
instance (ps:List Pt)(p:Pt):Decidable (zu ps p):=by unfold zu;infer_instance
def xP(q:List Pt)(s t:Sg)(x:Pt):Prop:=zu q x/\cF s.1 s.2 x/\cF t.1 t.2 x
instance (q:List Pt)(s t:Sg)(x:Pt):Decidable (xP q s t x):=by unfold xP;infer_instance
def vu(p q:List Pt)(s t:Sg):Prop:=xP q s t (gI p 0)\/xP q s t (yQ p)
instance (p q:List Pt)(s t:Sg):Decidable (vu p q s t):=by unfold vu;infer_instance
def zy(p q:List Pt)(s t:Sg):Prop:=bx s.1 s.2 t.1 t.2=3\/bx s.1 s.2 t.1 t.2≠0/\¬vu p q s t
instance (p q:List Pt)(s t:Sg):Decidable (zy p q s t):=by unfold zy;infer_instance
def Af(p q:List Pt):Prop:=∀s∈aE p,∀t∈aE q,¬zy p q s t
instance (p q:List Pt):Decidable (Af p q):=by unfold Af;infer_instance
section
variable{p q:List Pt}
theorem zr{s:Sg}(h0:0<p.length)(hs:s∈aE p):s.1∈p/\s.2∈p:=by
 unfold aE at hs
 split at hs
 · obtain rfl:=List.mem_singleton.1 hs
   exact⟨bk (by omega) (by omega),bk (by omega) (by omega)⟩
 · obtain⟨i,hi,rfl⟩:=fk.1 hs
   exact⟨bk (by omega) (by omega),bk (by omega) (by omega)⟩
end
end TL
namespace TL
section
variable{p q:List Pt}{i k:Nat}
variable{s t:Sg}
theorem ua(hp:dy p)(h0:0<p.length)(hi:(i:Int)<(aE p).length):dH (gI (aE p) (i:Int)).1/\dH (gI (aE p) (i:Int)).2:=by
 have:=zr h0 (bk (xs:=aE p) (i:=(i:Int)) (by omega) hi)
 exact⟨(hp.2 _ this.1).bd,(hp.2 _ this.2).bd⟩
theorem oc(h0:0<p.length):(aE p).length<=p.length:=by
 unfold aE
 split
 · simp;omega
 · rw[lQ];omega
end
end TL
namespace TL
section
variable{p q:List Pt}{s t:Sg}{i:Nat}
end
end TL
/-
  TlGeomB: a box holds all points, and each of its sides has one; how many ends two segments share.
  By an AI agent.
-/
set_option linter.all false
namespace TL
def vV(p:Pt->Bool)(ps:List Pt):Nat->Bool
 |0=>false
 |k+1=>vV p ps k||p (gI ps (k:Int))
theorem oR{p:Pt->Bool}{ps:List Pt}:∀{k:Nat} {j:Nat},j<k->p (gI ps (j:Int))=true->vV p ps k=true
 |0,j,hj,_=>by omega
 |k+1,j,hj,h=>by
   unfold vV
   by_cases e:j=k
   · subst e;rw[h];simp
   · rw[oR (by omega) h];simp
section
variable{a b c d:Pt}{ends:List Pt}{k:Nat}
end
end TL
namespace TL
end TL
