/- Plain texts of this claim, part 1. By an AI agent. -/
import Derived.Test.YtgneelmmomohdaaSaTlP0
import Derived.Laws.StructEq
import Derived.OrdersHeld
/-
  TlDraw: regions that draw their order, taken operation by operation.
  By an AI agent.
-/
set_option linter.all false
namespace TL
open Go
def cI(n:Nat)(done:List Nat):Array Bool:=((List.range n).map λi=>decide (i∈done)).toArray
theorem dU(n:Nat)(done:List Nat)(j:Nat)(d:Bool):(cI n done).getD j d=if j<n then decide (j∈done) else d:=by
 unfold cI
 by_cases h:j<n
 · simp[h]
 · simp[h]
theorem dG{n i:Nat}(done:List Nat)(hi:i<n):(cI n done).setIfInBounds i true=cI n (i::done):=by
 apply Array.ext
 · simp[cI]
 · intro j h1 h2
   have hj:j<n:=by simpa[cI] using h2
   simp only[cI]
   by_cases hij:i=j
   · subst hij;simp
   · have:¬j=i:=λh=>hij h.symm
     simp[Array.getElem_setIfInBounds,hij,this]
section
variable{P:Program}{ops:Array Oper}{Q:Exit->Act->World->Prop}{md:Region.Mode}{qs:Nat->Bool}
def ox(P:Program)(md:Region.Mode)(ops:Array Oper)(qs:Nat->Bool)(Q:Exit->Act->World->Prop):Nat->Array Bool->Act->World->Prop
  |0,listed,a,w=>Region.ready md ops listed=[]/\Q .normal a w
  |fuel+1,listed,a,w=>(Region.ready md ops listed=[]->Q .normal a w)/\
    ∀i∈Region.ready md ops listed,if qs i then stOp P ops w i (λa'=>ox P md ops qs Q fuel (listed.setIfInBounds i true) a' w) a
      else wpOp P ops Q i (ox P md ops qs Q fuel (listed.setIfInBounds i true)) a w
theorem hZ:∀(fuel:Nat) (listed:Array Bool) (a:Act) (w:World),ox P md ops qs Q fuel listed a w->wpAny P md ops Q fuel listed a w
 |0,_,_,_,h=>h
 |fuel+1,listed,a,w,h=>by
   refine⟨h.1,λi hi=>?_⟩
   have h2:=h.2 i hi
   cases hq:qs i with
   |true=>
     simp only[hq,if_true] at h2
     exact wpOp_of_stOp (λa' h'=>hZ fuel _ a' w h') h2
   |false=>
     simp only[hq,Bool.false_eq_true,if_false] at h2
     exact wpOp_mono (λa' w' h'=>hZ fuel _ a' w' h') h2
theorem sZ{i:Nat}{oi:Oper}{v:Value}{w:World}{M D:Array Bool}(hi:ops[i]? =some oi)(hsel:∀(j:Nat) (o:Oper) cs b,ops[j]? =some o->o.op≠ .select cs b)(hqi:qs i=true)
    (hM:∀j oj,ops[j]? =some oj->M.getD j false=false->j≠i->∃e∈oj.after,Region.binds md e=true/\M.getD e.on false=false)
    (hMq:∀j oj,ops[j]? =some oj->M.getD j false=true->D.getD j true=false->j≠i->qs j=true):
    ∀(fuel:Nat) (listed:Array Bool) (a:Act),listed.size=ops.size->(∀j,listed.getD j false=true->M.getD j false=true)->(∀j,listed.getD j true=false->D.getD j true=false)->
      (∀j oj,ops[j]? =some oj->j≠i->listed.getD j true=false->(∀e∈oj.after,Region.binds md e=true->e.on≠i)->oi.apart ops oj=true)->
      i∈Region.ready md ops listed->YieldsAt P ops w oi v a->
      ox P md ops qs Q fuel (listed.setIfInBounds i true) (a.put oi.dst v) w->ox P md ops qs Q (fuel+1) listed a w:=by
  intro fuel
  induction fuel with
  |zero=>
    intro listed a _ _ _ _ hr hy H
    refine⟨λh=>(by rw[h] at hr;cases hr),λj hj=>?_⟩
    by_cases hji:j=i
    · subst hji;rw[if_pos hqi];exact hy.stOp hi H
    · have:=ready_mono hj hji
      rw[H.1] at this
      cases this
  |succ fuel ih=>
    intro listed a hsz hsub hD hfree hr hy H
    refine⟨λh=>(by rw[h] at hr;cases hr),λj hj=>?_⟩
    by_cases hji:j=i
    · subst hji;rw[if_pos hqi];exact hy.stOp hi H
    · obtain⟨hjun,oj,hoj,hall⟩:=mem_ready.1 hj
      have hMj:M.getD j false=true:=by
        cases hm:M.getD j false with
        |true=>rfl
        |false=>
          obtain⟨e,he,hb,hn⟩:=hM j oj hoj hm hji
          have:=hsub _ (hall e he hb)
          rw[hn] at this;cases this
      have hqj:=hMq j oj hoj hMj (hD j hjun) hji
      have h1:=H.2 j (ready_mono hj hji)
      rw[if_pos hqj] at h1 ⊢
      have hnot:∀e∈oj.after,Region.binds md e=true->e.on≠i:=λe he hb heq=>by
        have h1:=hall e he hb
        have h0:=(mem_ready.1 hr).1
        rw[heq] at h1
        rw[getD_both h0] at h1
        cases h1
      have h2:=stOp_put hoj (hfree j oj hoj hji hjun hnot) (λcs b=>hsel i oi cs b hi) (λcs b=>hsel j oj cs b hoj) hy h1
      have hfree':∀k ok,ops[k]? =some ok->k≠i->(listed.setIfInBounds j true).getD k true=false->
          (∀e∈ok.after,Region.binds md e=true->e.on≠i)->oi.apart ops ok=true:=λk ok hk hki hun hno=>by
        refine hfree k ok hk hki ?_ hno
        by_cases hjk:j=k
        · subst hjk;exact hjun
        · rw[getD_set_ne true hjk] at hun;exact hun
      have hsub':∀k,(listed.setIfInBounds j true).getD k false=true->M.getD k false=true:=λk hk=>by
        by_cases hjk:j=k
        · subst hjk;exact hMj
        · rw[getD_set_ne false hjk] at hk;exact hsub k hk
      have hD':∀k,(listed.setIfInBounds j true).getD k true=false->D.getD k true=false:=λk hk=>by
        by_cases hjk:j=k
        · subst hjk;exact hD j hjun
        · rw[getD_set_ne true hjk] at hk;exact hD k hk
      refine stOp_mono (λa' h3=>ih (listed.setIfInBounds j true) a' (by simpa using hsz) hsub' hD' hfree' (ready_mono hr (Ne.symm hji)) h3.1 ?_) h2
      rw[Array.setIfInBounds_comm _ _ hji]
      exact h3.2
def aV{α:Type}(s:Sem α):Prop:=∀(P:Program) (w:World) (x:α) (w':World),s.run P w= .ok x w'->ep w.heap.size w w'
theorem aV.bind{α β:Type}{s:Sem α}{f:α->Sem β}(h:aV s)(hf:∀a,aV (f a)):aV (s>>=f):=by
 intro P w x w' hr
 rw[Sem.run_bind] at hr
 cases h1:s.run P w with
 |halt e w1=>rw[h1] at hr;cases hr
 |ok a w1=>
   rw[h1] at hr
   have k1:=h P w a w1 h1
   have k2:=hf a P w1 x w' hr
   exact k1.trans (k2.mono k1.size)
theorem aV.pure{α:Type}(a:α):aV (Pure.pure a:Sem α):=λP w x w' h=>by
 simp only[Sem.run_pure] at h
 cases h;exact ep.refl _ _
theorem aV.halt{α:Type}(e:Halt):aV (Sem.halt e:Sem α):=λP w x w' h=>by cases h
theorem aV.stuck{α:Type}(e:String):aV (Go.stuck e:Sem α):=aV.halt _
theorem aV.unsupported{α:Type}(e:Unsupported):aV (Go.unsupported e:Sem α):=aV.halt _
theorem aV.program:aV Go.program:=λP w x w' h=>by
 simp only[run_program] at h
 cases h;exact ep.refl _ _
theorem aV.new(o:Obj):aV (newObj o):=λP w x w' h=>by
 simp only[run_newObj] at h
 cases h
 exact(ep.refl _ w).alloc (Nat.le_refl _) o
theorem aV.typeInfo(t:TypeId):aV (Go.typeInfo t):=aV.bind aV.program λp=>by
 cases p.info? t with
 |some i=>exact aV.pure i
 |none=>exact aV.stuck _
theorem aV.underlying(t:TypeId):aV (Go.underlying t):=aV.bind aV.program λp=>by
 cases p.underlying t with
 |some i=>exact aV.pure i
 |none=>exact aV.stuck _
theorem aV.sizeOf(t:TypeId):aV (Go.sizeOf t):=aV.bind (aV.typeInfo t) λi=>aV.pure _
theorem aV.zeroValue(t:TypeId):aV (Go.zeroValue t):=aV.bind (aV.typeInfo t) λi=>by
 cases i.zero with
 |some v=>exact aV.pure v
 |none=>exact aV.unsupported _
theorem aV.newVar(t:TypeId)(v:Value):aV (Go.newVar t v):=aV.bind (aV.new _) λ_=>aV.pure _
theorem lb(t:TypeId)(len:Nat)(parts:Array (Nat×Value)):aV (Instr.buildSlice t len parts):=by
 unfold Instr.buildSlice
 refine aV.bind (aV.underlying t) λd=>?_
 split
 · refine aV.bind (aV.sizeOf _) λsize=>?_
   have tail:∀(elem:TypeId) (zero:Array Value),aV (match Instr.fill (λi=>some (i*size,size)) ((Array.range (len*size)).map (zero[· %zero.size]!)) parts.toList with
       |some cells=>(do pure (Value.slice (some (<-newRow elem cells)) len len):Sem Value)
       |_=>Go.stuck "buildSlice: a part of the wrong size"):=λelem zero=>by
     split
     · exact aV.bind (aV.bind (aV.new _) λ_=>aV.pure _) λ_=>aV.pure _
     · exact aV.stuck _
   by_cases h1:len*size>2^24
   · simp only[h1,if_true]
     refine aV.bind (aV.unsupported _) λx=>?_
     by_cases h2:len*size=0
     · rw[if_pos h2]
       exact aV.bind (aV.pure _) λzero=>tail _ zero
     · simp only[h2,if_false]
       exact aV.bind (aV.zeroValue _) λ_=>aV.bind (aV.pure _) λzero=>tail _ zero
   · simp only[h1,if_false]
     by_cases h2:len*size=0
     · rw[if_pos h2]
       exact aV.bind (aV.pure _) λzero=>tail _ zero
     · simp only[h2,if_false]
       exact aV.bind (aV.zeroValue _) λ_=>aV.bind (aV.pure _) λzero=>tail _ zero
 · exact aV.stuck _
theorem yy{P:Program}{w w':World}{s:Sem Value}{nx:Next}(h:(do pure (Next.value (<-s)):Sem Next).run P w= .ok nx w'):∃u,nx= .value u:=by
 rw[Sem.run_bind] at h
 cases hs:s.run P w with
 |ok a w1=>rw[hs] at h;cases h;exact⟨a,rfl⟩
 |halt e w1=>rw[hs] at h;cases h
theorem aV.load(a:Addr)(m:Mode):aV (Go.load a m):=λP w x w' h=>by
 simp only[Go.load,Sem.run] at h
 split at h
 · cases h;exact ep.refl _ _
 · split at h
   · cases h;exact ep.refl _ _
   · cases h
theorem aV.cells(a:Addr):∀(n i:Nat) (acc:Array Value),aV (loadCellsFrom a i n acc)
 |0,_,_=>aV.pure _
 |n+1,i,_=>aV.bind (aV.load _ _) λ_=>aV.cells a n (i+1) _
theorem aV.isAgg(t:TypeId):aV (Go.isAgg t):=aV.bind (aV.underlying t) λd=>by
 split<;>exact aV.pure _
theorem aV.error{α:Type}(m:String):aV (runtimePanic (.error m):Sem α):=aV.bind aV.program λp=>aV.halt _
theorem aV.asIntOf(v:Value):aV (Go.asIntOf v):=by
 unfold Go.asIntOf
 split
 · exact aV.pure _
 · exact aV.unsupported _
 · exact aV.stuck _
theorem aV.asInt(v:Value):aV (Go.asInt v):=aV.bind (aV.asIntOf v) λ_=>aV.pure _
theorem aV.choose(q:Question):aV (Go.choose q):=λP w x w' h=>by
 simp only[Go.choose,Sem.run] at h
 split at h
 · cases h;exact ep.refl _ _
 · cases h;exact⟨rfl,rfl,rfl,Nat.le_refl _,λ_ _=>rfl,Nat.le_succ _⟩
theorem aV.room(n:Nat):aV (askRoom n):=λP w x w' h=>by
 unfold askRoom at h
 split at h
 · simp only[Go.mark,Sem.run] at h
   cases h;exact⟨rfl,rfl,rfl,Nat.le_refl _,λ_ _=>rfl,Nat.le_refl _⟩
 · cases h;exact ep.refl _ _
theorem q7(t:TypeId)(a:Value):aV (Instr.loadAt t a):=by
 unfold Instr.loadAt
 refine aV.bind ?_ λb=>?_
 · unfold Instr.sureAddr
   split
   · exact aV.pure _
   · exact aV.stuck _
 · unfold loadVar
   refine aV.bind (aV.isAgg t) λc=>?_
   split
   · exact aV.bind (aV.sizeOf t) λn=>aV.bind (aV.cells _ _ _ _) λ_=>aV.pure _
   · exact aV.load _ _
theorem mm(t:TypeId)(a b:Value):aV (Instr.makeSlice t a b):=by
 unfold Instr.makeSlice
 refine aV.bind (aV.underlying t) λd=>?_
 split
 · refine aV.bind (aV.asInt _) λl=>aV.bind (aV.asInt _) λc=>aV.bind (aV.typeInfo _) λi=>?_
   have tail:∀(c:Int) (l:Int) (elem:TypeId),aV (do
       let n:=c.toNat*(<-sizeOf elem)
       let zero<-if n=0 then pure #[] else do pure (<-zeroValue elem).cells
       let a<-newRow elem ((Array.range n).map (zero[· %zero.size]!))
       pure (Value.slice (some a) l.toNat c.toNat)):=λc l elem=>by
     refine aV.bind (aV.sizeOf _) λn=>?_
     have last:∀zero:Array Value,aV (do
       let a<-newRow elem ((Array.range (c.toNat*n)).map (zero[· %zero.size]!))
       pure (Value.slice (some a) l.toNat c.toNat)):=λzero=>aV.bind (aV.bind (aV.new _) λ_=>aV.pure _) λ_=>aV.pure _
     by_cases h:c.toNat*n=0
     · simp only[h,if_true]
       have:=last #[]
       simp only[h] at this
       exact aV.bind (aV.pure _) λ_=>aV.bind (aV.bind (aV.new _) λ_=>aV.pure _) λ_=>aV.pure _
     · simp only[h,if_false]
       exact aV.bind (aV.zeroValue _) λ_=>aV.bind (aV.pure _) λz=>last z
   dsimp only
   repeat' (first
     |exact aV.error _
     |exact aV.choose _
     |exact aV.room _
     |exact tail _ _ _
     |exact aV.pure _
     |refine aV.bind ?_ λ_=>?_
     |split)
 · exact aV.stuck _
def jb:Op->Bool
 | .alloc _| .box .. | .buildSlice .. | .load .. | .makeSlice .. =>true
 |_=>false
theorem sE{ρ:Operand->Value}{o:Oper}(h:jb o.op=true):aV (execOp ρ o):=by
 obtain⟨dst,op,ty,pos,after,g⟩:=o
 cases op<;>simp only[jb,Bool.false_eq_true] at h
 case alloc e=>exact aV.bind (aV.bind (aV.zeroValue _) λ_=>aV.bind (aV.newVar _ _) λ_=>aV.pure _) λ_=>aV.pure _
 case box e x=>exact aV.bind (aV.bind (aV.newVar _ _) λ_=>aV.pure _) λ_=>aV.pure _
 case buildSlice t n ps=>exact aV.bind (lb _ _ _) λ_=>aV.pure _
 case load t a=>exact aV.bind (q7 _ _) λ_=>aV.pure _
 case makeSlice t a b=>exact aV.bind (mm _ _ _) λ_=>aV.pure _
theorem vf{i:Nat}{oi:Oper}{v:Value}{w0:World}{M D:Array Bool}(hi:ops[i]? =some oi)(hsel:∀(j:Nat) (o:Oper) cs b,ops[j]? =some o->o.op≠ .select cs b)(hqi:qs i=true)
    (hQ:∀c a w,Q (.panic c) (a.put oi.dst v) w->Q (.panic c) a w)
    (hM:∀j oj,ops[j]? =some oj->M.getD j false=false->j≠i->∃e∈oj.after,Region.binds md e=true/\M.getD e.on false=false)
    (hMq:∀j oj,ops[j]? =some oj->M.getD j false=true->D.getD j true=false->j≠i->qs j=true\/jb oj.op=true):
    ∀(fuel:Nat) (listed:Array Bool) (a:Act) (w:World),ep w0.heap.size w0 w->(∀j,listed.getD j false=true->M.getD j false=true)->(∀j,listed.getD j true=false->D.getD j true=false)->
      (∀j oj,ops[j]? =some oj->j≠i->listed.getD j true=false->(∀e∈oj.after,Region.binds md e=true->e.on≠i)->oi.apart ops oj=true)->
      i∈Region.ready md ops listed->(∀w,ep w0.heap.size w0 w->YieldsAt P ops w oi v a)->
      ox P md ops qs Q fuel (listed.setIfInBounds i true) (a.put oi.dst v) w->ox P md ops qs Q (fuel+1) listed a w:=by
  intro fuel
  induction fuel with
  |zero=>
    intro listed a w hw _ _ _ hr hy H
    refine⟨λh=>(by rw[h] at hr;cases hr),λj hj=>?_⟩
    by_cases hji:j=i
    · subst hji;rw[if_pos hqi];exact(hy w hw).stOp hi H
    · have:=ready_mono hj hji
      rw[H.1] at this
      cases this
  |succ fuel ih=>
    intro listed a w hw hsub hD hfree hr hy H
    refine⟨λh=>(by rw[h] at hr;cases hr),λj hj=>?_⟩
    by_cases hji:j=i
    · subst hji;rw[if_pos hqi];exact(hy w hw).stOp hi H
    · obtain⟨hjun,oj,hoj,hall⟩:=mem_ready.1 hj
      have hMj:M.getD j false=true:=by
        cases hm:M.getD j false with
        |true=>rfl
        |false=>
          obtain⟨e,he,hb,hn⟩:=hM j oj hoj hm hji
          have:=hsub _ (hall e he hb)
          rw[hn] at this;cases this
      have hqj:=hMq j oj hoj hMj (hD j hjun) hji
      have h1:=H.2 j (ready_mono hj hji)
      have hnot:∀e∈oj.after,Region.binds md e=true->e.on≠i:=λe he hb heq=>by
        have h1:=hall e he hb
        have h0:=(mem_ready.1 hr).1
        rw[heq] at h1
        rw[getD_both h0] at h1
        cases h1
      have hap:=hfree j oj hoj hji hjun hnot
      have hfree':∀k ok,ops[k]? =some ok->k≠i->(listed.setIfInBounds j true).getD k true=false->
          (∀e∈ok.after,Region.binds md e=true->e.on≠i)->oi.apart ops ok=true:=λk ok hk hki hun hno=>by
        refine hfree k ok hk hki ?_ hno
        by_cases hjk:j=k
        · subst hjk;exact hjun
        · rw[getD_set_ne true hjk] at hun;exact hun
      have hsub':∀k,(listed.setIfInBounds j true).getD k false=true->M.getD k false=true:=λk hk=>by
        by_cases hjk:j=k
        · subst hjk;exact hMj
        · rw[getD_set_ne false hjk] at hk;exact hsub k hk
      have hD':∀k,(listed.setIfInBounds j true).getD k true=false->D.getD k true=false:=λk hk=>by
        by_cases hjk:j=k
        · subst hjk;exact hD j hjun
        · rw[getD_set_ne true hjk] at hk;exact hD k hk
      obtain⟨g1,g2,g3⟩:=Oper.apart_spec hap
      have keep:∀u w,ep w0.heap.size w0 w->YieldsAt P ops w oi v (a.put oj.dst u):=λu w hw=>
        (hy w hw).of_same (execOp_put oi (λcs b=>hsel i oi cs b hi) a oj.dst u g3) (wanted_put oi a oj.dst u g3)
      cases hqj':qs j with
      |true=>
        simp only[hqj',if_true] at h1 ⊢
        obtain⟨u,hyu,hK⟩:=yieldsAt_of_stOp hoj h1
        have hyj:YieldsAt P ops w oj u a:=by
          rcases hyu with⟨k1,k2⟩|⟨k1,k2⟩
          · refine .inl ⟨by rw[<-wanted_put oj a oi.dst v g1];exact k1,?_⟩
            rw[execOp_put oj (λcs b=>hsel j oj cs b hoj) a oi.dst v g1] at k2
            exact k2
          · exact .inr ⟨by rw[<-wanted_put oj a oi.dst v g1];exact k1,k2⟩
        refine hyj.stOp hoj (ih (listed.setIfInBounds j true) (a.put oj.dst u) w hw hsub' hD' hfree' (ready_mono hr (Ne.symm hji)) (keep u) ?_)
        rw[<-Act.put_comm a v u g2,Array.setIfInBounds_comm _ _ hji]
        exact hK
      |false=>
        have hkk:=hqj.resolve_left (by rw[hqj'];simp)
        simp only[hqj',Bool.false_eq_true,if_false] at h1 ⊢
        unfold wpOp at h1 ⊢
        simp only[hoj] at h1 ⊢
        rw[wanted_put oj a oi.dst v g1] at h1
        cases hwt:Region.wanted oj (yielded ops a.tmps) with
        |false=>
          simp only[hwt,Bool.false_eq_true,if_false] at h1 ⊢
          refine ih (listed.setIfInBounds j true) (a.put oj.dst undef) w hw hsub' hD' hfree' (ready_mono hr (Ne.symm hji)) (keep undef) ?_
          rw[<-Act.put_comm a v undef g2,Array.setIfInBounds_comm _ _ hji]
          exact h1
        |true=>
          simp only[hwt,if_true] at h1 ⊢
          have hke:=sE (ρ:=a.eval) hkk P w
          rcases h1 with h1|⟨h1,h2⟩
          · left
            unfold Oper.wp at h1 ⊢
            rw[execOp_put oj (λcs b=>hsel j oj cs b hoj) a oi.dst v g1] at h1
            obtain⟨dst,op,ty,pos,after,gd⟩:=oj
            cases hrun:(execOp a.eval ⟨dst,op,ty,pos,after,gd⟩).run P w with
            |halt x w'=>
              rw[hrun] at h1
              cases x<;>simp only[Oper.upon] at h1 ⊢
              case panic u=>exact hQ _ _ _ h1
            |ok nx w'=>
              rw[hrun] at h1
              have hb:=hke nx w' hrun
              have hw':ep w0.heap.size w0 w':=hw.trans (hb.mono hw.size)
              -- these operations yield values alone
              have hval:∃u,nx= .value u:=by
                cases op<;>simp only[jb,Bool.false_eq_true] at hkk
                all_goals exact yy hrun
              obtain⟨u,rfl⟩:=hval
              simp only[Oper.upon] at h1 ⊢
              refine ih (listed.setIfInBounds j true) (a.put dst u) w' hw' hsub' hD' hfree' (ready_mono hr (Ne.symm hji)) (keep u) ?_
              have h3:=h1
              rw[show(a.put oi.dst v).put dst u=(a.put dst u).put oi.dst v from Act.put_comm a v u g2,Array.setIfInBounds_comm _ _ (Ne.symm hji)] at h3
              exact h3
          · right
            refine⟨?_,h2⟩
            unfold Oper.asks at*
            rw[execOp_put oj (λcs b=>hsel j oj cs b hoj) a oi.dst v g1] at h1
            exact h1
theorem oR{i:Nat}{oi:Oper}{v:Value}(hi:ops[i]? =some oi)(hsel:∀(j:Nat) (o:Oper) cs b,ops[j]? =some o->o.op≠ .select cs b)(hqi:qs i=true)
    (hQ:∀c a w,Q (.panic c) (a.put oi.dst v) w->Q (.panic c) a w):
    ∀(fuel:Nat) (listed:Array Bool) (a:Act) (w:World),
      (∀j oj,ops[j]? =some oj->j≠i->listed.getD j true=false->(∀e∈oj.after,Region.binds md e=true->e.on≠i)->oi.apart ops oj=true)->
      i∈Region.ready md ops listed->Yields P ops oi v a->
      ox P md ops qs Q fuel (listed.setIfInBounds i true) (a.put oi.dst v) w->ox P md ops qs Q (fuel+1) listed a w:=by
  have hat:∀{a:Act} {w:World},Yields P ops oi v a->YieldsAt P ops w oi v a:=λ {a w} hy=>by
    rcases hy with⟨h1,h2⟩|⟨h1,h2⟩
    · exact .inl ⟨h1,.inl (h2 w)⟩
    · exact .inr ⟨h1,h2⟩
  intro fuel
  induction fuel with
  |zero=>
    intro listed a w _ hr hy H
    refine⟨λh=>(by rw[h] at hr;cases hr),λj hj=>?_⟩
    by_cases hji:j=i
    · subst hji;rw[if_pos hqi];exact(hat hy).stOp hi H
    · have:=ready_mono hj hji
      rw[H.1] at this
      cases this
  |succ fuel ih=>
    intro listed a w hfree hr hy H
    refine⟨λh=>(by rw[h] at hr;cases hr),λj hj=>?_⟩
    by_cases hji:j=i
    · subst hji;rw[if_pos hqi];exact(hat hy).stOp hi H
    · obtain⟨hjun,oj,hoj,hall⟩:=mem_ready.1 hj
      have h1:=H.2 j (ready_mono hj hji)
      have hnot:∀e∈oj.after,Region.binds md e=true->e.on≠i:=λe he hb heq=>by
        have h1:=hall e he hb
        have h0:=(mem_ready.1 hr).1
        rw[heq] at h1
        rw[getD_both h0] at h1
        cases h1
      have hap:=hfree j oj hoj hji hjun hnot
      have hfree':∀k ok,ops[k]? =some ok->k≠i->(listed.setIfInBounds j true).getD k true=false->
          (∀e∈ok.after,Region.binds md e=true->e.on≠i)->oi.apart ops ok=true:=λk ok hk hki hun hno=>by
        refine hfree k ok hk hki ?_ hno
        by_cases hjk:j=k
        · subst hjk;exact hjun
        · rw[getD_set_ne true hjk] at hun;exact hun
      cases hqj:qs j with
      |true=>
        simp only[hqj,if_true] at h1 ⊢
        -- a step that leaves the world
        have hy':=hy
        obtain⟨g1,g2,g3⟩:=Oper.apart_spec hap
        have keep:∀(a:Act),Yields P ops oi v a->∀u,Yields P ops oi v (a.put oj.dst u):=λa hy u=>
          hy.of_same (execOp_put oi (λcs b=>hsel i oi cs b hi) a oj.dst u g3) (wanted_put oi a oj.dst u g3)
        obtain⟨u,hyu,hK⟩:=yieldsAt_of_stOp hoj h1
        have hyj:YieldsAt P ops w oj u a:=by
          rcases hyu with⟨k1,k2⟩|⟨k1,k2⟩
          · refine .inl ⟨by rw[<-wanted_put oj a oi.dst v g1];exact k1,?_⟩
            rw[execOp_put oj (λcs b=>hsel j oj cs b hoj) a oi.dst v g1] at k2
            exact k2
          · exact .inr ⟨by rw[<-wanted_put oj a oi.dst v g1];exact k1,k2⟩
        refine hyj.stOp hoj (ih (listed.setIfInBounds j true) (a.put oj.dst u) w hfree' (ready_mono hr (Ne.symm hji)) (keep a hy u) ?_)
        rw[<-Act.put_comm a v u g2,Array.setIfInBounds_comm _ _ hji]
        exact hK
      |false=>
        simp only[hqj,Bool.false_eq_true,if_false] at h1 ⊢
        have h2:=wpOp_put hoj hap (λcs b=>hsel i oi cs b hi) (λcs b=>hsel j oj cs b hoj) hQ hy h1
        refine wpOp_mono (λa' w' h3=>ih (listed.setIfInBounds j true) a' w' hfree' (ready_mono hr (Ne.symm hji)) h3.1 ?_) h2
        rw[Array.setIfInBounds_comm _ _ hji]
        exact h3.2
end
section
variable{P:Program}{n:Nat}{l:List Oper}{qs:List Nat}{K:Fr->World->Prop}{f:Fr}{w:World}{done:List Nat}{fuel:Nat}
def kh(P:Program)(n:Nat)(l:List Oper)(qs:List Nat)(K:Fr->World->Prop)(fuel:Nat)(done:List Nat)(f:Fr)(w:World):Prop:=
  ∀a,Ag n a f->ox P .any l.toArray (λi=>decide (i∈qs)) (λe a' w'=>e= .normal/\∃f',Ag n a' f'/\K f' w') fuel (cI l.length done) a w
theorem bV{fid:Nat}{R:Ending->World->Prop}{k:List Item}{id:Nat}(γ:aG)(qs:List Nat)(hm:P.follows .mixedOrders=true)
   (h:∀w1,bD no γ w γ w1->kh P n l qs (fV P fid n R k) l.length [] f w1):fV P fid n R (.code (.region id l.toArray true)::k) f w:=
 jA λa ha=>wp_region_any hm (by
   have h0:=hZ _ _ _ _ (h _ (bD.refl _ _ _).drew a ha)
   have hmask:cI l.length []=Array.replicate l.toArray.size false:=by
     apply Array.ext
     · simp[cI]
     · intro j h1 h2;simp[cI]
   rw[hmask] at h0
   simpa using h0)
theorem dX{fid:Nat}{R:Ending->World->Prop}{k:List Item}{id:Nat}{σ:Type}(Mid:σ->Fr->World->Prop)(γ:aG)(qs:List Nat)(hm:P.follows .mixedOrders=true)
    (h:(∀s f w,Mid s f w->fV P fid n R k f w)->∀w1,bD no γ w γ w1->kh P n l qs (fV P fid n R k) l.length [] f w1)(hk:∀s f w,Mid s f w->fV P fid n R k f w):fV P fid n R (.code (.region id l.toArray true)::k) f w:=
  bV γ qs hm (h hk)
def gN(l:List Oper)(done:List Nat)(i:Nat):Bool:=
 !done.contains i&&match l[i]? with
   |some o=>o.after.all λe=> !Region.binds .any e||done.contains e.on&&decide (e.on<l.length)
   |none=>false
def jc(l:List Oper)(done:List Nat)(i:Nat):Bool:=
 match l[i]? with
 |none=>false
 |some oi=>(List.range l.length).all λj=>j==i||done.contains j||match l[j]? with
     |some oj=>oj.after.any (λe=>Region.binds .any e&&e.on==i)||oi.apart l.toArray oj
     |none=>true
def pw(l:List Oper)(qs done M:List Nat)(i:Nat):Bool:=
  ((List.range l.length).all λj=>M.contains j||j==i||match l[j]? with
      |some oj=>oj.after.any λe=>Region.binds .any e&& !M.contains e.on
      |none=>true)&&
  (M.all λj=>j==i||done.contains j||qs.contains j)&&(done.all λj=>M.contains j&&decide (j<l.length))&&M.all λj=>decide (j<l.length)
def i8(l:List Oper):Bool:=Region.noSelect l.toArray
theorem gg{i:Nat}(h:gN l done i=true):i<l.length/\i∈Region.ready .any l.toArray (cI l.length done):=by
 unfold gN at h
 simp only[Bool.and_eq_true,Bool.not_eq_true'] at h
 obtain⟨h1,h2⟩:=h
 split at h2
 · rename_i o ho
   have hlt:i<l.length:=(List.getElem?_eq_some_iff.1 ho).1
   refine⟨hlt,mem_ready.2 ⟨by rw[dU];simp[hlt];simpa using h1,o,by simpa using ho,λe he hb=>?_⟩⟩
   have h3:=Array.all_eq_true_iff_forall_mem.1 h2 e he
   simp only[hb,Bool.not_true,Bool.false_or,Bool.and_eq_true,decide_eq_true_eq] at h3
   rw[dU,if_pos h3.2]
   simpa using h3.1
 · cases h2
theorem gL{i:Nat}{oi:Oper}(hi:l[i]? =some oi)(h:jc l done i=true)(j:Nat)(oj:Oper)(hj:l.toArray[j]? =some oj)(hne:j≠i)(hun:(cI l.length done).getD j true=false)
   (hno:∀e∈oj.after,Region.binds .any e=true->e.on≠i):oi.apart l.toArray oj=true:=by
 have hj':l[j]? =some oj:=by simpa using hj
 have hlt:j<l.length:=(List.getElem?_eq_some_iff.1 hj').1
 unfold jc at h
 simp only[hi,List.all_eq_true,List.mem_range] at h
 have h1:=h j hlt
 rw[dU,if_pos hlt] at hun
 have hd:done.contains j=false:=by simpa using hun
 simp only[hj',Bool.or_eq_true,beq_iff_eq,hne,false_or,hd,Bool.false_eq_true] at h1
 rcases h1 with h1|h1
 · obtain⟨e,he,hb⟩:=Array.any_eq_true'.1 h1
   simp only[Bool.and_eq_true,beq_iff_eq] at hb
   exact absurd hb.2 (hno e he hb.1)
 · exact h1
theorem jm(h:i8 l=true):∀(j:Nat) (o:Oper) cs b,l.toArray[j]? =some o->o.op≠ .select cs b:=Region.noSelect_spec h
theorem ld{i:Nat}(h:qs.contains i=true):decide (i∈qs)=true:=by simpa using h
variable{dst:Option Tmp}{op:Op}{ty:TypeId}{pos:String}{after:Array Edge}{g:Option (Nat×Bool)}{v:Value}
theorem dV(i:Nat)(M:List Nat)(hi:l[i]? =some ⟨dst,op,ty,pos,after,g⟩)(hn:i8 l=true)(hc:(qs.contains i&&gN l done i&&jc l done i&&pw l qs done M i&&lV n ⟨dst,op,ty,pos,after,g⟩)=true)
    (hw:dm l ⟨dst,op,ty,pos,after,g⟩ f=true)(h:(execOp (ev f) ⟨dst,op,ty,pos,after,g⟩).run P w= .ok (.value v) w)(hk:kh P n l qs K fuel (i::done) (gK f dst v) w):kh P n l qs K (fuel+1) done f w:=by
  simp only[Bool.and_eq_true] at hc
  obtain⟨⟨⟨⟨hq,hr⟩,hf⟩,hb⟩,hd⟩:=hc
  obtain⟨hlt,hr'⟩:=gg hr
  intro a ha
  unfold pw at hb
  simp only[Bool.and_eq_true,List.all_eq_true,List.mem_range] at hb
  obtain⟨⟨⟨b1,b2⟩,b3⟩,b4⟩:=hb
  have hgM:∀j,(cI l.length M).getD j false=true↔j∈M:=λj=>by
    rw[dU]
    by_cases hjl:j<l.length
    · simp[hjl]
    · simp only[hjl,if_false,Bool.false_eq_true,false_iff]
      exact λhm=>hjl (by simpa using b4 j hm)
  refine sZ (v:=v) (M:=cI l.length M) (D:=cI l.length done) (by simpa using hi) (jm hn) (ld hq) (λj oj hj hm hne=>?_) (λj oj hj hm hD hne=>?_) fuel _ a (by simp[cI]) (λj hj=>?_) (λj hj=>hj) (gL hi hf) hr' ?_ ?_
  · have hj':l[j]? =some oj:=by simpa using hj
    have hjl:j<l.length:=(List.getElem?_eq_some_iff.1 hj').1
    have h1:=b1 j hjl
    have hmM:M.contains j=false:=by
      cases hc:M.contains j with
      |false=>rfl
      |true=>have h9:=(hgM j).2 (by simpa using hc);rw[hm] at h9;cases h9
    simp only[hmM,hj',Bool.false_or,Bool.or_eq_true,beq_iff_eq,hne,false_or] at h1
    obtain⟨e,he,hbb⟩:=Array.any_eq_true'.1 h1
    simp only[Bool.and_eq_true,Bool.not_eq_true'] at hbb
    refine⟨e,he,hbb.1,?_⟩
    cases hc:(cI l.length M).getD e.on false with
    |false=>rfl
    |true=>
      have:=(hgM _).1 hc
      have h2:=hbb.2
      simp[this] at h2
  · have h1:=b2 j ((hgM j).1 hm)
    have hj':l[j]? =some oj:=by simpa using hj
    have hjl:j<l.length:=(List.getElem?_eq_some_iff.1 hj').1
    rw[dU,if_pos hjl] at hD
    have hd:done.contains j=false:=by simpa using hD
    simp only[Bool.or_eq_true,beq_iff_eq,hne,hd,false_or,Bool.false_eq_true] at h1
    exact ld h1
  · rw[dU] at hj
    split at hj
    · have h1:=b3 j (by simpa using hj)
      exact(hgM j).2 (by simpa using h1.1)
    · cases hj
  · refine .inl ⟨?_,.inl ?_⟩
    · rw[ha.yielded];exact hw
    · rw[ha.eval];exact h
  · rw[dG done hlt]
    exact hk _ (ha.put hd v)
def qe(l:List Oper)(qs done M:List Nat)(i:Nat):Bool:=
 ((List.range l.length).all λj=>M.contains j||j==i||match l[j]? with
     |some oj=>oj.after.any λe=>Region.binds .any e&& !M.contains e.on
     |none=>true)&&
 (M.all λj=>j==i||done.contains j||qs.contains j||match l[j]? with
     |some oj=>jb oj.op
     |none=>false)&&(done.all λj=>M.contains j&&decide (j<l.length))&&M.all λj=>decide (j<l.length)
theorem BZ(i:Nat)(M:List Nat)(hi:l[i]? =some ⟨dst,op,ty,pos,after,g⟩)(hn:i8 l=true)(hc:(qs.contains i&&gN l done i&&jc l done i&&qe l qs done M i&&lV n ⟨dst,op,ty,pos,after,g⟩)=true)
    (hw:dm l ⟨dst,op,ty,pos,after,g⟩ f=true)(h:∀w',ep w.heap.size w w'->(execOp (ev f) ⟨dst,op,ty,pos,after,g⟩).run P w'= .ok (.value v) w')(hk:kh P n l qs K fuel (i::done) (gK f dst v) w):kh P n l qs K (fuel+1) done f w:=by
  simp only[Bool.and_eq_true] at hc
  obtain⟨⟨⟨⟨hq,hr⟩,hf⟩,hb⟩,hd⟩:=hc
  obtain⟨hlt,hr'⟩:=gg hr
  intro a ha
  unfold qe at hb
  simp only[Bool.and_eq_true,List.all_eq_true,List.mem_range] at hb
  obtain⟨⟨⟨b1,b2⟩,b3⟩,b4⟩:=hb
  have hgM:∀j,(cI l.length M).getD j false=true↔j∈M:=λj=>by
    rw[dU]
    by_cases hjl:j<l.length
    · simp[hjl]
    · simp only[hjl,if_false,Bool.false_eq_true,false_iff]
      exact λhm=>hjl (by simpa using b4 j hm)
  refine vf (v:=v) (w0:=w) (M:=cI l.length M) (D:=cI l.length done) (by simpa using hi) (jm hn) (ld hq) (λc a w h=>by cases h.1) (λj oj hj hm hne=>?_) (λj oj hj hm hD hne=>?_) fuel _ a w (ep.refl _ _) (λj hj=>?_) (λj hj=>hj) (gL hi hf) hr' (λw' hw'=>?_) ?_
  · have hj':l[j]? =some oj:=by simpa using hj
    have hjl:j<l.length:=(List.getElem?_eq_some_iff.1 hj').1
    have h1:=b1 j hjl
    have hmM:M.contains j=false:=by
      cases hc:M.contains j with
      |false=>rfl
      |true=>have h9:=(hgM j).2 (by simpa using hc);rw[hm] at h9;cases h9
    simp only[hmM,hj',Bool.false_or,Bool.or_eq_true,beq_iff_eq,hne,false_or] at h1
    obtain⟨e,he,hbb⟩:=Array.any_eq_true'.1 h1
    simp only[Bool.and_eq_true,Bool.not_eq_true'] at hbb
    refine⟨e,he,hbb.1,?_⟩
    cases hc:(cI l.length M).getD e.on false with
    |false=>rfl
    |true=>
      have:=(hgM _).1 hc
      have h2:=hbb.2
      simp[this] at h2
  · have h1:=b2 j ((hgM j).1 hm)
    have hj':l[j]? =some oj:=by simpa using hj
    have hjl:j<l.length:=(List.getElem?_eq_some_iff.1 hj').1
    rw[dU,if_pos hjl] at hD
    have hd:done.contains j=false:=by simpa using hD
    simp only[hj',Bool.or_eq_true,beq_iff_eq,hne,hd,false_or,Bool.false_eq_true] at h1
    rcases h1 with h1|h1
    · exact .inl (ld h1)
    · exact .inr h1
  · rw[dU] at hj
    split at hj
    · have h1:=b3 j (by simpa using hj)
      exact(hgM j).2 (by simpa using h1.1)
    · cases hj
  · refine .inl ⟨?_,.inl ?_⟩
    · rw[ha.yielded];exact hw
    · rw[ha.eval];exact h w' hw'
  · rw[dG done hlt]
    exact hk _ (ha.put hd v)
theorem bZ(i:Nat)(hi:l[i]? =some ⟨dst,op,ty,pos,after,g⟩)(hn:i8 l=true)(hc:(qs.contains i&&gN l done i&&jc l done i&&lV n ⟨dst,op,ty,pos,after,g⟩)=true)
    (hw:dm l ⟨dst,op,ty,pos,after,g⟩ f=true)(h:∀w,(execOp (ev f) ⟨dst,op,ty,pos,after,g⟩).run P w= .ok (.value v) w)(hk:kh P n l qs K fuel (i::done) (gK f dst v) w):kh P n l qs K (fuel+1) done f w:=by
  simp only[Bool.and_eq_true] at hc
  obtain⟨⟨⟨hq,hr⟩,hf⟩,hd⟩:=hc
  obtain⟨hlt,hr'⟩:=gg hr
  intro a ha
  refine oR (v:=v) (by simpa using hi) (jm hn) (ld hq) (λc a w h=>by cases h.1) fuel _ a w (gL hi hf) hr' (.inl ⟨by rw[ha.yielded];exact hw,λw=>by rw[ha.eval];exact h w⟩) ?_
  rw[dG done hlt]
  exact hk _ (ha.put hd v)
theorem aZ(i:Nat)(hi:l[i]? =some ⟨dst,op,ty,pos,after,g⟩)(hn:i8 l=true)(hc:(qs.contains i&&gN l done i&&jc l done i&&lV n ⟨dst,op,ty,pos,after,g⟩)=true)
   (hw:dm l ⟨dst,op,ty,pos,after,g⟩ f=false)(hk:kh P n l qs K fuel (i::done) (gK f dst undef) w):kh P n l qs K (fuel+1) done f w:=by
 simp only[Bool.and_eq_true] at hc
 obtain⟨⟨⟨hq,hr⟩,hf⟩,hd⟩:=hc
 obtain⟨hlt,hr'⟩:=gg hr
 intro a ha
 refine oR (v:=undef) (by simpa using hi) (jm hn) (ld hq) (λc a w h=>by cases h.1) fuel _ a w (gL hi hf) hr' (.inr ⟨by rw[ha.yielded];exact hw,rfl⟩) ?_
 rw[dG done hlt]
 exact hk _ (ha.put hd undef)
theorem gi{i:Nat}{o:Oper}{a:Act}{K':Act->World->Prop}{Q:Exit->Act->World->Prop}{N:Value->World->Prop}(ha:Ag n a f)(hi:l[i]? =some o)(hw:dm l o f=true)(h:fS P o f w N)(hN:∀v w',N v w'->K' (a.put o.dst v) w'):wpOp P l.toArray Q i K' a w:=by
 unfold wpOp
 have hi':l.toArray[i]? =some o:=by simpa using hi
 simp only[hi']
 have hw':Region.wanted o (yielded l.toArray a.tmps)=true:=by rw[ha.yielded];exact hw
 simp only[hw',if_true]
 refine .inl ?_
 unfold Oper.wp
 rw[ha.eval]
 unfold fS at h
 generalize(execOp (ev f) o).run P w=r at*
 cases r with
 |halt x w'=>exact h.elim
 |ok nx w'=>
   cases nx<;>simp only[uG] at h<;>simp only[Oper.upon]
   case value v=>exact hN _ _ h
   case skip=>exact hN _ _ h
   case enter g args=>
     refine h.mono λe w'' he=>?_
     cases e with
     |returned v=>exact hN _ _ he
     |panicked c=>exact he.elim
     |outgrown=>exact he.elim
theorem bB(i:Nat)(hi:l[i]? =some ⟨dst,op,ty,pos,after,g⟩)(hc:(decide (Region.ready .any l.toArray (cI l.length done)=[i])&& !qs.contains i&&lV n ⟨dst,op,ty,pos,after,g⟩)=true)
    (hw:dm l ⟨dst,op,ty,pos,after,g⟩ f=true)(h:fS P ⟨dst,op,ty,pos,after,g⟩ f w (λv w'=>kh P n l qs K fuel (i::done) (gK f dst v) w')):kh P n l qs K (fuel+1) done f w:=by
  simp only[Bool.and_eq_true,decide_eq_true_eq,Bool.not_eq_true'] at hc
  obtain⟨⟨hr,hq⟩,hd⟩:=hc
  have hlt:i<l.length:=(List.getElem?_eq_some_iff.1 hi).1
  intro a ha
  refine⟨λh0=>(by rw[hr] at h0;cases h0),λj hj=>?_⟩
  rw[hr] at hj
  obtain rfl:j=i:=by simpa using hj
  have hq':decide (j∈qs)=false:=by simpa using hq
  simp only[hq',Bool.false_eq_true,if_false]
  refine gi ha hi hw h λv w' hk=>?_
  rw[dG done hlt]
  exact hk _ (ha.put hd v)
theorem gc(i j:Nat){dst':Option Tmp}{op':Op}{ty':TypeId}{pos':String}{after':Array Edge}{g':Option (Nat×Bool)}(hi:l[i]? =some ⟨dst,op,ty,pos,after,g⟩)(hj:l[j]? =some ⟨dst',op',ty',pos',after',g'⟩)
    (hc:(decide (Region.ready .any l.toArray (cI l.length done)=[i,j])&& !qs.contains i&& !qs.contains j&&lV n ⟨dst,op,ty,pos,after,g⟩&&lV n ⟨dst',op',ty',pos',after',g'⟩)=true)
    (hw:dm l ⟨dst,op,ty,pos,after,g⟩ f=true)(hw':dm l ⟨dst',op',ty',pos',after',g'⟩ f=true)
    (h:fS P ⟨dst,op,ty,pos,after,g⟩ f w (λv w'=>kh P n l qs K fuel (i::done) (gK f dst v) w'))(h':fS P ⟨dst',op',ty',pos',after',g'⟩ f w (λv w'=>kh P n l qs K fuel (j::done) (gK f dst' v) w')):kh P n l qs K (fuel+1) done f w:=by
  simp only[Bool.and_eq_true,decide_eq_true_eq,Bool.not_eq_true'] at hc
  obtain⟨⟨⟨⟨hr,hq⟩,hq2⟩,hd⟩,hd'⟩:=hc
  have hlt:i<l.length:=(List.getElem?_eq_some_iff.1 hi).1
  have hlt':j<l.length:=(List.getElem?_eq_some_iff.1 hj).1
  intro a ha
  refine⟨λh0=>(by rw[hr] at h0;cases h0),λk hk=>?_⟩
  rw[hr] at hk
  have hk':k=i\/k=j:=by simpa using hk
  rcases hk' with rfl|rfl
  · have hq':decide (k∈qs)=false:=by simpa using hq
    simp only[hq',Bool.false_eq_true,if_false]
    refine gi ha hi hw h λv w' hk=>?_
    rw[dG done hlt]
    exact hk _ (ha.put hd v)
  · have hq':decide (k∈qs)=false:=by simpa using hq2
    simp only[hq',Bool.false_eq_true,if_false]
    refine gi ha hj hw' h' λv w' hk=>?_
    rw[dG done hlt']
    exact hk _ (ha.put hd' v)
theorem cA(hr:decide (Region.ready .any l.toArray (cI l.length done)=[])=true)(h:K f w):kh P n l qs K 0 done f w:=λ_ ha=>⟨of_decide_eq_true hr,rfl,f,ha,h⟩
end
end TL
/-
  TlHold: regions that draw their order, where what is read stays: on the kit's OrdersHeld.
  By an AI agent.
-/
set_option linter.all false
namespace TL
open Go
section
variable{P:Program}{n:Nat}{l:List Oper}{S:World->Prop}{K:Fr->World->Prop}{f:Fr}{w:World}{done:List Nat}{fuel:Nat}
def vW(P:Program)(n:Nat)(l:List Oper)(S:World->Prop)(K:Fr->World->Prop)(fuel:Nat)(done:List Nat)(f:Fr)(w:World):Prop:=
  ∀a,Ag n a f->wpAnyH P .any l.toArray (λe a' w'=>e= .normal/\∃f',Ag n a' f'/\K f' w') S fuel (cI l.length done) a w
theorem bD.same{J:cH->Prop}{γ γ':aG}{w w':World}(h:bD J γ w γ' w'):bD J γ w γ w':=⟨h.os,h.tape,h.output,h.size,λ_ _ _=>rfl,h.keep,h.drawn⟩
theorem iQ{fid:Nat}{R:Ending->World->Prop}{k:List Item}{id:Nat}(γ:aG)(J:cH->Prop)(hm:P.follows .mixedOrders=true)
   (h:∀w1,bD no γ w γ w1->vW P n l (λw'=>bD J γ w1 γ w') (fV P fid n R k) l.length [] f w1):fV P fid n R (.code (.region id l.toArray true)::k) f w:=
 jA λa ha=>wp_region_held hm (by
   have h0:=h _ (bD.refl _ _ _).drew a ha
   have hmask:cI l.length []=Array.replicate l.toArray.size false:=by
     apply Array.ext
     · simp[cI]
     · intro j h1 h2;simp[cI]
   rw[hmask] at h0
   simpa using h0)
theorem eN{fid:Nat}{R:Ending->World->Prop}{k:List Item}{id:Nat}{σ:Type}(Mid:σ->Fr->World->Prop)(γ:aG)(J:cH->Prop)(hm:P.follows .mixedOrders=true)
    (h:(∀s f w,Mid s f w->fV P fid n R k f w)->∀w1,bD no γ w γ w1->vW P n l (λw'=>bD J γ w1 γ w') (fV P fid n R k) l.length [] f w1)(hk:∀s f w,Mid s f w->fV P fid n R k f w):fV P fid n R (.code (.region id l.toArray true)::k) f w:=
  iQ γ J hm (h hk)
variable{dst:Option Tmp}{op:Op}{ty:TypeId}{pos:String}{after:Array Edge}{g:Option (Nat×Bool)}{v:Value}
theorem Ch(i:Nat)(hi:l[i]? =some ⟨dst,op,ty,pos,after,g⟩)(hn:i8 l=true)(hc:(gN l done i&&jc l done i&&lV n ⟨dst,op,ty,pos,after,g⟩)=true)
   (hw:dm l ⟨dst,op,ty,pos,after,g⟩ f=true)(hS:S w)(h:∀w,S w->(execOp (ev f) ⟨dst,op,ty,pos,after,g⟩).run P w= .ok (.value v) w)(hk:vW P n l S K fuel (i::done) (gK f dst v) w):vW P n l S K (fuel+1) done f w:=by
 simp only[Bool.and_eq_true] at hc
 obtain⟨⟨hr,hf⟩,hd⟩:=hc
 obtain⟨hlt,hr'⟩:=gg hr
 intro a ha
 refine wpAnyH_first (v:=v) (by simpa using hi) (jm hn) (λc a w h=>by cases h.1) fuel _ a w (gL hi hf) hr' (.inl ⟨by rw[ha.yielded];exact hw,λw hs=>by rw[ha.eval];exact h w hs⟩) hS ?_
 rw[dG done hlt]
 exact hk _ (ha.put hd v)
def BK(P:Program)(n:Nat)(l:List Oper)(S:World->Prop)(K:Fr->World->Prop)(fuel:Nat)(done:List Nat)(f:Fr)(w:World)(i:Nat):Prop:=
  ∃o,l[i]? =some o/\i<l.length/\(dm l o f=true/\lV n o=true/\fS P o f w (λv w'=>S w'/\vW P n l S K fuel (i::done) (gK f o.dst v) w'))
theorem eW(i:Nat)(hi:l[i]? =some ⟨dst,op,ty,pos,after,g⟩)(hc:lV n ⟨dst,op,ty,pos,after,g⟩=true)(hw:dm l ⟨dst,op,ty,pos,after,g⟩ f=true)
   (h:fS P ⟨dst,op,ty,pos,after,g⟩ f w (λv w'=>S w'/\vW P n l S K fuel (i::done) (gK f dst v) w')):BK P n l S K fuel done f w i:=
 ⟨_,hi,(List.getElem?_eq_some_iff.1 hi).1,hw,hc,h⟩
def Ap(P:Program)(n:Nat)(l:List Oper)(S:World->Prop)(K:Fr->World->Prop)(fuel:Nat)(done:List Nat)(f:Fr)(w:World):List Nat->Prop
 |[]=>True
 |i::r=>BK P n l S K fuel done f w i/\Ap P n l S K fuel done f w r
theorem Ap.mem{L:List Nat}(h:Ap P n l S K fuel done f w L):∀i∈L,BK P n l S K fuel done f w i:=by
 induction L with
 |nil=>intro i hi;cases hi
 |cons j r ih=>
   intro i hi
   rcases List.mem_cons.1 hi with rfl|hi
   · exact h.1
   · exact ih h.2 i hi
theorem eP(i:Nat)(L:List Nat)(hr:decide (Region.ready .any l.toArray (cI l.length done)=i::L)=true)(h:Ap P n l S K fuel done f w (i::L)):vW P n l S K (fuel+1) done f w:=by
 have hr:=of_decide_eq_true hr
 intro a ha
 refine⟨λh0=>(by rw[hr] at h0;cases h0),λk hk=>?_⟩
 rw[hr] at hk
 obtain⟨o,hi,hlt,hw,hd,ho⟩:=h.mem k (by simpa using hk)
 obtain⟨dst,op,ty,pos,after,g⟩:=o
 refine gi ha hi hw ho λv w' hk=>⟨hk.1,?_⟩
 rw[dG done hlt]
 exact hk.2 _ (ha.put hd v)
theorem bu(i:Nat)(hi:l[i]? =some ⟨dst,op,ty,pos,after,g⟩)(hc:(decide (Region.ready .any l.toArray (cI l.length done)=[i])&&lV n ⟨dst,op,ty,pos,after,g⟩)=true)
   (hw:dm l ⟨dst,op,ty,pos,after,g⟩ f=true)(h:fS P ⟨dst,op,ty,pos,after,g⟩ f w (λv w'=>S w'/\vW P n l S K fuel (i::done) (gK f dst v) w')):vW P n l S K (fuel+1) done f w:=by
 simp only[Bool.and_eq_true] at hc
 exact eP i [] hc.1 ⟨eW i hi hc.2 hw h,trivial⟩
theorem eE(hr:decide (Region.ready .any l.toArray (cI l.length done)=[])=true)(h:K f w):vW P n l S K 0 done f w:=λ_ ha=>⟨of_decide_eq_true hr,rfl,f,ha,h⟩
end
end TL
namespace TL
open Go
theorem zD{α:Type}[Rp α]{γ:aG}{w:World}{v:Value}{xss:List (List α)}{S:cH->Prop}{r:Int}(hs:Sl γ S w v xss)(h0:0<=r)(h1:r<xss.length):
    ∃u,(∀(J:cH->Prop) (w':World),(∀c,S c->¬J c)->bD J γ w γ w'->w'.cell? (bA v 1 r.toNat)=some u)/\Sl γ S w u (gI xss r):=by
  obtain⟨u,h2,h3⟩:=pU hs h0 h1
  refine⟨u,λJ w' hJ hc=>?_,h3⟩
  have h4:=hs.chg hc hJ
  obtain⟨u',h5,_⟩:=pU h4 h0 h1
  rcases hs with⟨⟨_,rfl⟩,rfl⟩|⟨b,off,cap,rfl,_,hx⟩
  · simp at h1;omega
  · obtain⟨hb,hS,_⟩:=hx r.toNat _ (jW h0 h1)
    rw[<-h2]
    exact iJ (hc.keep b hb (hJ _ hS))
theorem qN{α:Type}[Rp α][Fl α]{γ:aG}{i:Nat}{w:World}{v:Value}{xss:List (List α)}{r:Int}(hn:cY γ i w v xss)(h0:0<=r)(h1:r<xss.length):
   ∃u,(∀(J:cH->Prop) (w':World),(∀c,is i c->¬J c)->bD J γ w γ w'->w'.cell? (bA v 1 r.toNat)=some u)/\Ow γ (row i (r.toNat+1)) (row i (r.toNat+1)) w u (gI xss r):=by
 obtain⟨u,h2,h3⟩:=zD hn.sl h0 h1
 obtain⟨u',h4,h5⟩:=bR hn h0 h1
 have h6:=h2 no w (λ_ _ h=>h) (bD.refl _ _ _)
 rw[h4] at h6
 obtain rfl:=Option.some.inj h6
 exact⟨u',h2,h5⟩
end TL
/-
  TlNet: nets, and what layer 3 says of them, as plain functions.
  By an AI agent.
-/
set_option linter.all false
namespace TL
abbrev bz:=Int×List (Int×Int)
def qw(n:Int)(e:Int×Int):Prop:=(0<=e.1/\e.1<n)/\0<=e.2/\e.2<n
instance (n:Int)(e:Int×Int):Decidable (qw n e):=by unfold qw;infer_instance
def aX(g:bz):Prop:=0<=g.1/\g.1<=1024/\g.2.length<=3072/\∀e∈g.2,qw g.1 e
instance (g:bz):Decidable (aX g):=by unfold aX;infer_instance
def dw(g:bz):Bool:=decide (aX g)
theorem oK{g:bz}(h:aX g):dw g=true:=decide_eq_true h
theorem de{g:bz}(h:¬aX g):dw g=false:=decide_eq_false h
end TL
namespace TL
def fW(n:Int):List Int->List Int->Int
  |[],_=>0
  |i::r,seen=>if i<0\/n<=i then 2 else if i∈seen then 18 else fW n r (seen++[i])
def cX(l:List Int)(n:Int):Int:=fW n l []
structure eL(seen:List Bool)(l:List Int)(n:Int)(k:Nat):Prop where
 len:(seen.length:Int)=n
 seen:∀i,0<=i->i<n->gI seen i=decide (i∈l.take k)
 rest:fW n (l.drop k) (l.take k)=cX l n
 all:∀i∈l.take k,0<=i/\i<n
theorem pJ{α:Type}[Inhabited α]{xs:List α}{k:Nat}(h:(k:Int)<xs.length):xs.drop k=gI xs k::xs.drop (k+1):=by
 have h':k<xs.length:=by omega
 rw[List.drop_eq_getElem_cons h']
 simp[gI,h']
theorem bT{α:Type}[Inhabited α]{xs:List α}{i j:Int}{y:α}(hi:0<=i)(hi':i<xs.length)(hj:0<=j):gI (xs.set i.toNat y) j=if j=i then y else gI xs j:=by
 unfold gI
 by_cases h:j=i
 · subst h
   have:j.toNat<xs.length:=by omega
   simp[this]
 · have:i.toNat≠j.toNat:=by omega
   simp[h,List.getElem?_set_ne this]
theorem fM{α:Type}[Inhabited α]{n:Nat}{x:α}{i:Int}(h0:0<=i)(h1:i<n):gI (List.replicate n x) i=x:=by
 have:i.toNat<n:=by omega
 simp[gI,this]
theorem eL.start(l:List Int)(n:Int)(hn:0<=n):eL (List.replicate n.toNat false) l n 0:=
 ⟨by simp;omega,λi h0 h1=>by rw[fM h0 (by omega)];simp,by simp[cX],by simp⟩
theorem eL.next{seen:List Bool}{l:List Int}{n:Int}{k:Nat}(h:eL seen l n k)(hk:(k:Int)<l.length)(h0:0<=gI l k)(h1:gI l k<n)(hs:gI seen (gI l k)=false):eL (seen.set (gI l k).toNat true) l n (k+1):=by
 have ht:=bC hk
 have hd:=pJ hk
 have hl:=h.len
 have hni:gI l k∉l.take k:=by
   have:=h.seen _ h0 h1
   rw[hs] at this
   simpa using this.symm
 refine⟨by simpa using h.len,λi h2 h3=>?_,?_,λi hi=>?_⟩
 · rw[bT h0 (by omega) h2,ht]
   by_cases he:i=gI l k
   · subst he;simp
   · rw[if_neg he,h.seen i h2 h3]
     simp[he]
 · rw[<-h.rest,hd,ht]
   simp only[fW]
   rw[if_neg (by omega),if_neg hni]
 · rw[ht] at hi
   rcases List.mem_append.1 hi with h'|h'
   · exact h.all i h'
   · obtain rfl:=List.mem_singleton.1 h'
     exact⟨h0,h1⟩
theorem eL.bad{seen:List Bool}{l:List Int}{n:Int}{k:Nat}(h:eL seen l n k)(hk:(k:Int)<l.length)(h0:gI l k<0\/n<=gI l k):(2:Int)=cX l n:=by
 rw[<-h.rest,pJ hk];simp only[fW];rw[if_pos h0]
theorem eL.twice{seen:List Bool}{l:List Int}{n:Int}{k:Nat}(h:eL seen l n k)(hk:(k:Int)<l.length)(h0:0<=gI l k)(h1:gI l k<n)(hs:gI seen (gI l k)=true):(18:Int)=cX l n:=by
 have hni:gI l k∈l.take k:=by
   have:=h.seen _ h0 h1
   rw[hs] at this
   simpa using this.symm
 rw[<-h.rest,pJ hk];simp only[fW];rw[if_neg (by omega),if_pos hni]
theorem eL.done{seen:List Bool}{l:List Int}{n:Int}{k:Nat}(h:eL seen l n k)(hk:¬(k:Int)<l.length):(0:Int)=cX l n:=by
 rw[<-h.rest,List.drop_of_length_le (by omega)];rfl
theorem k5{n:Int}:∀(l seen:List Int),fW n l seen=0->(∀i∈l,0<=i/\i<n)/\l.Nodup/\∀i∈l,i∉seen
 |[],seen,_=>by simp
 |i::r,seen,h=>by
   simp only[fW] at h
   split at h
   · cases h
   · split at h
     · cases h
     · rename_i h1 h2
       obtain⟨a,b,c⟩:=k5 r (seen++[i]) h
       refine⟨λj hj=>?_,List.nodup_cons.2 ⟨λhi=>c i hi (by simp),b⟩,λj hj=>?_⟩
       · rcases List.mem_cons.1 hj with rfl|hj
         · omega
         · exact a j hj
       · rcases List.mem_cons.1 hj with rfl|hj
         · exact h2
         · exact λhs=>c j hj (by simp[hs])
theorem sI{n:Int}{l:List Int}(h:cX l n=0):(∀i∈l,0<=i/\i<n)/\l.Nodup:=⟨(k5 l [] h).1,(k5 l [] h).2.1⟩
def dW(nodes:List Int)(v:Int):Int:=if v∈nodes then(nodes.idxOf v:Int)+1 else 0
def n8(g:bz)(nodes:List Int):List Int:=((List.range g.2.length).map (λ(i:Nat)=>(i:Int))).filter λi=>decide ((gI g.2 i).1∈nodes)&&decide ((gI g.2 i).2∈nodes)
def du(g:bz)(nodes:List Int):bz×List Int×Int:=
 if aX g then
   if cX nodes g.1=0 then(((nodes.length:Int),(n8 g nodes).map λi=>(dW nodes (gI g.2 i).1-1,dW nodes (gI g.2 i).2-1)),n8 g nodes,0) else((0,[]),[],cX nodes g.1)
 else((0,[]),[],1)
end TL
namespace TL
structure jq(T:List Int)(nodes:List Int)(n:Int)(k:Nat):Prop where
 len:(T.length:Int)=n
 pos:∀v,0<=v->v<n->gI T v=dW (nodes.take k) v
theorem jq.start(nodes:List Int)(n:Int)(hn:0<=n):jq (List.replicate n.toNat 0) nodes n 0:=
 ⟨by simp;omega,λv h0 h1=>by rw[fM h0 (by omega)];simp[dW]⟩
theorem vB{l:List Int}{x v:Int}(hx:x∉l):dW (l++[x]) v=if v=x then(l.length:Int)+1 else dW l v:=by
 unfold dW
 by_cases h:v=x
 · subst h
   simp[List.idxOf_append,hx]
 · by_cases hv:v∈l
   · simp[h,hv,List.idxOf_append]
   · simp[h,hv]
theorem jq.next{T nodes:List Int}{n:Int}{k:Nat}(h:jq T nodes n k)(hk:(k:Int)<nodes.length)(h0:0<=gI nodes k)(h1:gI nodes k<n)(hd:nodes.Nodup):jq (T.set (gI nodes k).toNat ((k:Int)+1)) nodes n (k+1):=by
 have ht:=bC hk
 have hl:=h.len
 have hn:gI nodes k∉nodes.take k:=by
   have h2:(nodes.take (k+1)).Nodup:=hd.sublist (List.take_sublist _ _)
   rw[ht] at h2
   have:=List.nodup_append.1 h2
   intro hm
   exact this.2.2 _ hm _ (by simp) rfl
 have hlk:(nodes.take k).length=k:=by simp;omega
 refine⟨by simpa using h.len,λv h2 h3=>?_⟩
 rw[bT h0 (by omega) h2,ht,vB hn,h.pos v h2 h3,hlk]
def dO(g:bz)(nodes:List Int)(k:Nat):List Int:=((List.range k).map (λ(i:Nat)=>(i:Int))).filter λi=>decide ((gI g.2 i).1∈nodes)&&decide ((gI g.2 i).2∈nodes)
theorem jf(g:bz)(nodes:List Int)(k:Nat):dO g nodes (k+1)=if(gI g.2 k).1∈nodes/\(gI g.2 k).2∈nodes then dO g nodes k++[(k:Int)] else dO g nodes k:=by
 unfold dO
 rw[List.range_succ,List.map_append,List.filter_append]
 by_cases h:(gI g.2 k).1∈nodes/\(gI g.2 k).2∈nodes
 · rw[if_pos h];simp[h.1,h.2]
 · rw[if_neg h]
   have:¬((gI g.2 (k:Int)).1∈nodes/\(gI g.2 (k:Int)).2∈nodes):=h
   by_cases h1:(gI g.2 (k:Int)).1∈nodes
   · have h2:(gI g.2 (k:Int)).2∉nodes:=λh2=>h ⟨h1,h2⟩
     simp[h1,h2]
   · simp[h1]
theorem te(g:bz)(nodes:List Int)(k:Nat):(dO g nodes k).length<=k:=by
 unfold dO
 have:=List.length_filter_le (λi=>decide ((gI g.2 i).1∈nodes)&&decide ((gI g.2 i).2∈nodes)) ((List.range k).map (λ(i:Nat)=>(i:Int)))
 simpa using this
theorem gT{l:List Int}{v:Int}:0<dW l v↔v∈l:=by
 unfold dW
 by_cases h:v∈l
 · simp[h]
 · simp[h]
theorem kJ(l:List Int)(v:Int):dW l v<=l.length:=by
 unfold dW
 split
 · rename_i h
   have:=List.idxOf_lt_length_iff.2 h
   omega
 · omega
end TL
namespace TL
theorem th{g:bz}{nodes:List Int}{k:Nat}(h1:0<dW nodes (gI g.2 k).1)(h2:0<dW nodes (gI g.2 k).2):dO g nodes (k+1)=dO g nodes k++[(k:Int)]:=by
 rw[jf,if_pos ⟨gT.1 h1,gT.1 h2⟩]
theorem sC{g:bz}{nodes:List Int}{k:Nat}(h1:¬0<dW nodes (gI g.2 k).1):dO g nodes (k+1)=dO g nodes k:=by
 rw[jf,if_neg λh=>h1 (gT.2 h.1)]
theorem sv{g:bz}{nodes:List Int}{k:Nat}(h1:¬0<dW nodes (gI g.2 k).2):dO g nodes (k+1)=dO g nodes k:=by
 rw[jf,if_neg λh=>h1 (gT.2 h.2)]
end TL
namespace TL
def aA(g:bz)(h:Int):Int:=pI (gI g.2 (h/2)) (h%2)
def iY(g:bz)(v:Int)(k:Nat):List Int:=((List.range (2*k)).map (λ(i:Nat)=>(i:Int))).filter λh=>decide (aA g h=v)
def bO(g:bz)(v:Int):List Int:=iY g v g.2.length
theorem nB(g:bz)(k:Nat):aA g (2*(k:Int))=(gI g.2 k).1:=by
 unfold aA
 have h1:2*(k:Int)/2=k:=by omega
 have h2:2*(k:Int)%2=0:=by omega
 rw[h1,h2];rfl
theorem oI(g:bz)(k:Nat):aA g (2*(k:Int)+1)=(gI g.2 k).2:=by
 unfold aA
 have h1:(2*(k:Int)+1)/2=k:=by omega
 have h2:(2*(k:Int)+1)%2=1:=by omega
 rw[h1,h2];rfl
theorem sK(g:bz)(v:Int)(k:Nat):iY g v (k+1)=iY g v k++((if(gI g.2 k).1=v then[2*(k:Int)] else[])++(if(gI g.2 k).2=v then[2*(k:Int)+1] else[])):=by
 unfold iY
 rw[show 2*(k+1)=2*k+1+1 by omega,List.range_succ,List.range_succ]
 simp only[List.map_append,List.filter_append,List.map_cons,List.map_nil,List.append_assoc]
 congr 1
 have e1:((2*k:Nat):Int)=2*(k:Int):=by omega
 have e2:((2*k+1:Nat):Int)=2*(k:Int)+1:=by omega
 rw[e1,e2]
 congr 1
 · by_cases h:(gI g.2 (k:Int)).1=v
   · simp[nB,h]
   · simp[nB,h]
 · by_cases h:(gI g.2 (k:Int)).2=v
   · simp[oI,h]
   · simp[oI,h]
theorem uZ(g:bz)(v:Int)(k:Nat):(iY g v k).length<=2*k:=by
 unfold iY
 have:=List.length_filter_le (λh=>decide (aA g h=v)) ((List.range (2*k)).map (λ(i:Nat)=>(i:Int)))
 simpa using this
end TL
namespace TL
theorem fp{α:Type}[Inhabited α]{l l':List α}(hl:l.length=l'.length)(h:∀i:Nat,i<l.length->gI l i=gI l' i):l=l':=by
 apply List.ext_getElem hl
 intro i h1 h2
 have:=h i h1
 simpa[gI,h1,h2] using this
end TL
namespace TL
def fZ(e:Int×Int):Int×Int:=(min e.1 e.2,max e.1 e.2)
end TL
namespace TL
theorem jT{g:bz}{k:Nat}(hk:(k:Int)<g.2.length):(g.2.map fZ).take (k+1)=(g.2.map fZ).take k++[fZ (gI g.2 k)]:=by
 rw[bC (by simpa using hk)]
 have h':k<g.2.length:=by omega
 simp[gI,h']
end TL
namespace TL
section
variable{l0 l1:Int}{F:Int×Int->Int}{g:bz}{k:Nat}
end
end TL
/-
  TlNetLaws: what follows of nets: parts of parts, subs of subs.
  By an AI agent.
-/
set_option linter.all false
namespace TL
theorem ku{n:Int}:∀(l seen:List Int),(∀i∈l,0<=i/\i<n)->l.Nodup->(∀i∈l,i∉seen)->fW n l seen=0
 |[],_,_,_,_=>rfl
 |i::r,seen,h1,h2,h3=>by
   have h4:=h1 i (by simp)
   obtain⟨h5,h6⟩:=List.nodup_cons.1 h2
   simp only[fW]
   rw[if_neg (by omega),if_neg (h3 i (by simp))]
   refine ku r _ (λj hj=>h1 j (by simp[hj])) h6 (λj hj hs=>?_)
   rcases List.mem_append.1 hs with h|h
   · exact h3 j (by simp[hj]) h
   · obtain rfl:=List.mem_singleton.1 h
     exact h5 hj
theorem pP{n:Int}{l:List Int}(h1:∀i∈l,0<=i/\i<n)(h2:l.Nodup):cX l n=0:=ku l [] h1 h2 (by simp)
theorem pB{α β:Type}[Inhabited α][Inhabited β](f:α->β){l:List α}{i:Int}(h0:0<=i)(h1:i<l.length):gI (l.map f) i=f (gI l i):=by
 have:i.toNat<l.length:=by omega
 simp[gI,this]
theorem Cg{l:List Int}(h:l.Nodup){i j:Int}(hi0:0<=i)(hi:i<l.length)(hj0:0<=j)(hj:j<l.length)(he:gI l i=gI l j):i=j:=by
 have h1:i.toNat<l.length:=by omega
 have h2:j.toNat<l.length:=by omega
 simp[gI,h1,h2] at he
 have:=(List.getElem_inj h).1 he
 omega
theorem zJ{l:List Int}{v:Int}(h:v∈l):gI l (dW l v-1)=v:=by
 have h1:=List.idxOf_lt_length_iff.2 h
 unfold dW gI
 rw[if_pos h]
 have:((l.idxOf v:Int)+1-1).toNat=l.idxOf v:=by omega
 rw[this]
 simp[h1]
theorem uy{l:List Int}(hn:l.Nodup){i:Int}(h0:0<=i)(h1:i<l.length):dW l (gI l i)=i+1:=by
 have hm:=br (xs:=l) h0 h1
 have h2:=zJ hm
 have h3:=gT.2 hm
 have h4:=kJ l (gI l i)
 have:=Cg hn (i:=dW l (gI l i)-1) (j:=i) (by omega) (by omega) h0 h1 h2
 omega
end TL
/-
  TlNetSums: degrees' sum; all edges, all nodes; moved there and back.
  By an AI agent.
-/
set_option linter.all false
namespace TL
def bp(n:Nat):List Int:=(List.range n).map λ(i:Nat)=>(i:Int)
theorem eY(n:Nat):(bp n).length=n:=by simp[bp]
theorem cv(n:Nat):bp (n+1)=bp n++[(n:Int)]:=by simp[bp,List.range_succ]
theorem ch{n:Nat}{x:Int}:x∈bp n↔0<=x/\x<n:=by
 unfold bp
 rw[List.mem_map]
 constructor
 · rintro⟨i,hi,rfl⟩
   have:=List.mem_range.1 hi
   omega
 · rintro⟨h1,h2⟩
   exact⟨x.toNat,List.mem_range.2 (by omega),by omega⟩
theorem fm(n:Nat):(bp n).Nodup:=by
 induction n with
 |zero=>simp[bp]
 |succ n ih=>
   rw[cv,List.nodup_append]
   refine⟨ih,by simp,λa ha b hb=>?_⟩
   have:=ch.1 ha
   have:=List.mem_singleton.1 hb
   omega
theorem ui{n:Nat}{i:Int}(h0:0<=i)(h1:i<n):gI (bp n) i=i:=by
 have:i.toNat<n:=by omega
 simp[gI,bp,this]
 omega
theorem t6:∀(n:Nat) (l:List Int),l.Nodup->(∀x∈l,0<=x/\x<(n:Int))->l.length<=n
 |0,l,_,h=>by
   cases l with
   |nil=>simp
   |cons a l=>have:=h a (by simp);omega
 |n+1,l,hn,h=>by
   have h1:(l.erase (n:Int)).Nodup:=hn.erase _
   have h2:=t6 n (l.erase (n:Int)) h1 (λx hx=>by
     have h3:=hn.mem_erase_iff.1 hx
     have:=h x h3.2
     omega)
   by_cases hm:(n:Int)∈l
   · have:=List.length_erase_of_mem hm
     omega
   · rw[List.erase_of_not_mem hm] at h2
     omega
end TL
/-
  TlNet3: nets split, merged, bared: what they come to.
  By an AI agent.
-/
set_option linter.all false
namespace TL
def im(g:bz)(i:Int):Bool:=decide (¬(gI g.2 i).1=(gI g.2 i).2)&&decide (¬fZ (gI g.2 i)∈(g.2.map fZ).take i.toNat)
def fK(g:bz)(k:Nat):List Int:=(bp k).filter (im g)
def bU(g:bz):bz×List Int×Int:=if aX g then((g.1,(fK g g.2.length).map (gI g.2)),fK g g.2.length,0) else((0,[]),[],1)
theorem gG(g:bz)(k:Nat):fK g (k+1)=if im g k=true then fK g k++[(k:Int)] else fK g k:=by
 unfold fK
 rw[cv,List.filter_append]
 by_cases h:im g (k:Int)=true
 · rw[if_pos h];simp[h]
 · rw[if_neg h];simp[h]
theorem lE(g:bz)(k:Nat):(fK g k).length<=k:=by
 unfold fK
 have:=List.length_filter_le (im g) (bp k)
 rw[eY] at this
 exact this
end TL
namespace TL
structure dD(left:List Int)(out:List (Int×Int))(F:Int×Int->Int)(g:bz)(k:Nat):Prop where
 left:left=fK g k
 out:out=(fK g k).map (gI g.2)
 seen:∀q,F q=(((g.2.map fZ).take k).count q:Nat)
theorem dD.start(g:bz):dD [] [] (λ_=>0) g 0:=⟨rfl,rfl,λq=>by simp⟩
section
variable{left:List Int}{out:List (Int×Int)}{F:Int×Int->Int}{g:bz}{k:Nat}
theorem dD.bd(h:dD left out F g k):left.length<=k/\out.length<=k/\∀q,0<=F q/\F q<=k:=by
 refine⟨by rw[h.left];exact lE g k,by rw[h.out,List.length_map];exact lE g k,λq=>?_⟩
 rw[h.seen]
 have h1:=List.count_le_length (a:=q) (l:=(g.2.map fZ).take k)
 have h2:((g.2.map fZ).take k).length<=k:=List.length_take_le _ _
 omega
theorem dD.seen_next(h:dD left out F g k)(hk:(k:Int)<g.2.length)(q:Int×Int):(if q=fZ (gI g.2 k) then F (fZ (gI g.2 k))+1 else F q)=(((g.2.map fZ).take (k+1)).count q:Nat):=by
 rw[jT hk,List.count_append,h.seen,h.seen]
 by_cases h2:q=fZ (gI g.2 (k:Int))
 · subst h2;simp
 · have h3:¬fZ (gI g.2 (k:Int))=q:=λh=>h2 h.symm
   simp[h2,h3]
theorem dD.none_iff(h:dD left out F g k):F (fZ (gI g.2 k))=0↔¬fZ (gI g.2 k)∈(g.2.map fZ).take k:=by
 rw[h.seen,<-List.count_eq_zero];omega
theorem dD.take(h:dD left out F g k)(hk:(k:Int)<g.2.length)(c1:¬(gI g.2 k).1=(gI g.2 k).2)(c2:F (min (gI g.2 k).1 (gI g.2 k).2,max (gI g.2 k).1 (gI g.2 k).2)=0):
   dD (left++[(k:Int)]) (out++[gI g.2 k]) (λq=>if q=(min (gI g.2 k).1 (gI g.2 k).2,max (gI g.2 k).1 (gI g.2 k).2) then F (min (gI g.2 k).1 (gI g.2 k).2,max (gI g.2 k).1 (gI g.2 k).2)+1 else F q) g (k+1):=by
 have hp:im g (k:Int)=true:=by
   unfold im
   have:=h.none_iff.1 c2
   simp only[Int.toNat_natCast,Bool.and_eq_true,decide_eq_true_eq]
   exact⟨c1,this⟩
 refine⟨by rw[gG,if_pos hp,h.left],by rw[gG,if_pos hp,h.out];simp,λq=>h.seen_next hk q⟩
theorem dD.skip(h:dD left out F g k)(hk:(k:Int)<g.2.length)(c:(gI g.2 k).1=(gI g.2 k).2\/¬F (min (gI g.2 k).1 (gI g.2 k).2,max (gI g.2 k).1 (gI g.2 k).2)=0):
   dD left out (λq=>if q=(min (gI g.2 k).1 (gI g.2 k).2,max (gI g.2 k).1 (gI g.2 k).2) then F (min (gI g.2 k).1 (gI g.2 k).2,max (gI g.2 k).1 (gI g.2 k).2)+1 else F q) g (k+1):=by
 have hp:¬im g (k:Int)=true:=by
   unfold im
   simp only[Int.toNat_natCast,Bool.and_eq_true,decide_eq_true_eq]
   rintro⟨c1,c3⟩
   rcases c with c|c
   · exact c1 c
   · exact c (h.none_iff.2 c3)
 exact⟨by rw[gG,if_neg hp,h.left],by rw[gG,if_neg hp,h.out],λq=>h.seen_next hk q⟩
end
end TL
/-
  TlNetChg: degrees behind a split and a merge; a bare net is simple, and bare again the same.
  By an AI agent.
-/
set_option linter.all false
namespace TL
end TL
namespace TL
theorem nQ(g:bz):∀k:Nat,(k:Int)<=g.2.length->(((fK g k).map (gI g.2)).map fZ).Nodup/\(∀q∈((fK g k).map (gI g.2)).map fZ,q∈(g.2.map fZ).take k)/\(∀d∈(fK g k).map (gI g.2),d∈g.2/\¬d.1=d.2):=by
  intro k
  induction k with
  |zero=>intro _;simp[fK,bp]
  |succ k ih=>
    intro hk
    obtain⟨a,b,c⟩:=ih (by omega)
    rw[gG,jT (by omega)]
    by_cases hp:im g (k:Int)=true
    · rw[if_pos hp]
      have hp':=hp
      unfold im at hp'
      simp only[Int.toNat_natCast,Bool.and_eq_true,decide_eq_true_eq] at hp'
      simp only[List.map_append,List.map_cons,List.map_nil]
      refine⟨?_,λq hq=>?_,λd hd=>?_⟩
      · rw[List.nodup_append]
        refine⟨a,by simp,λx hx y hy=>?_⟩
        obtain rfl:=List.mem_singleton.1 hy
        intro e
        exact hp'.2 (e▸b x hx)
      · rcases List.mem_append.1 hq with h|h
        · exact List.mem_append.2 (.inl (b q h))
        · exact List.mem_append.2 (.inr h)
      · rcases List.mem_append.1 hd with h|h
        · exact c d h
        · obtain rfl:=List.mem_singleton.1 h
          exact⟨br (by omega) (by omega),hp'.1⟩
    · rw[if_neg hp]
      exact⟨a,λq hq=>List.mem_append.2 (.inl (b q hq)),c⟩
theorem ga{g:bz}(hm:aX g):bU g=((g.1,(fK g g.2.length).map (gI g.2)),fK g g.2.length,0):=by unfold bU;rw[if_pos hm]
theorem kj{g:bz}(hm:aX g):aX (bU g).1:=by
 obtain⟨m1,m2,m3,m4⟩:=hm
 rw[ga ⟨m1,m2,m3,m4⟩]
 refine⟨m1,m2,?_,λd hd=>m4 d ((nQ g _ (Int.le_refl _)).2.2 d hd).1⟩
 have:=lE g g.2.length
 simp only[List.length_map];omega
theorem yc{g:bz}(hm:aX g):∀i:Nat,i<(bU g).1.2.length->¬(gI (bU g).1.2 (i:Int)).1=(gI (bU g).1.2 (i:Int)).2/\¬fZ (gI (bU g).1.2 (i:Int))∈((bU g).1.2.map fZ).take i:=by
 obtain⟨a,b,c⟩:=nQ g g.2.length (Int.le_refl _)
 rw[ga hm]
 intro i hi
 simp only at hi ⊢
 refine⟨(c _ (br (by omega) (by omega))).2,λhmem=>?_⟩
 generalize(fK g g.2.length).map (gI g.2)=L at a hi hmem
 have hs:(L.map fZ).take (i+1)=(L.map fZ).take i++[fZ (gI L (i:Int))]:=by
   rw[bC (xs:=L.map fZ) (by simp;omega),pB fZ (by omega) (by omega)]
 have hn:=a.sublist (List.take_sublist (i+1) (L.map fZ))
 rw[hs,List.nodup_append] at hn
 exact hn.2.2 _ hmem _ (by simp) rfl
end TL
namespace TL
end TL
/-
  TlRef3: what the document's own answer of layer 3 goes through.
  By an AI agent.
-/
set_option linter.all false
namespace TL
def pF(g:bz)(v:Int)(h:Nat):List Int:=((List.range h).map (λ(i:Nat)=>(i:Int))).filter λh=>decide (aA g h=v)
theorem uU(g:bz)(v:Int)(h:Nat):pF g v (h+1)=if aA g h=v then pF g v h++[(h:Int)] else pF g v h:=by
 unfold pF
 rw[List.range_succ,List.map_append,List.filter_append]
 by_cases e:aA g (h:Int)=v
 · rw[if_pos e];simp[e]
 · rw[if_neg e];simp[e]
theorem yR(g:bz)(v:Int)(h:Nat):(pF g v h).length<=h:=by
 unfold pF
 have:=List.length_filter_le (λh=>decide (aA g h=v)) ((List.range h).map (λ(i:Nat)=>(i:Int)))
 simpa using this
theorem xj(g:bz)(v:Int){h:Nat}(hh:h=2*g.2.length):pF g v h=bO g v:=by subst hh;rfl
theorem wN{g:bz}(hm:aX g){h:Int}(h0:0<=h)(h1:h<2*(g.2.length:Int)):0<=aA g h/\aA g h<g.1:=by
 have hok:=hm.2.2.2 _ (br (xs:=g.2) (i:=h/2) (by omega) (by omega))
 unfold qw at hok
 unfold aA pI
 split<;>omega
theorem uQ{g:bz}{i:Nat}(hi:(i:Int)<g.2.length):im g i=true↔(¬(gI g.2 i).1=(gI g.2 i).2)/\¬fZ (gI g.2 i)∈(g.2.map fZ).take i:=by
 unfold im
 simp only[Int.toNat_natCast,Bool.and_eq_true,decide_eq_true_eq]
end TL
/-
  TlInts: lists that are kept, written full, and read again.
  By an AI agent.
-/
set_option linter.all false
namespace TL
def iB(K:List (List Int))(s:Int):Prop:=(K.length:Int)<=s/\s<=1048576/\∀l∈K,l.length<=1048576
theorem iB.nil:iB [] 0:=⟨by simp,by omega,by simp⟩
theorem iB.add{K:List (List Int)}{s n:Int}{l:List Int}(h:iB K s)(h0:0<n)(h1:s+n<=1048576)(hl:(l.length:Int)<=n):iB (K++[l]) (s+n):=by
 obtain⟨a,b,c⟩:=h
 refine⟨by simp;omega,h1,λx hx=>?_⟩
 rcases List.mem_append.1 hx with hx|hx
 · exact c x hx
 · obtain rfl:=List.mem_singleton.1 hx
   omega
theorem iB.len{K:List (List Int)}{s:Int}(h:iB K s):(K.length:Int)<=s/\s<=1048576/\0<=s:=by
 obtain⟨a,b,c⟩:=h
 omega
structure lR(L:List (List Int))(i:Nat):Prop where
  le:(i:Int)<=L.length
  few:L.length<=1048576
  done:∀r:Nat,r<i->∀q:Nat,q<(gI L r).length->gI (gI L (r:Int)) (q:Int)= -1000-(r:Int)
  rest:∀r:Nat,i<=r->r<L.length->(gI L (r:Int)).length<=1048576
theorem iB.ap{K:List (List Int)}{s:Int}(h:iB K s):lR K 0:=by
 obtain⟨a,b,c⟩:=h
 refine⟨by simp,by omega,λr hr=>by omega,λr _ hr=>c _ (br (by omega) (by omega))⟩
structure iX(L1 L:List (List Int))(i:Nat)(n:Int):Prop where
  len:L1.length=L.length
  le:((gI L1 i).length:Int)<=1050577
  other:∀r:Nat,r≠i->gI L1 (r:Int)=gI L (r:Int)
theorem iX.start{L:List (List Int)}{i:Nat}{n:Int}(h:lR L i)(hi:(i:Int)<L.length):iX L L i n:=⟨rfl,by have:=h.rest i (Nat.le_refl _) (by omega);omega,λr _=>rfl⟩
theorem iO{α:Type}[Inhabited α]{L:List α}{i r:Nat}{x:α}(h:r≠i):gI (L.set i x) (r:Int)=gI L (r:Int):=by
 simp[gI,List.getElem?_set_ne (Ne.symm h)]
theorem gX{α:Type}[Inhabited α]{L:List α}{i:Nat}{x:α}(h:(i:Int)<L.length):gI (L.set i x) (i:Int)=x:=by
 simp[gI,show i<L.length by omega]
theorem iX.next{L1 L:List (List Int)}{i:Nat}{n:Int}(h:iX L1 L i n)(hi:(i:Int)<L.length)(hn:((gI L1 i).length:Int)<n)(hb:n<=1050577):iX (L1.set (i:Int).toNat (gI L1 i++[0])) L i n:=by
 have hl:=h.len
 refine⟨by simpa using hl,?_,λr hr=>?_⟩
 · simp only[Int.toNat_natCast]
   rw[gX (by omega)];simp;omega
 · simp only[Int.toNat_natCast]
   rw[iO hr,h.other r hr]
theorem iX.meas{L1 L:List (List Int)}{i:Nat}{n:Int}(h:iX L1 L i n)(hi:(i:Int)<L.length):((gI (L1.set (i:Int).toNat (gI L1 i++[0])) i).length:Int)=(gI L1 i).length+1:=by
 have hl:=h.len
 simp only[Int.toNat_natCast]
 rw[gX (by omega)];simp
structure m7(L2 L:List (List Int))(i:Nat)(k:Nat):Prop where
  len:L2.length=L.length
  le:(k:Int)<=(gI L2 (i:Int)).length
  few:((gI L2 i).length:Int)<=1050577
  done:∀q:Nat,q<k->gI (gI L2 (i:Int)) (q:Int)= -1000-(i:Int)
  other:∀r:Nat,r≠i->gI L2 (r:Int)=gI L (r:Int)
theorem iX.wr{L1 L:List (List Int)}{i:Nat}{n:Int}(h:iX L1 L i n):m7 L1 L i 0:=⟨h.len,by simp,h.le,λq hq=>by omega,h.other⟩
theorem m7.next{L2 L:List (List Int)}{i k:Nat}(h:m7 L2 L i k)(hi:(i:Int)<L.length)(hk:(k:Int)<(gI L2 i).length):m7 (L2.set (i:Int).toNat ((gI L2 i).set (k:Int).toNat (-1000-(i:Int)))) L i (k+1)/\(gI (L2.set (i:Int).toNat ((gI L2 i).set (k:Int).toNat (-1000-(i:Int)))) (i:Int)).length=(gI L2 (i:Int)).length:=by
 have hl:=h.len
 simp only[Int.toNat_natCast]
 have e:gI (L2.set i ((gI L2 (i:Int)).set k (-1000-(i:Int)))) (i:Int)=(gI L2 (i:Int)).set k (-1000-(i:Int)):=gX (by omega)
 refine⟨⟨by simpa using hl,by rw[e];simp;omega,by rw[e];simpa using h.few,λq hq=>?_,λr hr=>by rw[iO hr,h.other r hr]⟩,by rw[e];simp⟩
 rw[e]
 by_cases hq2:q=k
 · subst hq2;exact gX hk
 · rw[iO hq2];exact h.done q (by omega)
theorem m7.fin{L2 L:List (List Int)}{i k:Nat}(h:m7 L2 L i k)(ha:lR L i)(hi:(i:Int)<L.length)(hk:¬(k:Int)<(gI L2 i).length):lR L2 (i+1):=by
 have hl:=h.len
 have hle:=h.le
 refine⟨by omega,by have:=ha.few;omega,λr hr q hq=>?_,λr h1 h2=>?_⟩
 · by_cases e:r=i
   · subst e;exact h.done q (by omega)
   · rw[h.other r e] at hq ⊢;exact ha.done r (by omega) q hq
 · rw[h.other r (by omega)];exact ha.rest r (by omega) (by omega)
theorem lR.read{L:List (List Int)}{m i k:Nat}(h:lR L m)(hm:(m:Int)=L.length)(hi:(i:Int)<L.length)(hk:(k:Int)<(gI L i).length):gI (gI L (i:Int)) (k:Int)= -1000-(i:Int):=h.done i (by omega) k (by omega)
end TL
namespace TL
end TL
namespace TL
end TL
/-
  TlKeep: rows of an own list given away one by one while the list stays readable; rows with a mark behind each.
  By an AI agent.
-/
set_option linter.all false
namespace TL
open Go
def gv(i k j:Nat):cH->Prop:=λc=>(c.1=i/\c.2≠0)\/(c.1=k/\1<=c.2/\c.2<=j)
def j3(q i k:Nat):cH->Prop:=λc=>c.1=q\/(c.1=i/\c.2=0)\/c.1=k
def jr(q i k r:Nat):cH->Prop:=λc=>c.1=q\/(c.1=i/\c.2=0)\/(c.1=k/\c.2=r)
theorem CQ{q i k r:Nat}:∀c,jr q i k r c->j3 q i k c:=λc h=>h.elim .inl λh=>h.elim (λh=>.inr (.inl h)) λh=>.inr (.inr h.1)
theorem bD.l3{L:List Nat}{q i k:Nat}{γ γ':aG}{w w':World}(h:bD (j3 q i k) γ w γ' w')(h1:L.contains q=true)(h2:L.contains i=true)(h3:L.contains k=true):bD (inl L) γ w γ' w':=h.mono λc hc=>by
 unfold inl
 rcases hc with hc|hc|hc
 · rw[hc];exact h1
 · rw[hc.1];exact h2
 · rw[hc];exact h3
def lk(γ:aG)(k r:Nat)(c:cH):aG:=λb=>if γ b=(k,r) then c else γ b
section
variable{P:Program}{w:World}{t t':TypeId}{f:Fr}{x y:Operand}{dst:Option Tmp}{ty:TypeId}{pos:String}{after:Array Edge}{g:Option (Nat×Bool)}{N:Value->World->Prop}{α:Type}[Rp α]{γ:aG}{v u:Value}{xss:List (List α)}{l:List α}{i k j:Nat}
theorem pS[Fl α]{S':cH->Prop}{tv:Value}{c:Vc}(hcv:c.v=u){e bytes:Nat}{z:Value}(ht:P.underlying t=some (.slice e))(he:Tp P e false 1 bytes z)(hzc:z.cells.size=1)(hx:ev f x=v)(hy:ev f y=tv)
    (hn:cY γ i w v xss)(htv:Sl γ S' w tv [c])(hu:Ow γ (row k (j+1)) (row k (j+1)) w u l)(hk:Nat.beq k i=false)(hby:bytes<=128)(hlen:xss.length+1<=1099511627776)
    (hN:∀γ' w' v',bD (λc=>row i 0 c\/row k (j+1) c) γ w γ' w'->cY γ' i w' v' (xss++[l])->Sl γ' (gv i k (j+1)) w' u l->N v' w'):fS P ⟨dst,.call {callee:=.builtin .append,args:= #[x,y],argTypes:= #[t,t]},ty,pos,after,g⟩ f w N:=by
  obtain⟨us,h2,h3,h4⟩:=hn
  have hki:=ke hk
  refine bf γ (J:=row i 0) (S:=row i 0) (i,0) rfl ht he (Nat.zero_lt_one) hzc hx hy h2 htv hby (by simpa[h3] using hlen) λγ1 w1 v1 hc ho=>?_
  have hrw:∀q b,row i q (γ1 b)->row i q (lk γ1 k (j+1) (i,xss.length+1) b):=λq b hq=>by
    unfold row at hq
    unfold lk
    rw[if_neg (by rw[hq];intro h;exact hki (congrArg Prod.fst h).symm)]
    exact hq
  have hch:=hu.chg hc (uI hk) (uI hk)
  have hto:∀b,row k (j+1) (γ1 b)->row i (xss.length+1) (lk γ1 k (j+1) (i,xss.length+1) b):=λb hb=>by
    unfold row at hb
    unfold lk row
    rw[if_pos hb]
  have hrow:=hch.recol hto hto
  refine hN (lk γ1 k (j+1) (i,xss.length+1)) w1 v1 ?_ ⟨us++[c],ho.recol (hrw 0) (hrw 0),by simp[h3],λr u' x hu' hx'=>?_⟩ (hrow.flat.mono λc h=>.inl ⟨eo c h,by unfold row at h;rw[h];simp⟩)
  · refine⟨hc.os,hc.tape,hc.output,hc.size,λb hb hn=>?_,λb hb hn=>hc.keep b hb λhj=>hn (.inl hj),hc.drawn⟩
    have h5:=hc.col b hb λhj=>hn (.inl hj)
    unfold lk
    rw[h5]
    rw[if_neg (show¬γ b=(k,j+1) from λh=>hn (.inr h))]
  · by_cases hr:r<us.length
    · rw[List.getElem?_append_left hr] at hu'
      rw[List.getElem?_append_left (by omega)] at hx'
      exact((h4 r u' x hu' hx').chg hc (eR (by omega)) (eR (by omega))).recol (hrw _) (hrw _)
    · rw[List.getElem?_append_right (by omega)] at hu' hx'
      have e0:r-us.length=0:=by
        have:=(List.getElem?_eq_some_iff.1 hu').1
        simp at this;omega
      have er:r=xss.length:=by omega
      rw[e0] at hu'
      rw[<-h3,e0] at hx'
      obtain rfl:c=u':=by simpa using hu'
      obtain rfl:l=x:=by simpa using hx'
      subst er
      rw[hcv];exact hrow
end
section
variable{α:Type}[Rp α][Fl α]{γ γ':aG}{w w':World}{v:Value}{us:List Vc}{xss:List (List α)}{i k j q:Nat}
structure jS(γ:aG)(i k j:Nat)(w:World)(v:Value)(us:List Vc)(xss:List (List α)):Prop where
  heads:Ow γ (row k 0) (row k 0) w v us
  len:us.length=xss.length
  rows:∀(r:Nat) (u:Vc) (x:List α),us[r]? =some u->xss[r]? =some x->(r<j->Sl γ (gv i k j) w u.v x)/\(¬r<j->Ow γ (row k (r+1)) (row k (r+1)) w u.v x)
theorem jS.start(h:cY γ k w v xss):∃us,jS γ i k 0 w v us xss:=by
 obtain⟨us,h1,h2,h3⟩:=h
 exact⟨us,h1,h2,λr u x hu hx=>⟨λh=>by omega,λ_=>h3 r u x hu hx⟩⟩
theorem jS.next(h:jS γ i k j w v us xss)(hc:bD (jr q i k (j+1)) γ w γ' w')(hqk:Nat.beq k q=false)(hik:Nat.beq k i=false)(hqi:Nat.beq i q=false){u:Vc}{x:List α}(hu:us[j]? =some u)(hx:xss[j]? =some x)(hs:Sl γ' (gv i k (j+1)) w' u.v x):jS γ' i k (j+1) w' v us xss:=by
 have a1:=ke hqk
 have a2:=ke hik
 have a3:=ke hqi
 have rowk:∀r,r≠j+1->∀c,row k r c->¬jr q i k (j+1) c:=λr hr c h1 h2=>by
   unfold row at h1
   subst h1
   rcases h2 with h2|h2|h2
   · exact a1 h2
   · exact a2 h2.1
   · exact hr h2.2
 refine⟨h.heads.chg hc (rowk 0 (by omega)) (rowk 0 (by omega)),h.len,λr u' x' hu' hx'=>⟨λhr=>?_,λhr=>?_⟩⟩
 · by_cases e:r=j
   · subst e
     rw[hu] at hu'
     rw[hx] at hx'
     obtain rfl:=Option.some.inj hu'
     obtain rfl:=Option.some.inj hx'
     exact hs
   · have h1:=(h.rows r u' x' hu' hx').1 (by omega)
     refine(h1.chg hc λc h2 h3=>?_).mono λc h2=>?_
     · rcases h2 with⟨h4,h5⟩|⟨h4,h5,h6⟩
       · rcases h3 with h3|h3|h3
         · exact a3 (h4.symm.trans h3)
         · exact h5 h3.2
         · exact a2 (h3.1.symm.trans h4)
       · rcases h3 with h3|h3|h3
         · exact a1 (h4.symm.trans h3)
         · exact a2 (h4.symm.trans h3.1)
         · have:=h3.2;omega
     · rcases h2 with h2|⟨h4,h5,h6⟩
       · exact .inl h2
       · exact .inr ⟨h4,h5,by omega⟩
 · have h1:=(h.rows r u' x' hu' hx').2 (by omega)
   exact h1.chg hc (rowk _ (by omega)) (rowk _ (by omega))
theorem D6{S:cH->Prop}(h:Sl γ S w v us)(hl:us.length=xss.length)(hr:∀(r:Nat) (u:Vc) (x:List α),us[r]? =some u->xss[r]? =some x->Sl γ S w u.v x):Sl γ S w v xss:=by
  rcases h with⟨h0,rfl⟩|⟨b,off,cap,rfl,hc,hx⟩
  · have:xss=[]:=List.eq_nil_of_length_eq_zero (by simpa using hl.symm)
    subst this
    exact .inl ⟨h0,rfl⟩
  · refine .inr ⟨b,off,cap,by rw[hl],by rw[<-hl];exact hc,λr x hrx=>?_⟩
    have hlt:r<us.length:=by rw[hl];exact(List.getElem?_eq_some_iff.1 hrx).1
    have hu:us[r]? =some us[r]:=List.getElem?_eq_getElem hlt
    obtain⟨h1,h2,cs,hcs,hrep⟩:=hx r _ hu
    have hrep':cs=[us[r].v]:=hrep
    exact⟨h1,h2,cs,hcs,us[r].v,hrep',hr r _ x hu hrx⟩
theorem jS.done(h:jS γ i k j w v us xss)(hj:xss.length<=j):Sl γ (CP k i) w v xss:=by
 refine D6 ((h.heads.flat).mono λc hc=>?_) h.len λr u x hu hx=>?_
 · exact .inl (eo c hc)
 · have hlt:=(List.getElem?_eq_some_iff.1 hx).1
   refine((h.rows r u x hu hx).1 (by omega)).mono λc hc=>?_
   rcases hc with hc|hc
   · exact .inr hc
   · exact .inl hc.1
end
inductive Rw where
  |mk (l:List Int) (m:Int)
  |pl (l:List Int)
instance:Inhabited Rw:=⟨.pl []⟩
theorem vI{α:Type}[Rp α]{γ:aG}{S:cH->Prop}{w:World}{v:Value}{xs:List α}{m:α}(h:Sl γ S w (lS v) (xs++[m])):∃a l c,v= .slice a l c:=by
 rcases h with⟨_,h0⟩|⟨b,off,cap,hv,_⟩
 · simp at h0
 · cases v<;>simp[lS] at hv
   exact⟨_,_,_,rfl⟩
def Cu(γ:aG)(S:cH->Prop)(w:World)(v:Value):Rw->Prop
  | .mk l m=>Sl γ S w (lS v) (l++[m])
  | .pl l=>Sl γ S w v l
theorem Cu.one{γ:aG}{S:cH->Prop}{w:World}{v:Value}{x:Rw}(h:Cu γ S w v x):v.oneCell'=true:=by
 cases x with
 |mk l m=>
   obtain⟨a,b,c,rfl⟩:=vI h
   rfl
 |pl l=>
   rcases h with⟨⟨_,rfl⟩,_⟩|⟨b,off,cap,rfl,_⟩<;>rfl
theorem Cu.tr{γ γ':aG}{S S':cH->Prop}{w w':World}{v:Value}{x:Rw}(hsz:w.heap.size<=w'.heap.size)(h:∀b,b<w.heap.size->S (γ b)->w'.heap[b]? =w.heap[b]? /\S' (γ' b))(hx:Cu γ S w v x):Cu γ' S' w' v x:=by
 cases x with
 |mk l m=>exact Sl.tr h hx hsz
 |pl l=>exact Sl.tr h hx hsz
instance:Rp Rw where
 sz:=1
 rep γ S w cs x:=∃v,cs=[v]/\Cu γ S w v x
 len:=by rintro _ _ _ _ _ ⟨v,rfl,_⟩;rfl
 one:=by
   rintro _ _ _ _ _ ⟨v,rfl,h⟩ u hu
   obtain rfl:u=v:=by simpa using hu
   exact h.one
 tr:=by
   rintro _ _ _ _ _ _ _ _ hs h ⟨v,rfl,hv⟩
   exact⟨v,rfl,hv.tr hs h⟩
section
variable{P:Program}{w:World}{t t':TypeId}{f:Fr}{x y:Operand}{dst:Option Tmp}{ty:TypeId}{pos:String}{after:Array Edge}{g:Option (Nat×Bool)}{N:Value->World->Prop}{γ:aG}{v u:Value}{xss:List (List Int)}{l:List Int}{i:Nat}
end
end TL
/-
  TlEq: structs compared; a pointer looked at for nil; a bit turned.
  By an AI agent.
-/
set_option linter.all false
namespace TL
open Go
section
variable{P:Program}{f:Fr}{w:World}{dst:Option Tmp}{ty:TypeId}{pos:String}{after:Array Edge}{g:Option (Nat×Bool)}{t t' e:TypeId}{x y:Operand}
theorem aw{a:Addr}(hx:ev f x= .pointer (some a)):(execOp (ev f) ⟨dst,.nilCheck x,ty,pos,after,g⟩).run P w= .ok (.value (.pointer (some a))) w:=by
 simp only[execOp,hx,Sem.run_pure]
end
end TL
namespace TL
open Go
section
variable{P:Program}{f:Fr}{w:World}{dst:Option Tmp}{ty:TypeId}{pos:String}{after:Array Edge}{g:Option (Nat×Bool)}{t:TypeId}{x:Operand}
end
end TL
namespace TL
open Go
section
variable{P:Program}{f:Fr}{w:World}{dst:Option Tmp}{ty:TypeId}{pos:String}{after:Array Edge}{g:Option (Nat×Bool)}{t t':TypeId}{x y:Operand}{m n:Int}
end
end TL
namespace TL
open Go
theorem wM{f:Fr}{x:Operand}{xs:List Operand}{v:Value}{vs:List Value}(h:ev f x=v)(h2:xs.map (ev f)=vs):(x::xs).map (ev f)=v::vs:=by subst h h2;rfl
end TL
/-
  TlRot: rotations: which may be, turned to their ib, faces.
  By an AI agent.
-/
set_option linter.all false
namespace TL
abbrev fG:=List (List Int)
def CT(g:bz)(r:fG):Prop:=(r.length:Int)=g.1/\(∀v:Nat,v<r.length->∀h∈gI r (v:Int),(0<=h/\h<2*(g.2.length:Int))/\aA g h=v)/\r.flatten.Nodup/\(r.flatten.length:Int)=2*g.2.length
instance (g:bz)(r:fG):Decidable (CT g r):=by unfold CT;infer_instance
theorem si{n:Int}{l:List Int}(h0:0<=n)(hn:l.Nodup)(h:∀x∈l,0<=x/\x<n):(l.length:Int)<=n:=by
 have:=t6 n.toNat l hn (λx hx=>by have:=h x hx;omega)
 omega
section
variable{seen:List Bool}{n:Int}{g:bz}{r:fG}{k i:Nat}
end
end TL
namespace TL
end TL
/-
  TlMap: maps that the call makes.
  By an AI agent.
-/
set_option linter.all false
namespace TL
open Go
class Ky (K:Type) where
  val:K->Value
structure n3(P:Program)(kt:TypeId)(K:Type)[DecidableEq K][Ky K]:Prop where
 check:∀(b:Bool) (k:K) (w:World),(Instr.checkKey b 10000 kt (Ky.val k)).run P w= .ok () w
 find:∀(k:K) (es:List MapEntry) (ks:List K) (w:World),es.map (·.key)=ks.map Ky.val->(Instr.findKey kt (Ky.val k) es).run P w= .ok ((ks.findIdx? (· =k)).bind λi=>(es[i]?).map λe=>(i,e.val)) w
 bits:∀k:K,Instr.sameBits 10000 (Ky.val k) (Ky.val k)=true
structure db(K:Type) where
  key:K
  val:Int
  born:Nat
def cP{K:Type}[Ky K](e:db K):MapEntry:={key:=Ky.val e.key,val:=.int .i64 e.val,born:=e.born}
def eI{K:Type}[DecidableEq K](es:List (db K))(k:K):Int:=((es.find? λe=>decide (e.key=k)).map (·.val)).getD 0
structure BH{K:Type}(es:List (db K))(clock:Nat):Prop where
 keys:(es.map (·.key)).Nodup
 born:(es.map (·.born)).Nodup
 lt:∀e∈es,e.born<clock
def Mp{K:Type}[DecidableEq K][Ky K](γ:aG)(J:cH->Prop)(w:World)(v:Value)(F:K->Int):Prop:=
  ∃(r:Nat) (es:List (db K)) (clock:Nat),v= .map (some r)/\J (γ r)/\w.heap[r]? =some (.map (es.map cP).toArray clock)/\BH es clock/\F=eI es
def su{K:Type}[DecidableEq K][Ky K](γ:aG)(J:cH->Prop)(w:World)(v:Value)(F:K->Int)(s:Int)(k:K):Prop:=
  ∃(r:Nat) (es:List (db K)) (clock:Nat),v= .map (some r)/\J (γ r)/\w.heap[r]? =some (.map (es.map cP).toArray clock)/\BH es clock/\F=eI es/\∃(i:Nat) (e:db K),es[i]? =some e/\e.key=k/\(e.born:Int)=s
theorem Mp.chg{K:Type}[DecidableEq K][Ky K]{γ γ':aG}{J J':cH->Prop}{w w':World}{v:Value}{F:K->Int}(h:Mp γ J w v F)(hc:bD J' γ w γ' w')(hJ:∀c,J c->¬J' c):Mp γ' J w' v F:=by
 obtain⟨r,es,clock,h1,h2,h3,h4⟩:=h
 exact⟨r,es,clock,h1,by rw[hc.col r (cG h3) (hJ _ h2)];exact h2,by rw[hc.keep r (cG h3) (hJ _ h2)];exact h3,h4⟩
theorem su.chg{K:Type}[DecidableEq K][Ky K]{γ γ':aG}{J J':cH->Prop}{w w':World}{v:Value}{F:K->Int}{s:Int}{k:K}(h:su γ J w v F s k)(hc:bD J' γ w γ' w')(hJ:∀c,J c->¬J' c):su γ' J w' v F s k:=by
 obtain⟨r,es,clock,h1,h2,h3,h4⟩:=h
 exact⟨r,es,clock,h1,by rw[hc.col r (cG h3) (hJ _ h2)];exact h2,by rw[hc.keep r (cG h3) (hJ _ h2)];exact h3,h4⟩
theorem Mp.bel{K:Type}[DecidableEq K][Ky K]{γ:aG}{J:cH->Prop}{w w':World}{v:Value}{F:K->Int}(h:Mp γ J w v F)(hc:ep w.heap.size w w'):Mp γ J w' v F:=by
 obtain⟨r,es,clock,h1,h2,h3,h4⟩:=h
 exact⟨r,es,clock,h1,h2,by rw[hc.block r (cG h3)];exact h3,h4⟩
theorem iC{K:Type}[DecidableEq K][Ky K](es:List (db K))(k:K):(((es.map (·.key)).findIdx? (· =k)).bind λi=>((es.map cP)[i]?).map λe=>(i,e.val))=((es.map (·.key)).findIdx? (· =k)).map λi=>(i,Value.int .i64 (eI es k)):=by
 cases h:(es.map (·.key)).findIdx? (· =k) with
 |none=>rfl
 |some i=>
   obtain⟨hi,hk,hlt⟩:=List.findIdx?_eq_some_iff_getElem.1 h
   have hi':i<es.length:=by simpa using hi
   have hke:es[i].key=k:=by simpa using hk
   have hf:es.find? (λe=>decide (e.key=k))=some es[i]:=by
     rw[List.find?_eq_some_iff_getElem]
     refine⟨by simpa using hke,i,hi',rfl,λj hj=>?_⟩
     have:=hlt j hj
     simpa using this
   simp[hi',cP,eI,hf]
section
variable{P:Program}{f:Fr}{w:World}{dst:Option Tmp}{ty:TypeId}{pos:String}{after:Array Edge}{g:Option (Nat×Bool)}{t:TypeId}{x y z:Operand}{N:Value->World->Prop}
theorem cw{r:Nat}{es:Array MapEntry}{clock:Nat}(h:w.heap[r]? =some (.map es clock)):(getObj r).run P w= .ok (.map es clock) w:=by
 simp[getObj,Sem.run,h]
theorem dz{r:Nat}{es:Array MapEntry}{clock:Nat}{o:Obj}(h:w.heap[r]? =some (.map es clock)):(setObj r o).run P w= .ok () {w with heap:=w.heap.setIfInBounds r o}:=by
 simp[setObj,Sem.run,h]
theorem eM(γ:aG){r:Nat}(o:Obj){J:cH->Prop}(hJ:J (γ r)):bD J γ w γ {w with heap:=w.heap.setIfInBounds r o}:=
 ⟨rfl,rfl,rfl,by simp,λ_ _ _=>rfl,λk _ hk=>by
   have:r≠k:=λh=>hk (h▸hJ)
   simp[Array.getElem?_setIfInBounds_ne this],Nat.le_refl _⟩
theorem eA{r:Nat}{o o':Obj}(h:w.heap[r]? =some o'):({w with heap:=w.heap.setIfInBounds r o}:World).heap[r]? =some o:=by
 have:=cG h
 simp[this]
theorem vC{K:Type}[DecidableEq K][Ky K](γ:aG)(J:cH->Prop)(c:cH)(hJ:J c)(hk:∀γ' w' v,bD no γ w γ' w'->Mp (K:=K) γ' J w' v (λ_=>0)->N v w'):fS P ⟨dst,.makeMap t none,ty,pos,after,g⟩ f w N:=by
 refine aL (v:=.map (some w.heap.size)) (w':=w.alloc (.map #[] 0)) (by simp[execOp,Instr.makeMap]) (hk (iw γ w.heap.size c) _ _ (fQ γ w _ c) ⟨w.heap.size,[],0,rfl,by simpa[iw] using hJ,by rw[dB];rfl,⟨by simp,by simp,by simp⟩,?_⟩)
 funext k;simp[eI]
theorem dN{K:Type}[DecidableEq K][Ky K]{γ:aG}{J:cH->Prop}{v u:Value}{F:K->Int}{kt et size bytes:Nat}{agg:Bool}(k:K)(ht:P.underlying t=some (.map kt et))(hk:n3 P kt K)(he:Tp P et agg size bytes (.int .i64 0))(hx:ev f x=v)(hm:Mp γ J w v F)(hy:ev f y=u)(hu:u=Ky.val k):
   (execOp (ev f) ⟨dst,.lookup t x y false,ty,pos,after,g⟩).run P w= .ok (.value (.int .i64 (F k))) w:=by
 obtain⟨r,es,clock,rfl,hJ,hb,hok,rfl⟩:=hm
 obtain⟨i,hi,_,_,hz⟩:=he.info
 subst hu
 have hf:=hk.find k (es.map cP) (es.map (·.key)) w (by simp[cP,Function.comp_def])
 rw[iC] at hf
 cases h:(es.map (·.key)).findIdx? (· =k) with
 |none=>
   rw[h] at hf
   have h0:eI es k=0:=by
     have hn:es.find? (λe=>decide (e.key=k))=none:=by
       rw[List.find?_eq_none]
       intro e he
       have:=List.findIdx?_eq_none_iff.1 h (e.key) (List.mem_map_of_mem he)
       simpa using this
     simp[eI,hn]
   simp[execOp,hx,hy,Instr.lookup,b5 ht,cw hb,hk.check,hf,eH hi hz,h0]
 |some i=>
   rw[h] at hf
   simp[execOp,hx,hy,Instr.lookup,b5 ht,cw hb,hk.check,hf]
theorem fP{K:Type}[DecidableEq K][Ky K]{γ:aG}{J:cH->Prop}{v u:Value}{F:K->Int}{kt et size bytes:Nat}{agg:Bool}(k:K)(ht:P.underlying t=some (.map kt et))(hk:n3 P kt K)(he:Tp P et agg size bytes (.int .i64 0))(hx:ev f x=v)(hm:Mp γ J w v F)(hy:ev f y=u)(hu:u=Ky.val k)
   (hn:∀w' s,bD J γ w γ w'->su γ J w' v F s k->N (.tuple (List.toArray [.int .i64 (F k),.int .i64 s])) w'):fS P ⟨dst,.mapEntry t x y,ty,pos,after,g⟩ f w N:=by
 obtain⟨r,es,clock,rfl,hJ,hb,hok,rfl⟩:=hm
 obtain⟨q,hi,_,_,hz⟩:=he.info
 subst hu
 have hf:=hk.find k (es.map cP) (es.map (·.key)) w (by simp[cP,Function.comp_def])
 rw[iC] at hf
 cases h:(es.map (·.key)).findIdx? (· =k) with
 |none=>
   rw[h] at hf
   have hnk:∀e∈es,e.key≠k:=λe he=>by
     have:=List.findIdx?_eq_none_iff.1 h (e.key) (List.mem_map_of_mem he)
     simpa using this
   have h0:eI es k=0:=by
     have hn:es.find? (λe=>decide (e.key=k))=none:=by
       rw[List.find?_eq_none]
       intro e he
       simpa using hnk e he
     simp[eI,hn]
   refine aL (v:=.tuple (List.toArray [.int .i64 (eI es k),.int .i64 (clock:Int)])) (w':={w with heap:=w.heap.setIfInBounds r (.map ((es++[(⟨k,0,clock⟩:db K)]).map cP).toArray (clock+1))}) ?_ ?_
   rotate_left
   · refine hn _ _ (eM γ _ hJ) ⟨r,es++[⟨k,0,clock⟩],clock+1,rfl,hJ,eA hb,⟨?_,?_,?_⟩,?_,es.length,⟨k,0,clock⟩,by simp,rfl,rfl⟩
     rotate_left 3
     · funext k'
       simp only[eI,List.find?_append]
       by_cases hkk:k=k'
       · subst hkk
         have hn:es.find? (λe=>decide (e.key=k))=none:=by
           rw[List.find?_eq_none]
           intro e he
           simpa using hnk e he
         simp[hn]
       · cases es.find? (λe=>decide (e.key=k'))<;>simp[hkk]
     · rw[List.map_append,List.nodup_append]
       refine⟨hok.keys,by simp,λa ha b hb=>?_⟩
       obtain⟨e,he,rfl⟩:=List.mem_map.1 ha
       have:b=k:=by simpa using hb
       subst this;exact hnk e he
     · rw[List.map_append,List.nodup_append]
       refine⟨hok.born,by simp,λa ha b hb=>?_⟩
       obtain⟨e,he,rfl⟩:=List.mem_map.1 ha
       have:b=clock:=by simpa using hb
       subst this;exact Nat.ne_of_lt (hok.lt e he)
     · intro e he
       rcases List.mem_append.1 he with h|h
       · exact Nat.lt_succ_of_lt (hok.lt e h)
       · obtain rfl:=List.mem_singleton.1 h;exact Nat.lt_succ_self _
   · simp[execOp,hx,hy,Instr.mapEntry,b5 ht,cw hb,hk.check,hf,eH hi hz,dz hb,h0,cP,goInt]
 |some i=>
   rw[h] at hf
   obtain⟨hil,hke,_⟩:=List.findIdx?_eq_some_iff_getElem.1 h
   have hi':i<es.length:=by simpa using hil
   have hke':es[i].key=k:=by simpa using hke
   have hsame:(es.map cP).modify i (λe=>{e with key:=Ky.val k})=es.map cP:=by
     apply List.ext_getElem?
     intro j
     rw[List.getElem?_modify]
     by_cases hij:i=j
     · subst hij;simp[hi',cP,hke']
     · simp[hij]
   refine aL (v:=.tuple (List.toArray [.int .i64 (eI es k),.int .i64 ((es[i].born:Nat):Int)])) (w':={w with heap:=w.heap.setIfInBounds r (.map (es.map cP).toArray clock)}) ?_
     (hn _ _ (eM γ _ hJ) ⟨r,es,clock,rfl,hJ,eA hb,hok,rfl,i,es[i],by simp,hke',rfl⟩)
   have hkb:=hk.bits k
   have hold:(Instr.keyThatStays (Ky.val k) (Ky.val k)).run P w= .ok (Ky.val k) w:=by simp[Instr.keyThatStays,hkb]
   simp[execOp,hx,hy,Instr.mapEntry,b5 ht,cw hb,hk.check,hf,hi',cP,hke',hold,dz hb,goInt]
   rw[hsame]
theorem eQ{K:Type}[DecidableEq K][Ky K]{γ:aG}{J:cH->Prop}{v:Value}{F:K->Int}{s m:Int}{k:K}(hx:ev f x=v)(hm:su γ J w v F s k)(hy:ev f y= .int .i64 s)(hz:ev f z= .int .i64 m)
   (hn:∀w',bD J γ w γ w'->Mp γ J w' v (λk'=>if k'=k then m else F k')->N undef w'):fS P ⟨dst,.entryStore t x y z,ty,pos,after,g⟩ f w N:=by
 obtain⟨r,es,clock,rfl,hJ,hb,hok,rfl,i,e,hie,rfl,rfl⟩:=hm
 have hi':i<es.length:=(List.getElem?_eq_some_iff.1 hie).1
 have hei:es[i]=e:=(List.getElem?_eq_some_iff.1 hie).2
 have hfi:((es.map cP).toArray.findIdx? (λq=>(q.born:Int)==(e.born:Int)))=some i:=by
   rw[List.findIdx?_toArray,List.findIdx?_eq_some_iff_getElem]
   refine⟨by simpa using hi',by simp[cP,hei],λj hj=>?_⟩
   have hj':j<es.length:=by omega
   have hne:es[j].born≠e.born:=λh=>by
     have h1:(es.map (·.born))[j]'(by simpa using hj')=(es.map (·.born))[i]'(by simpa using hi'):=by simp[hei,h]
     have:=(List.getElem_inj hok.born).1 h1
     omega
   simp[cP]
   omega
 have hmod:(es.map cP).modify i (λq=>{q with val:=.int .i64 m})=(es.modify i (λq=>{q with val:=m})).map cP:=by
   apply List.ext_getElem?
   intro j
   rw[List.getElem?_modify,List.getElem?_map,List.getElem?_map,List.getElem?_modify]
   by_cases hij:i=j
   · subst hij;simp[hi',cP]
   · simp[hij]
 have hkeys:(es.modify i (λq=>{q with val:=m})).map (·.key)=es.map (·.key):=by
   apply List.ext_getElem?
   intro j
   rw[List.getElem?_map,List.getElem?_map,List.getElem?_modify]
   by_cases hij:i=j
   · subst hij;simp[hi']
   · simp[hij]
 have hborn:(es.modify i (λq=>{q with val:=m})).map (·.born)=es.map (·.born):=by
   apply List.ext_getElem?
   intro j
   rw[List.getElem?_map,List.getElem?_map,List.getElem?_modify]
   by_cases hij:i=j
   · subst hij;simp[hi']
   · simp[hij]
 refine gO (w':={w with heap:=w.heap.setIfInBounds r (.map ((es.modify i (λq=>{q with val:=m})).map cP).toArray clock)}) ?_
   (hn _ (eM γ _ hJ) ⟨r,es.modify i (λq=>{q with val:=m}),clock,rfl,hJ,eA hb,⟨by rw[hkeys];exact hok.keys,by rw[hborn];exact hok.born,λq hq=>?_⟩,?_⟩)
 · simp[execOp,hx,hy,hz,Instr.entryStore,cw hb,asInt,asIntOf,hfi,dz hb]
   rw[<-hmod]
 · have:q.born∈es.map (·.born):=by rw[<-hborn];exact List.mem_map_of_mem hq
   obtain⟨q',hq',he'⟩:=List.mem_map.1 this
   rw[<-he'];exact hok.lt q' hq'
 · funext k'
   -- the entry of k' in the changed list
   have hfind:∀(l:List (db K)),(l.map (·.key)).Nodup->∀j (hj:j<l.length),eI l l[j].key=l[j].val:=by
     intro l hl j hj
     have hf:l.find? (λe=>decide (e.key=l[j].key))=some l[j]:=by
       rw[List.find?_eq_some_iff_getElem]
       refine⟨by simp,j,hj,rfl,λq hq=>?_⟩
       have hne:l[q].key≠l[j].key:=λh=>by
         have h1:(l.map (·.key))[q]'(by simp;omega)=(l.map (·.key))[j]'(by simpa using hj):=by simp[h]
         have:=(List.getElem_inj hl).1 h1
         omega
       simpa using hne
     simp[eI,hf]
   by_cases hkk:k'=e.key
   · subst hkk
     rw[if_pos rfl]
     have h1:=hfind (es.modify i (λq=>{q with val:=m})) (by rw[hkeys];exact hok.keys) i (by simpa using hi')
     simp[List.getElem_modify,hei] at h1
     exact h1.symm
   · rw[if_neg hkk]
     have hfe:(es.modify i (λq=>{q with val:=m})).find? (λe=>decide (e.key=k'))=es.find? (λe=>decide (e.key=k')):=by
       have hgen:∀(l:List (db K)) (i:Nat) (e:db K),l[i]? =some e->k'≠e.key->(l.modify i (λq=>{q with val:=m})).find? (λe=>decide (e.key=k'))=l.find? (λe=>decide (e.key=k')):=by
         intro l
         induction l with
         |nil=>intro i e h;simp at h
         |cons a l ih=>
           intro i e h hne
           cases i with
           |zero=>
             obtain rfl:a=e:=by simpa using h
             have:decide (a.key=k')=false:=by simpa using λh=>hne h.symm
             simp[List.find?_cons,this]
           |succ i=>
             have h':l[i]? =some e:=by simpa using h
             simp only[List.modify_succ_cons,List.find?_cons,ih i e h' hne]
       exact hgen es i e hie hkk
     simp[eI,hfe]
end
instance:Ky Int where
 val k:=.int .i64 k
instance:Ky (Int×Int) where
 val k:=.agg (List.toArray [.int .i64 k.1,.int .i64 k.2])
theorem bX{P:Program}{kt e bytes:Nat}{z:Value}(ht:P.underlying kt=some (.array 2 e))(he:P.underlying e=some (.int .i64))(hp:Tp P e false 1 bytes z):n3 P kt (Int×Int) where
 check b k w:=by
   obtain⟨i,hi,hs,_⟩:=hp.info
   have h0:=λ(x y:Int)=>iv (P:=P) (w:=w) (cs:= #[.int .i64 x,.int .i64 y]) (o:=0) hp (v:=.int .i64 x) (by rfl)
   have h1:=λ(x y:Int)=>iv (P:=P) (w:=w) (cs:= #[.int .i64 x,.int .i64 y]) (o:=1) hp (v:=.int .i64 y) (by rfl)
   have hr:(List.range' 0 2 1)=[0,1]:=rfl
   have hc:∀x:Int,(Instr.checkKey b 9999 e (.int .i64 x)).run P w= .ok () w:=λx=>by
     rw[Instr.checkKey]
     simp only[Sem.run_bind,b5 he,Result.andThen_ok]
     rfl
   show(Instr.checkKey b (9999+1) kt _).run P w=_
   rw[Instr.checkKey]
   simp only[Ky.val,Sem.run_bind,b5 ht,Result.andThen_ok]
   rw[Std.Legacy.Range.forIn_eq_forIn_range']
   simp only[Std.Legacy.Range.size,Nat.sub_zero,Nat.reduceAdd,Nat.reduceSub,Nat.div_one,hr]
   simp[dg hi,hs,h0,h1,hc]
 find k es ks w hm:=by
   have hfn:∀(es:List MapEntry) (i:Nat),es≠[]->(∀e∈es,∃c,e.key= .agg c)->Instr.findNow (.array 2 e) (Ky.val k) es i=none:=by
     intro es i h0 _
     cases es with
     |nil=>exact absurd rfl h0
     |cons a l=>simp[Instr.findNow,Instr.sameNow]
   have hask:∀(es:List MapEntry) (ks:List (Int×Int)) (i:Nat),es.map (·.key)=ks.map Ky.val->(Instr.findAsking kt (Ky.val k) es i).run P w= .ok ((ks.findIdx? (· =k)).bind λj=>(es[j]?).map λe=>(i+j,e.val)) w:=by
     intro es
     induction es with
     |nil=>
       intro ks i h
       have:ks=[]:=by cases ks<;>simp at h ⊢
       subst this;simp[Instr.findAsking]
     |cons a l ih=>
       intro ks i h
       cases ks with
       |nil=>simp at h
       |cons q ks=>
         simp only[List.map_cons,List.cons.injEq] at h
         obtain⟨ha,hl⟩:=h
         have heq:=iP (P:=P) (w:=w) (a:=k) (b:=q) ht he hp
         have heq':(Op.equal kt (Ky.val k) a.key).run P w= .ok (decide (k=q)) w:=by rw[ha];exact heq
         by_cases hkq:k=q
         · subst hkq
           simp[Instr.findAsking,heq',List.findIdx?_cons]
         · have hqk:¬q=k:=λh=>hkq h.symm
           have ih':=ih ks (i+1) hl
           simp[Instr.findAsking,heq',hkq,List.findIdx?_cons,hqk,ih']
           cases ks.findIdx? (λx=>decide (x=k)) with
           |none=>rfl
           |some j=>simp[Nat.add_comm 1 j,Nat.add_assoc]
   simp only[Instr.findKey,Sem.run_bind,b5 ht,Result.andThen_ok]
   cases es with
   |nil=>
     have:ks=[]:=by cases ks<;>simp at hm ⊢
     subst this;simp[Instr.findNow]
   |cons a l=>
     rw[hfn (a::l) 0 (by simp) (λe he=>by
       have:e.key∈(a::l).map (·.key):=List.mem_map_of_mem he
       rw[hm] at this
       obtain⟨q,_,hq⟩:=List.mem_map.1 this
       exact⟨_,hq.symm⟩)]
     simp only[hask (a::l) ks 0 hm,Nat.zero_add]
 bits k:=by
   show Instr.sameBits (9999+1) _ _=true
   simp[Ky.val,Instr.sameBits]
theorem gD{P:Program}{kt:Nat}(ht:P.underlying kt=some (.int .i64)):n3 P kt Int where
 check b k w:=by
   show(Instr.checkKey b (9999+1) kt _).run P w=_
   rw[Instr.checkKey]
   simp only[Ky.val,Sem.run_bind,b5 ht,Result.andThen_ok]
   rfl
 find k es ks w hm:=by
   have hnow:∀(es:List MapEntry) (ks:List Int) (i:Nat),es.map (·.key)=ks.map Ky.val->Instr.findNow (.int .i64) (Ky.val k) es i=some ((ks.findIdx? (· =k)).bind λj=>(es[j]?).map λe=>(i+j,e.val)):=by
     intro es
     induction es with
     |nil=>
       intro ks i h
       have:ks=[]:=by cases ks<;>simp at h ⊢
       subst this;simp[Instr.findNow]
     |cons a l ih=>
       intro ks i h
       cases ks with
       |nil=>simp at h
       |cons q ks=>
         simp only[List.map_cons,List.cons.injEq] at h
         obtain⟨ha,hl⟩:=h
         have hs:Instr.sameNow (.int .i64) (Ky.val k) a.key=some (k==q):=by rw[ha];simp[Ky.val,Instr.sameNow]
         by_cases hkq:k=q
         · subst hkq
           simp[Instr.findNow,hs,List.findIdx?_cons]
         · have hqk:¬q=k:=λh=>hkq h.symm
           have ih':=ih ks (i+1) hl
           have hb:(k==q)=false:=by simpa using hkq
           simp[Instr.findNow,hs,hb,List.findIdx?_cons,hqk,ih']
           cases ks.findIdx? (λx=>decide (x=k)) with
           |none=>rfl
           |some j=>simp[Nat.add_comm 1 j,Nat.add_assoc]
   simp only[Instr.findKey,Sem.run_bind,b5 ht,Result.andThen_ok,hnow es ks 0 hm,Nat.zero_add]
   rfl
 bits k:=by
   show Instr.sameBits (9999+1) _ _=true
   simp[Ky.val,Instr.sameBits]
end TL
namespace TL
open Go
theorem su.mp{K:Type}[DecidableEq K][Ky K]{γ:aG}{J:cH->Prop}{w:World}{v:Value}{F:K->Int}{s:Int}{k:K}(h:su γ J w v F s k):Mp γ J w v F:=by
 obtain⟨r,es,clock,h1,h2,h3,h4,h5,_⟩:=h
 exact⟨r,es,clock,h1,h2,h3,h4,h5⟩
end TL
/-
  TlMapD: maps that the call makes, with the keys that they have.
  By an AI agent.
-/
set_option linter.all false
namespace TL
open Go
def Md{K:Type}[DecidableEq K][Ky K](γ:aG)(J:cH->Prop)(w:World)(v:Value)(F:K->Int)(D:List K):Prop:=
 ∃(r:Nat) (es:List (db K)) (clock:Nat),v= .map (some r)/\J (γ r)/\w.heap[r]? =some (.map (es.map cP).toArray clock)/\BH es clock/\F=eI es/\D=es.map (·.key)
def sq{K:Type}[DecidableEq K][Ky K](γ:aG)(J:cH->Prop)(w:World)(v:Value)(F:K->Int)(D:List K)(s:Int)(k:K):Prop:=
 ∃(r:Nat) (es:List (db K)) (clock:Nat),v= .map (some r)/\J (γ r)/\w.heap[r]? =some (.map (es.map cP).toArray clock)/\BH es clock/\F=eI es/\D=es.map (·.key)/\∃(i:Nat) (e:db K),es[i]? =some e/\e.key=k/\(e.born:Int)=s
variable{K:Type}[DecidableEq K][Ky K]
theorem Md.chg{γ γ':aG}{J J':cH->Prop}{w w':World}{v:Value}{F:K->Int}{D:List K}(h:Md γ J w v F D)(hc:bD J' γ w γ' w')(hJ:∀c,J c->¬J' c):Md γ' J w' v F D:=by
 obtain⟨r,es,clock,h1,h2,h3,h4⟩:=h
 exact⟨r,es,clock,h1,by rw[hc.col r (cG h3) (hJ _ h2)];exact h2,by rw[hc.keep r (cG h3) (hJ _ h2)];exact h3,h4⟩
theorem sq.chg{γ γ':aG}{J J':cH->Prop}{w w':World}{v:Value}{F:K->Int}{D:List K}{s:Int}{k:K}(h:sq γ J w v F D s k)(hc:bD J' γ w γ' w')(hJ:∀c,J c->¬J' c):sq γ' J w' v F D s k:=by
 obtain⟨r,es,clock,h1,h2,h3,h4⟩:=h
 exact⟨r,es,clock,h1,by rw[hc.col r (cG h3) (hJ _ h2)];exact h2,by rw[hc.keep r (cG h3) (hJ _ h2)];exact h3,h4⟩
theorem Md.mp{γ:aG}{J:cH->Prop}{w:World}{v:Value}{F:K->Int}{D:List K}(h:Md γ J w v F D):Mp γ J w v F:=by
 obtain⟨r,es,clock,h1,h2,h3,h4,h5,_⟩:=h
 exact⟨r,es,clock,h1,h2,h3,h4,h5⟩
theorem sq.md{γ:aG}{J:cH->Prop}{w:World}{v:Value}{F:K->Int}{D:List K}{s:Int}{k:K}(h:sq γ J w v F D s k):Md γ J w v F D:=by
 obtain⟨r,es,clock,h1,h2,h3,h4,h5,h6,_⟩:=h
 exact⟨r,es,clock,h1,h2,h3,h4,h5,h6⟩
theorem Md.bel{γ:aG}{J:cH->Prop}{w w':World}{v:Value}{F:K->Int}{D:List K}(h:Md γ J w v F D)(hc:ep w.heap.size w w'):Md γ J w' v F D:=by
 obtain⟨r,es,clock,h1,h2,h3,h4⟩:=h
 exact⟨r,es,clock,h1,h2,by rw[hc.block r (cG h3)];exact h3,h4⟩
section
variable{P:Program}{f:Fr}{w:World}{dst:Option Tmp}{ty:TypeId}{pos:String}{after:Array Edge}{g:Option (Nat×Bool)}{t:TypeId}{x y z:Operand}{N:Value->World->Prop}
theorem k6(γ:aG)(J:cH->Prop)(c:cH)(hJ:J c)(hk:∀γ' w' v,bD no γ w γ' w'->Md (K:=K) γ' J w' v (λ_=>0) []->N v w'):fS P ⟨dst,.makeMap t none,ty,pos,after,g⟩ f w N:=by
 refine aL (v:=.map (some w.heap.size)) (w':=w.alloc (.map #[] 0)) (by simp[execOp,Instr.makeMap]) (hk (iw γ w.heap.size c) _ _ (fQ γ w _ c) ⟨w.heap.size,[],0,rfl,by simpa[iw] using hJ,by rw[dB];rfl,⟨by simp,by simp,by simp⟩,?_,rfl⟩)
 funext k;simp[eI]
theorem m9{γ:aG}{J:cH->Prop}{v u:Value}{F:K->Int}{D:List K}{kt et size bytes:Nat}{agg:Bool}(k:K)(ht:P.underlying t=some (.map kt et))(hk:n3 P kt K)(he:Tp P et agg size bytes (.int .i64 0))(hx:ev f x=v)(hm:Md γ J w v F D)(hy:ev f y=u)(hu:u=Ky.val k):
   (execOp (ev f) ⟨dst,.lookup t x y true,ty,pos,after,g⟩).run P w= .ok (.value (.tuple #[.int .i64 (F k),.bool (decide (k∈D))])) w:=by
 obtain⟨r,es,clock,rfl,hJ,hb,hok,rfl,rfl⟩:=hm
 obtain⟨i,hi,_,_,hz⟩:=he.info
 subst hu
 have hf:=hk.find k (es.map cP) (es.map (·.key)) w (by simp[cP,Function.comp_def])
 rw[iC] at hf
 cases h:(es.map (·.key)).findIdx? (· =k) with
 |none=>
   rw[h] at hf
   have hnk:k∉es.map (·.key):=λhmm=>by
     have:=List.findIdx?_eq_none_iff.1 h k hmm
     simp at this
   have h0:eI es k=0:=by
     have hn:es.find? (λe=>decide (e.key=k))=none:=by
       rw[List.find?_eq_none]
       intro e he
       have:=List.findIdx?_eq_none_iff.1 h (e.key) (List.mem_map_of_mem he)
       simpa using this
     simp[eI,hn]
   rw[decide_eq_false hnk]
   simp[execOp,hx,hy,Instr.lookup,b5 ht,cw hb,hk.check,hf,eH hi hz,h0]
 |some i=>
   rw[h] at hf
   obtain⟨hil,hke,_⟩:=List.findIdx?_eq_some_iff_getElem.1 h
   have hke':(es.map (·.key))[i]=k:=by simpa using hke
   have hmm:k∈es.map (·.key):=by rw[<-hke'];exact List.getElem_mem hil
   rw[decide_eq_true hmm]
   simp[execOp,hx,hy,Instr.lookup,b5 ht,cw hb,hk.check,hf]
theorem pb{γ:aG}{J:cH->Prop}{v:Value}{F:K->Int}{D:List K}{kt et:Nat}(ht:P.underlying t=some (.map kt et))(hx:ev f x=v)(hm:Md γ J w v F D):
   (execOp (ev f) ⟨dst,.call {callee:=.builtin .len,args:= #[x],argTypes:= #[t]},ty,pos,after,g⟩).run P w= .ok (.value (.int .i64 (D.length:Int))) w:=by
 obtain⟨r,es,clock,rfl,hJ,hb,hok,rfl,rfl⟩:=hm
 simp[execOp,resolve,invoke,builtin,hx,Builtin.len_,b5 ht,cw hb,goInt]
theorem fv{γ:aG}{J:cH->Prop}{v u:Value}{F:K->Int}{D:List K}{kt et size bytes:Nat}{agg:Bool}(k:K)(ht:P.underlying t=some (.map kt et))(hk:n3 P kt K)(he:Tp P et agg size bytes (.int .i64 0))(hx:ev f x=v)(hm:Md γ J w v F D)(hy:ev f y=u)(hu:u=Ky.val k)
   (hn:∀w' s,bD J γ w γ w'->sq γ J w' v F (if k∈D then D else D++[k]) s k->N (.tuple (List.toArray [.int .i64 (F k),.int .i64 s])) w'):fS P ⟨dst,.mapEntry t x y,ty,pos,after,g⟩ f w N:=by
 obtain⟨r,es,clock,rfl,hJ,hb,hok,rfl,rfl⟩:=hm
 obtain⟨q,hi,_,_,hz⟩:=he.info
 subst hu
 have hf:=hk.find k (es.map cP) (es.map (·.key)) w (by simp[cP,Function.comp_def])
 rw[iC] at hf
 cases h:(es.map (·.key)).findIdx? (· =k) with
 |none=>
   rw[h] at hf
   have hnk:∀e∈es,e.key≠k:=λe he=>by
     have:=List.findIdx?_eq_none_iff.1 h (e.key) (List.mem_map_of_mem he)
     simpa using this
   have h0:eI es k=0:=by
     have hn:es.find? (λe=>decide (e.key=k))=none:=by
       rw[List.find?_eq_none]
       intro e he
       simpa using hnk e he
     simp[eI,hn]
   refine aL (v:=.tuple (List.toArray [.int .i64 (eI es k),.int .i64 (clock:Int)])) (w':={w with heap:=w.heap.setIfInBounds r (.map ((es++[(⟨k,0,clock⟩:db K)]).map cP).toArray (clock+1))}) ?_ ?_
   rotate_left
   · refine hn _ _ (eM γ _ hJ) ⟨r,es++[⟨k,0,clock⟩],clock+1,rfl,hJ,eA hb,⟨?_,?_,?_⟩,?_,by rw[if_neg (λhmm=>by obtain⟨e,he,hke⟩:=List.mem_map.1 hmm;exact hnk e he hke)];simp,es.length,⟨k,0,clock⟩,by simp,rfl,rfl⟩
     rotate_left 3
     · funext k'
       simp only[eI,List.find?_append]
       by_cases hkk:k=k'
       · subst hkk
         have hn:es.find? (λe=>decide (e.key=k))=none:=by
           rw[List.find?_eq_none]
           intro e he
           simpa using hnk e he
         simp[hn]
       · cases es.find? (λe=>decide (e.key=k'))<;>simp[hkk]
     · rw[List.map_append,List.nodup_append]
       refine⟨hok.keys,by simp,λa ha b hb=>?_⟩
       obtain⟨e,he,rfl⟩:=List.mem_map.1 ha
       have:b=k:=by simpa using hb
       subst this;exact hnk e he
     · rw[List.map_append,List.nodup_append]
       refine⟨hok.born,by simp,λa ha b hb=>?_⟩
       obtain⟨e,he,rfl⟩:=List.mem_map.1 ha
       have:b=clock:=by simpa using hb
       subst this;exact Nat.ne_of_lt (hok.lt e he)
     · intro e he
       rcases List.mem_append.1 he with h|h
       · exact Nat.lt_succ_of_lt (hok.lt e h)
       · obtain rfl:=List.mem_singleton.1 h;exact Nat.lt_succ_self _
   · simp[execOp,hx,hy,Instr.mapEntry,b5 ht,cw hb,hk.check,hf,eH hi hz,dz hb,h0,cP,goInt]
 |some i=>
   rw[h] at hf
   obtain⟨hil,hke,_⟩:=List.findIdx?_eq_some_iff_getElem.1 h
   have hi':i<es.length:=by simpa using hil
   have hke':es[i].key=k:=by simpa using hke
   have hsame:(es.map cP).modify i (λe=>{e with key:=Ky.val k})=es.map cP:=by
     apply List.ext_getElem?
     intro j
     rw[List.getElem?_modify]
     by_cases hij:i=j
     · subst hij;simp[hi',cP,hke']
     · simp[hij]
   refine aL (v:=.tuple (List.toArray [.int .i64 (eI es k),.int .i64 ((es[i].born:Nat):Int)])) (w':={w with heap:=w.heap.setIfInBounds r (.map (es.map cP).toArray clock)}) ?_
     (hn _ _ (eM γ _ hJ) ⟨r,es,clock,rfl,hJ,eA hb,hok,rfl,by rw[if_pos (by rw[<-hke'];exact List.mem_map_of_mem (List.getElem_mem hi'))],i,es[i],by simp,hke',rfl⟩)
   have hkb:=hk.bits k
   have hold:(Instr.keyThatStays (Ky.val k) (Ky.val k)).run P w= .ok (Ky.val k) w:=by simp[Instr.keyThatStays,hkb]
   simp[execOp,hx,hy,Instr.mapEntry,b5 ht,cw hb,hk.check,hf,hi',cP,hke',hold,dz hb,goInt]
   rw[hsame]
theorem eG{γ:aG}{J:cH->Prop}{v:Value}{F:K->Int}{D:List K}{s m:Int}{k:K}(hx:ev f x=v)(hm:sq γ J w v F D s k)(hy:ev f y= .int .i64 s)(hz:ev f z= .int .i64 m)
   (hn:∀w',bD J γ w γ w'->Md γ J w' v (λk'=>if k'=k then m else F k') D->N undef w'):fS P ⟨dst,.entryStore t x y z,ty,pos,after,g⟩ f w N:=by
 obtain⟨r,es,clock,rfl,hJ,hb,hok,rfl,rfl,i,e,hie,rfl,rfl⟩:=hm
 have hi':i<es.length:=(List.getElem?_eq_some_iff.1 hie).1
 have hei:es[i]=e:=(List.getElem?_eq_some_iff.1 hie).2
 have hfi:((es.map cP).toArray.findIdx? (λq=>(q.born:Int)==(e.born:Int)))=some i:=by
   rw[List.findIdx?_toArray,List.findIdx?_eq_some_iff_getElem]
   refine⟨by simpa using hi',by simp[cP,hei],λj hj=>?_⟩
   have hj':j<es.length:=by omega
   have hne:es[j].born≠e.born:=λh=>by
     have h1:(es.map (·.born))[j]'(by simpa using hj')=(es.map (·.born))[i]'(by simpa using hi'):=by simp[hei,h]
     have:=(List.getElem_inj hok.born).1 h1
     omega
   simp[cP]
   omega
 have hmod:(es.map cP).modify i (λq=>{q with val:=.int .i64 m})=(es.modify i (λq=>{q with val:=m})).map cP:=by
   apply List.ext_getElem?
   intro j
   rw[List.getElem?_modify,List.getElem?_map,List.getElem?_map,List.getElem?_modify]
   by_cases hij:i=j
   · subst hij;simp[hi',cP]
   · simp[hij]
 have hkeys:(es.modify i (λq=>{q with val:=m})).map (·.key)=es.map (·.key):=by
   apply List.ext_getElem?
   intro j
   rw[List.getElem?_map,List.getElem?_map,List.getElem?_modify]
   by_cases hij:i=j
   · subst hij;simp[hi']
   · simp[hij]
 have hborn:(es.modify i (λq=>{q with val:=m})).map (·.born)=es.map (·.born):=by
   apply List.ext_getElem?
   intro j
   rw[List.getElem?_map,List.getElem?_map,List.getElem?_modify]
   by_cases hij:i=j
   · subst hij;simp[hi']
   · simp[hij]
 refine gO (w':={w with heap:=w.heap.setIfInBounds r (.map ((es.modify i (λq=>{q with val:=m})).map cP).toArray clock)}) ?_
   (hn _ (eM γ _ hJ) ⟨r,es.modify i (λq=>{q with val:=m}),clock,rfl,hJ,eA hb,⟨by rw[hkeys];exact hok.keys,by rw[hborn];exact hok.born,λq hq=>?_⟩,?_,hkeys.symm⟩)
 · simp[execOp,hx,hy,hz,Instr.entryStore,cw hb,asInt,asIntOf,hfi,dz hb]
   rw[<-hmod]
 · have:q.born∈es.map (·.born):=by rw[<-hborn];exact List.mem_map_of_mem hq
   obtain⟨q',hq',he'⟩:=List.mem_map.1 this
   rw[<-he'];exact hok.lt q' hq'
 · funext k'
   -- the entry of k' in the changed list
   have hfind:∀(l:List (db K)),(l.map (·.key)).Nodup->∀j (hj:j<l.length),eI l l[j].key=l[j].val:=by
     intro l hl j hj
     have hf:l.find? (λe=>decide (e.key=l[j].key))=some l[j]:=by
       rw[List.find?_eq_some_iff_getElem]
       refine⟨by simp,j,hj,rfl,λq hq=>?_⟩
       have hne:l[q].key≠l[j].key:=λh=>by
         have h1:(l.map (·.key))[q]'(by simp;omega)=(l.map (·.key))[j]'(by simpa using hj):=by simp[h]
         have:=(List.getElem_inj hl).1 h1
         omega
       simpa using hne
     simp[eI,hf]
   by_cases hkk:k'=e.key
   · subst hkk
     rw[if_pos rfl]
     have h1:=hfind (es.modify i (λq=>{q with val:=m})) (by rw[hkeys];exact hok.keys) i (by simpa using hi')
     simp[List.getElem_modify,hei] at h1
     exact h1.symm
   · rw[if_neg hkk]
     have hfe:(es.modify i (λq=>{q with val:=m})).find? (λe=>decide (e.key=k'))=es.find? (λe=>decide (e.key=k')):=by
       have hgen:∀(l:List (db K)) (i:Nat) (e:db K),l[i]? =some e->k'≠e.key->(l.modify i (λq=>{q with val:=m})).find? (λe=>decide (e.key=k'))=l.find? (λe=>decide (e.key=k')):=by
         intro l
         induction l with
         |nil=>intro i e h;simp at h
         |cons a l ih=>
           intro i e h hne
           cases i with
           |zero=>
             obtain rfl:a=e:=by simpa using h
             have:decide (a.key=k')=false:=by simpa using λh=>hne h.symm
             simp[List.find?_cons,this]
           |succ i=>
             have h':l[i]? =some e:=by simpa using h
             simp only[List.modify_succ_cons,List.find?_cons,ih i e h' hne]
       exact hgen es i e hie hkk
     simp[eI,hfe]
end
end TL
namespace TL
open Go
variable{K:Type}[DecidableEq K][Ky K]
theorem rQ{es:List (db K)}{m:Int}(hn:(es.map (·.key)).Nodup){i:Nat}{e:db K}(hie:es[i]? =some e):eI (es.modify i (λq=>{q with val:=m}))=λk'=>if k'=e.key then m else eI es k':=by
 have hi':i<es.length:=(List.getElem?_eq_some_iff.1 hie).1
 have hei:es[i]=e:=(List.getElem?_eq_some_iff.1 hie).2
 have hkeys:(es.modify i (λq=>{q with val:=m})).map (·.key)=es.map (·.key):=by
   apply List.ext_getElem?
   intro j
   rw[List.getElem?_map,List.getElem?_map,List.getElem?_modify]
   by_cases hij:i=j
   · subst hij;simp[hi']
   · simp[hij]
 funext k'
 have hfind:∀(l:List (db K)),(l.map (·.key)).Nodup->∀j (hj:j<l.length),eI l l[j].key=l[j].val:=by
   intro l hl j hj
   have hf:l.find? (λe=>decide (e.key=l[j].key))=some l[j]:=by
     rw[List.find?_eq_some_iff_getElem]
     refine⟨by simp,j,hj,rfl,λq hq=>?_⟩
     have hne:l[q].key≠l[j].key:=λh=>by
       have h1:(l.map (·.key))[q]'(by simp;omega)=(l.map (·.key))[j]'(by simpa using hj):=by simp[h]
       have:=(List.getElem_inj hl).1 h1
       omega
     simpa using hne
   simp[eI,hf]
 by_cases hkk:k'=e.key
 · subst hkk
   rw[if_pos rfl]
   have h1:=hfind (es.modify i (λq=>{q with val:=m})) (by rw[hkeys];exact hn) i (by simpa using hi')
   simp[List.getElem_modify,hei] at h1
   exact h1
 · rw[if_neg hkk]
   have hfe:(es.modify i (λq=>{q with val:=m})).find? (λe=>decide (e.key=k'))=es.find? (λe=>decide (e.key=k')):=by
     have hgen:∀(l:List (db K)) (i:Nat) (e:db K),l[i]? =some e->k'≠e.key->(l.modify i (λq=>{q with val:=m})).find? (λe=>decide (e.key=k'))=l.find? (λe=>decide (e.key=k')):=by
       intro l
       induction l with
       |nil=>intro i e h;simp at h
       |cons a l ih=>
         intro i e h hne
         cases i with
         |zero=>
           obtain rfl:a=e:=by simpa using h
           have:decide (a.key=k')=false:=by simpa using λh=>hne h.symm
           simp[List.find?_cons,this]
         |succ i=>
           have h':l[i]? =some e:=by simpa using h
           simp only[List.modify_succ_cons,List.find?_cons,ih i e h' hne]
     exact hgen es i e hie hkk
   simp[eI,hfe]
section
variable{P:Program}{f:Fr}{w:World}{dst:Option Tmp}{ty:TypeId}{pos:String}{after:Array Edge}{g:Option (Nat×Bool)}{t:TypeId}{x y z:Operand}{N:Value->World->Prop}
theorem kI{γ:aG}{J:cH->Prop}{v u:Value}{F:K->Int}{D:List K}{kt et:Nat}{m:Int}(k:K)(ht:P.underlying t=some (.map kt et))(hk:n3 P kt K)(hx:ev f x=v)(hm:Md γ J w v F D)(hy:ev f y=u)(hu:u=Ky.val k)(hz:ev f z= .int .i64 m)
   (hn:∀w',bD J γ w γ w'->Md γ J w' v (λk'=>if k'=k then m else F k') (if k∈D then D else D++[k])->N undef w'):fS P ⟨dst,.mapUpdate t x y z,ty,pos,after,g⟩ f w N:=by
 obtain⟨r,es,clock,rfl,hJ,hb,hok,rfl,rfl⟩:=hm
 subst hu
 have hf:=hk.find k (es.map cP) (es.map (·.key)) w (by simp[cP,Function.comp_def])
 rw[iC] at hf
 cases h:(es.map (·.key)).findIdx? (· =k) with
 |none=>
   rw[h] at hf
   have hnk:∀e∈es,e.key≠k:=λe he=>by
     have:=List.findIdx?_eq_none_iff.1 h (e.key) (List.mem_map_of_mem he)
     simpa using this
   have hnD:k∉es.map (·.key):=λhmm=>by obtain⟨e,he,hke⟩:=List.mem_map.1 hmm;exact hnk e he hke
   refine gO (w':={w with heap:=w.heap.setIfInBounds r (.map ((es++[(⟨k,m,clock⟩:db K)]).map cP).toArray (clock+1))}) ?_
     (hn _ (eM γ _ hJ) ⟨r,es++[⟨k,m,clock⟩],clock+1,rfl,hJ,eA hb,⟨?_,?_,?_⟩,?_,by rw[if_neg hnD];simp⟩)
   · simp[execOp,hx,hy,hz,Instr.mapUpdate,b5 ht,cw hb,hk.check,hf,dz hb,cP]
   · rw[List.map_append,List.nodup_append]
     refine⟨hok.keys,by simp,λa ha b hb=>?_⟩
     have:b=k:=by simpa using hb
     subst this;intro e;subst e;exact hnD ha
   · rw[List.map_append,List.nodup_append]
     refine⟨hok.born,by simp,λa ha b hb=>?_⟩
     obtain⟨e,he,rfl⟩:=List.mem_map.1 ha
     have:b=clock:=by simpa using hb
     subst this;exact Nat.ne_of_lt (hok.lt e he)
   · intro e he
     rcases List.mem_append.1 he with h|h
     · exact Nat.lt_succ_of_lt (hok.lt e h)
     · obtain rfl:=List.mem_singleton.1 h;exact Nat.lt_succ_self _
   · funext k'
     simp only[eI,List.find?_append]
     by_cases hkk:k'=k
     · subst hkk
       have hn:es.find? (λe=>decide (e.key=k'))=none:=by
         rw[List.find?_eq_none]
         intro e he
         simpa using hnk e he
       simp[hn]
     · have hkk':¬k=k':=λe=>hkk e.symm
       rw[if_neg hkk]
       cases es.find? (λe=>decide (e.key=k'))<;>simp[hkk']
 |some i=>
   rw[h] at hf
   obtain⟨hil,hke,_⟩:=List.findIdx?_eq_some_iff_getElem.1 h
   have hi':i<es.length:=by simpa using hil
   have hke':es[i].key=k:=by simpa using hke
   have hmod:(es.map cP).modify i (λq=>{q with key:=Ky.val k,val:=.int .i64 m})=(es.modify i (λq=>{q with val:=m})).map cP:=by
     apply List.ext_getElem?
     intro j
     rw[List.getElem?_modify,List.getElem?_map,List.getElem?_map,List.getElem?_modify]
     by_cases hij:i=j
     · subst hij;simp[hi',cP,hke']
     · simp[hij]
   have hkeys:(es.modify i (λq=>{q with val:=m})).map (·.key)=es.map (·.key):=by
     apply List.ext_getElem?
     intro j
     rw[List.getElem?_map,List.getElem?_map,List.getElem?_modify]
     by_cases hij:i=j
     · subst hij;simp[hi']
     · simp[hij]
   have hborn:(es.modify i (λq=>{q with val:=m})).map (·.born)=es.map (·.born):=by
     apply List.ext_getElem?
     intro j
     rw[List.getElem?_map,List.getElem?_map,List.getElem?_modify]
     by_cases hij:i=j
     · subst hij;simp[hi']
     · simp[hij]
   have hkb:=hk.bits k
   have hold:(Instr.keyThatStays (Ky.val k) (Ky.val k)).run P w= .ok (Ky.val k) w:=by simp[Instr.keyThatStays,hkb]
   refine gO (w':={w with heap:=w.heap.setIfInBounds r (.map ((es.modify i (λq=>{q with val:=m})).map cP).toArray clock)}) ?_
     (hn _ (eM γ _ hJ) ⟨r,es.modify i (λq=>{q with val:=m}),clock,rfl,hJ,eA hb,⟨by rw[hkeys];exact hok.keys,by rw[hborn];exact hok.born,λq hq=>?_⟩,?_,by rw[if_pos (by rw[<-hke'];exact List.mem_map_of_mem (List.getElem_mem hi')),hkeys]⟩)
   · simp[execOp,hx,hy,hz,Instr.mapUpdate,b5 ht,cw hb,hk.check,hf,hi',cP,hke',hold,dz hb]
     rw[<-hmod]
   · have:q.born∈es.map (·.born):=by rw[<-hborn];exact List.mem_map_of_mem hq
     obtain⟨q',hq',he'⟩:=List.mem_map.1 this
     rw[<-he'];exact hok.lt q' hq'
   · rw[rQ hok.keys (e:=es[i]) (by simp),hke']
end
end TL
/-
  TlShort: short names for the commonest steps (used by packed claims only).
  By an AI agent.
-/
set_option linter.all false
namespace TL
open Go
abbrev vi(x:Int):Value:=Value.int .i64 x
abbrev vp(b o:Nat):Value:=Value.pointer (some ⟨b,o,none⟩)
abbrev vn:Value:=Value.slice none 0 0
abbrev vt(l:List Value):Value:=Value.tuple (List.toArray l)
abbrev vg(l:List Value):Value:=Value.agg (List.toArray l)
theorem cg(L:List Nat){γ γ':aG}{w w':World}(h:bD (inl L) γ w γ' w'):bD (inl L) γ w γ' w':=h
theorem dt{p:Prop}[Decidable p](h:p):decide p=true:=decide_eq_true h
theorem df{p:Prop}[Decidable p](h:¬p):decide p=false:=decide_eq_false h
section
variable{P:Program}{all rest:List Oper}{K:Fr->World->Prop}{f:Fr}{w w':World}{x:Operand}
variable{dst:Option Tmp}{op:Op}{ty:TypeId}{pos:String}{after:Array Edge}{g:Option (Nat×Bool)}{o:Oper}
theorem lv(v:Value)(hw:dm all ⟨dst,op,ty,pos,after,g⟩ f=true)(h:(execOp (ev f) ⟨dst,op,ty,pos,after,g⟩).run P w= .ok (.value v) w')(hk:jQ P all rest K (gK f dst v) w'):jQ P all (⟨dst,op,ty,pos,after,g⟩::rest) K f w:=lN hw h hk
theorem lx{v:Value}(h:(execOp (ev f) ⟨dst,op,ty,pos,after,none⟩).run P w= .ok (.value v) w')(hk:jQ P all rest K (gK f dst v) w'):jQ P all (⟨dst,op,ty,pos,after,none⟩::rest) K f w:=lN rfl h hk
theorem lw(v:Value)(h:(execOp (ev f) ⟨dst,op,ty,pos,after,none⟩).run P w= .ok (.value v) w')(hk:jQ P all rest K (gK f dst v) w'):jQ P all (⟨dst,op,ty,pos,after,none⟩::rest) K f w:=lN rfl h hk
theorem mv(v:Value)(hk:jQ P all rest K (gK f dst v) w)(h:ev f x=v:=by exact rfl):jQ P all (⟨dst,.move x,ty,pos,after,none⟩::rest) K f w:=lN rfl (au h) hk
theorem ma(v:Value)(hk:jQ P all rest K (gK f dst v) w)(h:ev f x=v:=by exact rfl):jQ P all (⟨dst,.assign x,ty,pos,after,none⟩::rest) K f w:=lN rfl (cE h) hk
theorem mi(v:Int)(hk:jQ P all rest K (gK f dst (.int .i64 v)) w)(h:ev f x= .int .i64 v:=by exact rfl):jQ P all (⟨dst,.move x,ty,pos,after,none⟩::rest) K f w:=lN rfl (au h) hk
theorem ai(v:Int)(hk:jQ P all rest K (gK f dst (.int .i64 v)) w)(h:ev f x= .int .i64 v:=by exact rfl):jQ P all (⟨dst,.assign x,ty,pos,after,none⟩::rest) K f w:=lN rfl (cE h) hk
theorem mz{v:Value}(h:ev f x=v)(hk:jQ P all rest K (gK f dst v) w):jQ P all (⟨dst,.move x,ty,pos,after,none⟩::rest) K f w:=lN rfl (au h) hk
theorem lo(h:fS P ⟨dst,op,ty,pos,after,none⟩ f w (λv w'=>jQ P all rest K (gK f dst v) w')):jQ P all (⟨dst,op,ty,pos,after,none⟩::rest) K f w:=cB rfl h
theorem wy{j:Nat}{x:Bool}{d:Nat}{b:Bool}(hx:b=x)(hg:o.guard=some (j,x):=by exact rfl)(hj:(all[j]?).bind (·.dst)=some d:=by exact rfl)(hb:f d= .bool b:=by exact rfl):dm all o f=true:=Cs hg hj hb hx
theorem wn{j:Nat}{x:Bool}{d:Nat}{b:Bool}(hx:b= !x)(hg:o.guard=some (j,x):=by exact rfl)(hj:(all[j]?).bind (·.dst)=some d:=by exact rfl)(hb:f d= .bool b:=by exact rfl):dm all o f=false:=C6 hg hj hb hx
variable{C:World->Prop}{KQ:Fr->Prop}
theorem qv(v:Value)(h:∀w,C w->(execOp (ev f) ⟨dst,op,ty,pos,after,none⟩).run P w= .ok (.value v) w)(hk:mw P all C rest KQ (gK f dst v)):mw P all C (⟨dst,op,ty,pos,after,none⟩::rest) KQ f:=di rfl h hk
theorem qx{v:Value}(h:∀w,C w->(execOp (ev f) ⟨dst,op,ty,pos,after,none⟩).run P w= .ok (.value v) w)(hk:mw P all C rest KQ (gK f dst v)):mw P all C (⟨dst,op,ty,pos,after,none⟩::rest) KQ f:=di rfl h hk
theorem qm(v:Value)(hk:mw P all C rest KQ (gK f dst v))(h:ev f x=v:=by exact rfl):mw P all C (⟨dst,.move x,ty,pos,after,none⟩::rest) KQ f:=di rfl (λ_ _=>au h) hk
theorem qz{v:Value}(h:ev f x=v)(hk:mw P all C rest KQ (gK f dst v)):mw P all C (⟨dst,.move x,ty,pos,after,none⟩::rest) KQ f:=di rfl (λ_ _=>au h) hk
end
section
variable{P:Program}{n:Nat}{l:List Oper}{S:World->Prop}{K:Fr->World->Prop}{f:Fr}{w:World}{done:List Nat}{fuel:Nat}{qs:List Nat}
variable{dst:Option Tmp}{op:Op}{ty:TypeId}{pos:String}{after:Array Edge}{g:Option (Nat×Bool)}{v:Value}
theorem ht(i:Nat)(hi:l[i]? =some ⟨dst,op,ty,pos,after,none⟩)(hS:S w)(h:∀w,S w->(execOp (ev f) ⟨dst,op,ty,pos,after,none⟩).run P w= .ok (.value v) w)(hk:vW P n l S K fuel (i::done) (gK f dst v) w)(hn:i8 l=true:=by kernel_rfl)(hc:(gN l done i&&jc l done i&&lV n ⟨dst,op,ty,pos,after,none⟩)=true:=by kernel_rfl):vW P n l S K (fuel+1) done f w:=Ch i hi hn hc rfl hS h hk
theorem xv(i:Nat)(M:List Nat)(hi:l[i]? =some ⟨dst,op,ty,pos,after,none⟩)(h:(execOp (ev f) ⟨dst,op,ty,pos,after,none⟩).run P w= .ok (.value v) w)(hk:kh P n l qs K fuel (i::done) (gK f dst v) w)(hn:i8 l=true:=by kernel_rfl)(hc:(qs.contains i&&gN l done i&&jc l done i&&pw l qs done M i&&lV n ⟨dst,op,ty,pos,after,none⟩)=true:=by kernel_rfl):kh P n l qs K (fuel+1) done f w:=dV i M hi hn hc rfl h hk
theorem xh(i:Nat)(M:List Nat)(hi:l[i]? =some ⟨dst,op,ty,pos,after,none⟩)(h:∀w',ep w.heap.size w w'->(execOp (ev f) ⟨dst,op,ty,pos,after,none⟩).run P w'= .ok (.value v) w')(hk:kh P n l qs K fuel (i::done) (gK f dst v) w)(hn:i8 l=true:=by kernel_rfl)(hc:(qs.contains i&&gN l done i&&jc l done i&&qe l qs done M i&&lV n ⟨dst,op,ty,pos,after,none⟩)=true:=by kernel_rfl):kh P n l qs K (fuel+1) done f w:=BZ i M hi hn hc rfl h hk
theorem xp(i:Nat)(hi:l[i]? =some ⟨dst,op,ty,pos,after,none⟩)(h:∀w,(execOp (ev f) ⟨dst,op,ty,pos,after,none⟩).run P w= .ok (.value v) w)(hk:kh P n l qs K fuel (i::done) (gK f dst v) w)(hn:i8 l=true:=by kernel_rfl)(hc:(qs.contains i&&gN l done i&&jc l done i&&lV n ⟨dst,op,ty,pos,after,none⟩)=true:=by kernel_rfl):kh P n l qs K (fuel+1) done f w:=bZ i hi hn hc rfl h hk
end
section
variable{γ γ':aG}{w w':World}{v:Value}{j k:Nat}{L:List Nat}
theorem bn.ca{w0:World}(h:bn w0 γ w)(hc:bD (inl L) γ w γ' w')(hj:L.contains 0=false:=by exact rfl):bn w0 γ' w':=h.chg hc (cN hj)
theorem bn.ce{w0:World}(h:bn w0 γ w)(hc:bD (is k) γ w γ' w')(hj:Nat.beq 0 k=false:=by exact rfl):bn w0 γ' w':=h.chg hc (eZ hj)
theorem bn.cn{w0:World}(h:bn w0 γ w)(hc:bD no γ w γ' w'):bn w0 γ' w':=h.chg hc (dp _)
theorem Bx.ca{b:Nat}{cs:List Value}(h:Bx γ (is j) w b cs)(hc:bD (inl L) γ w γ' w')(hj:L.contains j=false:=by exact rfl):Bx γ' (is j) w' b cs:=h.chg hc (cN hj)
theorem Bx.ce{b:Nat}{cs:List Value}(h:Bx γ (is j) w b cs)(hc:bD (is k) γ w γ' w')(hj:Nat.beq j k=false:=by exact rfl):Bx γ' (is j) w' b cs:=h.chg hc (eZ hj)
theorem Bx.cn{J:cH->Prop}{b:Nat}{cs:List Value}(h:Bx γ J w b cs)(hc:bD no γ w γ' w'):Bx γ' J w' b cs:=h.chg hc (dp _)
theorem Sl.ca{α:Type}[Rp α]{xs:List α}(h:Sl γ (is j) w v xs)(hc:bD (inl L) γ w γ' w')(hj:L.contains j=false:=by exact rfl):Sl γ' (is j) w' v xs:=h.chg hc (cN hj)
theorem Sl.ce{α:Type}[Rp α]{xs:List α}(h:Sl γ (is j) w v xs)(hc:bD (is k) γ w γ' w')(hj:Nat.beq j k=false:=by exact rfl):Sl γ' (is j) w' v xs:=h.chg hc (eZ hj)
theorem Sl.cn{α:Type}[Rp α]{S:cH->Prop}{xs:List α}(h:Sl γ S w v xs)(hc:bD no γ w γ' w'):Sl γ' S w' v xs:=h.chg hc (dp _)
theorem Ow.ca{α:Type}[Rp α]{xs:List α}(h:Ow γ (is j) (is j) w v xs)(hc:bD (inl L) γ w γ' w')(hj:L.contains j=false:=by exact rfl):Ow γ' (is j) (is j) w' v xs:=h.chg hc (cN hj) (cN hj)
theorem Ow.ce{α:Type}[Rp α]{xs:List α}(h:Ow γ (is j) (is j) w v xs)(hc:bD (is k) γ w γ' w')(hj:Nat.beq j k=false:=by exact rfl):Ow γ' (is j) (is j) w' v xs:=h.chg hc (eZ hj) (eZ hj)
theorem Ow.cn{α:Type}[Rp α]{J S:cH->Prop}{xs:List α}(h:Ow γ J S w v xs)(hc:bD no γ w γ' w'):Ow γ' J S w' v xs:=h.chg hc (dp _) (dp _)
theorem cY.ca{α:Type}[Rp α]{xs:List (List α)}(h:cY γ j w v xs)(hc:bD (inl L) γ w γ' w')(hj:L.contains j=false:=by exact rfl):cY γ' j w' v xs:=h.chg hc (cN hj)
theorem cY.ce{α:Type}[Rp α]{xs:List (List α)}(h:cY γ j w v xs)(hc:bD (is k) γ w γ' w')(hj:Nat.beq j k=false:=by exact rfl):cY γ' j w' v xs:=h.chg hc (eZ hj)
theorem cY.cn{α:Type}[Rp α]{xs:List (List α)}(h:cY γ j w v xs)(hc:bD no γ w γ' w'):cY γ' j w' v xs:=h.chg hc (dp _)
theorem gV.ca{α:Type}[Rp α]{h0:Nat}{xs:List (List α)}(h:gV γ j h0 w v xs)(hc:bD (inl L) γ w γ' w')(hj:L.contains j=false:=by exact rfl):gV γ' j h0 w' v xs:=h.chg hc (cN hj)
theorem gV.ce{α:Type}[Rp α]{h0:Nat}{xs:List (List α)}(h:gV γ j h0 w v xs)(hc:bD (is k) γ w γ' w')(hj:Nat.beq j k=false:=by exact rfl):gV γ' j h0 w' v xs:=h.chg hc (eZ hj)
theorem gV.cn{α:Type}[Rp α]{h0:Nat}{xs:List (List α)}(h:gV γ j h0 w v xs)(hc:bD no γ w γ' w'):gV γ' j h0 w' v xs:=h.chg hc (dp _)
def Dv(δ g:aG)(w:World)(ren:Nat->Nat):Prop:=(∀{α:Type} [Rp α] {i:Nat} {v:Value} {xs:List α},Ow δ (is i) (is i) w v xs->∀k:Nat,Nat.beq i 0=false->ren i=k->Ow g (is k) (is k) w v xs)/\(∀{α:Type} [Rp α] {i:Nat} {v:Value} {xs:List (List α)},cY δ i w v xs->∀k:Nat,Nat.beq i 0=false->ren i=k->cY g k w v xs)
theorem ia{δ:aG}(γ:aG)(fr:eB w δ w')(ren:Nat->Nat):∃g,bD no γ w g w'/\Dv δ g w' ren:=
 ⟨_,wi fr.below γ δ ren,λh k hi hr=>h.glue fr.col hi hr,λh k hi hr=>h.glue fr.col hi hr⟩
theorem Ow.gl{α:Type}[Rp α]{δ g:aG}{ren:Nat->Nat}{i:Nat}{xs:List α}(h:Ow δ (is i) (is i) w v xs)(G:Dv δ g w ren)(k:Nat)(hi:Nat.beq i 0=false:=by exact rfl)(hr:ren i=k:=by exact rfl):Ow g (is k) (is k) w v xs:=G.1 h k hi hr
theorem cY.gl{α:Type}[Rp α]{δ g:aG}{ren:Nat->Nat}{i:Nat}{xs:List (List α)}(h:cY δ i w v xs)(G:Dv δ g w ren)(k:Nat)(hi:Nat.beq i 0=false:=by exact rfl)(hr:ren i=k:=by exact rfl):cY g k w v xs:=G.2 h k hi hr
end
section
variable{K:Type}[DecidableEq K][Ky K]
theorem Md.ca{γ γ':aG}{j:Nat}{L:List Nat}{w w':World}{v:Value}{F:K->Int}{D:List K}(h:Md γ (is j) w v F D)(hc:bD (inl L) γ w γ' w')(hj:L.contains j=false:=by exact rfl):Md γ' (is j) w' v F D:=h.chg hc (cN hj)
theorem Md.ce{γ γ':aG}{j k:Nat}{w w':World}{v:Value}{F:K->Int}{D:List K}(h:Md γ (is j) w v F D)(hc:bD (is k) γ w γ' w')(hj:Nat.beq j k=false:=by exact rfl):Md γ' (is j) w' v F D:=h.chg hc (eZ hj)
theorem Md.cn{γ γ':aG}{J:cH->Prop}{w w':World}{v:Value}{F:K->Int}{D:List K}(h:Md γ J w v F D)(hc:bD no γ w γ' w'):Md γ' J w' v F D:=h.chg hc (dp _)
theorem sq.ca{γ γ':aG}{j:Nat}{L:List Nat}{w w':World}{v:Value}{F:K->Int}{D:List K}{s:Int}{k:K}(h:sq γ (is j) w v F D s k)(hc:bD (inl L) γ w γ' w')(hj:L.contains j=false:=by exact rfl):sq γ' (is j) w' v F D s k:=h.chg hc (cN hj)
theorem sq.ce{γ γ':aG}{j q:Nat}{w w':World}{v:Value}{F:K->Int}{D:List K}{s:Int}{k:K}(h:sq γ (is j) w v F D s k)(hc:bD (is q) γ w γ' w')(hj:Nat.beq j q=false:=by exact rfl):sq γ' (is j) w' v F D s k:=h.chg hc (eZ hj)
theorem sq.cn{γ γ':aG}{J:cH->Prop}{w w':World}{v:Value}{F:K->Int}{D:List K}{s:Int}{k:K}(h:sq γ J w v F D s k)(hc:bD no γ w γ' w'):sq γ' J w' v F D s k:=h.chg hc (dp _)
theorem Mp.ca{γ γ':aG}{j:Nat}{L:List Nat}{w w':World}{v:Value}{F:K->Int}(h:Mp γ (is j) w v F)(hc:bD (inl L) γ w γ' w')(hj:L.contains j=false:=by exact rfl):Mp γ' (is j) w' v F:=h.chg hc (cN hj)
theorem Mp.ce{γ γ':aG}{j k:Nat}{w w':World}{v:Value}{F:K->Int}(h:Mp γ (is j) w v F)(hc:bD (is k) γ w γ' w')(hj:Nat.beq j k=false:=by exact rfl):Mp γ' (is j) w' v F:=h.chg hc (eZ hj)
theorem Mp.cn{γ γ':aG}{J:cH->Prop}{w w':World}{v:Value}{F:K->Int}(h:Mp γ J w v F)(hc:bD no γ w γ' w'):Mp γ' J w' v F:=h.chg hc (dp _)
theorem su.ca{γ γ':aG}{j:Nat}{L:List Nat}{w w':World}{v:Value}{F:K->Int}{s:Int}{k:K}(h:su γ (is j) w v F s k)(hc:bD (inl L) γ w γ' w')(hj:L.contains j=false:=by exact rfl):su γ' (is j) w' v F s k:=h.chg hc (cN hj)
theorem su.ce{γ γ':aG}{j q:Nat}{w w':World}{v:Value}{F:K->Int}{s:Int}{k:K}(h:su γ (is j) w v F s k)(hc:bD (is q) γ w γ' w')(hj:Nat.beq j q=false:=by exact rfl):su γ' (is j) w' v F s k:=h.chg hc (eZ hj)
theorem su.cn{γ γ':aG}{J:cH->Prop}{w w':World}{v:Value}{F:K->Int}{s:Int}{k:K}(h:su γ J w v F s k)(hc:bD no γ w γ' w'):su γ' J w' v F s k:=h.chg hc (dp _)
end
end TL
/-
  TlFace: half-edges' next ones, faces.
  By an AI agent.
-/
set_option linter.all false
namespace TL
end TL
namespace TL
structure e9(out:List (List Int))(g:bz)(k:Nat):Prop where
  len:(out.length:Int)=g.1
  at_:∀v,0<=v->v<g.1->gI out v=iY g v k
theorem e9.start{g:bz}(h:0<=g.1):e9 (List.replicate g.1.toNat []) g 0:=⟨by simp;omega,λv h0 h1=>by rw[fM h0 (by omega)];simp[iY]⟩
theorem e9.next{out:List (List Int)}{g:bz}{k:Nat}(h:e9 out g k)(h1:0<=(gI g.2 k).1)(h2:(gI g.2 k).1<g.1)(h3:0<=(gI g.2 k).2)(h4:(gI g.2 k).2<g.1){a b:Int}(ha:a=2*(k:Int))(hb:b=2*(k:Int)+1):
   e9 ((out.set (gI g.2 k).1.toNat (gI out (gI g.2 k).1++[a])).set (gI g.2 k).2.toNat (gI (out.set (gI g.2 k).1.toNat (gI out (gI g.2 k).1++[a])) (gI g.2 k).2++[b])) g (k+1):=by
 have hl:=h.len
 refine⟨by simpa using hl,λv h5 h6=>?_⟩
 rw[bT h3 (by simp;omega) h5,bT h1 (by omega) h3,bT h1 (by omega) h5,sK,h.at_ _ h1 h2,h.at_ _ h3 h4,h.at_ v h5 h6,ha,hb]
 by_cases e2:v=(gI g.2 (k:Int)).2
 · by_cases e1:v=(gI g.2 (k:Int)).1
   · rw[<-e1,<-e2];simp
   · have e3:¬(gI g.2 (k:Int)).2=(gI g.2 (k:Int)).1:=λh=>e1 (e2.trans h)
     have e6:¬(gI g.2 (k:Int)).1=(gI g.2 (k:Int)).2:=λh=>e3 h.symm
     simp[e2,e3,e6]
 · have e4:¬(gI g.2 (k:Int)).2=v:=λh=>e2 h.symm
   by_cases e1:v=(gI g.2 (k:Int)).1
   · rw[if_neg e2,if_pos e1,if_neg e4,if_pos e1.symm,<-e1];simp
   · have e5:¬(gI g.2 (k:Int)).1=v:=λh=>e1 h.symm
     rw[if_neg e2,if_neg e1,if_neg e4,if_neg e5];simp
end TL
namespace TL
end TL
