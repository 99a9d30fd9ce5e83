/- Plain texts of this claim, part 1. By an AI agent. -/
import Derived.Test.YtkhfimgjcdeejaaTlP0
import Derived.Laws.StructEq
import Derived.OrdersHeld
/-
  TlDraw: regions that draw their order, taken operation by operation.
  By an AI agent.
-/
set_option linter.all false
namespace TL
open Go
def c8(n:Nat)(done:List Nat):Array Bool:=((List.range n).map λi=>decide (i∈done)).toArray
theorem cC(n:Nat)(done:List Nat)(j:Nat)(d:Bool):(c8 n done).getD j d=if j<n then decide (j∈done) else d:=by
 unfold c8
 by_cases h:j<n
 · simp[h]
 · simp[h]
theorem dh{n i:Nat}(done:List Nat)(hi:i<n):(c8 n done).setIfInBounds i true=c8 n (i::done):=by
 apply Array.ext
 · simp[c8]
 · intro j h1 h2
   have hj:j<n:=by simpa[c8] using h2
   simp only[c8]
   by_cases hij:i=j
   · subst hij;simp
   · have:¬j=i:=λh=>hij h.symm
     simp[Array.getElem_setIfInBounds,hij,this]
section
variable{P:Program}{ops:Array Oper}{Q:Exit->Act->World->Prop}{md:Region.Mode}{qs:Nat->Bool}
def kU(P:Program)(md:Region.Mode)(ops:Array Oper)(qs:Nat->Bool)(Q:Exit->Act->World->Prop):Nat->Array Bool->Act->World->Prop
  |0,listed,a,w=>Region.ready md ops listed=[]/\Q .normal a w
  |fuel+1,listed,a,w=>(Region.ready md ops listed=[]->Q .normal a w)/\
    ∀i∈Region.ready md ops listed,if qs i then stOp P ops w i (λa'=>kU P md ops qs Q fuel (listed.setIfInBounds i true) a' w) a
      else wpOp P ops Q i (kU P md ops qs Q fuel (listed.setIfInBounds i true)) a w
theorem fL:∀(fuel:Nat) (listed:Array Bool) (a:Act) (w:World),kU P md ops qs Q fuel listed a w->wpAny P md ops Q fuel listed a w
 |0,_,_,_,h=>h
 |fuel+1,listed,a,w,h=>by
   refine⟨h.1,λi hi=>?_⟩
   have h2:=h.2 i hi
   cases hq:qs i with
   |true=>
     simp only[hq,if_true] at h2
     exact wpOp_of_stOp (λa' h'=>fL fuel _ a' w h') h2
   |false=>
     simp only[hq,Bool.false_eq_true,if_false] at h2
     exact wpOp_mono (λa' w' h'=>fL fuel _ a' w' h') h2
theorem og{i:Nat}{oi:Oper}{v:Value}{w:World}{M D:Array Bool}(hi:ops[i]? =some oi)(hsel:∀(j:Nat) (o:Oper) cs b,ops[j]? =some o->o.op≠ .select cs b)(hqi:qs i=true)
    (hM:∀j oj,ops[j]? =some oj->M.getD j false=false->j≠i->∃e∈oj.after,Region.binds md e=true/\M.getD e.on false=false)
    (hMq:∀j oj,ops[j]? =some oj->M.getD j false=true->D.getD j true=false->j≠i->qs j=true):
    ∀(fuel:Nat) (listed:Array Bool) (a:Act),listed.size=ops.size->(∀j,listed.getD j false=true->M.getD j false=true)->(∀j,listed.getD j true=false->D.getD j true=false)->
      (∀j oj,ops[j]? =some oj->j≠i->listed.getD j true=false->(∀e∈oj.after,Region.binds md e=true->e.on≠i)->oi.apart ops oj=true)->
      i∈Region.ready md ops listed->YieldsAt P ops w oi v a->
      kU P md ops qs Q fuel (listed.setIfInBounds i true) (a.put oi.dst v) w->kU P md ops qs Q (fuel+1) listed a w:=by
  intro fuel
  induction fuel with
  |zero=>
    intro listed a _ _ _ _ hr hy H
    refine⟨λh=>(by rw[h] at hr;cases hr),λj hj=>?_⟩
    by_cases hji:j=i
    · subst hji;rw[if_pos hqi];exact hy.stOp hi H
    · have:=ready_mono hj hji
      rw[H.1] at this
      cases this
  |succ fuel ih=>
    intro listed a hsz hsub hD hfree hr hy H
    refine⟨λh=>(by rw[h] at hr;cases hr),λj hj=>?_⟩
    by_cases hji:j=i
    · subst hji;rw[if_pos hqi];exact hy.stOp hi H
    · obtain⟨hjun,oj,hoj,hall⟩:=mem_ready.1 hj
      have hMj:M.getD j false=true:=by
        cases hm:M.getD j false with
        |true=>rfl
        |false=>
          obtain⟨e,he,hb,hn⟩:=hM j oj hoj hm hji
          have:=hsub _ (hall e he hb)
          rw[hn] at this;cases this
      have hqj:=hMq j oj hoj hMj (hD j hjun) hji
      have h1:=H.2 j (ready_mono hj hji)
      rw[if_pos hqj] at h1 ⊢
      have hnot:∀e∈oj.after,Region.binds md e=true->e.on≠i:=λe he hb heq=>by
        have h1:=hall e he hb
        have h0:=(mem_ready.1 hr).1
        rw[heq] at h1
        rw[getD_both h0] at h1
        cases h1
      have h2:=stOp_put hoj (hfree j oj hoj hji hjun hnot) (λcs b=>hsel i oi cs b hi) (λcs b=>hsel j oj cs b hoj) hy h1
      have hfree':∀k ok,ops[k]? =some ok->k≠i->(listed.setIfInBounds j true).getD k true=false->
          (∀e∈ok.after,Region.binds md e=true->e.on≠i)->oi.apart ops ok=true:=λk ok hk hki hun hno=>by
        refine hfree k ok hk hki ?_ hno
        by_cases hjk:j=k
        · subst hjk;exact hjun
        · rw[getD_set_ne true hjk] at hun;exact hun
      have hsub':∀k,(listed.setIfInBounds j true).getD k false=true->M.getD k false=true:=λk hk=>by
        by_cases hjk:j=k
        · subst hjk;exact hMj
        · rw[getD_set_ne false hjk] at hk;exact hsub k hk
      have hD':∀k,(listed.setIfInBounds j true).getD k true=false->D.getD k true=false:=λk hk=>by
        by_cases hjk:j=k
        · subst hjk;exact hD j hjun
        · rw[getD_set_ne true hjk] at hk;exact hD k hk
      refine stOp_mono (λa' h3=>ih (listed.setIfInBounds j true) a' (by simpa using hsz) hsub' hD' hfree' (ready_mono hr (Ne.symm hji)) h3.1 ?_) h2
      rw[Array.setIfInBounds_comm _ _ hji]
      exact h3.2
def aH{α:Type}(s:Sem α):Prop:=∀(P:Program) (w:World) (x:α) (w':World),s.run P w= .ok x w'->cW w.heap.size w w'
theorem aH.bind{α β:Type}{s:Sem α}{f:α->Sem β}(h:aH s)(hf:∀a,aH (f a)):aH (s>>=f):=by
 intro P w x w' hr
 rw[Sem.run_bind] at hr
 cases h1:s.run P w with
 |halt e w1=>rw[h1] at hr;cases hr
 |ok a w1=>
   rw[h1] at hr
   have k1:=h P w a w1 h1
   have k2:=hf a P w1 x w' hr
   exact k1.trans (k2.mono k1.size)
theorem aH.pure{α:Type}(a:α):aH (Pure.pure a:Sem α):=λP w x w' h=>by
 simp only[Sem.run_pure] at h
 cases h;exact cW.refl _ _
theorem aH.halt{α:Type}(e:Halt):aH (Sem.halt e:Sem α):=λP w x w' h=>by cases h
theorem aH.stuck{α:Type}(e:String):aH (Go.stuck e:Sem α):=aH.halt _
theorem aH.unsupported{α:Type}(e:Unsupported):aH (Go.unsupported e:Sem α):=aH.halt _
theorem aH.program:aH Go.program:=λP w x w' h=>by
 simp only[run_program] at h
 cases h;exact cW.refl _ _
theorem aH.new(o:Obj):aH (newObj o):=λP w x w' h=>by
 simp only[run_newObj] at h
 cases h
 exact(cW.refl _ w).alloc (Nat.le_refl _) o
theorem aH.typeInfo(t:TypeId):aH (Go.typeInfo t):=aH.bind aH.program λp=>by
 cases p.info? t with
 |some i=>exact aH.pure i
 |none=>exact aH.stuck _
theorem aH.underlying(t:TypeId):aH (Go.underlying t):=aH.bind aH.program λp=>by
 cases p.underlying t with
 |some i=>exact aH.pure i
 |none=>exact aH.stuck _
theorem aH.sizeOf(t:TypeId):aH (Go.sizeOf t):=aH.bind (aH.typeInfo t) λi=>aH.pure _
theorem aH.zeroValue(t:TypeId):aH (Go.zeroValue t):=aH.bind (aH.typeInfo t) λi=>by
 cases i.zero with
 |some v=>exact aH.pure v
 |none=>exact aH.unsupported _
theorem aH.newVar(t:TypeId)(v:Value):aH (Go.newVar t v):=aH.bind (aH.new _) λ_=>aH.pure _
theorem jz(t:TypeId)(len:Nat)(parts:Array (Nat×Value)):aH (Instr.buildSlice t len parts):=by
 unfold Instr.buildSlice
 refine aH.bind (aH.underlying t) λd=>?_
 split
 · refine aH.bind (aH.sizeOf _) λsize=>?_
   have tail:∀(elem:TypeId) (zero:Array Value),aH (match Instr.fill (λi=>some (i*size,size)) ((Array.range (len*size)).map (zero[· %zero.size]!)) parts.toList with
       |some cells=>(do pure (Value.slice (some (<-newRow elem cells)) len len):Sem Value)
       |_=>Go.stuck "buildSlice: a part of the wrong size"):=λelem zero=>by
     split
     · exact aH.bind (aH.bind (aH.new _) λ_=>aH.pure _) λ_=>aH.pure _
     · exact aH.stuck _
   by_cases h1:len*size>2^24
   · simp only[h1,if_true]
     refine aH.bind (aH.unsupported _) λx=>?_
     by_cases h2:len*size=0
     · rw[if_pos h2]
       exact aH.bind (aH.pure _) λzero=>tail _ zero
     · simp only[h2,if_false]
       exact aH.bind (aH.zeroValue _) λ_=>aH.bind (aH.pure _) λzero=>tail _ zero
   · simp only[h1,if_false]
     by_cases h2:len*size=0
     · rw[if_pos h2]
       exact aH.bind (aH.pure _) λzero=>tail _ zero
     · simp only[h2,if_false]
       exact aH.bind (aH.zeroValue _) λ_=>aH.bind (aH.pure _) λzero=>tail _ zero
 · exact aH.stuck _
theorem jg{P:Program}{w w':World}{s:Sem Value}{nx:Next}(h:(do pure (Next.value (<-s)):Sem Next).run P w= .ok nx w'):∃u,nx= .value u:=by
 rw[Sem.run_bind] at h
 cases hs:s.run P w with
 |ok a w1=>rw[hs] at h;cases h;exact⟨a,rfl⟩
 |halt e w1=>rw[hs] at h;cases h
theorem aH.load(a:Addr)(m:Mode):aH (Go.load a m):=λP w x w' h=>by
 simp only[Go.load,Sem.run] at h
 split at h
 · cases h;exact cW.refl _ _
 · split at h
   · cases h;exact cW.refl _ _
   · cases h
theorem aH.cells(a:Addr):∀(n i:Nat) (acc:Array Value),aH (loadCellsFrom a i n acc)
 |0,_,_=>aH.pure _
 |n+1,i,_=>aH.bind (aH.load _ _) λ_=>aH.cells a n (i+1) _
theorem aH.isAgg(t:TypeId):aH (Go.isAgg t):=aH.bind (aH.underlying t) λd=>by
 split<;>exact aH.pure _
theorem aH.error{α:Type}(m:String):aH (runtimePanic (.error m):Sem α):=aH.bind aH.program λp=>aH.halt _
theorem aH.asIntOf(v:Value):aH (Go.asIntOf v):=by
 unfold Go.asIntOf
 split
 · exact aH.pure _
 · exact aH.unsupported _
 · exact aH.stuck _
theorem aH.asInt(v:Value):aH (Go.asInt v):=aH.bind (aH.asIntOf v) λ_=>aH.pure _
theorem aH.choose(q:Question):aH (Go.choose q):=λP w x w' h=>by
 simp only[Go.choose,Sem.run] at h
 split at h
 · cases h;exact cW.refl _ _
 · cases h;exact⟨rfl,rfl,rfl,Nat.le_refl _,λ_ _=>rfl,Nat.le_succ _⟩
theorem aH.room(n:Nat):aH (askRoom n):=λP w x w' h=>by
 unfold askRoom at h
 split at h
 · simp only[Go.mark,Sem.run] at h
   cases h;exact⟨rfl,rfl,rfl,Nat.le_refl _,λ_ _=>rfl,Nat.le_refl _⟩
 · cases h;exact cW.refl _ _
theorem lB(t:TypeId)(a:Value):aH (Instr.loadAt t a):=by
 unfold Instr.loadAt
 refine aH.bind ?_ λb=>?_
 · unfold Instr.sureAddr
   split
   · exact aH.pure _
   · exact aH.stuck _
 · unfold loadVar
   refine aH.bind (aH.isAgg t) λc=>?_
   split
   · exact aH.bind (aH.sizeOf t) λn=>aH.bind (aH.cells _ _ _ _) λ_=>aH.pure _
   · exact aH.load _ _
theorem jN(t:TypeId)(a b:Value):aH (Instr.makeSlice t a b):=by
 unfold Instr.makeSlice
 refine aH.bind (aH.underlying t) λd=>?_
 split
 · refine aH.bind (aH.asInt _) λl=>aH.bind (aH.asInt _) λc=>aH.bind (aH.typeInfo _) λi=>?_
   have tail:∀(c:Int) (l:Int) (elem:TypeId),aH (do
       let n:=c.toNat*(<-sizeOf elem)
       let zero<-if n=0 then pure #[] else do pure (<-zeroValue elem).cells
       let a<-newRow elem ((Array.range n).map (zero[· %zero.size]!))
       pure (Value.slice (some a) l.toNat c.toNat)):=λc l elem=>by
     refine aH.bind (aH.sizeOf _) λn=>?_
     have last:∀zero:Array Value,aH (do
       let a<-newRow elem ((Array.range (c.toNat*n)).map (zero[· %zero.size]!))
       pure (Value.slice (some a) l.toNat c.toNat)):=λzero=>aH.bind (aH.bind (aH.new _) λ_=>aH.pure _) λ_=>aH.pure _
     by_cases h:c.toNat*n=0
     · simp only[h,if_true]
       have:=last #[]
       simp only[h] at this
       exact aH.bind (aH.pure _) λ_=>aH.bind (aH.bind (aH.new _) λ_=>aH.pure _) λ_=>aH.pure _
     · simp only[h,if_false]
       exact aH.bind (aH.zeroValue _) λ_=>aH.bind (aH.pure _) λz=>last z
   dsimp only
   repeat' (first
     |exact aH.error _
     |exact aH.choose _
     |exact aH.room _
     |exact tail _ _ _
     |exact aH.pure _
     |refine aH.bind ?_ λ_=>?_
     |split)
 · exact aH.stuck _
def fu:Op->Bool
 | .alloc _| .box .. | .buildSlice .. | .load .. | .makeSlice .. =>true
 |_=>false
theorem kH{ρ:Operand->Value}{o:Oper}(h:fu o.op=true):aH (execOp ρ o):=by
 obtain⟨dst,op,ty,pos,after,g⟩:=o
 cases op<;>simp only[fu,Bool.false_eq_true] at h
 case alloc e=>exact aH.bind (aH.bind (aH.zeroValue _) λ_=>aH.bind (aH.newVar _ _) λ_=>aH.pure _) λ_=>aH.pure _
 case box e x=>exact aH.bind (aH.bind (aH.newVar _ _) λ_=>aH.pure _) λ_=>aH.pure _
 case buildSlice t n ps=>exact aH.bind (jz _ _ _) λ_=>aH.pure _
 case load t a=>exact aH.bind (lB _ _) λ_=>aH.pure _
 case makeSlice t a b=>exact aH.bind (jN _ _ _) λ_=>aH.pure _
theorem qQ{i:Nat}{oi:Oper}{v:Value}{w0:World}{M D:Array Bool}(hi:ops[i]? =some oi)(hsel:∀(j:Nat) (o:Oper) cs b,ops[j]? =some o->o.op≠ .select cs b)(hqi:qs i=true)
    (hQ:∀c a w,Q (.panic c) (a.put oi.dst v) w->Q (.panic c) a w)
    (hM:∀j oj,ops[j]? =some oj->M.getD j false=false->j≠i->∃e∈oj.after,Region.binds md e=true/\M.getD e.on false=false)
    (hMq:∀j oj,ops[j]? =some oj->M.getD j false=true->D.getD j true=false->j≠i->qs j=true\/fu oj.op=true):
    ∀(fuel:Nat) (listed:Array Bool) (a:Act) (w:World),cW w0.heap.size w0 w->(∀j,listed.getD j false=true->M.getD j false=true)->(∀j,listed.getD j true=false->D.getD j true=false)->
      (∀j oj,ops[j]? =some oj->j≠i->listed.getD j true=false->(∀e∈oj.after,Region.binds md e=true->e.on≠i)->oi.apart ops oj=true)->
      i∈Region.ready md ops listed->(∀w,cW w0.heap.size w0 w->YieldsAt P ops w oi v a)->
      kU P md ops qs Q fuel (listed.setIfInBounds i true) (a.put oi.dst v) w->kU P md ops qs Q (fuel+1) listed a w:=by
  intro fuel
  induction fuel with
  |zero=>
    intro listed a w hw _ _ _ hr hy H
    refine⟨λh=>(by rw[h] at hr;cases hr),λj hj=>?_⟩
    by_cases hji:j=i
    · subst hji;rw[if_pos hqi];exact(hy w hw).stOp hi H
    · have:=ready_mono hj hji
      rw[H.1] at this
      cases this
  |succ fuel ih=>
    intro listed a w hw hsub hD hfree hr hy H
    refine⟨λh=>(by rw[h] at hr;cases hr),λj hj=>?_⟩
    by_cases hji:j=i
    · subst hji;rw[if_pos hqi];exact(hy w hw).stOp hi H
    · obtain⟨hjun,oj,hoj,hall⟩:=mem_ready.1 hj
      have hMj:M.getD j false=true:=by
        cases hm:M.getD j false with
        |true=>rfl
        |false=>
          obtain⟨e,he,hb,hn⟩:=hM j oj hoj hm hji
          have:=hsub _ (hall e he hb)
          rw[hn] at this;cases this
      have hqj:=hMq j oj hoj hMj (hD j hjun) hji
      have h1:=H.2 j (ready_mono hj hji)
      have hnot:∀e∈oj.after,Region.binds md e=true->e.on≠i:=λe he hb heq=>by
        have h1:=hall e he hb
        have h0:=(mem_ready.1 hr).1
        rw[heq] at h1
        rw[getD_both h0] at h1
        cases h1
      have hap:=hfree j oj hoj hji hjun hnot
      have hfree':∀k ok,ops[k]? =some ok->k≠i->(listed.setIfInBounds j true).getD k true=false->
          (∀e∈ok.after,Region.binds md e=true->e.on≠i)->oi.apart ops ok=true:=λk ok hk hki hun hno=>by
        refine hfree k ok hk hki ?_ hno
        by_cases hjk:j=k
        · subst hjk;exact hjun
        · rw[getD_set_ne true hjk] at hun;exact hun
      have hsub':∀k,(listed.setIfInBounds j true).getD k false=true->M.getD k false=true:=λk hk=>by
        by_cases hjk:j=k
        · subst hjk;exact hMj
        · rw[getD_set_ne false hjk] at hk;exact hsub k hk
      have hD':∀k,(listed.setIfInBounds j true).getD k true=false->D.getD k true=false:=λk hk=>by
        by_cases hjk:j=k
        · subst hjk;exact hD j hjun
        · rw[getD_set_ne true hjk] at hk;exact hD k hk
      obtain⟨g1,g2,g3⟩:=Oper.apart_spec hap
      have keep:∀u w,cW w0.heap.size w0 w->YieldsAt P ops w oi v (a.put oj.dst u):=λu w hw=>
        (hy w hw).of_same (execOp_put oi (λcs b=>hsel i oi cs b hi) a oj.dst u g3) (wanted_put oi a oj.dst u g3)
      cases hqj':qs j with
      |true=>
        simp only[hqj',if_true] at h1 ⊢
        obtain⟨u,hyu,hK⟩:=yieldsAt_of_stOp hoj h1
        have hyj:YieldsAt P ops w oj u a:=by
          rcases hyu with⟨k1,k2⟩|⟨k1,k2⟩
          · refine .inl ⟨by rw[<-wanted_put oj a oi.dst v g1];exact k1,?_⟩
            rw[execOp_put oj (λcs b=>hsel j oj cs b hoj) a oi.dst v g1] at k2
            exact k2
          · exact .inr ⟨by rw[<-wanted_put oj a oi.dst v g1];exact k1,k2⟩
        refine hyj.stOp hoj (ih (listed.setIfInBounds j true) (a.put oj.dst u) w hw hsub' hD' hfree' (ready_mono hr (Ne.symm hji)) (keep u) ?_)
        rw[<-Act.put_comm a v u g2,Array.setIfInBounds_comm _ _ hji]
        exact hK
      |false=>
        have hkk:=hqj.resolve_left (by rw[hqj'];simp)
        simp only[hqj',Bool.false_eq_true,if_false] at h1 ⊢
        unfold wpOp at h1 ⊢
        simp only[hoj] at h1 ⊢
        rw[wanted_put oj a oi.dst v g1] at h1
        cases hwt:Region.wanted oj (yielded ops a.tmps) with
        |false=>
          simp only[hwt,Bool.false_eq_true,if_false] at h1 ⊢
          refine ih (listed.setIfInBounds j true) (a.put oj.dst undef) w hw hsub' hD' hfree' (ready_mono hr (Ne.symm hji)) (keep undef) ?_
          rw[<-Act.put_comm a v undef g2,Array.setIfInBounds_comm _ _ hji]
          exact h1
        |true=>
          simp only[hwt,if_true] at h1 ⊢
          have hke:=kH (ρ:=a.eval) hkk P w
          rcases h1 with h1|⟨h1,h2⟩
          · left
            unfold Oper.wp at h1 ⊢
            rw[execOp_put oj (λcs b=>hsel j oj cs b hoj) a oi.dst v g1] at h1
            obtain⟨dst,op,ty,pos,after,gd⟩:=oj
            cases hrun:(execOp a.eval ⟨dst,op,ty,pos,after,gd⟩).run P w with
            |halt x w'=>
              rw[hrun] at h1
              cases x<;>simp only[Oper.upon] at h1 ⊢
              case panic u=>exact hQ _ _ _ h1
            |ok nx w'=>
              rw[hrun] at h1
              have hb:=hke nx w' hrun
              have hw':cW w0.heap.size w0 w':=hw.trans (hb.mono hw.size)
              -- these operations yield values alone
              have hval:∃u,nx= .value u:=by
                cases op<;>simp only[fu,Bool.false_eq_true] at hkk
                all_goals exact jg hrun
              obtain⟨u,rfl⟩:=hval
              simp only[Oper.upon] at h1 ⊢
              refine ih (listed.setIfInBounds j true) (a.put dst u) w' hw' hsub' hD' hfree' (ready_mono hr (Ne.symm hji)) (keep u) ?_
              have h3:=h1
              rw[show(a.put oi.dst v).put dst u=(a.put dst u).put oi.dst v from Act.put_comm a v u g2,Array.setIfInBounds_comm _ _ (Ne.symm hji)] at h3
              exact h3
          · right
            refine⟨?_,h2⟩
            unfold Oper.asks at*
            rw[execOp_put oj (λcs b=>hsel j oj cs b hoj) a oi.dst v g1] at h1
            exact h1
theorem qW{i:Nat}{oi:Oper}{v:Value}(hi:ops[i]? =some oi)(hsel:∀(j:Nat) (o:Oper) cs b,ops[j]? =some o->o.op≠ .select cs b)(hqi:qs i=true)
    (hQ:∀c a w,Q (.panic c) (a.put oi.dst v) w->Q (.panic c) a w):
    ∀(fuel:Nat) (listed:Array Bool) (a:Act) (w:World),
      (∀j oj,ops[j]? =some oj->j≠i->listed.getD j true=false->(∀e∈oj.after,Region.binds md e=true->e.on≠i)->oi.apart ops oj=true)->
      i∈Region.ready md ops listed->Yields P ops oi v a->
      kU P md ops qs Q fuel (listed.setIfInBounds i true) (a.put oi.dst v) w->kU P md ops qs Q (fuel+1) listed a w:=by
  have hat:∀{a:Act} {w:World},Yields P ops oi v a->YieldsAt P ops w oi v a:=λ {a w} hy=>by
    rcases hy with⟨h1,h2⟩|⟨h1,h2⟩
    · exact .inl ⟨h1,.inl (h2 w)⟩
    · exact .inr ⟨h1,h2⟩
  intro fuel
  induction fuel with
  |zero=>
    intro listed a w _ hr hy H
    refine⟨λh=>(by rw[h] at hr;cases hr),λj hj=>?_⟩
    by_cases hji:j=i
    · subst hji;rw[if_pos hqi];exact(hat hy).stOp hi H
    · have:=ready_mono hj hji
      rw[H.1] at this
      cases this
  |succ fuel ih=>
    intro listed a w hfree hr hy H
    refine⟨λh=>(by rw[h] at hr;cases hr),λj hj=>?_⟩
    by_cases hji:j=i
    · subst hji;rw[if_pos hqi];exact(hat hy).stOp hi H
    · obtain⟨hjun,oj,hoj,hall⟩:=mem_ready.1 hj
      have h1:=H.2 j (ready_mono hj hji)
      have hnot:∀e∈oj.after,Region.binds md e=true->e.on≠i:=λe he hb heq=>by
        have h1:=hall e he hb
        have h0:=(mem_ready.1 hr).1
        rw[heq] at h1
        rw[getD_both h0] at h1
        cases h1
      have hap:=hfree j oj hoj hji hjun hnot
      have hfree':∀k ok,ops[k]? =some ok->k≠i->(listed.setIfInBounds j true).getD k true=false->
          (∀e∈ok.after,Region.binds md e=true->e.on≠i)->oi.apart ops ok=true:=λk ok hk hki hun hno=>by
        refine hfree k ok hk hki ?_ hno
        by_cases hjk:j=k
        · subst hjk;exact hjun
        · rw[getD_set_ne true hjk] at hun;exact hun
      cases hqj:qs j with
      |true=>
        simp only[hqj,if_true] at h1 ⊢
        -- a step that leaves the world
        have hy':=hy
        obtain⟨g1,g2,g3⟩:=Oper.apart_spec hap
        have keep:∀(a:Act),Yields P ops oi v a->∀u,Yields P ops oi v (a.put oj.dst u):=λa hy u=>
          hy.of_same (execOp_put oi (λcs b=>hsel i oi cs b hi) a oj.dst u g3) (wanted_put oi a oj.dst u g3)
        obtain⟨u,hyu,hK⟩:=yieldsAt_of_stOp hoj h1
        have hyj:YieldsAt P ops w oj u a:=by
          rcases hyu with⟨k1,k2⟩|⟨k1,k2⟩
          · refine .inl ⟨by rw[<-wanted_put oj a oi.dst v g1];exact k1,?_⟩
            rw[execOp_put oj (λcs b=>hsel j oj cs b hoj) a oi.dst v g1] at k2
            exact k2
          · exact .inr ⟨by rw[<-wanted_put oj a oi.dst v g1];exact k1,k2⟩
        refine hyj.stOp hoj (ih (listed.setIfInBounds j true) (a.put oj.dst u) w hfree' (ready_mono hr (Ne.symm hji)) (keep a hy u) ?_)
        rw[<-Act.put_comm a v u g2,Array.setIfInBounds_comm _ _ hji]
        exact hK
      |false=>
        simp only[hqj,Bool.false_eq_true,if_false] at h1 ⊢
        have h2:=wpOp_put hoj hap (λcs b=>hsel i oi cs b hi) (λcs b=>hsel j oj cs b hoj) hQ hy h1
        refine wpOp_mono (λa' w' h3=>ih (listed.setIfInBounds j true) a' w' hfree' (ready_mono hr (Ne.symm hji)) h3.1 ?_) h2
        rw[Array.setIfInBounds_comm _ _ hji]
        exact h3.2
end
section
variable{P:Program}{n:Nat}{l:List Oper}{qs:List Nat}{K:Fr->World->Prop}{f:Fr}{w:World}{done:List Nat}{fuel:Nat}
def kV(P:Program)(n:Nat)(l:List Oper)(qs:List Nat)(K:Fr->World->Prop)(fuel:Nat)(done:List Nat)(f:Fr)(w:World):Prop:=
  ∀a,Ag n a f->kU P .any l.toArray (λi=>decide (i∈qs)) (λe a' w'=>e= .normal/\∃f',Ag n a' f'/\K f' w') fuel (c8 l.length done) a w
theorem dc{fid:Nat}{R:Ending->World->Prop}{k:List Item}{id:Nat}(γ:aW)(qs:List Nat)(hm:P.follows .mixedOrders=true)
   (h:∀w1,bu no γ w γ w1->kV P n l qs (eh P fid n R k) l.length [] f w1):eh P fid n R (.code (.region id l.toArray true)::k) f w:=
 i2 λa ha=>wp_region_any hm (by
   have h0:=fL _ _ _ _ (h _ (bu.refl _ _ _).drew a ha)
   have hmask:c8 l.length []=Array.replicate l.toArray.size false:=by
     apply Array.ext
     · simp[c8]
     · intro j h1 h2;simp[c8]
   rw[hmask] at h0
   simpa using h0)
theorem iB{fid:Nat}{R:Ending->World->Prop}{k:List Item}{id:Nat}{σ:Type}(Mid:σ->Fr->World->Prop)(γ:aW)(qs:List Nat)(hm:P.follows .mixedOrders=true)
    (h:(∀s f w,Mid s f w->eh P fid n R k f w)->∀w1,bu no γ w γ w1->kV P n l qs (eh P fid n R k) l.length [] f w1)(hk:∀s f w,Mid s f w->eh P fid n R k f w):eh P fid n R (.code (.region id l.toArray true)::k) f w:=
  dc γ qs hm (h hk)
def fm(l:List Oper)(done:List Nat)(i:Nat):Bool:=
 !done.contains i&&match l[i]? with
   |some o=>o.after.all λe=> !Region.binds .any e||done.contains e.on&&decide (e.on<l.length)
   |none=>false
def gW(l:List Oper)(done:List Nat)(i:Nat):Bool:=
 match l[i]? with
 |none=>false
 |some oi=>(List.range l.length).all λj=>j==i||done.contains j||match l[j]? with
     |some oj=>oj.after.any (λe=>Region.binds .any e&&e.on==i)||oi.apart l.toArray oj
     |none=>true
def lR(l:List Oper)(qs done M:List Nat)(i:Nat):Bool:=
  ((List.range l.length).all λj=>M.contains j||j==i||match l[j]? with
      |some oj=>oj.after.any λe=>Region.binds .any e&& !M.contains e.on
      |none=>true)&&
  (M.all λj=>j==i||done.contains j||qs.contains j)&&(done.all λj=>M.contains j&&decide (j<l.length))&&M.all λj=>decide (j<l.length)
def fK(l:List Oper):Bool:=Region.noSelect l.toArray
theorem eH{i:Nat}(h:fm l done i=true):i<l.length/\i∈Region.ready .any l.toArray (c8 l.length done):=by
 unfold fm at h
 simp only[Bool.and_eq_true,Bool.not_eq_true'] at h
 obtain⟨h1,h2⟩:=h
 split at h2
 · rename_i o ho
   have hlt:i<l.length:=(List.getElem?_eq_some_iff.1 ho).1
   refine⟨hlt,mem_ready.2 ⟨by rw[cC];simp[hlt];simpa using h1,o,by simpa using ho,λe he hb=>?_⟩⟩
   have h3:=Array.all_eq_true_iff_forall_mem.1 h2 e he
   simp only[hb,Bool.not_true,Bool.false_or,Bool.and_eq_true,decide_eq_true_eq] at h3
   rw[cC,if_pos h3.2]
   simpa using h3.1
 · cases h2
theorem fp{i:Nat}{oi:Oper}(hi:l[i]? =some oi)(h:gW l done i=true)(j:Nat)(oj:Oper)(hj:l.toArray[j]? =some oj)(hne:j≠i)(hun:(c8 l.length done).getD j true=false)
   (hno:∀e∈oj.after,Region.binds .any e=true->e.on≠i):oi.apart l.toArray oj=true:=by
 have hj':l[j]? =some oj:=by simpa using hj
 have hlt:j<l.length:=(List.getElem?_eq_some_iff.1 hj').1
 unfold gW at h
 simp only[hi,List.all_eq_true,List.mem_range] at h
 have h1:=h j hlt
 rw[cC,if_pos hlt] at hun
 have hd:done.contains j=false:=by simpa using hun
 simp only[hj',Bool.or_eq_true,beq_iff_eq,hne,false_or,hd,Bool.false_eq_true] at h1
 rcases h1 with h1|h1
 · obtain⟨e,he,hb⟩:=Array.any_eq_true'.1 h1
   simp only[Bool.and_eq_true,beq_iff_eq] at hb
   exact absurd hb.2 (hno e he hb.1)
 · exact h1
theorem gN(h:fK l=true):∀(j:Nat) (o:Oper) cs b,l.toArray[j]? =some o->o.op≠ .select cs b:=Region.noSelect_spec h
theorem kr{i:Nat}(h:qs.contains i=true):decide (i∈qs)=true:=by simpa using h
variable{dst:Option Tmp}{op:Op}{ty:TypeId}{pos:String}{after:Array Edge}{g:Option (Nat×Bool)}{v:Value}
theorem wR(i:Nat)(M:List Nat)(hi:l[i]? =some ⟨dst,op,ty,pos,after,g⟩)(hn:fK l=true)(hc:(qs.contains i&&fm l done i&&gW l done i&&lR l qs done M i&&kM n ⟨dst,op,ty,pos,after,g⟩)=true)
    (hw:cT l ⟨dst,op,ty,pos,after,g⟩ f=true)(h:(execOp (ev f) ⟨dst,op,ty,pos,after,g⟩).run P w= .ok (.value v) w)(hk:kV P n l qs K fuel (i::done) (fT f dst v) w):kV P n l qs K (fuel+1) done f w:=by
  simp only[Bool.and_eq_true] at hc
  obtain⟨⟨⟨⟨hq,hr⟩,hf⟩,hb⟩,hd⟩:=hc
  obtain⟨hlt,hr'⟩:=eH hr
  intro a ha
  unfold lR at hb
  simp only[Bool.and_eq_true,List.all_eq_true,List.mem_range] at hb
  obtain⟨⟨⟨b1,b2⟩,b3⟩,b4⟩:=hb
  have hgM:∀j,(c8 l.length M).getD j false=true↔j∈M:=λj=>by
    rw[cC]
    by_cases hjl:j<l.length
    · simp[hjl]
    · simp only[hjl,if_false,Bool.false_eq_true,false_iff]
      exact λhm=>hjl (by simpa using b4 j hm)
  refine og (v:=v) (M:=c8 l.length M) (D:=c8 l.length done) (by simpa using hi) (gN hn) (kr hq) (λj oj hj hm hne=>?_) (λj oj hj hm hD hne=>?_) fuel _ a (by simp[c8]) (λj hj=>?_) (λj hj=>hj) (fp hi hf) hr' ?_ ?_
  · have hj':l[j]? =some oj:=by simpa using hj
    have hjl:j<l.length:=(List.getElem?_eq_some_iff.1 hj').1
    have h1:=b1 j hjl
    have hmM:M.contains j=false:=by
      cases hc:M.contains j with
      |false=>rfl
      |true=>have h9:=(hgM j).2 (by simpa using hc);rw[hm] at h9;cases h9
    simp only[hmM,hj',Bool.false_or,Bool.or_eq_true,beq_iff_eq,hne,false_or] at h1
    obtain⟨e,he,hbb⟩:=Array.any_eq_true'.1 h1
    simp only[Bool.and_eq_true,Bool.not_eq_true'] at hbb
    refine⟨e,he,hbb.1,?_⟩
    cases hc:(c8 l.length M).getD e.on false with
    |false=>rfl
    |true=>
      have:=(hgM _).1 hc
      have h2:=hbb.2
      simp[this] at h2
  · have h1:=b2 j ((hgM j).1 hm)
    have hj':l[j]? =some oj:=by simpa using hj
    have hjl:j<l.length:=(List.getElem?_eq_some_iff.1 hj').1
    rw[cC,if_pos hjl] at hD
    have hd:done.contains j=false:=by simpa using hD
    simp only[Bool.or_eq_true,beq_iff_eq,hne,hd,false_or,Bool.false_eq_true] at h1
    exact kr h1
  · rw[cC] at hj
    split at hj
    · have h1:=b3 j (by simpa using hj)
      exact(hgM j).2 (by simpa using h1.1)
    · cases hj
  · refine .inl ⟨?_,.inl ?_⟩
    · rw[ha.yielded];exact hw
    · rw[ha.eval];exact h
  · rw[dh done hlt]
    exact hk _ (ha.put hd v)
def mp(l:List Oper)(qs done M:List Nat)(i:Nat):Bool:=
 ((List.range l.length).all λj=>M.contains j||j==i||match l[j]? with
     |some oj=>oj.after.any λe=>Region.binds .any e&& !M.contains e.on
     |none=>true)&&
 (M.all λj=>j==i||done.contains j||qs.contains j||match l[j]? with
     |some oj=>fu oj.op
     |none=>false)&&(done.all λj=>M.contains j&&decide (j<l.length))&&M.all λj=>decide (j<l.length)
theorem ws(i:Nat)(M:List Nat)(hi:l[i]? =some ⟨dst,op,ty,pos,after,g⟩)(hn:fK l=true)(hc:(qs.contains i&&fm l done i&&gW l done i&&mp l qs done M i&&kM n ⟨dst,op,ty,pos,after,g⟩)=true)
    (hw:cT l ⟨dst,op,ty,pos,after,g⟩ f=true)(h:∀w',cW w.heap.size w w'->(execOp (ev f) ⟨dst,op,ty,pos,after,g⟩).run P w'= .ok (.value v) w')(hk:kV P n l qs K fuel (i::done) (fT f dst v) w):kV P n l qs K (fuel+1) done f w:=by
  simp only[Bool.and_eq_true] at hc
  obtain⟨⟨⟨⟨hq,hr⟩,hf⟩,hb⟩,hd⟩:=hc
  obtain⟨hlt,hr'⟩:=eH hr
  intro a ha
  unfold mp at hb
  simp only[Bool.and_eq_true,List.all_eq_true,List.mem_range] at hb
  obtain⟨⟨⟨b1,b2⟩,b3⟩,b4⟩:=hb
  have hgM:∀j,(c8 l.length M).getD j false=true↔j∈M:=λj=>by
    rw[cC]
    by_cases hjl:j<l.length
    · simp[hjl]
    · simp only[hjl,if_false,Bool.false_eq_true,false_iff]
      exact λhm=>hjl (by simpa using b4 j hm)
  refine qQ (v:=v) (w0:=w) (M:=c8 l.length M) (D:=c8 l.length done) (by simpa using hi) (gN hn) (kr hq) (λc a w h=>by cases h.1) (λj oj hj hm hne=>?_) (λj oj hj hm hD hne=>?_) fuel _ a w (cW.refl _ _) (λj hj=>?_) (λj hj=>hj) (fp hi hf) hr' (λw' hw'=>?_) ?_
  · have hj':l[j]? =some oj:=by simpa using hj
    have hjl:j<l.length:=(List.getElem?_eq_some_iff.1 hj').1
    have h1:=b1 j hjl
    have hmM:M.contains j=false:=by
      cases hc:M.contains j with
      |false=>rfl
      |true=>have h9:=(hgM j).2 (by simpa using hc);rw[hm] at h9;cases h9
    simp only[hmM,hj',Bool.false_or,Bool.or_eq_true,beq_iff_eq,hne,false_or] at h1
    obtain⟨e,he,hbb⟩:=Array.any_eq_true'.1 h1
    simp only[Bool.and_eq_true,Bool.not_eq_true'] at hbb
    refine⟨e,he,hbb.1,?_⟩
    cases hc:(c8 l.length M).getD e.on false with
    |false=>rfl
    |true=>
      have:=(hgM _).1 hc
      have h2:=hbb.2
      simp[this] at h2
  · have h1:=b2 j ((hgM j).1 hm)
    have hj':l[j]? =some oj:=by simpa using hj
    have hjl:j<l.length:=(List.getElem?_eq_some_iff.1 hj').1
    rw[cC,if_pos hjl] at hD
    have hd:done.contains j=false:=by simpa using hD
    simp only[hj',Bool.or_eq_true,beq_iff_eq,hne,hd,false_or,Bool.false_eq_true] at h1
    rcases h1 with h1|h1
    · exact .inl (kr h1)
    · exact .inr h1
  · rw[cC] at hj
    split at hj
    · have h1:=b3 j (by simpa using hj)
      exact(hgM j).2 (by simpa using h1.1)
    · cases hj
  · refine .inl ⟨?_,.inl ?_⟩
    · rw[ha.yielded];exact hw
    · rw[ha.eval];exact h w' hw'
  · rw[dh done hlt]
    exact hk _ (ha.put hd v)
theorem vV(i:Nat)(hi:l[i]? =some ⟨dst,op,ty,pos,after,g⟩)(hn:fK l=true)(hc:(qs.contains i&&fm l done i&&gW l done i&&kM n ⟨dst,op,ty,pos,after,g⟩)=true)
    (hw:cT l ⟨dst,op,ty,pos,after,g⟩ f=true)(h:∀w,(execOp (ev f) ⟨dst,op,ty,pos,after,g⟩).run P w= .ok (.value v) w)(hk:kV P n l qs K fuel (i::done) (fT f dst v) w):kV P n l qs K (fuel+1) done f w:=by
  simp only[Bool.and_eq_true] at hc
  obtain⟨⟨⟨hq,hr⟩,hf⟩,hd⟩:=hc
  obtain⟨hlt,hr'⟩:=eH hr
  intro a ha
  refine qW (v:=v) (by simpa using hi) (gN hn) (kr hq) (λc a w h=>by cases h.1) fuel _ a w (fp hi hf) hr' (.inl ⟨by rw[ha.yielded];exact hw,λw=>by rw[ha.eval];exact h w⟩) ?_
  rw[dh done hlt]
  exact hk _ (ha.put hd v)
theorem fz{i:Nat}{o:Oper}{a:Act}{K':Act->World->Prop}{Q:Exit->Act->World->Prop}{N:Value->World->Prop}(ha:Ag n a f)(hi:l[i]? =some o)(hw:cT l o f=true)(h:gT P o f w N)(hN:∀v w',N v w'->K' (a.put o.dst v) w'):wpOp P l.toArray Q i K' a w:=by
 unfold wpOp
 have hi':l.toArray[i]? =some o:=by simpa using hi
 simp only[hi']
 have hw':Region.wanted o (yielded l.toArray a.tmps)=true:=by rw[ha.yielded];exact hw
 simp only[hw',if_true]
 refine .inl ?_
 unfold Oper.wp
 rw[ha.eval]
 unfold gT at h
 generalize(execOp (ev f) o).run P w=r at*
 cases r with
 |halt x w'=>exact h.elim
 |ok nx w'=>
   cases nx<;>simp only[rM] at h<;>simp only[Oper.upon]
   case value v=>exact hN _ _ h
   case skip=>exact hN _ _ h
   case enter g args=>
     refine h.mono λe w'' he=>?_
     cases e with
     |returned v=>exact hN _ _ he
     |panicked c=>exact he.elim
     |outgrown=>exact he.elim
theorem cf(i:Nat)(hi:l[i]? =some ⟨dst,op,ty,pos,after,g⟩)(hc:(decide (Region.ready .any l.toArray (c8 l.length done)=[i])&& !qs.contains i&&kM n ⟨dst,op,ty,pos,after,g⟩)=true)
    (hw:cT l ⟨dst,op,ty,pos,after,g⟩ f=true)(h:gT P ⟨dst,op,ty,pos,after,g⟩ f w (λv w'=>kV P n l qs K fuel (i::done) (fT f dst v) w')):kV P n l qs K (fuel+1) done f w:=by
  simp only[Bool.and_eq_true,decide_eq_true_eq,Bool.not_eq_true'] at hc
  obtain⟨⟨hr,hq⟩,hd⟩:=hc
  have hlt:i<l.length:=(List.getElem?_eq_some_iff.1 hi).1
  intro a ha
  refine⟨λh0=>(by rw[hr] at h0;cases h0),λj hj=>?_⟩
  rw[hr] at hj
  obtain rfl:j=i:=by simpa using hj
  have hq':decide (j∈qs)=false:=by simpa using hq
  simp only[hq',Bool.false_eq_true,if_false]
  refine fz ha hi hw h λv w' hk=>?_
  rw[dh done hlt]
  exact hk _ (ha.put hd v)
theorem lj(i j:Nat){dst':Option Tmp}{op':Op}{ty':TypeId}{pos':String}{after':Array Edge}{g':Option (Nat×Bool)}(hi:l[i]? =some ⟨dst,op,ty,pos,after,g⟩)(hj:l[j]? =some ⟨dst',op',ty',pos',after',g'⟩)
    (hc:(decide (Region.ready .any l.toArray (c8 l.length done)=[i,j])&& !qs.contains i&& !qs.contains j&&kM n ⟨dst,op,ty,pos,after,g⟩&&kM n ⟨dst',op',ty',pos',after',g'⟩)=true)
    (hw:cT l ⟨dst,op,ty,pos,after,g⟩ f=true)(hw':cT l ⟨dst',op',ty',pos',after',g'⟩ f=true)
    (h:gT P ⟨dst,op,ty,pos,after,g⟩ f w (λv w'=>kV P n l qs K fuel (i::done) (fT f dst v) w'))(h':gT P ⟨dst',op',ty',pos',after',g'⟩ f w (λv w'=>kV P n l qs K fuel (j::done) (fT f dst' v) w')):kV P n l qs K (fuel+1) done f w:=by
  simp only[Bool.and_eq_true,decide_eq_true_eq,Bool.not_eq_true'] at hc
  obtain⟨⟨⟨⟨hr,hq⟩,hq2⟩,hd⟩,hd'⟩:=hc
  have hlt:i<l.length:=(List.getElem?_eq_some_iff.1 hi).1
  have hlt':j<l.length:=(List.getElem?_eq_some_iff.1 hj).1
  intro a ha
  refine⟨λh0=>(by rw[hr] at h0;cases h0),λk hk=>?_⟩
  rw[hr] at hk
  have hk':k=i\/k=j:=by simpa using hk
  rcases hk' with rfl|rfl
  · have hq':decide (k∈qs)=false:=by simpa using hq
    simp only[hq',Bool.false_eq_true,if_false]
    refine fz ha hi hw h λv w' hk=>?_
    rw[dh done hlt]
    exact hk _ (ha.put hd v)
  · have hq':decide (k∈qs)=false:=by simpa using hq2
    simp only[hq',Bool.false_eq_true,if_false]
    refine fz ha hj hw' h' λv w' hk=>?_
    rw[dh done hlt']
    exact hk _ (ha.put hd' v)
theorem eQ(hr:decide (Region.ready .any l.toArray (c8 l.length done)=[])=true)(h:K f w):kV P n l qs K 0 done f w:=λ_ ha=>⟨of_decide_eq_true hr,rfl,f,ha,h⟩
end
end TL
/-
  TlHold: regions that draw their order, where what is read stays: on the kit's OrdersHeld.
  By an AI agent.
-/
set_option linter.all false
namespace TL
open Go
section
variable{P:Program}{n:Nat}{l:List Oper}{S:World->Prop}{K:Fr->World->Prop}{f:Fr}{w:World}{done:List Nat}{fuel:Nat}
def oK(P:Program)(n:Nat)(l:List Oper)(S:World->Prop)(K:Fr->World->Prop)(fuel:Nat)(done:List Nat)(f:Fr)(w:World):Prop:=
  ∀a,Ag n a f->wpAnyH P .any l.toArray (λe a' w'=>e= .normal/\∃f',Ag n a' f'/\K f' w') S fuel (c8 l.length done) a w
theorem bu.same{J:cM->Prop}{γ γ':aW}{w w':World}(h:bu J γ w γ' w'):bu J γ w γ w':=⟨h.os,h.tape,h.output,h.size,λ_ _ _=>rfl,h.keep,h.drawn⟩
theorem dY{fid:Nat}{R:Ending->World->Prop}{k:List Item}{id:Nat}(γ:aW)(J:cM->Prop)(hm:P.follows .mixedOrders=true)
   (h:∀w1,bu no γ w γ w1->oK P n l (λw'=>bu J γ w1 γ w') (eh P fid n R k) l.length [] f w1):eh P fid n R (.code (.region id l.toArray true)::k) f w:=
 i2 λa ha=>wp_region_held hm (by
   have h0:=h _ (bu.refl _ _ _).drew a ha
   have hmask:c8 l.length []=Array.replicate l.toArray.size false:=by
     apply Array.ext
     · simp[c8]
     · intro j h1 h2;simp[c8]
   rw[hmask] at h0
   simpa using h0)
theorem cG{fid:Nat}{R:Ending->World->Prop}{k:List Item}{id:Nat}{σ:Type}(Mid:σ->Fr->World->Prop)(γ:aW)(J:cM->Prop)(hm:P.follows .mixedOrders=true)
    (h:(∀s f w,Mid s f w->eh P fid n R k f w)->∀w1,bu no γ w γ w1->oK P n l (λw'=>bu J γ w1 γ w') (eh P fid n R k) l.length [] f w1)(hk:∀s f w,Mid s f w->eh P fid n R k f w):eh P fid n R (.code (.region id l.toArray true)::k) f w:=
  dY γ J hm (h hk)
variable{dst:Option Tmp}{op:Op}{ty:TypeId}{pos:String}{after:Array Edge}{g:Option (Nat×Bool)}{v:Value}
theorem vI(i:Nat)(hi:l[i]? =some ⟨dst,op,ty,pos,after,g⟩)(hn:fK l=true)(hc:(fm l done i&&gW l done i&&kM n ⟨dst,op,ty,pos,after,g⟩)=true)
   (hw:cT l ⟨dst,op,ty,pos,after,g⟩ f=true)(hS:S w)(h:∀w,S w->(execOp (ev f) ⟨dst,op,ty,pos,after,g⟩).run P w= .ok (.value v) w)(hk:oK P n l S K fuel (i::done) (fT f dst v) w):oK P n l S K (fuel+1) done f w:=by
 simp only[Bool.and_eq_true] at hc
 obtain⟨⟨hr,hf⟩,hd⟩:=hc
 obtain⟨hlt,hr'⟩:=eH hr
 intro a ha
 refine wpAnyH_first (v:=v) (by simpa using hi) (gN hn) (λc a w h=>by cases h.1) fuel _ a w (fp hi hf) hr' (.inl ⟨by rw[ha.yielded];exact hw,λw hs=>by rw[ha.eval];exact h w hs⟩) hS ?_
 rw[dh done hlt]
 exact hk _ (ha.put hd v)
def wd(P:Program)(n:Nat)(l:List Oper)(S:World->Prop)(K:Fr->World->Prop)(fuel:Nat)(done:List Nat)(f:Fr)(w:World)(i:Nat):Prop:=
  ∃o,l[i]? =some o/\i<l.length/\(cT l o f=true/\kM n o=true/\gT P o f w (λv w'=>S w'/\oK P n l S K fuel (i::done) (fT f o.dst v) w'))
theorem bT(i:Nat)(hi:l[i]? =some ⟨dst,op,ty,pos,after,g⟩)(hc:kM n ⟨dst,op,ty,pos,after,g⟩=true)(hw:cT l ⟨dst,op,ty,pos,after,g⟩ f=true)
   (h:gT P ⟨dst,op,ty,pos,after,g⟩ f w (λv w'=>S w'/\oK P n l S K fuel (i::done) (fT f dst v) w')):wd P n l S K fuel done f w i:=
 ⟨_,hi,(List.getElem?_eq_some_iff.1 hi).1,hw,hc,h⟩
def uf(P:Program)(n:Nat)(l:List Oper)(S:World->Prop)(K:Fr->World->Prop)(fuel:Nat)(done:List Nat)(f:Fr)(w:World):List Nat->Prop
 |[]=>True
 |i::r=>wd P n l S K fuel done f w i/\uf P n l S K fuel done f w r
theorem uf.mem{L:List Nat}(h:uf P n l S K fuel done f w L):∀i∈L,wd P n l S K fuel done f w i:=by
 induction L with
 |nil=>intro i hi;cases hi
 |cons j r ih=>
   intro i hi
   rcases List.mem_cons.1 hi with rfl|hi
   · exact h.1
   · exact ih h.2 i hi
theorem bS(i:Nat)(L:List Nat)(hr:decide (Region.ready .any l.toArray (c8 l.length done)=i::L)=true)(h:uf P n l S K fuel done f w (i::L)):oK P n l S K (fuel+1) done f w:=by
 have hr:=of_decide_eq_true hr
 intro a ha
 refine⟨λh0=>(by rw[hr] at h0;cases h0),λk hk=>?_⟩
 rw[hr] at hk
 obtain⟨o,hi,hlt,hw,hd,ho⟩:=h.mem k (by simpa using hk)
 obtain⟨dst,op,ty,pos,after,g⟩:=o
 refine fz ha hi hw ho λv w' hk=>⟨hk.1,?_⟩
 rw[dh done hlt]
 exact hk.2 _ (ha.put hd v)
theorem aL(i:Nat)(hi:l[i]? =some ⟨dst,op,ty,pos,after,g⟩)(hc:(decide (Region.ready .any l.toArray (c8 l.length done)=[i])&&kM n ⟨dst,op,ty,pos,after,g⟩)=true)
   (hw:cT l ⟨dst,op,ty,pos,after,g⟩ f=true)(h:gT P ⟨dst,op,ty,pos,after,g⟩ f w (λv w'=>S w'/\oK P n l S K fuel (i::done) (fT f dst v) w')):oK P n l S K (fuel+1) done f w:=by
 simp only[Bool.and_eq_true] at hc
 exact bS i [] hc.1 ⟨bT i hi hc.2 hw h,trivial⟩
theorem bQ(hr:decide (Region.ready .any l.toArray (c8 l.length done)=[])=true)(h:K f w):oK P n l S K 0 done f w:=λ_ ha=>⟨of_decide_eq_true hr,rfl,f,ha,h⟩
end
end TL
namespace TL
open Go
theorem eD{α:Type}[Rp α]{γ:aW}{w:World}{v:Value}{xss:List (List α)}{S:cM->Prop}{r:Int}(hs:Sl γ S w v xss)(h0:0<=r)(h1:r<xss.length):
    ∃u,(∀(J:cM->Prop) (w':World),(∀c,S c->¬J c)->bu J γ w γ w'->w'.cell? (aU v 1 r.toNat)=some u)/\Sl γ S w u (gI xss r):=by
  obtain⟨u,h2,h3⟩:=cN hs h0 h1
  refine⟨u,λJ w' hJ hc=>?_,h3⟩
  have h4:=hs.chg hc hJ
  obtain⟨u',h5,_⟩:=cN h4 h0 h1
  rcases hs with⟨⟨_,rfl⟩,rfl⟩|⟨b,off,cap,rfl,_,hx⟩
  · simp at h1;omega
  · obtain⟨hb,hS,_⟩:=hx r.toNat _ (gG h0 h1)
    rw[<-h2]
    exact gi (hc.keep b hb (hJ _ hS))
end TL
/-
  TlNet: nets, and what layer 3 says of them, as plain functions.
  By an AI agent.
-/
set_option linter.all false
namespace TL
abbrev cP:=Int×List (Int×Int)
def od(n:Int)(e:Int×Int):Prop:=(0<=e.1/\e.1<n)/\0<=e.2/\e.2<n
instance (n:Int)(e:Int×Int):Decidable (od n e):=by unfold od;infer_instance
def dp(g:cP):Prop:=0<=g.1/\g.1<=1024/\g.2.length<=3072/\∀e∈g.2,od g.1 e
instance (g:cP):Decidable (dp g):=by unfold dp;infer_instance
def dm(g:cP):Bool:=decide (dp g)
theorem lc{g:cP}(h:dp g):dm g=true:=decide_eq_true h
theorem cz{g:cP}(h:¬dp g):dm g=false:=decide_eq_false h
end TL
namespace TL
end TL
namespace TL
end TL
namespace TL
end TL
namespace TL
def vd(g:cP)(h:Int):Int:=pI (gI g.2 (h/2)) (h%2)
def wU(g:cP)(v:Int)(k:Nat):List Int:=((List.range (2*k)).map (λ(i:Nat)=>(i:Int))).filter λh=>decide (vd g h=v)
def xE(g:cP)(v:Int):List Int:=wU g v g.2.length
end TL
namespace TL
end TL
namespace TL
end TL
namespace TL
end TL
namespace TL
section
variable{l0 l1:Int}{F:Int×Int->Int}{g:cP}{k:Nat}
end
end TL
/-
  TlKeep: rows of an own list given away one by one while the list stays readable; rows with a mark behind each.
  By an AI agent.
-/
set_option linter.all false
namespace TL
open Go
def j3(q i k:Nat):cM->Prop:=λc=>c.1=q\/(c.1=i/\c.2=0)\/c.1=k
theorem bu.l3{L:List Nat}{q i k:Nat}{γ γ':aW}{w w':World}(h:bu (j3 q i k) γ w γ' w')(h1:L.contains q=true)(h2:L.contains i=true)(h3:L.contains k=true):bu (bY L) γ w γ' w':=h.mono λc hc=>by
 unfold bY
 rcases hc with hc|hc|hc
 · rw[hc];exact h1
 · rw[hc.1];exact h2
 · rw[hc];exact h3
section
variable{P:Program}{w:World}{t t':TypeId}{f:Fr}{x y:Operand}{dst:Option Tmp}{ty:TypeId}{pos:String}{after:Array Edge}{g:Option (Nat×Bool)}{N:Value->World->Prop}{α:Type}[Rp α]{γ:aW}{v u:Value}{xss:List (List α)}{l:List α}{i k j:Nat}
end
section
variable{α:Type}[Rp α][Fl α]{γ γ':aW}{w w':World}{v:Value}{us:List Vc}{xss:List (List α)}{i k j q:Nat}
end
inductive Rw where
  |mk (l:List Int) (m:Int)
  |pl (l:List Int)
instance:Inhabited Rw:=⟨.pl []⟩
theorem qY{α:Type}[Rp α]{γ:aW}{S:cM->Prop}{w:World}{v:Value}{xs:List α}{m:α}(h:Sl γ S w (xy v) (xs++[m])):∃a l c,v= .slice a l c:=by
 rcases h with⟨_,h0⟩|⟨b,off,cap,hv,_⟩
 · simp at h0
 · cases v<;>simp[xy] at hv
   exact⟨_,_,_,rfl⟩
def wA(γ:aW)(S:cM->Prop)(w:World)(v:Value):Rw->Prop
  | .mk l m=>Sl γ S w (xy v) (l++[m])
  | .pl l=>Sl γ S w v l
theorem wA.one{γ:aW}{S:cM->Prop}{w:World}{v:Value}{x:Rw}(h:wA γ S w v x):v.oneCell'=true:=by
 cases x with
 |mk l m=>
   obtain⟨a,b,c,rfl⟩:=qY h
   rfl
 |pl l=>
   rcases h with⟨⟨_,rfl⟩,_⟩|⟨b,off,cap,rfl,_⟩<;>rfl
theorem wA.tr{γ γ':aW}{S S':cM->Prop}{w w':World}{v:Value}{x:Rw}(hsz:w.heap.size<=w'.heap.size)(h:∀b,b<w.heap.size->S (γ b)->w'.heap[b]? =w.heap[b]? /\S' (γ' b))(hx:wA γ S w v x):wA γ' S' w' v x:=by
 cases x with
 |mk l m=>exact Sl.tr h hx hsz
 |pl l=>exact Sl.tr h hx hsz
instance:Rp Rw where
 sz:=1
 rep γ S w cs x:=∃v,cs=[v]/\wA γ S w v x
 len:=by rintro _ _ _ _ _ ⟨v,rfl,_⟩;rfl
 one:=by
   rintro _ _ _ _ _ ⟨v,rfl,h⟩ u hu
   obtain rfl:u=v:=by simpa using hu
   exact h.one
 tr:=by
   rintro _ _ _ _ _ _ _ _ hs h ⟨v,rfl,hv⟩
   exact⟨v,rfl,hv.tr hs h⟩
section
variable{P:Program}{w:World}{t t':TypeId}{f:Fr}{x y:Operand}{dst:Option Tmp}{ty:TypeId}{pos:String}{after:Array Edge}{g:Option (Nat×Bool)}{N:Value->World->Prop}{γ:aW}{v u:Value}{xss:List (List Int)}{l:List Int}{i:Nat}
end
end TL
/-
  TlEq: structs compared; a pointer looked at for nil; a bit turned.
  By an AI agent.
-/
set_option linter.all false
namespace TL
open Go
section
variable{P:Program}{f:Fr}{w:World}{dst:Option Tmp}{ty:TypeId}{pos:String}{after:Array Edge}{g:Option (Nat×Bool)}{t t' e:TypeId}{x y:Operand}
theorem aK{a:Addr}(hx:ev f x= .pointer (some a)):(execOp (ev f) ⟨dst,.nilCheck x,ty,pos,after,g⟩).run P w= .ok (.value (.pointer (some a))) w:=by
 simp only[execOp,hx,Sem.run_pure]
inductive EqV (P:Program) (t:TypeId):Value->Value->Bool->Prop
 |int {a b:Int} (h:P.underlying t=some (.int .i64)):EqV P t (.int .i64 a) (.int .i64 b) (decide (a=b))
 |bool {a b:Bool} (h:P.underlying t=some .bool):EqV P t (.bool a) (.bool b) (decide (a=b))
inductive EqF (P:Program) (xs ys:Array Value):List Field->List Bool->Prop
 |nil:EqF P xs ys [] []
 |cons {fd:Field} {fs:List Field} {bs:List Bool} {a b z:Value} {r:Bool} {size bytes:Nat} (hn:(fd.name != "_")=true) (he:Tp P fd.type false size bytes z) (ha:xs[fd.offset]? =some a) (hb:ys[fd.offset]? =some b) (hq:EqV P fd.type a b r) (hr:EqF P xs ys fs bs):EqF P xs ys (fd::fs) (r::bs)
theorem j8{xs ys:Array Value}{fs:List Field}{bs:List Bool}(h:EqF P xs ys fs bs)(d:Nat):(Op.eqFields (d+1) xs ys fs).run P w= .ok (bs.all id) w:=by
 induction h with
 |nil=>simp[Op.eqFields,Sem.run_pure]
 | @cons fd fs bs a b z r size bytes hn he ha hb hq hr ih=>
   have hn':fd.name≠ "_" :=by simpa using hn
   have h1:=kk (P:=P) (w:=w) he ha
   have h2:=kk (P:=P) (w:=w) he hb
   have h3:(Op.equalIn (d+1) fd.type a b).run P w= .ok r w:=by
     cases hq with
     |int h=>simp[Op.equalIn,bK h,Sem.run_pure];rfl
     |bool h=>simp[Op.equalIn,bK h,Sem.run_pure];rfl
   simp only[Op.eqFields,if_pos hn',Sem.run_bind,h1,h2,h3,Result.andThen_ok]
   cases r with
   |true=>simp[ih]
   |false=>simp[Sem.run_pure]
theorem fb{fs:Array Field}{xs ys:List Value}{bs:List Bool}{q:Bool}(ht:P.underlying t=some (.struct fs))(hp:P.stoodInHeld t=false)(hg:P.eqGuardType P.depth t=false)(hx:ev f x= .agg xs.toArray)(hy:ev f y= .agg ys.toArray)(h:EqF P xs.toArray ys.toArray fs.toList bs)(hq:bs.all id=q):
   (execOp (ev f) ⟨dst,.binOp .eql t x y t',ty,pos,after,g⟩).run P w= .ok (.value (.bool q)) w:=by
 have e1:P.fieldsOf t=fs:=by simp[Program.fieldsOf,ht]
 have hr:(Op.equal t (.agg xs.toArray) (.agg ys.toArray)).run P w= .ok q w:=by
   have:=run_equalIn_struct (P:=P) w 9999 t xs.toArray ys.toArray (by rw[e1];exact ht) hp
   rw[e1,j8 h 9998,hq] at this
   exact this
 exact kE .eql hx hy (by simp[eqGuard,hg]) (by simp[binOp,hr])
end
end TL
namespace TL
open Go
section
variable{P:Program}{f:Fr}{w:World}{dst:Option Tmp}{ty:TypeId}{pos:String}{after:Array Edge}{g:Option (Nat×Bool)}{t:TypeId}{x:Operand}
end
end TL
namespace TL
open Go
section
variable{P:Program}{f:Fr}{w:World}{dst:Option Tmp}{ty:TypeId}{pos:String}{after:Array Edge}{g:Option (Nat×Bool)}{t t':TypeId}{x y:Operand}{m n:Int}
end
end TL
namespace TL
open Go
end TL
/-
  TlRot: rotations: which may be, turned to their least, faces.
  By an AI agent.
-/
set_option linter.all false
namespace TL
abbrev tN:=List (List Int)
def wX(g:cP)(r:tN):Prop:=(r.length:Int)=g.1/\(∀v:Nat,v<r.length->∀h∈gI r (v:Int),(0<=h/\h<2*(g.2.length:Int))/\vd g h=v)/\r.flatten.Nodup/\(r.flatten.length:Int)=2*g.2.length
instance (g:cP)(r:tN):Decidable (wX g r):=by unfold wX;infer_instance
section
variable{seen:List Bool}{n:Int}{g:cP}{r:tN}{k i:Nat}
end
def iy(s:List Int)(v:Int):Int:=if v∈s then(s.idxOf v:Int) else-1
theorem rr{s:List Int}{v:Int}{i:Nat}(h:∀j:Nat,j<i->¬v=gI s (j:Int))(hi:(i:Int)<s.length)(he:v=gI s (i:Int)):(i:Int)=iy s v:=by
 have hlt:i<s.length:=by omega
 have e:gI s (i:Int)=s[i]:=by simp[gI,hlt]
 have hm:v∈s:=by rw[he];exact ba (by omega) hi
 unfold iy
 rw[if_pos hm]
 have hlt2:=List.idxOf_lt_length_iff.2 hm
 have h1:¬s.idxOf v<i:=λhlt'=>h _ hlt' (by simp[gI,hlt2])
 have h2:¬i<s.idxOf v:=λhlt'=>by
   have:=List.not_of_lt_findIdx (xs:=s) (p:=(· ==v)) (i:=i) hlt'
   simp at this
   exact this (by rw[<-e,<-he])
 omega
theorem uC{s:List Int}{v:Int}{i:Nat}(h:∀j:Nat,j<i->¬v=gI s (j:Int))(hi:¬(i:Int)<s.length):(-1:Int)=iy s v:=by
 unfold iy
 rw[if_neg]
 intro hm
 obtain⟨j,hj,e⟩:=List.mem_iff_getElem.1 hm
 exact h j (by omega) (by simp[gI,hj,e])
end TL
namespace TL
end TL
/-
  TlShort: short names for the commonest steps (used by packed claims only).
  By an AI agent.
-/
set_option linter.all false
namespace TL
open Go
abbrev vi(x:Int):Value:=Value.int .i64 x
abbrev vp(b o:Nat):Value:=Value.pointer (some ⟨b,o,none⟩)
abbrev vn:Value:=Value.slice none 0 0
abbrev vt(l:List Value):Value:=Value.tuple (List.toArray l)
abbrev vg(l:List Value):Value:=Value.agg (List.toArray l)
theorem cg(L:List Nat){γ γ':aW}{w w':World}(h:bu (bY L) γ w γ' w'):bu (bY L) γ w γ' w':=h
theorem dt{p:Prop}[Decidable p](h:p):decide p=true:=decide_eq_true h
theorem df{p:Prop}[Decidable p](h:¬p):decide p=false:=decide_eq_false h
section
variable{P:Program}{all rest:List Oper}{K:Fr->World->Prop}{f:Fr}{w w':World}{x:Operand}
variable{dst:Option Tmp}{op:Op}{ty:TypeId}{pos:String}{after:Array Edge}{g:Option (Nat×Bool)}{o:Oper}
theorem lv(v:Value)(hw:cT all ⟨dst,op,ty,pos,after,g⟩ f=true)(h:(execOp (ev f) ⟨dst,op,ty,pos,after,g⟩).run P w= .ok (.value v) w')(hk:ie P all rest K (fT f dst v) w'):ie P all (⟨dst,op,ty,pos,after,g⟩::rest) K f w:=jE hw h hk
theorem lx{v:Value}(h:(execOp (ev f) ⟨dst,op,ty,pos,after,none⟩).run P w= .ok (.value v) w')(hk:ie P all rest K (fT f dst v) w'):ie P all (⟨dst,op,ty,pos,after,none⟩::rest) K f w:=jE rfl h hk
theorem lw(v:Value)(h:(execOp (ev f) ⟨dst,op,ty,pos,after,none⟩).run P w= .ok (.value v) w')(hk:ie P all rest K (fT f dst v) w'):ie P all (⟨dst,op,ty,pos,after,none⟩::rest) K f w:=jE rfl h hk
theorem mv(v:Value)(hk:ie P all rest K (fT f dst v) w)(h:ev f x=v:=by exact rfl):ie P all (⟨dst,.move x,ty,pos,after,none⟩::rest) K f w:=jE rfl (aw h) hk
theorem ma(v:Value)(hk:ie P all rest K (fT f dst v) w)(h:ev f x=v:=by exact rfl):ie P all (⟨dst,.assign x,ty,pos,after,none⟩::rest) K f w:=jE rfl (bi h) hk
theorem mi(v:Int)(hk:ie P all rest K (fT f dst (.int .i64 v)) w)(h:ev f x= .int .i64 v:=by exact rfl):ie P all (⟨dst,.move x,ty,pos,after,none⟩::rest) K f w:=jE rfl (aw h) hk
theorem ai(v:Int)(hk:ie P all rest K (fT f dst (.int .i64 v)) w)(h:ev f x= .int .i64 v:=by exact rfl):ie P all (⟨dst,.assign x,ty,pos,after,none⟩::rest) K f w:=jE rfl (bi h) hk
theorem mz{v:Value}(h:ev f x=v)(hk:ie P all rest K (fT f dst v) w):ie P all (⟨dst,.move x,ty,pos,after,none⟩::rest) K f w:=jE rfl (aw h) hk
theorem lo(h:gT P ⟨dst,op,ty,pos,after,none⟩ f w (λv w'=>ie P all rest K (fT f dst v) w')):ie P all (⟨dst,op,ty,pos,after,none⟩::rest) K f w:=cj rfl h
theorem wy{j:Nat}{x:Bool}{d:Nat}{b:Bool}(hx:b=x)(hg:o.guard=some (j,x):=by exact rfl)(hj:(all[j]?).bind (·.dst)=some d:=by exact rfl)(hb:f d= .bool b:=by exact rfl):cT all o f=true:=vH hg hj hb hx
theorem wn{j:Nat}{x:Bool}{d:Nat}{b:Bool}(hx:b= !x)(hg:o.guard=some (j,x):=by exact rfl)(hj:(all[j]?).bind (·.dst)=some d:=by exact rfl)(hb:f d= .bool b:=by exact rfl):cT all o f=false:=wu hg hj hb hx
variable{C:World->Prop}{KQ:Fr->Prop}
theorem qv(v:Value)(h:∀w,C w->(execOp (ev f) ⟨dst,op,ty,pos,after,none⟩).run P w= .ok (.value v) w)(hk:k5 P all C rest KQ (fT f dst v)):k5 P all C (⟨dst,op,ty,pos,after,none⟩::rest) KQ f:=aR rfl h hk
theorem qx{v:Value}(h:∀w,C w->(execOp (ev f) ⟨dst,op,ty,pos,after,none⟩).run P w= .ok (.value v) w)(hk:k5 P all C rest KQ (fT f dst v)):k5 P all C (⟨dst,op,ty,pos,after,none⟩::rest) KQ f:=aR rfl h hk
theorem qm(v:Value)(hk:k5 P all C rest KQ (fT f dst v))(h:ev f x=v:=by exact rfl):k5 P all C (⟨dst,.move x,ty,pos,after,none⟩::rest) KQ f:=aR rfl (λ_ _=>aw h) hk
theorem qz{v:Value}(h:ev f x=v)(hk:k5 P all C rest KQ (fT f dst v)):k5 P all C (⟨dst,.move x,ty,pos,after,none⟩::rest) KQ f:=aR rfl (λ_ _=>aw h) hk
end
section
variable{P:Program}{n:Nat}{l:List Oper}{S:World->Prop}{K:Fr->World->Prop}{f:Fr}{w:World}{done:List Nat}{fuel:Nat}{qs:List Nat}
variable{dst:Option Tmp}{op:Op}{ty:TypeId}{pos:String}{after:Array Edge}{g:Option (Nat×Bool)}{v:Value}
theorem ht(i:Nat)(hi:l[i]? =some ⟨dst,op,ty,pos,after,none⟩)(hS:S w)(h:∀w,S w->(execOp (ev f) ⟨dst,op,ty,pos,after,none⟩).run P w= .ok (.value v) w)(hk:oK P n l S K fuel (i::done) (fT f dst v) w)(hn:fK l=true:=by kernel_rfl)(hc:(fm l done i&&gW l done i&&kM n ⟨dst,op,ty,pos,after,none⟩)=true:=by kernel_rfl):oK P n l S K (fuel+1) done f w:=vI i hi hn hc rfl hS h hk
theorem xv(i:Nat)(M:List Nat)(hi:l[i]? =some ⟨dst,op,ty,pos,after,none⟩)(h:(execOp (ev f) ⟨dst,op,ty,pos,after,none⟩).run P w= .ok (.value v) w)(hk:kV P n l qs K fuel (i::done) (fT f dst v) w)(hn:fK l=true:=by kernel_rfl)(hc:(qs.contains i&&fm l done i&&gW l done i&&lR l qs done M i&&kM n ⟨dst,op,ty,pos,after,none⟩)=true:=by kernel_rfl):kV P n l qs K (fuel+1) done f w:=wR i M hi hn hc rfl h hk
theorem xh(i:Nat)(M:List Nat)(hi:l[i]? =some ⟨dst,op,ty,pos,after,none⟩)(h:∀w',cW w.heap.size w w'->(execOp (ev f) ⟨dst,op,ty,pos,after,none⟩).run P w'= .ok (.value v) w')(hk:kV P n l qs K fuel (i::done) (fT f dst v) w)(hn:fK l=true:=by kernel_rfl)(hc:(qs.contains i&&fm l done i&&gW l done i&&mp l qs done M i&&kM n ⟨dst,op,ty,pos,after,none⟩)=true:=by kernel_rfl):kV P n l qs K (fuel+1) done f w:=ws i M hi hn hc rfl h hk
theorem xp(i:Nat)(hi:l[i]? =some ⟨dst,op,ty,pos,after,none⟩)(h:∀w,(execOp (ev f) ⟨dst,op,ty,pos,after,none⟩).run P w= .ok (.value v) w)(hk:kV P n l qs K fuel (i::done) (fT f dst v) w)(hn:fK l=true:=by kernel_rfl)(hc:(qs.contains i&&fm l done i&&gW l done i&&kM n ⟨dst,op,ty,pos,after,none⟩)=true:=by kernel_rfl):kV P n l qs K (fuel+1) done f w:=vV i hi hn hc rfl h hk
end
section
variable{γ γ':aW}{w w':World}{v:Value}{j k:Nat}{L:List Nat}
theorem bo.ca{w0:World}(h:bo w0 γ w)(hc:bu (bY L) γ w γ' w')(hj:L.contains 0=false:=by exact rfl):bo w0 γ' w':=h.chg hc (bD hj)
theorem bo.ce{w0:World}(h:bo w0 γ w)(hc:bu (is k) γ w γ' w')(hj:Nat.beq 0 k=false:=by exact rfl):bo w0 γ' w':=h.chg hc (ic hj)
theorem bo.cn{w0:World}(h:bo w0 γ w)(hc:bu no γ w γ' w'):bo w0 γ' w':=h.chg hc (iw _)
theorem Bx.ca{b:Nat}{cs:List Value}(h:Bx γ (is j) w b cs)(hc:bu (bY L) γ w γ' w')(hj:L.contains j=false:=by exact rfl):Bx γ' (is j) w' b cs:=h.chg hc (bD hj)
theorem Bx.ce{b:Nat}{cs:List Value}(h:Bx γ (is j) w b cs)(hc:bu (is k) γ w γ' w')(hj:Nat.beq j k=false:=by exact rfl):Bx γ' (is j) w' b cs:=h.chg hc (ic hj)
theorem Bx.cn{J:cM->Prop}{b:Nat}{cs:List Value}(h:Bx γ J w b cs)(hc:bu no γ w γ' w'):Bx γ' J w' b cs:=h.chg hc (iw _)
theorem Sl.ca{α:Type}[Rp α]{xs:List α}(h:Sl γ (is j) w v xs)(hc:bu (bY L) γ w γ' w')(hj:L.contains j=false:=by exact rfl):Sl γ' (is j) w' v xs:=h.chg hc (bD hj)
theorem Sl.ce{α:Type}[Rp α]{xs:List α}(h:Sl γ (is j) w v xs)(hc:bu (is k) γ w γ' w')(hj:Nat.beq j k=false:=by exact rfl):Sl γ' (is j) w' v xs:=h.chg hc (ic hj)
theorem Sl.cn{α:Type}[Rp α]{S:cM->Prop}{xs:List α}(h:Sl γ S w v xs)(hc:bu no γ w γ' w'):Sl γ' S w' v xs:=h.chg hc (iw _)
theorem Ow.ca{α:Type}[Rp α]{xs:List α}(h:Ow γ (is j) (is j) w v xs)(hc:bu (bY L) γ w γ' w')(hj:L.contains j=false:=by exact rfl):Ow γ' (is j) (is j) w' v xs:=h.chg hc (bD hj) (bD hj)
theorem Ow.ce{α:Type}[Rp α]{xs:List α}(h:Ow γ (is j) (is j) w v xs)(hc:bu (is k) γ w γ' w')(hj:Nat.beq j k=false:=by exact rfl):Ow γ' (is j) (is j) w' v xs:=h.chg hc (ic hj) (ic hj)
theorem Ow.cn{α:Type}[Rp α]{J S:cM->Prop}{xs:List α}(h:Ow γ J S w v xs)(hc:bu no γ w γ' w'):Ow γ' J S w' v xs:=h.chg hc (iw _) (iw _)
theorem eb.ca{α:Type}[Rp α]{xs:List (List α)}(h:eb γ j w v xs)(hc:bu (bY L) γ w γ' w')(hj:L.contains j=false:=by exact rfl):eb γ' j w' v xs:=h.chg hc (bD hj)
theorem eb.ce{α:Type}[Rp α]{xs:List (List α)}(h:eb γ j w v xs)(hc:bu (is k) γ w γ' w')(hj:Nat.beq j k=false:=by exact rfl):eb γ' j w' v xs:=h.chg hc (ic hj)
theorem eb.cn{α:Type}[Rp α]{xs:List (List α)}(h:eb γ j w v xs)(hc:bu no γ w γ' w'):eb γ' j w' v xs:=h.chg hc (iw _)
theorem fM.ca{α:Type}[Rp α]{h0:Nat}{xs:List (List α)}(h:fM γ j h0 w v xs)(hc:bu (bY L) γ w γ' w')(hj:L.contains j=false:=by exact rfl):fM γ' j h0 w' v xs:=h.chg hc (bD hj)
theorem fM.ce{α:Type}[Rp α]{h0:Nat}{xs:List (List α)}(h:fM γ j h0 w v xs)(hc:bu (is k) γ w γ' w')(hj:Nat.beq j k=false:=by exact rfl):fM γ' j h0 w' v xs:=h.chg hc (ic hj)
theorem fM.cn{α:Type}[Rp α]{h0:Nat}{xs:List (List α)}(h:fM γ j h0 w v xs)(hc:bu no γ w γ' w'):fM γ' j h0 w' v xs:=h.chg hc (iw _)
def xz(δ g:aW)(w:World)(ren:Nat->Nat):Prop:=(∀{α:Type} [Rp α] {i:Nat} {v:Value} {xs:List α},Ow δ (is i) (is i) w v xs->∀k:Nat,Nat.beq i 0=false->ren i=k->Ow g (is k) (is k) w v xs)/\(∀{α:Type} [Rp α] {i:Nat} {v:Value} {xs:List (List α)},eb δ i w v xs->∀k:Nat,Nat.beq i 0=false->ren i=k->eb g k w v xs)
theorem ny{δ:aW}(γ:aW)(fr:gw w δ w')(ren:Nat->Nat):∃g,bu no γ w g w'/\xz δ g w' ren:=
 ⟨_,sb fr.below γ δ ren,λh k hi hr=>h.glue fr.col hi hr,λh k hi hr=>h.glue fr.col hi hr⟩
theorem Ow.gl{α:Type}[Rp α]{δ g:aW}{ren:Nat->Nat}{i:Nat}{xs:List α}(h:Ow δ (is i) (is i) w v xs)(G:xz δ g w ren)(k:Nat)(hi:Nat.beq i 0=false:=by exact rfl)(hr:ren i=k:=by exact rfl):Ow g (is k) (is k) w v xs:=G.1 h k hi hr
theorem eb.gl{α:Type}[Rp α]{δ g:aW}{ren:Nat->Nat}{i:Nat}{xs:List (List α)}(h:eb δ i w v xs)(G:xz δ g w ren)(k:Nat)(hi:Nat.beq i 0=false:=by exact rfl)(hr:ren i=k:=by exact rfl):eb g k w v xs:=G.2 h k hi hr
end
end TL
/-
  TlGeom: points with whole coordinates: turns, segments, how they meet.
  By an AI agent.
-/
set_option linter.all false
namespace TL
abbrev Pt:=Int×Int
def ct(x y:Int):Int:=if x<y then-1 else if y<x then 1 else 0
theorem qq(x:Int):ct x 0=x.sign:=by
 unfold ct
 rcases Int.lt_trichotomy x 0 with h|h|h
 · rw[if_pos h,Int.sign_eq_neg_one_of_neg h]
 · subst h;rfl
 · rw[if_neg (by omega),if_pos h,Int.sign_eq_one_of_pos h]
theorem gM(x:Int):x.sign= -1/\x<0\/x.sign=0/\x=0\/x.sign=1/\0<x:=by
 rcases Int.lt_trichotomy x 0 with h|h|h
 · exact .inl ⟨Int.sign_eq_neg_one_of_neg h,h⟩
 · exact .inr (.inl ⟨by rw[h];rfl,h⟩)
 · exact .inr (.inr ⟨Int.sign_eq_one_of_pos h,h⟩)
def nO(a b:Pt):Int:=a.1*b.2-a.2*b.1
def cH(b a:Pt):Pt:=(b.1-a.1,b.2-a.2)
def bG(a b c:Pt):Int:=ct (nO (cH b a) (cH c a)) 0
theorem kF{a b c:Pt}:bG a b c=0↔(b.1-a.1)*(c.2-a.2)=(b.2-a.2)*(c.1-a.1):=by
 unfold bG
 rw[qq,Int.sign_eq_zero_iff_zero]
 unfold nO cH
 simp only
 omega
theorem fx(a b c:Pt): -1<=bG a b c/\bG a b c<=1:=by unfold bG ct;split<;>(try split)<;>omega
def bR(p by_:Pt):Pt:=(p.1+by_.1,p.2+by_.2)
theorem q5(a b c q:Pt):bG (bR a q) (bR b q) (bR c q)=bG a b c:=by
 unfold bG
 congr 1
 unfold nO cH bR
 simp only
 grind
def i8(a b p:Pt):Prop:=(min a.1 b.1<=p.1/\p.1<=max a.1 b.1)/\min a.2 b.2<=p.2/\p.2<=max a.2 b.2
instance (a b p:Pt):Decidable (i8 a b p):=by unfold i8;infer_instance
def cA(a b p:Pt):Prop:=bG a b p=0/\i8 a b p
instance (a b p:Pt):Decidable (cA a b p):=by unfold cA;infer_instance
theorem oL{a b p q:Pt}:cA (bR a q) (bR b q) (bR p q)↔cA a b p:=by
 unfold cA i8
 rw[q5]
 unfold bR
 simp only
 omega
theorem eE(a b:Pt):cA a b a/\cA a b b:=by
 have e1:bG a b a=0:=kF.2 (by simp)
 have e2:bG a b b=0:=kF.2 (by rw[Int.mul_comm])
 unfold cA i8
 rw[e1,e2]
 omega
def c7(a b:Pt):Int:=if ct a.1 b.1≠0 then ct a.1 b.1 else ct a.2 b.2
def dA(a b c d:Pt):Int:=
 let a':=if 0<c7 a b then b else a
 let b':=if 0<c7 a b then a else b
 let c':=if 0<c7 c d then d else c
 let d':=if 0<c7 c d then c else d
 let low:=if 0<c7 c' a' then c' else a'
 let high:=if c7 d' b'<0 then d' else b'
 if 0<c7 low high then 0 else if c7 low high=0 then 2 else 3
def bL(a b c d:Pt):Int:=
 if bG a b c=0/\bG a b d=0/\bG c d a=0/\bG c d b=0 then dA a b c d
 else if bG a b c*bG a b d<0/\bG c d a*bG c d b<0 then 1
 else if cA a b c\/cA a b d\/cA c d a\/cA c d b then 2 else 0
def dV(p:Pt):Int:=p.1*1073741824+p.2
def cV(p:Pt):Prop:=(-4194304<=p.1/\p.1<=4194304)/\ -4194304<=p.2/\p.2<=4194304
theorem fU{a b:Pt}(ha:cV a)(hb:cV b):c7 a b=ct (dV a) (dV b):=by
 unfold c7 ct dV
 unfold cV at ha hb
 repeat' split
 all_goals omega
def dW(a b c d:Int):Int:=
 if min (max a b) (max c d)<max (min a b) (min c d) then 0 else if min (max a b) (max c d)=max (min a b) (min c d) then 2 else 3
theorem gJ{x y:Int}:0<ct x y↔y<x:=by unfold ct;split<;>(try split)<;>omega
theorem nK{x y:Int}:ct x y<0↔x<y:=by unfold ct;split<;>(try split)<;>omega
theorem q4{x y:Int}:ct x y=0↔x=y:=by unfold ct;split<;>(try split)<;>omega
theorem qU{a b c d:Pt}(ha:cV a)(hb:cV b)(hc:cV c)(hd:cV d):dA a b c d=dW (dV a) (dV b) (dV c) (dV d):=by
 unfold dA
 simp only
 have e1:0<c7 a b↔dV b<dV a:=by rw[fU ha hb,gJ]
 have e2:0<c7 c d↔dV d<dV c:=by rw[fU hc hd,gJ]
 have kQ:∀a b c d:Pt,cV a->cV b->cV c->cV d->dV a<=dV b->dV c<=dV d->
     (if 0<c7 (if 0<c7 c a then c else a) (if c7 d b<0 then d else b) then(0:Int) else if c7 (if 0<c7 c a then c else a) (if c7 d b<0 then d else b)=0 then 2 else 3)=dW (dV a) (dV b) (dV c) (dV d):=by
   intro a b c d ha hb hc hd h1 h2
   have e3:0<c7 c a↔dV a<dV c:=by rw[fU hc ha,gJ]
   have e4:c7 d b<0↔dV d<dV b:=by rw[fU hd hb,nK]
   have low:∃p,(if 0<c7 c a then c else a)=p/\cV p/\dV p=max (dV a) (dV c):=by
     by_cases h:0<c7 c a
     · rw[if_pos h];exact⟨c,rfl,hc,by have:=e3.1 h;omega⟩
     · rw[if_neg h];exact⟨a,rfl,ha,by have:=mt e3.2 h;omega⟩
   have high:∃p,(if c7 d b<0 then d else b)=p/\cV p/\dV p=min (dV b) (dV d):=by
     by_cases h:c7 d b<0
     · rw[if_pos h];exact⟨d,rfl,hd,by have:=e4.1 h;omega⟩
     · rw[if_neg h];exact⟨b,rfl,hb,by have:=mt e4.2 h;omega⟩
   obtain⟨p,ep,hp,kp⟩:=low
   obtain⟨q,eq,hq,kq⟩:=high
   rw[ep,eq,fU hp hq]
   unfold dW
   have m1:max (dV a) (dV b)=dV b:=by omega
   have m2:max (dV c) (dV d)=dV d:=by omega
   have m3:min (dV a) (dV b)=dV a:=by omega
   have m4:min (dV c) (dV d)=dV c:=by omega
   rw[m1,m2,m3,m4,<-kp,<-kq]
   by_cases c1:dV q<dV p
   · rw[if_pos (gJ.2 c1),if_pos c1]
   · rw[if_neg (mt gJ.1 c1),if_neg c1]
     by_cases c2:dV q=dV p
     · rw[if_pos (q4.2 c2.symm),if_pos c2]
     · rw[if_neg (λh=>c2 (q4.1 h).symm),if_neg c2]
 have lk1:∀x y z t:Int,dW y x z t=dW x y z t:=λx y z t=>by unfold dW;rw[Int.max_comm y x,Int.min_comm y x]
 have lk2:∀x y z t:Int,dW x y t z=dW x y z t:=λx y z t=>by unfold dW;rw[Int.max_comm t z,Int.min_comm t z]
 by_cases c1:0<c7 a b
 · have k1:=e1.1 c1
   by_cases c2:0<c7 c d
   · have k2:=e2.1 c2
     simp only[if_pos c1,if_pos c2]
     rw[kQ b a d c hb ha hd hc (by omega) (by omega),lk1,lk2]
   · have k2:=mt e2.2 c2
     simp only[if_pos c1,if_neg c2]
     rw[kQ b a c d hb ha hc hd (by omega) (by omega),lk1]
 · have k1:=mt e1.2 c1
   by_cases c2:0<c7 c d
   · have k2:=e2.1 c2
     simp only[if_neg c1,if_pos c2]
     rw[kQ a b d c ha hb hd hc (by omega) (by omega),lk2]
   · have k2:=mt e2.2 c2
     simp only[if_neg c1,if_neg c2]
     rw[kQ a b c d ha hb hc hd (by omega) (by omega)]
theorem mF(x y z t:Int):(min (max x y) (max z t)<max (min x y) (min z t))↔((x<z/\x<t)/\y<z/\y<t)\/((z<x/\t<x)/\z<y/\t<y):=by omega
theorem ns(x y z t:Int):(max (min x y) (min z t)<min (max x y) (max z t))↔((x<y\/y<x)/\(z<t\/t<z))/\((x<z\/x<t)\/y<z\/y<t)/\((z<x\/t<x)\/z<y\/t<y):=by omega
theorem iv{x y z t x' y' z' t':Int}(h1:x<y↔x'<y')(h1':y<x↔y'<x')(h2:x<z↔x'<z')(h2':z<x↔z'<x')(h3:x<t↔x'<t')(h3':t<x↔t'<x')(h4:y<z↔y'<z')(h4':z<y↔z'<y')(h5:y<t↔y'<t')(h5':t<y↔t'<y')(h6:z<t↔z'<t')(h6':t<z↔t'<z'):dW x' y' z' t'=dW x y z t:=by
  have e1:(min (max x' y') (max z' t')<max (min x' y') (min z' t'))↔(min (max x y) (max z t)<max (min x y) (min z t)):=by
    rw[mF,mF,h2,h2',h3,h3',h4,h4',h5,h5']
  have e2:(max (min x' y') (min z' t')<min (max x' y') (max z' t'))↔(max (min x y) (min z t)<min (max x y) (max z t)):=by
    rw[ns,ns,h1,h1',h2,h2',h3,h3',h4,h4',h5,h5',h6,h6']
  have e3:(min (max x' y') (max z' t')=max (min x' y') (min z' t'))↔(min (max x y) (max z t)=max (min x y) (min z t)):=by
    constructor
    · intro h
      have a:=mt e1.2 (by omega)
      have b:=mt e2.2 (by omega)
      omega
    · intro h
      have a:=mt e1.1 (by omega)
      have b:=mt e2.1 (by omega)
      omega
  unfold dW
  simp only[e1,e3]
theorem qM(x y z t:Int):dW (-x) (-y) (-z) (-t)=dW x y z t:=by
 unfold dW
 have e1:(min (max (-x) (-y)) (max (-z) (-t))<max (min (-x) (-y)) (min (-z) (-t)))↔(min (max x y) (max z t)<max (min x y) (min z t)):=by omega
 have e2:(min (max (-x) (-y)) (max (-z) (-t))=max (min (-x) (-y)) (min (-z) (-t)))↔(min (max x y) (max z t)=max (min x y) (min z t)):=by omega
 simp only[e1,e2]
end TL
namespace TL
theorem gB{x y:Int}(h1: -16777216<=x/\x<=16777216)(h2: -16777216<=y/\y<=16777216): -281474976710656<=x*y/\x*y<=281474976710656:=by
 have h:=Int.natAbs_mul x y
 have a:x.natAbs<=16777216:=by omega
 have b:y.natAbs<=16777216:=by omega
 have c:x.natAbs*y.natAbs<=16777216*16777216:=Nat.mul_le_mul a b
 omega
def wB(p:Pt):Prop:=(-16777216<=p.1/\p.1<=16777216)/\ -16777216<=p.2/\p.2<=16777216
theorem jX{a b:Pt}(ha:cV a)(hb:cV b):wB (cH b a):=by
 unfold cV at ha hb
 unfold wB cH
 simp only
 omega
def ck(p:Pt):Prop:=(-1048576<=p.1/\p.1<=1048576)/\ -1048576<=p.2/\p.2<=1048576
instance (p:Pt):Decidable (ck p):=by unfold ck;infer_instance
theorem ck.bd{p:Pt}(h:ck p):cV p:=by unfold ck at h;unfold cV;omega
def dy(ps:List Pt):Prop:=ps.length<=4096/\∀p∈ps,ck p
instance (ps:List Pt):Decidable (dy ps):=by unfold dy;infer_instance
theorem rv{ps:List Pt}(h:∀j:Nat,j<ps.length->ck (gI ps (j:Int))):∀p∈ps,ck p:=λp hp=>by
 obtain⟨i,hi,rfl⟩:=List.mem_iff_getElem.1 hp
 have:=h i hi
 have e:gI ps (i:Int)=ps[i]:=by simp[gI,hi]
 rwa[e] at this
def nP:List Int->Int
 |[]=>0
 |x::l=>if x=0 then nP l else x
theorem sj(a b:Pt):c7 a b=nP [ct a.1 b.1,ct a.2 b.2]:=by
 unfold c7 nP
 by_cases h:ct a.1 b.1=0
 · rw[if_neg (by simp[h]),if_pos h]
   unfold nP
   by_cases h2:ct a.2 b.2=0
   · rw[if_pos h2,h2];rfl
   · rw[if_neg h2]
 · rw[if_pos h,if_neg h]
theorem rV{l:List Int}{k:Nat}(h:∀j:Nat,j<k->gI l (j:Int)=0)(hk:(k:Int)<l.length)(hx:gI l (k:Int)≠0):gI l (k:Int)=nP l:=by
 induction l generalizing k with
 |nil=>simp at hk;omega
 |cons a l ih=>
   cases k with
   |zero=>
     have e:gI (a::l) ((0:Nat):Int)=a:=by simp[gI]
     rw[e] at hx ⊢
     unfold nP;rw[if_neg hx]
   |succ k=>
     have e:∀j:Nat,gI (a::l) ((j+1:Nat):Int)=gI l (j:Int):=λj=>by simp[gI]
     have e0:gI (a::l) ((0:Nat):Int)=a:=by simp[gI]
     have h0:=h 0 (by omega)
     rw[e0] at h0
     rw[e] at hx ⊢
     unfold nP;rw[if_pos h0]
     exact ih (λj hj=>by rw[<-e];exact h (j+1) (by omega)) (by simp at hk;omega) hx
theorem sc{l:List Int}{k:Nat}(h:∀j:Nat,j<k->gI l (j:Int)=0)(hk:¬(k:Int)<l.length):0=nP l:=by
 induction l generalizing k with
 |nil=>rfl
 |cons a l ih=>
   have e:∀j:Nat,gI (a::l) ((j+1:Nat):Int)=gI l (j:Int):=λj=>by simp[gI]
   have e0:gI (a::l) ((0:Nat):Int)=a:=by simp[gI]
   simp at hk
   have h0:=h 0 (by omega)
   rw[e0] at h0
   unfold nP;rw[if_pos h0]
   exact ih (k:=k-1) (λj hj=>by rw[<-e];exact h (j+1) (by omega)) (by omega)
def db(a b c:Pt):Bool×Int:=if ck a/\ck b/\ck c then(decide (cA a b c),0) else(false,1)
def cS(a b c d:Pt):Int×Int:=if(ck a/\ck b)/\ck c/\ck d then(bL a b c d,0) else(0,1)
theorem wW{a b c:Pt}:dy [a,b,c]↔ck a/\ck b/\ck c:=by simp[dy]
theorem wF{a b c d:Pt}:dy [a,b,c,d]↔(ck a/\ck b)/\ck c/\ck d:=by simp[dy,and_assoc]
def pS(p:Pt):Int:=if 0<p.1\/p.1=0/\0<p.2 then 0 else 1
section
variable{a b c d:Pt}
theorem nX(h1:bG a b c=0)(h2:bG a b d=0)(h3:bG c d a=0)(h4:bG c d b=0):dA a b c d=bL a b c d:=by
 unfold bL;rw[if_pos ⟨h1,h2,h3,h4⟩]
theorem n6(h1:bG a b c*bG a b d<0)(h2:bG c d a*bG c d b<0):1=bL a b c d:=by
 unfold bL
 rw[if_neg (λh=>by rw[h.1,Int.zero_mul] at h1;omega),if_pos ⟨h1,h2⟩]
theorem fD(h0:¬(bG a b c=0/\bG a b d=0/\bG c d a=0/\bG c d b=0))(h1:¬(bG a b c*bG a b d<0/\bG c d a*bG c d b<0))(h2:cA a b c\/cA a b d\/cA c d a\/cA c d b):2=bL a b c d:=by
 unfold bL
 rw[if_neg h0,if_neg h1,if_pos h2]
theorem mX(h0:¬(bG a b c=0/\bG a b d=0/\bG c d a=0/\bG c d b=0))(h1:¬(bG a b c*bG a b d<0/\bG c d a*bG c d b<0))(h2:¬(cA a b c\/cA a b d\/cA c d a\/cA c d b)):0=bL a b c d:=by
 unfold bL
 rw[if_neg h0,if_neg h1,if_neg h2]
end
end TL
/-
  TlGeomR: what is told of many points: areas, boxes, whether a polyline is simple.
  By an AI agent.
-/
set_option linter.all false
namespace TL
def lG(ps:List Pt):Nat->Pt
 |0=>gI ps 0
 |k+1=>(min (lG ps k).1 (gI ps (k:Int)).1,min (lG ps k).2 (gI ps (k:Int)).2)
def m8(ps:List Pt):Nat->Pt
 |0=>gI ps 0
 |k+1=>(max (m8 ps k).1 (gI ps (k:Int)).1,max (m8 ps k).2 (gI ps (k:Int)).2)
def mr(ps:List Pt):Prop:=4<=(ps.length:Int)/\gI ps 0=gI ps ((ps.length:Int)-1)
instance (ps:List Pt):Decidable (mr ps):=by unfold mr;infer_instance
def eL(ps:List Pt)(i k:Nat):Prop:=k=i+1\/i=0/\(k:Int)=(ps.length:Int)-2/\mr ps
instance (ps:List Pt)(i k:Nat):Decidable (eL ps i k):=by unfold eL;infer_instance
def wZ(ps:List Pt)(i k:Nat):Int:=bL (gI ps (i:Int)) (gI ps ((i:Int)+1)) (gI ps (k:Int)) (gI ps ((k:Int)+1))
def fw(ps:List Pt)(i k:Nat):Prop:=eL ps i k/\wZ ps i k=3\/¬eL ps i k/\wZ ps i k≠0
instance (ps:List Pt)(i k:Nat):Decidable (fw ps i k):=by unfold fw;infer_instance
def vQ(ps:List Pt)(i:Nat):Prop:=gI ps (i:Int)≠gI ps ((i:Int)+1)/\∀k<ps.length,i<k->(k:Int)<=(ps.length:Int)-2->¬fw ps i k
instance (ps:List Pt)(i:Nat):Decidable (vQ ps i):=by unfold vQ;infer_instance
def fc(ps:List Pt):Prop:=∀i<ps.length,(i:Int)<=(ps.length:Int)-2->vQ ps i
instance (ps:List Pt):Decidable (fc ps):=by unfold fc;infer_instance
section
variable{ps:List Pt}
theorem vm{i:Nat}(hi:(i:Int)<=(ps.length:Int)-2)(h:gI ps (i:Int)=gI ps ((i:Int)+1)):false=decide (fc ps):=
 (decide_eq_false λhs=>(hs i (by omega) hi).1 h).symm
theorem eY{i k:Nat}(hi:(i:Int)<=(ps.length:Int)-2)(hk:(k:Int)<=(ps.length:Int)-2)(hik:i<k)(h:fw ps i k):false=decide (fc ps):=
 (decide_eq_false λhs=>(hs i (by omega) hi).2 k (by omega) hik hk h).symm
variable{i k:Nat}
theorem jF(h:(k:Int)=(i:Int)+1):eL ps i k:=.inl (by omega)
theorem oP(h:¬(k:Int)=(i:Int)+1)(h1:¬(i:Int)=0):¬eL ps i k:=by
 rintro(c|⟨c,_⟩)<;>omega
theorem sJ(h:¬(k:Int)=(i:Int)+1)(h1:¬(k:Int)=(ps.length:Int)-2):¬eL ps i k:=by
 rintro(c|⟨_,c,_⟩)<;>omega
theorem tB(hj:¬eL ps i k)(hm:¬bL (gI ps (i:Int)) (gI ps ((i:Int)+1)) (gI ps (k:Int)) (gI ps ((k:Int)+1))=0):fw ps i k:=.inr ⟨hj,hm⟩
theorem xb(hj:eL ps i k)(hm:¬bL (gI ps (i:Int)) (gI ps ((i:Int)+1)) (gI ps (k:Int)) (gI ps ((k:Int)+1))=3):¬fw ps i k:=by
 rintro(⟨_,h⟩|⟨h,_⟩)
 · exact hm h
 · exact h hj
theorem oZ(hj:¬eL ps i k)(hm:bL (gI ps (i:Int)) (gI ps ((i:Int)+1)) (gI ps (k:Int)) (gI ps ((k:Int)+1))=0):¬fw ps i k:=by
 rintro(⟨h,_⟩|⟨_,h⟩)
 · exact hj h
 · exact h hm
end
end TL
/-
  TlConv: whole numbers turned to another kind, a string's byte, functions that bear values.
  By an AI agent.
-/
set_option linter.all false
namespace TL
open Go
section
variable{P:Program}{w:World}{f:Fr}{dst:Option Tmp}{ty:TypeId}{pos:String}{after:Array Edge}{g:Option (Nat×Bool)}{x y:Operand}{s d t:TypeId}{m:Int}{k k0:IntKind}
end
end TL
namespace TL
open Go
section
variable{P:Program}{w:World}{f:Fr}{dst:Option Tmp}{ty:TypeId}{pos:String}{after:Array Edge}{g:Option (Nat×Bool)}{x y:Operand}{t t':TypeId}
theorem dD{fs:Array Field}{xs ys:List Value}{bs:List Bool}{q:Bool}(ht:P.underlying t=some (.struct fs))(hp:P.stoodInHeld t=false)(hg:P.eqGuardType P.depth t=false)(hx:ev f x= .agg xs.toArray)(hy:ev f y= .agg ys.toArray)(h:EqF P xs.toArray ys.toArray fs.toList bs)(hq:bs.all id=q):
   (execOp (ev f) ⟨dst,.binOp .neq t x y t',ty,pos,after,g⟩).run P w= .ok (.value (.bool !q)) w:=by
 have e1:P.fieldsOf t=fs:=by simp[Program.fieldsOf,ht]
 have hr:(Op.equal t (.agg xs.toArray) (.agg ys.toArray)).run P w= .ok q w:=by
   have:=run_equalIn_struct (P:=P) w 9999 t xs.toArray ys.toArray (by rw[e1];exact ht) hp
   rw[e1,j8 h 9998,hq] at this
   exact this
 exact kE .neq hx hy (by simp[eqGuard,hg]) (by simp[binOp,hr])
end
end TL
namespace TL
open Go
section
variable{P:Program}{w:World}{f:Fr}{dst:Option Tmp}{ty:TypeId}{pos:String}{after:Array Edge}{g:Option (Nat×Bool)}{x y:Operand}{t t':TypeId}
theorem c6{α:Type}[Rp α][Fl α][Inhabited α]{γ:aW}{S:cM->Prop}{xs:List α}{v:Value}{size bytes q:Nat}{z:Value}{i:Int}{ds:List Value}(ht:Tp P t true size bytes z)(hx:ev f x= .pointer (some ⟨(aU v (Rp.sz α) i.toNat).block,(aU v (Rp.sz α) i.toNat).off+q,none⟩))(hv:Sl γ S w v xs)(h0:0<=i)(h1:i<xs.length)
    (hl:ds.length=size)(hz:q+size<=Rp.sz α)(hu:((Fl.cells (gI xs i)).drop q).take size=ds):(execOp (ev f) ⟨dst,.load t x,ty,pos,after,g⟩).run P w= .ok (.value (.agg ds.toArray)) w:=by
  obtain⟨cs,hcs,hr⟩:=hv.elem (gG h0 h1)
  refine lV ht hx hl λj hj=>?_
  have:=hcs (q+j) (by omega)
  rw[fZ,Nat.add_assoc,<-hu,<-Fl.rep_iff.1 hr]
  rw[i4] at this
  rw[this]
  simp[hj]
end
end TL
/-
  TlGeomL: how segments meet, moved, turned, named another way about.
  By an AI agent.
-/
set_option linter.all false
namespace TL
theorem ls(x y:Int):ct x y=(x-y).sign:=by
 unfold ct
 rcases gM (x-y) with⟨h,h'⟩|⟨h,h'⟩|⟨h,h'⟩
 · rw[h,if_pos (by omega)]
 · rw[h,if_neg (by omega),if_neg (by omega)]
 · rw[h,if_neg (by omega),if_pos (by omega)]
def eU(u w:Pt):Prop:=u.1*w.2=u.2*w.1
def Dw(w p:Pt):Int:=p.1*w.1+p.2*w.2
theorem nR(w p q:Pt):Dw w (cH p q)=Dw w p-Dw w q:=by
 unfold Dw cH;simp only;grind
theorem gH{u w:Pt}(h:eU u w):u.1*(w.1*w.1+w.2*w.2)=Dw w u*w.1/\u.2*(w.1*w.1+w.2*w.2)=Dw w u*w.2:=by
 unfold eU at h
 unfold Dw
 constructor<;>grind
theorem ju(x:Int):0<=x*x:=by
 rcases Int.le_total 0 x with h|h
 · exact Int.mul_nonneg h h
 · exact Int.mul_nonneg_of_nonpos_of_nonpos h h
theorem rJ{x:Int}(h:x≠0):0<x*x:=by
 have h1:=ju x
 have h2:x*x≠0:=λe=>by rcases Int.mul_eq_zero.1 e with e|e<;>exact h e
 omega
theorem oB{w:Pt}(hw:w≠(0,0)):(w.1*w.1+w.2*w.2).sign=1:=by
 have h1:0<=w.1*w.1:=ju _
 have h2:0<=w.2*w.2:=ju _
 refine Int.sign_eq_one_of_pos ?_
 by_cases c:w.1=0
 · by_cases d:w.2=0
   · exact absurd (Prod.ext c d) hw
   · have:=rJ d
     omega
 · have:=rJ c
   omega
theorem iZ{u w:Pt}(hw:w≠(0,0))(h:eU u w):u.1.sign=(Dw w u).sign*w.1.sign/\u.2.sign=(Dw w u).sign*w.2.sign:=by
 obtain⟨h1,h2⟩:=gH h
 have hn:=oB hw
 have e1:=congrArg Int.sign h1
 have e2:=congrArg Int.sign h2
 rw[Int.sign_mul,Int.sign_mul,hn,Int.mul_one] at e1 e2
 exact⟨e1,e2⟩
def kS(u:Pt):Int:=if u.1≠0 then u.1.sign else u.2.sign
theorem rQ(a b:Pt):c7 a b=kS (cH a b):=by
 unfold c7 kS cH
 simp only
 rw[ls,ls]
 by_cases h:a.1-b.1=0
 · rw[h];simp
 · rw[if_pos (λe=>h (Int.sign_eq_zero_iff_zero.1 e)),if_pos h]
theorem tO{u w:Pt}(hw:w≠(0,0))(h:eU u w):kS u=(Dw w u).sign*kS w:=by
 obtain⟨h1,h2⟩:=iZ hw h
 unfold kS
 by_cases c:w.1=0
 · rw[c] at h1
   have hu:u.1=0:=by
     have:u.1.sign=0:=by rw[h1];simp
     exact Int.sign_eq_zero_iff_zero.1 this
   rw[if_neg (by simp[hu]),if_neg (by simp[c]),h2]
 · rw[if_pos c]
   by_cases d:u.1=0
   · rw[if_neg (by simp[d])]
     rw[d] at h1
     have h3:(Dw w u).sign*w.1.sign=0:=by rw[<-h1];rfl
     rcases Int.mul_eq_zero.1 h3 with e|e
     · rw[h2,e];simp
     · exact absurd (Int.sign_eq_zero_iff_zero.1 e) c
   · rw[if_pos d,h1]
theorem rR{w:Pt}(hw:w≠(0,0)):kS w=1\/kS w= -1:=by
 unfold kS
 by_cases c:w.1=0
 · rw[if_neg (by simp[c])]
   have:w.2≠0:=λd=>hw (Prod.ext c d)
   rcases gM w.2 with⟨h,h'⟩|⟨h,h'⟩|⟨h,h'⟩
   · exact .inr h
   · exact absurd h' this
   · exact .inl h
 · rw[if_pos c]
   rcases gM w.1 with⟨h,h'⟩|⟨h,h'⟩|⟨h,h'⟩
   · exact .inr h
   · exact absurd h' c
   · exact .inl h
structure kT(l:List Pt)(w:Pt):Prop where
  pr:∀p∈l,∀q∈l,eU (cH p q) w
  one:w=(0,0)->∀p∈l,∀q∈l,p=q
theorem gF(a:Pt)(w:Pt):eU (cH a a) w:=by unfold TL.eU cH;simp
theorem gk{a b w:Pt}(h:eU (cH a b) w):eU (cH b a) w:=by
 unfold TL.eU cH at*;simp only at*;grind
theorem eX{a b c w:Pt}(h1:eU (cH a b) w)(h2:eU (cH b c) w):eU (cH a c) w:=by
 unfold TL.eU cH at*;simp only at*;grind
theorem dj{a b c:Pt}:bG a b c=0↔eU (cH c a) (cH b a):=by
 rw[kF]
 unfold TL.eU cH
 simp only
 constructor
 · intro h;grind
 · intro h;grind
theorem e6{a b:Pt}:cH a b=(0,0)↔a=b:=by
 unfold cH
 constructor
 · intro h
   have h1:=congrArg Prod.fst h
   have h2:=congrArg Prod.snd h
   simp only at h1 h2
   exact Prod.ext (by omega) (by omega)
 · rintro rfl;simp
theorem kT.base{l:List Pt}{w o:Pt}(h1:∀p∈l,eU (cH p o) w)(h2:w=(0,0)->∀p∈l,p=o):kT l w:=
 ⟨λp hp q hq=>eX (h1 p hp) (gk (h1 q hq)),λe p hp q hq=>by rw[h2 e p hp,h2 e q hq]⟩
theorem oD{a b c d:Pt}(h1:bG a b c=0)(h2:bG a b d=0)(h3:bG c d a=0)(h4:bG c d b=0):∃w,kT [a,b,c,d] w:=by
 have k1:=dj.1 h1
 have k2:=dj.1 h2
 have k3:=dj.1 h3
 by_cases hab:a=b
 · subst hab
   by_cases hcd:c=d
   · subst hcd
     refine⟨cH c a,kT.base (o:=a) (λp hp=>?_) (λe p hp=>?_)⟩
     · simp only[List.mem_cons,List.not_mem_nil,or_false] at hp
       rcases hp with rfl|rfl|rfl|rfl
       · exact gF _ _
       · exact gF _ _
       · unfold TL.eU;rw[Int.mul_comm]
       · unfold TL.eU;rw[Int.mul_comm]
     · have:=e6.1 e
       simp only[List.mem_cons,List.not_mem_nil,or_false] at hp
       rcases hp with rfl|rfl|rfl|rfl
       · rfl
       · rfl
       · exact this
       · exact this
   · refine⟨cH d c,kT.base (o:=c) (λp hp=>?_) (λe p hp=>absurd (e6.1 e).symm hcd)⟩
     simp only[List.mem_cons,List.not_mem_nil,or_false] at hp
     rcases hp with rfl|rfl|rfl|rfl
     · exact k3
     · exact k3
     · exact gF _ _
     · unfold TL.eU;rw[Int.mul_comm]
 · refine⟨cH b a,kT.base (o:=a) (λp hp=>?_) (λe p hp=>absurd (e6.1 e).symm hab)⟩
   simp only[List.mem_cons,List.not_mem_nil,or_false] at hp
   rcases hp with rfl|rfl|rfl|rfl
   · exact gF _ _
   · unfold TL.eU;rw[Int.mul_comm]
   · exact k1
   · exact k2
theorem kT.ord{l:List Pt}{w p q:Pt}(h:kT l w)(hw:w≠(0,0))(hp:p∈l)(hq:q∈l):c7 p q=(Dw w p-Dw w q).sign*kS w:=by
 rw[rQ,tO hw (h.pr p hp q hq),nR]
theorem kT.inj{l:List Pt}{w p q:Pt}(h:kT l w)(hp:p∈l)(hq:q∈l)(e:Dw w p=Dw w q):p=q:=by
 by_cases hw:w=(0,0)
 · exact h.one hw p hp q hq
 · have h1:=iZ hw (h.pr p hp q hq)
   rw[nR,e] at h1
   have e1:(cH p q).1.sign=0:=by rw[h1.1];simp
   have e2:(cH p q).2.sign=0:=by rw[h1.2];simp
   exact e6.1 (Prod.ext (Int.sign_eq_zero_iff_zero.1 e1) (Int.sign_eq_zero_iff_zero.1 e2))
theorem lL{a b c d w:Pt}(ha:cV a)(hb:cV b)(hc:cV c)(hd:cV d)(h:kT [a,b,c,d] w):dA a b c d=dW (Dw w a) (Dw w b) (Dw w c) (Dw w d):=by
  rw[qU ha hb hc hd]
  by_cases hw:w=(0,0)
  · have e1:=h.one hw b (by simp) a (by simp)
    have e2:=h.one hw c (by simp) a (by simp)
    have e3:=h.one hw d (by simp) a (by simp)
    subst e1 e2 e3
    unfold dW
    simp
  · have dV:∀p q,p∈[a,b,c,d]->q∈[a,b,c,d]->cV p->cV q->(dV p<dV q↔(Dw w p-Dw w q).sign*kS w<0):=λp q hp hq bp bq=>by
      rw[<-h.ord hw hp hq,fU bp bq,nK]
    rcases rR hw with e|e
    · have key2:∀p q,p∈[a,b,c,d]->q∈[a,b,c,d]->cV p->cV q->(Dw w p<Dw w q↔TL.dV p<TL.dV q):=λp q hp hq bp bq=>by
        rw[dV p q hp hq bp bq,e]
        rcases gM (Dw w p-Dw w q) with⟨s,s'⟩|⟨s,s'⟩|⟨s,s'⟩<;>rw[s]<;>omega
      exact iv (key2 a b (by simp) (by simp) ha hb) (key2 b a (by simp) (by simp) hb ha) (key2 a c (by simp) (by simp) ha hc) (key2 c a (by simp) (by simp) hc ha) (key2 a d (by simp) (by simp) ha hd) (key2 d a (by simp) (by simp) hd ha) (key2 b c (by simp) (by simp) hb hc) (key2 c b (by simp) (by simp) hc hb) (key2 b d (by simp) (by simp) hb hd) (key2 d b (by simp) (by simp) hd hb) (key2 c d (by simp) (by simp) hc hd) (key2 d c (by simp) (by simp) hd hc)
    · have key2:∀p q,p∈[a,b,c,d]->q∈[a,b,c,d]->cV p->cV q->(Dw w p<Dw w q↔-TL.dV p< -TL.dV q):=λp q hp hq bp bq=>by
        have:=dV q p hq hp bq bp
        rw[e] at this
        rcases gM (Dw w q-Dw w p) with⟨s,s'⟩|⟨s,s'⟩|⟨s,s'⟩<;>rw[s] at this<;>omega
      rw[<-qM]
      exact iv (key2 a b (by simp) (by simp) ha hb) (key2 b a (by simp) (by simp) hb ha) (key2 a c (by simp) (by simp) ha hc) (key2 c a (by simp) (by simp) hc ha) (key2 a d (by simp) (by simp) ha hd) (key2 d a (by simp) (by simp) hd ha) (key2 b c (by simp) (by simp) hb hc) (key2 c b (by simp) (by simp) hc hb) (key2 b d (by simp) (by simp) hb hd) (key2 d b (by simp) (by simp) hd hb) (key2 c d (by simp) (by simp) hc hd) (key2 d c (by simp) (by simp) hd hc)
theorem gb(a b p:Int):(min a b<=p/\p<=max a b)↔(p-a).sign*(p-b).sign<=0:=by
 rcases gM (p-a) with⟨s,s'⟩|⟨s,s'⟩|⟨s,s'⟩<;>rcases gM (p-b) with⟨t,t'⟩|⟨t,t'⟩|⟨t,t'⟩<;>rw[s,t]<;>omega
theorem pZ{l:List Pt}{w a b p:Pt}(h:kT l w)(ha:a∈l)(hb:b∈l)(hp:p∈l):i8 a b p↔min (Dw w a) (Dw w b)<=Dw w p/\Dw w p<=max (Dw w a) (Dw w b):=by
 by_cases hw:w=(0,0)
 · have e1:=h.one hw b hb a ha
   have e2:=h.one hw p hp a ha
   subst e1 e2
   unfold i8
   omega
 · obtain⟨u1,u2⟩:=iZ hw (h.pr p hp a ha)
   obtain⟨v1,v2⟩:=iZ hw (h.pr p hp b hb)
   rw[nR] at u1 u2 v1 v2
   unfold i8
   rw[gb,gb,gb]
   have f1:(p.1-a.1).sign=(cH p a).1.sign:=rfl
   have f2:(p.2-a.2).sign=(cH p a).2.sign:=rfl
   have f3:(p.1-b.1).sign=(cH p b).1.sign:=rfl
   have f4:(p.2-b.2).sign=(cH p b).2.sign:=rfl
   rw[f1,f2,f3,f4,u1,u2,v1,v2]
   have hne:w.1≠0\/w.2≠0:=by
     by_cases c:w.1=0
     · exact .inr λd=>hw (Prod.ext c d)
     · exact .inl c
   rcases gM (Dw w p-Dw w a) with⟨s,_⟩|⟨s,_⟩|⟨s,_⟩<;>rcases gM (Dw w p-Dw w b) with⟨t,_⟩|⟨t,_⟩|⟨t,_⟩<;>rcases gM w.1 with⟨x,x'⟩|⟨x,x'⟩|⟨x,x'⟩<;>rcases gM w.2 with⟨y,y'⟩|⟨y,y'⟩|⟨y,y'⟩<;>rw[s,t,x,y]<;>omega
end TL
/-
  TlGeomM: meeting segments: moved, turned, named another way about; what ends they share.
  By an AI agent.
-/
set_option linter.all false
namespace TL
theorem kT.sub{l l':List Pt}{w:Pt}(h:kT l w)(hs:∀p∈l',p∈l):kT l' w:=
 ⟨λp hp q hq=>h.pr p (hs p hp) q (hs q hq),λe p hp q hq=>h.one e p (hs p hp) q (hs q hq)⟩
section
variable{a b c d:Pt}
theorem s3{q:Pt}(ha:cV a)(hb:cV b)(hc:cV c)(hd:cV d)(ha':cV (bR a q))(hb':cV (bR b q))(hc':cV (bR c q))(hd':cV (bR d q)){w:Pt}(h:kT [a,b,c,d] w):dA (bR a q) (bR b q) (bR c q) (bR d q)=dA a b c d:=by
 have hm:∀p r:Pt,cH (bR p q) (bR r q)=cH p r:=λp r=>by unfold cH bR;simp only;exact Prod.ext (by simp only;omega) (by simp only;omega)
 have h':kT ([a,b,c,d].map λp=>bR p q) w:=⟨λp hp r hr=>by
   obtain⟨x,hx,rfl⟩:=List.mem_map.1 hp
   obtain⟨y,hy,rfl⟩:=List.mem_map.1 hr
   rw[hm];exact h.pr x hx y hy,λe p hp r hr=>by
   obtain⟨x,hx,rfl⟩:=List.mem_map.1 hp
   obtain⟨y,hy,rfl⟩:=List.mem_map.1 hr
   rw[h.one e x hx y hy]⟩
 have hD:∀p:Pt,Dw w (bR p q)=Dw w p+Dw w q:=λp=>by unfold Dw bR;simp only;grind
 rw[lL ha hb hc hd h,lL ha' hb' hc' hd' h',hD,hD,hD,hD]
 apply iv<;>omega
theorem rZ{q:Pt}(ha:cV a)(hb:cV b)(hc:cV c)(hd:cV d)(ha':cV (bR a q))(hb':cV (bR b q))(hc':cV (bR c q))(hd':cV (bR d q)):bL (bR a q) (bR b q) (bR c q) (bR d q)=bL a b c d:=by
 unfold bL
 simp only[q5,oL]
 by_cases h:bG a b c=0/\bG a b d=0/\bG c d a=0/\bG c d b=0
 · obtain⟨w,hw⟩:=oD h.1 h.2.1 h.2.2.1 h.2.2.2
   rw[if_pos h,if_pos h,s3 ha hb hc hd ha' hb' hc' hd' hw]
 · rw[if_neg h,if_neg h]
def cD(a b c d e:Pt):Prop:=cA a b e/\cA c d e
instance (a b c d e:Pt):Decidable (cD a b c d e):=by unfold cD;infer_instance
def eO(a b c d:Pt):Prop:=bG a b c*bG a b d<0/\bG c d a*bG c d b<0
instance (a b c d:Pt):Decidable (eO a b c d):=by unfold eO;infer_instance
theorem ox(h:eO a b c d){e:Pt}(he:e∈[a,b,c,d]):¬cD a b c d e:=λhb=>by
 obtain⟨h1,h2⟩:=h
 have k1:=hb.1.1
 have k2:=hb.2.1
 simp only[List.mem_cons,List.not_mem_nil,or_false] at he
 rcases he with rfl|rfl|rfl|rfl
 · rw[k2] at h2;simp at h2
 · rw[k2] at h2;simp at h2
 · rw[k1] at h1;simp at h1
 · rw[k1] at h1;simp at h1
theorem mI:(∃e∈[a,b,c,d],cD a b c d e)↔(cA a b c\/cA a b d\/cA c d a\/cA c d b):=by
 have h1:=eE a b
 have h2:=eE c d
 unfold cD
 constructor
 · rintro⟨e,he,k1,k2⟩
   simp only[List.mem_cons,List.not_mem_nil,or_false] at he
   rcases he with rfl|rfl|rfl|rfl
   · exact .inr (.inr (.inl k2))
   · exact .inr (.inr (.inr k2))
   · exact .inl k1
   · exact .inr (.inl k1)
 · rintro(h|h|h|h)
   · exact⟨c,by simp,h,h2.1⟩
   · exact⟨d,by simp,h,h2.2⟩
   · exact⟨a,by simp,h1.1,h⟩
   · exact⟨b,by simp,h1.2,h⟩
theorem sa(h1:bG a b c=0)(h2:bG a b d=0)(h3:bG c d a=0)(h4:bG c d b=0){w:Pt}(h:kT [a,b,c,d] w){e:Pt}(he:e∈[a,b,c,d]):cD a b c d e↔max (min (Dw w a) (Dw w b)) (min (Dw w c) (Dw w d))<=Dw w e/\Dw w e<=min (max (Dw w a) (Dw w b)) (max (Dw w c) (Dw w d)):=by
  have t1:bG a b e=0:=by
    simp only[List.mem_cons,List.not_mem_nil,or_false] at he
    rcases he with rfl|rfl|rfl|rfl
    · exact(eE _ _).1.1
    · exact(eE _ _).2.1
    · exact h1
    · exact h2
  have t2:bG c d e=0:=by
    simp only[List.mem_cons,List.not_mem_nil,or_false] at he
    rcases he with rfl|rfl|rfl|rfl
    · exact h3
    · exact h4
    · exact(eE _ _).1.1
    · exact(eE _ _).2.1
  unfold cD cA
  rw[pZ h (a:=a) (b:=b) (by simp) (by simp) he,pZ h (a:=c) (b:=d) (by simp) (by simp) he,t1,t2]
  omega
theorem jA(ha:cV a)(hb:cV b)(hc:cV c)(hd:cV d):
    (bL a b c d=0/\¬eO a b c d/\∀e∈[a,b,c,d],¬cD a b c d e)\/(bL a b c d=1/\eO a b c d)\/
    (bL a b c d=2/\¬eO a b c d/\(∃e∈[a,b,c,d],cD a b c d e)/\∀e∈[a,b,c,d],∀e'∈[a,b,c,d],cD a b c d e->cD a b c d e'->e=e')\/
    (bL a b c d=3/\¬eO a b c d/\∃e∈[a,b,c,d],∃e'∈[a,b,c,d],(cD a b c d e/\cD a b c d e')/\e≠e'):=by
  unfold bL
  by_cases h:bG a b c=0/\bG a b d=0/\bG c d a=0/\bG c d b=0
  · obtain⟨w,hw⟩:=oD h.1 h.2.1 h.2.2.1 h.2.2.2
    have hbo:=λ {e:Pt} (he:e∈[a,b,c,d])=>sa h.1 h.2.1 h.2.2.1 h.2.2.2 hw he
    have hno:¬eO a b c d:=λhc=>by have:=hc.1;rw[h.1] at this;simp at this
    rw[if_pos h,lL ha hb hc hd hw]
    have low:∃e∈[a,b,c,d],Dw w e=max (min (Dw w a) (Dw w b)) (min (Dw w c) (Dw w d)):=by
      have:max (min (Dw w a) (Dw w b)) (min (Dw w c) (Dw w d))=Dw w a\/max (min (Dw w a) (Dw w b)) (min (Dw w c) (Dw w d))=Dw w b\/max (min (Dw w a) (Dw w b)) (min (Dw w c) (Dw w d))=Dw w c\/max (min (Dw w a) (Dw w b)) (min (Dw w c) (Dw w d))=Dw w d:=by omega
      rcases this with e|e|e|e
      · exact⟨a,by simp,e.symm⟩
      · exact⟨b,by simp,e.symm⟩
      · exact⟨c,by simp,e.symm⟩
      · exact⟨d,by simp,e.symm⟩
    have high:∃e∈[a,b,c,d],Dw w e=min (max (Dw w a) (Dw w b)) (max (Dw w c) (Dw w d)):=by
      have:min (max (Dw w a) (Dw w b)) (max (Dw w c) (Dw w d))=Dw w a\/min (max (Dw w a) (Dw w b)) (max (Dw w c) (Dw w d))=Dw w b\/min (max (Dw w a) (Dw w b)) (max (Dw w c) (Dw w d))=Dw w c\/min (max (Dw w a) (Dw w b)) (max (Dw w c) (Dw w d))=Dw w d:=by omega
      rcases this with e|e|e|e
      · exact⟨a,by simp,e.symm⟩
      · exact⟨b,by simp,e.symm⟩
      · exact⟨c,by simp,e.symm⟩
      · exact⟨d,by simp,e.symm⟩
    unfold dW
    generalize hL:max (min (Dw w a) (Dw w b)) (min (Dw w c) (Dw w d))=L at hbo low
    generalize hH:min (max (Dw w a) (Dw w b)) (max (Dw w c) (Dw w d))=H at hbo high
    by_cases c1:H<L
    · rw[if_pos c1]
      exact .inl ⟨rfl,hno,λe he hb=>by have:=(hbo he).1 hb;omega⟩
    · rw[if_neg c1]
      obtain⟨p,hp,ep⟩:=low
      obtain⟨q,hq,eq⟩:=high
      have bp:=(hbo hp).2 (by omega)
      have bq:=(hbo hq).2 (by omega)
      by_cases c2:H=L
      · rw[if_pos c2]
        refine .inr (.inr (.inl ⟨rfl,hno,⟨p,hp,bp⟩,λe he e' he' b1 b2=>?_⟩))
        have k1:=(hbo he).1 b1
        have k2:=(hbo he').1 b2
        exact hw.inj he he' (by omega)
      · rw[if_neg c2]
        exact .inr (.inr (.inr ⟨rfl,hno,p,hp,q,hq,⟨bp,bq⟩,λe=>by subst e;omega⟩))
  · rw[if_neg h]
    by_cases h2:eO a b c d
    · rw[if_pos (show bG a b c*bG a b d<0/\bG c d a*bG c d b<0 from h2)];exact .inr (.inl ⟨rfl,h2⟩)
    · rw[if_neg (show¬(bG a b c*bG a b d<0/\bG c d a*bG c d b<0) from h2)]
      by_cases h3:cA a b c\/cA a b d\/cA c d a\/cA c d b
      · rw[if_pos h3]
        refine .inr (.inr (.inl ⟨rfl,h2,mI.2 h3,λe he e' he' b1 b2=>?_⟩))
        refine Classical.byContradiction λhne=>h ?_
        -- two points that both have: all lie on their line
        have hw:cH e' e≠(0,0):=λe0=>hne (e6.1 e0).symm
        have pt:∀{u v w:Pt},w≠(0,0)->eU u w->eU v w->eU u v:=λ {u v w} hw h1 h2=>by
          obtain⟨s1,s2⟩:=gH h1
          obtain⟨t1,t2⟩:=gH h2
          have hn:=oB hw
          generalize hN:w.1*w.1+w.2*w.2=N at*
          have hN0:N≠0:=λe=>by rw[e] at hn;simp at hn
          unfold eU
          have:N*(N*(u.1*v.2))=N*(N*(u.2*v.1)):=by
            have f1:N*(N*(u.1*v.2))=(u.1*N)*(v.2*N):=by grind
            have f2:N*(N*(u.2*v.1))=(u.2*N)*(v.1*N):=by grind
            rw[f1,f2,s1,s2,t1,t2];grind
          exact Int.eq_of_mul_eq_mul_left hN0 (Int.eq_of_mul_eq_mul_left hN0 this)
        have ps:∀{u v:Pt},eU u v->eU v u:=λ {u v} h=>by unfold eU at*;grind
        -- a segment with two points of it
        have seg:∀{a b:Pt},cA a b e->cA a b e'->eU (cH b a) (cH e' e)/\eU (cH e a) (cH e' e):=λ {a b} k1 k2=>by
          have p1:=dj.1 k1.1
          have p2:=dj.1 k2.1
          by_cases hab:a=b
          · subst hab
            have x1:=k1.2
            have x2:=k2.2
            unfold i8 at x1 x2
            exact absurd (Prod.ext (by omega) (by omega):e=e') hne
          · have hba:cH b a≠(0,0):=λe0=>hab (e6.1 e0).symm
            have p3:eU (cH e' e) (cH b a):=eX p2 (gk p1)
            exact⟨ps p3,pt hba p1 p3⟩
        obtain⟨a1,a2⟩:=seg b1.1 b2.1
        obtain⟨c1,c2⟩:=seg b1.2 b2.2
        have ca:eU (cH c a) (cH e' e):=eX (gk c2) a2
        have da:eU (cH d a) (cH e' e):=eX c1 ca
        have ac:eU (cH a c) (cH e' e):=gk ca
        have bc:eU (cH b c) (cH e' e):=eX a1 ac
        exact⟨dj.2 (pt hw ca a1),dj.2 (pt hw da a1),dj.2 (pt hw ac c1),dj.2 (pt hw bc c1)⟩
      · rw[if_neg h3]
        exact .inl ⟨rfl,h2,λe he hb=>h3 (mI.1 ⟨e,he,hb⟩)⟩
end
end TL
/-
  TlGeomS: polylines gone back, and two of them named the other way about.
  By an AI agent.
-/
set_option linter.all false
namespace TL
abbrev Sg:=Pt×Pt
def jh(ps:List Pt):Nat->List Sg
 |0=>[]
 |k+1=>jh ps k++[(gI ps (k:Int),gI ps ((k:Int)+1))]
def aA(ps:List Pt):List Sg:=if ps.length=1 then[(gI ps 0,gI ps 0)] else jh ps (ps.length-1)
theorem km(ps:List Pt):∀k:Nat,(jh ps k).length=k
 |0=>rfl
 |k+1=>by simp[jh,km ps k]
theorem e7{ps:List Pt}{s:Sg}:∀{k:Nat},s∈jh ps k↔∃i:Nat,i<k/\s=(gI ps (i:Int),gI ps ((i:Int)+1))
 |0=>by simp[jh]
 |k+1=>by
   rw[jh,List.mem_append,e7,List.mem_singleton]
   constructor
   · rintro(⟨i,hi,e⟩|e)
     · exact⟨i,by omega,e⟩
     · exact⟨k,by omega,e⟩
   · rintro⟨i,hi,e⟩
     by_cases c:i=k
     · subst c;exact .inr e
     · exact .inl ⟨i,by omega,e⟩
theorem rc{ps:List Pt}(h:(ps.length:Int)=1):[(gI ps 0,gI ps 0)]=aA ps:=by
 unfold aA;rw[if_pos (by omega)]
def vk(ps:List Pt):Pt:=gI ps ((ps.length:Int)-1)
def w9(ps:List Pt)(p:Pt):Prop:=p=gI ps 0\/p=vk ps
instance (ps:List Pt)(p:Pt):Decidable (w9 ps p):=by unfold w9;infer_instance
def tH(q:List Pt)(s t:Sg)(x:Pt):Prop:=w9 q x/\cA s.1 s.2 x/\cA t.1 t.2 x
instance (q:List Pt)(s t:Sg)(x:Pt):Decidable (tH q s t x):=by unfold tH;infer_instance
def r5(p q:List Pt)(s t:Sg):Prop:=tH q s t (gI p 0)\/tH q s t (vk p)
instance (p q:List Pt)(s t:Sg):Decidable (r5 p q s t):=by unfold r5;infer_instance
def vR(p q:List Pt)(s t:Sg):Prop:=bL s.1 s.2 t.1 t.2=3\/bL s.1 s.2 t.1 t.2≠0/\¬r5 p q s t
instance (p q:List Pt)(s t:Sg):Decidable (vR p q s t):=by unfold vR;infer_instance
def wC(p q:List Pt):Prop:=∀s∈aA p,∀t∈aA q,¬vR p q s t
instance (p q:List Pt):Decidable (wC p q):=by unfold wC;infer_instance
section
variable{p q:List Pt}
theorem vP{s:Sg}(h0:0<p.length)(hs:s∈aA p):s.1∈p/\s.2∈p:=by
 unfold aA at hs
 split at hs
 · obtain rfl:=List.mem_singleton.1 hs
   exact⟨ba (by omega) (by omega),ba (by omega) (by omega)⟩
 · obtain⟨i,hi,rfl⟩:=e7.1 hs
   exact⟨ba (by omega) (by omega),ba (by omega) (by omega)⟩
end
end TL
namespace TL
section
variable{p q:List Pt}{i k:Nat}
variable{s t:Sg}
theorem se(hp:dy p)(h0:0<p.length)(hi:(i:Int)<(aA p).length):cV (gI (aA p) (i:Int)).1/\cV (gI (aA p) (i:Int)).2:=by
 have:=vP h0 (ba (xs:=aA p) (i:=(i:Int)) (by omega) hi)
 exact⟨(hp.2 _ this.1).bd,(hp.2 _ this.2).bd⟩
theorem nJ(h0:0<p.length):(aA p).length<=p.length:=by
 unfold aA
 split
 · simp;omega
 · rw[km];omega
end
end TL
namespace TL
section
variable{p q:List Pt}{s t:Sg}{i:Nat}
end
end TL
/-
  TlGeomB: a box holds all points, and each of its sides has one; how many ends two segments share.
  By an AI agent.
-/
set_option linter.all false
namespace TL
def sH(p:Pt->Bool)(ps:List Pt):Nat->Bool
 |0=>false
 |k+1=>sH p ps k||p (gI ps (k:Int))
theorem nI{p:Pt->Bool}{ps:List Pt}:∀{k:Nat} {j:Nat},j<k->p (gI ps (j:Int))=true->sH p ps k=true
 |0,j,hj,_=>by omega
 |k+1,j,hj,h=>by
   unfold sH
   by_cases e:j=k
   · subst e;rw[h];simp
   · rw[nI (by omega) h];simp
section
variable{a b c d:Pt}{ends:List Pt}{k:Nat}
end
end TL
namespace TL
end TL
/-
  TlGeomX: polylines: the document's way and the code's.
  By an AI agent.
-/
set_option linter.all false
namespace TL
section
variable{a b c d:Pt}
theorem fg{u v w:Pt}(hw:w≠(0,0))(h1:eU u w)(h2:eU v w):eU u v:=by
 obtain⟨s1,s2⟩:=gH h1
 obtain⟨t1,t2⟩:=gH h2
 have hn:=oB hw
 generalize hN:w.1*w.1+w.2*w.2=N at*
 have hN0:N≠0:=λe=>by rw[e] at hn;simp at hn
 unfold eU
 have:N*(N*(u.1*v.2))=N*(N*(u.2*v.1)):=by
   have f1:N*(N*(u.1*v.2))=(u.1*N)*(v.2*N):=by grind
   have f2:N*(N*(u.2*v.1))=(u.2*N)*(v.1*N):=by grind
   rw[f1,f2,s1,s2,t1,t2];grind
 exact Int.eq_of_mul_eq_mul_left hN0 (Int.eq_of_mul_eq_mul_left hN0 this)
theorem pd{u v:Pt}(h:eU u v):eU v u:=by unfold eU at*;grind
theorem uF{e e':Pt}(b1:cD a b c d e)(b2:cD a b c d e')(hne:e≠e'):bG a b c=0/\bG a b d=0/\bG c d a=0/\bG c d b=0:=by
  have hw:cH e' e≠(0,0):=λe0=>hne (e6.1 e0).symm
  have seg:∀{a b:Pt},cA a b e->cA a b e'->eU (cH b a) (cH e' e)/\eU (cH e a) (cH e' e):=λ {a b} k1 k2=>by
    have p1:=dj.1 k1.1
    have p2:=dj.1 k2.1
    by_cases hab:a=b
    · subst hab
      have x1:=k1.2
      have x2:=k2.2
      unfold i8 at x1 x2
      exact absurd (Prod.ext (by omega) (by omega):e=e') hne
    · have hba:cH b a≠(0,0):=λe0=>hab (e6.1 e0).symm
      have p3:eU (cH e' e) (cH b a):=eX p2 (gk p1)
      exact⟨pd p3,fg hba p1 p3⟩
  obtain⟨a1,a2⟩:=seg b1.1 b2.1
  obtain⟨c1,c2⟩:=seg b1.2 b2.2
  have ca:eU (cH c a) (cH e' e):=eX (gk c2) a2
  have da:eU (cH d a) (cH e' e):=eX c1 ca
  have ac:eU (cH a c) (cH e' e):=gk ca
  have bc:eU (cH b c) (cH e' e):=eX a1 ac
  exact⟨dj.2 (fg hw ca a1),dj.2 (fg hw da a1),dj.2 (fg hw ac c1),dj.2 (fg hw bc c1)⟩
theorem rG{w x:Pt}(h:kT [a,b,c,d] w)(hx:cA a b x):kT [x,a,b,c,d] w:=by
 have hxa:eU (cH x a) w/\(w=(0,0)->x=a):=by
   by_cases hab:a=b
   · subst hab
     have x1:=hx.2
     unfold i8 at x1
     have:x=a:=Prod.ext (by omega) (by omega)
     subst this
     exact⟨gF _ _,λ_=>rfl⟩
   · have hba:cH b a≠(0,0):=λe0=>hab (e6.1 e0).symm
     have p1:=dj.1 hx.1
     have p2:=h.pr b (by simp) a (by simp)
     refine⟨fg hba p1 (pd p2),λe=>absurd (h.one e b (by simp) a (by simp)).symm hab⟩
 refine kT.base (o:=a) (λp hp=>?_) (λe p hp=>?_)
 · rcases List.mem_cons.1 hp with rfl|hp
   · exact hxa.1
   · exact h.pr p hp a (by simp)
 · rcases List.mem_cons.1 hp with rfl|hp
   · exact hxa.2 e
   · exact h.one e p hp a (by simp)
theorem qG(ha:cV a)(hb:cV b)(hc:cV c)(hd:cV d)(hm:bL a b c d=2){e x:Pt}(hme:e∈[a,b,c,d])(he:cD a b c d e)(hx:cD a b c d x):x=e:=by
  refine Classical.byContradiction λhne=>?_
  obtain⟨z1,z2,z3,z4⟩:=uF hx he hne
  obtain⟨w,hw⟩:=oD z1 z2 z3 z4
  have hl:dW (Dw w a) (Dw w b) (Dw w c) (Dw w d)=2:=by
    rw[<-lL ha hb hc hd hw,<-hm]
    unfold bL
    rw[if_pos ⟨z1,z2,z3,z4⟩]
  have hw2:=rG hw hx.1
  have k1:=(pZ hw2 (a:=a) (b:=b) (p:=x) (by simp) (by simp) (by simp)).1 hx.1.2
  have k2:=(pZ hw2 (a:=c) (b:=d) (p:=x) (by simp) (by simp) (by simp)).1 hx.2.2
  have k3:=(sa z1 z2 z3 z4 hw hme).1 he
  have heq:Dw w x=Dw w e:=by
    unfold dW at hl
    by_cases c1:min (max (Dw w a) (Dw w b)) (max (Dw w c) (Dw w d))<max (min (Dw w a) (Dw w b)) (min (Dw w c) (Dw w d))
    · rw[if_pos c1] at hl;simp at hl
    · rw[if_neg c1] at hl
      by_cases c2:min (max (Dw w a) (Dw w b)) (max (Dw w c) (Dw w d))=max (min (Dw w a) (Dw w b)) (min (Dw w c) (Dw w d))
      · omega
      · rw[if_neg c2] at hl;simp at hl
  exact hne (hw2.inj (by simp) (List.mem_cons_of_mem _ hme) heq)
theorem pT(ha:cV a)(hb:cV b)(hc:cV c)(hd:cV d){e:Pt}(hme:e∈[a,b,c,d])(he:cD a b c d e):bL a b c d=2\/bL a b c d=3:=by
 rcases jA ha hb hc hd with⟨_,_,h3⟩|⟨_,h2⟩|⟨h1,_⟩|⟨h1,_⟩
 · exact absurd he (h3 e hme)
 · exact absurd he (ox h2 hme)
 · exact .inl h1
 · exact .inr h1
end
section
variable{ps:List Pt}{i k:Nat}
theorem vv(hp:dy ps)(hi:(i:Int)<=(ps.length:Int)-2)(hk:(k:Int)<=(ps.length:Int)-2)(hj:eL ps i k):wZ ps i k=2\/wZ ps i k=3:=by
 have bd:∀j:Int,0<=j->j<ps.length->cV (gI ps j):=λj h0 h1=>(hp.2 _ (ba h0 h1)).bd
 unfold wZ
 have b1:=bd (i:Int) (by omega) (by omega)
 have b2:=bd ((i:Int)+1) (by omega) (by omega)
 have b3:=bd (k:Int) (by omega) (by omega)
 have b4:=bd ((k:Int)+1) (by omega) (by omega)
 rcases hj with e|⟨e,e2,_,e4⟩
 · subst e
   have e0:((i+1:Nat):Int)=(i:Int)+1:=by omega
   rw[e0] at b3 b4 ⊢
   exact pT b1 b2 b3 b4 (e:=gI ps ((i:Int)+1)) (by simp) ⟨(eE _ _).2,(eE _ _).1⟩
 · subst e
   have e5:gI ps ((k:Int)+1)=gI ps 0:=by rw[show(k:Int)+1=(ps.length:Int)-1 by omega];exact e4.symm
   exact pT b1 b2 b3 b4 (e:=gI ps ((0:Nat):Int)) (by simp) ⟨(eE _ _).1,by rw[e5];exact(eE _ _).2⟩
theorem rS(hp:dy ps)(hi:(i:Int)<=(ps.length:Int)-2)(hk:(k:Int)<=(ps.length:Int)-2)(hj:eL ps i k)(hm:¬bL (gI ps (i:Int)) (gI ps ((i:Int)+1)) (gI ps (k:Int)) (gI ps ((k:Int)+1))=2):fw ps i k:=
 .inl ⟨hj,(vv hp hi hk hj).resolve_left hm⟩
theorem nw(hj:eL ps i k)(hm:bL (gI ps (i:Int)) (gI ps ((i:Int)+1)) (gI ps (k:Int)) (gI ps ((k:Int)+1))=2):¬fw ps i k:=
 xb hj (by rw[hm];decide)
theorem s5(h1:(i:Int)=0)(h2:(k:Int)=(ps.length:Int)-1-1)(h3:3<=(ps.length:Int)-1)(h4:gI ps 0=gI ps ((ps.length:Int)-1)):eL ps i k:=.inr ⟨by omega,by omega,by omega,h4⟩
theorem n9(h:¬(k:Int)=(i:Int)+1)(h1:¬(k:Int)=(ps.length:Int)-1-1):¬eL ps i k:=sJ h (by omega)
theorem q7(h:¬(k:Int)=(i:Int)+1)(h1:¬3<=(ps.length:Int)-1):¬eL ps i k:=by
 rintro(c|⟨_,_,c,_⟩)<;>omega
theorem pU(h:¬(k:Int)=(i:Int)+1)(h1:¬gI ps 0=gI ps ((ps.length:Int)-1)):¬eL ps i k:=by
 rintro(c|⟨_,_,_,c⟩)
 · omega
 · exact h1 c
theorem tw{i:Nat}(h0:∀j:Nat,(j:Int)<(ps.length:Int)-1->gI ps (j:Int)≠gI ps ((j:Int)+1))(h:∀j:Nat,j<i->∀k:Nat,j<k->(k:Int)<(ps.length:Int)-1->¬fw ps j k)(hi:¬(i:Int)<(ps.length:Int)-1):true=decide (fc ps):=
 (decide_eq_true λj hj hj2=>⟨h0 j (by omega),λk hk hjk hk2=>h j (by omega) k hjk (by omega)⟩).symm
end
def kj(but:List Pt)(s t:Sg):Prop:=bL s.1 s.2 t.1 t.2=3\/(bL s.1 s.2 t.1 t.2=1/\¬∃x∈but,cD s.1 s.2 t.1 t.2 x)\/((bL s.1 s.2 t.1 t.2≠0/\bL s.1 s.2 t.1 t.2≠1)/\∃e∈[s.1,s.2,t.1,t.2],cD s.1 s.2 t.1 t.2 e/\e∉but)
instance (but:List Pt)(s t:Sg):Decidable (kj but s t):=by unfold kj;infer_instance
def dH(p q but:List Pt):Prop:=∃s∈aA p,∃t∈aA q,kj but s t
instance (p q but:List Pt):Decidable (dH p q but):=by unfold dH;infer_instance
section
variable{p q B:List Pt}
end
end TL
namespace TL
section
variable{p q but:List Pt}{i k:Nat}
theorem lz(hi:(i:Int)<(aA p).length)(hk:(k:Int)<(aA q).length)(h:kj but (gI (aA p) (i:Int)) (gI (aA q) (k:Int))):true=decide (dH p q but):=
 (decide_eq_true ⟨_,ba (by omega) hi,_,ba (by omega) hk,h⟩).symm
theorem vY(h:∀j:Nat,j<i->∀t∈aA q,¬kj but (gI (aA p) (j:Int)) t)(hi:¬(i:Int)<(aA p).length):false=decide (dH p q but):=
 (decide_eq_false λ⟨s,hs,t,ht,hb⟩=>by
   obtain⟨j,hj,rfl⟩:=List.mem_iff_getElem.1 hs
   have:=h j (by omega) t ht
   have e:gI (aA p) (j:Int)=(aA p)[j]:=by unfold gI;rw[Int.toNat_natCast,List.getD_eq_getElem?_getD,List.getElem?_eq_getElem hj];rfl
   rw[e] at this
   exact this hb).symm
theorem tJ{s:Sg}(h:∀j:Nat,j<k->¬kj but s (gI (aA q) (j:Int)))(hk:¬(k:Int)<(aA q).length):∀t∈aA q,¬kj but s t:=λt ht=>by
 obtain⟨j,hj,rfl⟩:=List.mem_iff_getElem.1 ht
 have:=h j (by omega)
 have e:gI (aA q) (j:Int)=(aA q)[j]:=by unfold gI;rw[Int.toNat_natCast,List.getD_eq_getElem?_getD,List.getElem?_eq_getElem hj];rfl
 rwa[e] at this
variable{s t:Sg}
def gS(s t:Sg)(but:List Pt)(k:Nat):Bool:=sH (λx=>decide (cD s.1 s.2 t.1 t.2 x)) but k
theorem rk{f:Pt->Bool}{ps:List Pt}:∀{k:Nat},sH f ps k=true->∃j:Nat,j<k/\f (gI ps (j:Int))=true
 |0,h=>by simp[sH] at h
 |k+1,h=>by
   unfold sH at h
   rcases Bool.or_eq_true _ _▸h with h|h
   · obtain⟨j,hj,e⟩:=rk h
     exact⟨j,by omega,e⟩
   · exact⟨k,by omega,h⟩
theorem pA{j:Nat}(hj:¬(j:Int)<but.length)(hj2:j<=but.length):gS s t but j=true↔∃x∈but,cD s.1 s.2 t.1 t.2 x:=by
 unfold gS
 constructor
 · intro h
   obtain⟨i,hi,e⟩:=rk h
   exact⟨_,ba (by omega) (by omega),of_decide_eq_true e⟩
 · rintro⟨x,hx,h⟩
   obtain⟨i,hi,rfl⟩:=List.mem_iff_getElem.1 hx
   have e:gI but (i:Int)=but[i]:=by unfold gI;rw[Int.toNat_natCast,List.getD_eq_getElem?_getD,List.getElem?_eq_getElem hi];rfl
   exact nI (j:=i) (by omega) (by rw[e];exact decide_eq_true h)
theorem wS{j:Nat}{b:Bool}(h:b=gS s t but j)(hb:b=true):true=gS s t but (j+1):=by
 unfold gS at h ⊢;rw[sH,<-h,hb];rfl
theorem wM{j:Nat}{b:Bool}(h:b=gS s t but j)(hb:¬b=true)(h1:decide (cA s.1 s.2 (gI but (j:Int)))=true):decide (cA t.1 t.2 (gI but (j:Int)))=gS s t but (j+1):=by
 unfold gS at h ⊢;rw[sH,<-h,Bool.eq_false_iff.2 hb,Bool.false_or,decide_eq_decide]
 exact⟨λh2=>⟨of_decide_eq_true h1,h2⟩,λh2=>h2.2⟩
theorem wE{j:Nat}{b:Bool}(h:b=gS s t but j)(hb:¬b=true)(h1:¬decide (cA s.1 s.2 (gI but (j:Int)))=true):false=gS s t but (j+1):=by
 unfold gS at h ⊢;rw[sH,<-h,Bool.eq_false_iff.2 hb,Bool.false_or]
 exact(decide_eq_false λh2=>h1 (decide_eq_true h2.1)).symm
theorem xY(h:bL s.1 s.2 t.1 t.2=3):kj but s t:=.inl h
theorem xT(h:bL s.1 s.2 t.1 t.2=0):¬kj but s t:=by
 unfold kj;rw[h];simp
theorem xR(h:bL s.1 s.2 t.1 t.2=1){j:Nat}(hj:¬(j:Int)<but.length)(hj2:j<=but.length){b:Bool}(hb:b=gS s t but j)(h1:¬b=true):kj but s t:=
 .inr (.inl ⟨h,λhe=>h1 (hb.trans ((pA hj hj2).2 he))⟩)
theorem xn(h:bL s.1 s.2 t.1 t.2=1){j:Nat}(hj:¬(j:Int)<but.length)(hj2:j<=but.length){b:Bool}(hb:b=gS s t but j)(h1:b=true):¬kj but s t:=by
 have he:=(pA (s:=s) (t:=t) hj hj2).1 (by rw[<-hb];exact h1)
 unfold kj;rw[h]
 rintro(c|⟨_,c⟩|⟨⟨_,c⟩,_⟩)
 · omega
 · exact c he
 · exact c rfl
theorem xU(h0:¬bL s.1 s.2 t.1 t.2=0)(h1:¬bL s.1 s.2 t.1 t.2=1){j:Nat}(hj:(j:Int)<4)(k1:decide (cA s.1 s.2 (gI [s.1,s.2,t.1,t.2] (j:Int)))=true)(k2:decide (cA t.1 t.2 (gI [s.1,s.2,t.1,t.2] (j:Int)))=true)(k3:¬decide (gI [s.1,s.2,t.1,t.2] (j:Int)∈but)=true):kj but s t:=
 .inr (.inr ⟨⟨h0,h1⟩,_,ba (by omega) (by simpa using hj),⟨of_decide_eq_true k1,of_decide_eq_true k2⟩,λh=>k3 (decide_eq_true h)⟩)
def fC(but:List Pt)(s t:Sg)(j:Nat):Prop:=∀i:Nat,i<j->¬(cD s.1 s.2 t.1 t.2 (gI [s.1,s.2,t.1,t.2] (i:Int))/\gI [s.1,s.2,t.1,t.2] (i:Int)∉but)
theorem fC.a{j:Nat}(h:fC but s t j)(k1:¬decide (cA s.1 s.2 (gI [s.1,s.2,t.1,t.2] (j:Int)))=true):fC but s t (j+1):=λi hi=>by
 by_cases e:i=j
 · subst e;exact λhb=>k1 (decide_eq_true hb.1.1)
 · exact h i (by omega)
theorem fC.b{j:Nat}(h:fC but s t j)(k1:¬decide (cA t.1 t.2 (gI [s.1,s.2,t.1,t.2] (j:Int)))=true):fC but s t (j+1):=λi hi=>by
 by_cases e:i=j
 · subst e;exact λhb=>k1 (decide_eq_true hb.1.2)
 · exact h i (by omega)
theorem fC.c{j:Nat}(h:fC but s t j)(k1:decide (gI [s.1,s.2,t.1,t.2] (j:Int)∈but)=true):fC but s t (j+1):=λi hi=>by
 by_cases e:i=j
 · subst e;exact λhb=>hb.2 (of_decide_eq_true k1)
 · exact h i (by omega)
theorem xt(h3:¬bL s.1 s.2 t.1 t.2=3)(h1:¬bL s.1 s.2 t.1 t.2=1){j:Nat}(hj:¬(j:Int)<4)(h:fC but s t j):¬kj but s t:=by
 rintro(c|⟨c,_⟩|⟨_,e,he,hb,hno⟩)
 · exact h3 c
 · exact h1 c
 · obtain⟨i,hi,rfl⟩:=List.mem_iff_getElem.1 he
   have e2:gI [s.1,s.2,t.1,t.2] (i:Int)=[s.1,s.2,t.1,t.2][i]:=by unfold gI;rw[Int.toNat_natCast,List.getD_eq_getElem?_getD,List.getElem?_eq_getElem hi];rfl
   have h4:i<4:=by simpa using hi
   exact h i (by omega) ⟨by rw[e2];exact hb,by rw[e2];exact hno⟩
end
end TL
/-
  TlAround: points round another one: the order, its laws, the list that is sorted by it.
  By an AI agent.
-/
set_option linter.all false
namespace TL
def xe(p:Pt):Int:=p.1*p.1+p.2*p.2
def neg(p:Pt):Pt:=(-p.1,-p.2)
def xS(a b:Pt)(i k:Int):Prop:=pS a<pS b\/pS a=pS b/\(nO a b<0\/nO a b=0/\(xe a<xe b\/xe a=xe b/\i<k))
def vA(o:Pt)(ps:List Pt)(i:Int):Pt:=cH (gI ps i) o
def xQ(o:Pt)(ps:List Pt)(i k:Int):Prop:=xS (vA o ps i) (vA o ps k) i k
def xX(o:Pt)(ps:List Pt)(k:Nat)(l:List Int):Prop:=l.Pairwise (xQ o ps)/\∀x,x∈l↔0<=x/\x<(k:Int)
section
variable{o:Pt}{ps:List Pt}{k:Nat}{l l':List Int}
open Classical in
noncomputable def arL (o:Pt) (ps:List Pt):List Int:=if h:∃l,xX o ps ps.length l then choose h else[]
end
section
variable{o:Pt}{ps:List Pt}{k:Nat}{l:List Int}{q:Int}
end
section
variable{o:Pt}{ps:List Pt}
end
end TL
/-
  TlJudge: plots: their flaws, as the code and the document gather them.
  By an AI agent.
-/
set_option linter.all false
namespace TL
abbrev cr:=Int×Int×Int
abbrev cv:=List Pt×List (List Pt)
def bI{β:Type}(f:Nat->List β):Nat->List β
  |0=>[]
  |k+1=>bI f k++f k
section
variable{β:Type}{f h:Nat->List β}{k n:Nat}{x:β}{F B:List β}
theorem cE:∀{k:Nat},bI f k=[]↔∀j,j<k->f j=[]
 |0=>by simp[bI]
 |k+1=>by
   rw[bI,List.append_eq_nil_iff,cE]
   constructor
   · rintro⟨h1,h2⟩ j hj
     by_cases e:j=k
     · subst e;exact h2
     · exact h1 j (by omega)
   · intro h
     exact⟨λj hj=>h j (by omega),h k (by omega)⟩
theorem ew(hf:∀j,j<k->f j=[]):bI f k=[]:=cE.2 hf
theorem iN:∀{k:Nat},x∈bI f k↔∃j,j<k/\x∈f j
 |0=>by simp[bI]
 |k+1=>by
   rw[bI,List.mem_append,iN]
   constructor
   · rintro(⟨j,hj,hx⟩|hx)
     · exact⟨j,by omega,hx⟩
     · exact⟨k,by omega,hx⟩
   · rintro⟨j,hj,hx⟩
     by_cases e:j=k
     · subst e;exact .inr hx
     · exact .inl ⟨j,by omega,hx⟩
theorem iJ{c:Nat}:∀{k:Nat},(∀j,j<k->(f j).length<=c)->(bI f k).length<=k*c
 |0,_=>by simp[bI]
 |k+1,e=>by
   have h1:=iJ (k:=k) λj hj=>e j (by omega)
   have h2:=e k (by omega)
   rw[bI,List.length_append,Nat.succ_mul]
   omega
theorem cR(e:∀j,(f j).length<=1):(bI f k).length<=k:=by
 have:=iJ (f:=f) (k:=k) (c:=1) λj _=>e j
 omega
theorem iV{c:Nat}(hk:k<=3072)(hc:c<=3072)(e:∀j,(f j).length<=c):(bI f k).length<=9437184:=by
 have h1:=iJ (f:=f) (k:=k) (c:=c) λj _=>e j
 have h2:k*c<=3072*3072:=Nat.mul_le_mul hk hc
 omega
theorem eZ(hF:F=B++bI f k)(hf:f k=[x]):F++[x]=B++bI f (k+1):=by rw[hF,bI,hf,List.append_assoc]
theorem gh(hF:F=B++bI f k)(hf:f k=[]):F=B++bI f (k+1):=by rw[hF,bI,hf,List.append_nil]
theorem mO(hF:F=bI f k)(hf:f k=[x]):F++[x]=bI f (k+1):=by rw[hF,bI,hf]
theorem pG(hF:F=bI f k)(hf:f k=[]):F=bI f (k+1):=by rw[hF,bI,hf,List.append_nil]
theorem pM(hF:F=(B++bI f k)++f k):F=B++bI f (k+1):=by rw[hF,bI,List.append_assoc]
end
def fl{β:Type}(p:Prop)[Decidable p](x:β):List β:=if p then[x] else[]
section
variable{β:Type}{p:Prop}[Decidable p]{x:β}
theorem fJ(h:p):fl p x=[x]:=if_pos h
theorem ei(h:¬p):fl p x=[]:=if_neg h
theorem gm:(fl p x).length<=1:=by unfold fl;split<;>simp
theorem gn:fl p x=[]↔¬p:=by unfold fl;split<;>simp_all
theorem il{y:β}:y∈fl p x↔p/\y=x:=by unfold fl;split<;>simp_all
end
def xu(l:List Pt):Prop:=2<=(l.length:Int)/\dy l
instance (l:List Pt):Decidable (xu l):=by unfold xu;infer_instance
def jD(p:cv)(v:Nat):List cr:=fl (¬ck (gI p.1 (v:Int))) (2,(v:Int),0)
def mE(p:cv)(e:Nat):List cr:=fl (¬xu (gI p.2 (e:Int))) (3,(e:Int),0)
def c9(g:cP)(p:cv):List cr:=
 if(p.1.length:Int)=g.1/\(p.2.length:Int)=g.2.length then bI (jD p) p.1.length++bI (mE p) p.2.length else[(1,0,0)]
def iA(p:cv)(v w:Nat):List cr:=fl (v<w/\gI p.1 (v:Int)=gI p.1 (w:Int)) (4,(v:Int),(w:Int))
def cF(p:cv):List cr:=bI (λv=>bI (iA p v) p.1.length) p.1.length
def li(g:cP)(p:cv)(e:Int):Prop:=gI (gI p.2 e) 0=gI p.1 (gI g.2 e).1/\gI (gI p.2 e) (((gI p.2 e).length:Int)-1)=gI p.1 (gI g.2 e).2
instance (g:cP)(p:cv)(e:Int):Decidable (li g p e):=by unfold li;infer_instance
def d6(g:cP)(p:cv)(e:Nat):List cr:=fl (¬li g p (e:Int)) (5,(e:Int),0)
def fe(p:cv)(e:Nat):List cr:=fl (¬fc (gI p.2 (e:Int))) (6,(e:Int),0)
def ec(g:cP)(p:cv):List cr:=bI (d6 g p) p.2.length++bI (fe p) p.2.length
def eV(l:List Pt)(q:Pt):Prop:=∃s∈jh l (l.length-1),cA s.1 s.2 q
instance (l:List Pt)(q:Pt):Decidable (eV l q):=by unfold eV;infer_instance
def fo(g:cP)(p:cv)(e v:Nat):List cr:=fl (((v:Int)≠(gI g.2 (e:Int)).1/\(v:Int)≠(gI g.2 (e:Int)).2)/\eV (gI p.2 (e:Int)) (gI p.1 (v:Int))) (7,(e:Int),(v:Int))
def dU(g:cP)(p:cv):List cr:=bI (λe=>bI (fo g p e) p.1.length) p.2.length
def iE(g:cP)(p:cv)(e f:Int):List Pt:=
  fl ((gI g.2 e).1∈[(gI g.2 f).1,(gI g.2 f).2]) (gI p.1 (gI g.2 e).1)++fl ((gI g.2 e).2∈[(gI g.2 f).1,(gI g.2 f).2]) (gI p.1 (gI g.2 e).2)
def di(s t:Sg)(but:List Pt):Prop:=bL s.1 s.2 t.1 t.2=0\/(bL s.1 s.2 t.1 t.2=1\/bL s.1 s.2 t.1 t.2=2)/\∃x∈but,cD s.1 s.2 t.1 t.2 x
instance (s t:Sg)(but:List Pt):Decidable (di s t but):=by unfold di;infer_instance
def jl(a b but:List Pt):Prop:=∀s∈jh a (a.length-1),∀t∈jh b (b.length-1),di s t but
instance (a b but:List Pt):Decidable (jl a b but):=by unfold jl;infer_instance
def ej(g:cP)(p:cv)(e f:Nat):List cr:=fl (e<f/\¬jl (gI p.2 (e:Int)) (gI p.2 (f:Int)) (iE g p (e:Int) (f:Int))) (8,(e:Int),(f:Int))
def wg(g:cP)(p:cv):List cr:=bI (λe=>bI (ej g p e) p.2.length) p.2.length
def du(g:cP)(p:cv):List cr:=
 if c9 g p=[] then cF p++ec g p++(if ec g p=[] then dU g p++wg g p else[]) else c9 g p
section
variable{g:cP}{p:cv}
structure kP(g:cP)(p:cv):Prop where
  n:(p.1.length:Int)=g.1
  m:(p.2.length:Int)=g.2.length
  pt:∀v:Int,0<=v->v<p.1.length->ck (gI p.1 v)
  ln:∀e:Int,0<=e->e<p.2.length->2<=((gI p.2 e).length:Int)/\dy (gI p.2 e)
theorem fQ:c9 g p=[]↔kP g p:=by
 unfold c9
 by_cases c:(p.1.length:Int)=g.1/\(p.2.length:Int)=g.2.length
 · rw[if_pos c,List.append_eq_nil_iff,cE,cE]
   constructor
   · rintro⟨h1,h2⟩
     refine⟨c.1,c.2,λv h0 hv=>?_,λe h0 he=>?_⟩
     · have:=h1 v.toNat (by omega)
       unfold jD at this
       rw[gn,Int.toNat_of_nonneg h0] at this
       exact Classical.not_not.1 this
     · have:=h2 e.toNat (by omega)
       unfold mE at this
       rw[gn,Int.toNat_of_nonneg h0] at this
       exact Classical.not_not.1 this
   · intro h
     exact⟨λv hv=>gn.2 (Classical.not_not.2 (h.pt _ (by omega) (by omega))),λe he=>gn.2 (Classical.not_not.2 (h.ln _ (by omega) (by omega)))⟩
 · rw[if_neg c]
   exact⟨λh=>by simp at h,λh=>absurd ⟨h.n,h.m⟩ c⟩
theorem lF(v:Nat):(jD p v).length<=1:=gm
theorem oR(v:Nat):(mE p v).length<=1:=gm
theorem mM(u v:Nat):(iA p u v).length<=1:=gm
theorem nf(v:Nat):(d6 g p v).length<=1:=gm
theorem rq(v:Nat):(fe p v).length<=1:=gm
theorem kY(u v:Nat):(fo g p u v).length<=1:=gm
theorem ky(u v:Nat):(ej g p u v).length<=1:=gm
theorem oA(hm:dp g):((c9 g p).length:Int)<=5000:=by
 obtain⟨_,h2,h3,_⟩:=hm
 unfold c9
 split
 · rename_i c
   have l1:=cR (f:=jD p) (k:=p.1.length) lF
   have l2:=cR (f:=mE p) (k:=p.2.length) oR
   rw[List.length_append];omega
 · simp
end
end TL
namespace TL
section
variable{l:List Pt}{p:Pt}{i:Nat}
theorem nk:eV l p↔∃j:Nat,j+1<l.length/\cA (gI l (j:Int)) (gI l ((j:Int)+1)) p:=by
 unfold eV
 constructor
 · rintro⟨s,hs,h⟩
   obtain⟨j,hj,rfl⟩:=e7.1 hs
   exact⟨j,by omega,h⟩
 · rintro⟨j,hj,h⟩
   exact⟨_,e7.2 ⟨j,by omega,rfl⟩,h⟩
end
section
variable{a b c d:Pt}{but:List Pt}{k:Nat}{m:Int}
end
def xo(p:cv)(h:Int):Pt:=if h%2=0 then gI (gI p.2 (h/2)) 1 else gI (gI p.2 (h/2)) (((gI p.2 (h/2)).length:Int)-2)
def xl(u v:Pt):Int:=u.1*v.1+u.2*v.2
def ru(u v:Pt):Prop:=nO u v=0/\0<xl u v
instance (u v:Pt):Decidable (ru u v):=by unfold ru;infer_instance
end TL
namespace TL
end TL
namespace TL
section
variable{g:cP}{p:cv}{F G B:List cr}{v e k i:Nat}
theorem vo(h:decide (dy [gI p.1 (v:Int)])=true):jD p v=[]:=ei (Classical.not_not.2 ((of_decide_eq_true h).2 _ (by simp)))
theorem vu(h:¬decide (dy [gI p.1 (v:Int)])=true):jD p v=[(2,(v:Int),0)]:=
 fJ λho=>h (decide_eq_true ⟨by simp,λx hx=>by obtain rfl:=List.mem_singleton.1 hx;exact ho⟩)
theorem uW(h:(((gI p.2 (e:Int)).length:Nat):Int)<2):mE p e=[(3,(e:Int),0)]:=fJ λho=>by have:=ho.1;omega
theorem uX(h:¬decide (dy (gI p.2 (e:Int)))=true):mE p e=[(3,(e:Int),0)]:=fJ λho=>h (decide_eq_true ho.2)
theorem uZ(h0:¬(((gI p.2 (e:Int)).length:Nat):Int)<2)(h:decide (dy (gI p.2 (e:Int)))=true):mE p e=[]:=ei λho=>ho ⟨by omega,of_decide_eq_true h⟩
theorem n8{β:Type}{f h:Nat->List β}{F:List β}{k n:Nat}(hF:F=bI f k)(hk:k=n):F=bI f n++bI h 0:=by
 subst hk;rw[hF];simp[bI]
theorem uS(h:¬((p.1.length:Nat):Int)=g.1):[(1,0,0)]=c9 g p:=by unfold c9;rw[if_neg λc=>h c.1]
theorem uY(h:¬((p.2.length:Nat):Int)=(g.2.length:Int)):[(1,0,0)]=c9 g p:=by unfold c9;rw[if_neg λc=>h c.2]
theorem vf(h1:((p.1.length:Nat):Int)=g.1)(h2:((p.2.length:Nat):Int)=(g.2.length:Int))(hG:G=bI (jD p) p.1.length++bI (mE p) e)(he:e=p.2.length):G=c9 g p:=by
 unfold c9;rw[if_pos ⟨h1,h2⟩,hG,he]
theorem pz(hF:F=bI (jD p) v):F.length<=v:=by rw[hF];exact cR lF
theorem pE(hF:F=bI (jD p) v++bI (mE p) e):F.length<=v+e:=by
 rw[hF,List.length_append]
 have l1:=cR (f:=jD p) (k:=v) lF
 have l2:=cR (f:=mE p) (k:=e) oR
 omega
theorem rH(hF:F=c9 g p)(h:0<(F.length:Int)):F=du g p:=by
 unfold du
 rw[<-hF,if_neg]
 intro e;subst e;simp at h
theorem r7(hF:F=c9 g p)(h:¬0<(F.length:Int)):F=[]/\c9 g p=[]/\kP g p:=by
 have:F=[]:=List.eq_nil_of_length_eq_zero (by omega)
 have h2:c9 g p=[]:=hF▸this
 exact⟨this,h2,fQ.1 h2⟩
def fO(p:cv)(v:Nat):List cr:=bI (iA p v) p.1.length
theorem sE(v:Nat):(fO p v).length<=p.1.length:=cR (mM v)
theorem sk(hn:p.1.length<=1024)(hv:v<=1024)(hG:G=bI (fO p) v):G.length<=9440000:=by
 have l1:=iV (f:=fO p) (k:=v) (c:=1024) (by omega) (by omega) λj=>Nat.le_trans (sE j) hn
 rw[hG];omega
theorem rK:cF p=bI (fO p) p.1.length:=rfl
theorem lq(hn:p.1.length<=1024):(cF p).length<=9440000:=sk hn hn rfl
theorem qo(hF:F=bI (fO p) v)(hv:v=p.1.length):F=cF p++bI (d6 g p) 0/\true=decide (bI (d6 g p) 0=[]):=by
 subst hv;rw[hF,rK];simp[bI]
theorem mU{b:Bool}(h:F=cF p++bI (d6 g p) e/\b=decide (bI (d6 g p) e=[]))(hn:¬li g p (e:Int)):F++[(5,(e:Int),0)]=cF p++bI (d6 g p) (e+1)/\false=decide (bI (d6 g p) (e+1)=[]):=by
 have hx:d6 g p e=[(5,(e:Int),0)]:=fJ hn
 exact⟨eZ h.1 hx,(decide_eq_false (by rw[bI,hx];simp)).symm⟩
theorem u3{b:Bool}(h:F=cF p++bI (d6 g p) e/\b=decide (bI (d6 g p) e=[]))(hn:li g p (e:Int)):F=cF p++bI (d6 g p) (e+1)/\b=decide (bI (d6 g p) (e+1)=[]):=by
 have hx:d6 g p e=[]:=ei (Classical.not_not.2 hn)
 refine⟨gh h.1 hx,?_⟩
 rw[h.2,bI,hx,List.append_nil]
theorem rh(hn:p.1.length<=1024)(he:e<=3072)(h:F=cF p++bI (d6 g p) e):F.length<=9500000:=by
 have l1:=lq hn
 have l2:=cR (f:=d6 g p) (k:=e) nf
 rw[h,List.length_append];omega
theorem rT{b:Bool}(h:F=cF p++bI (d6 g p) e/\b=decide (bI (d6 g p) e=[]))(he:e=p.2.length):F=cF p++(bI (d6 g p) p.2.length++bI (fe p) 0)/\b=decide (bI (d6 g p) p.2.length++bI (fe p) 0=[]):=by
 subst he;simpa[bI] using h
theorem rO{b:Bool}(h:F=cF p++(bI (d6 g p) p.2.length++bI (fe p) e)/\b=decide (bI (d6 g p) p.2.length++bI (fe p) e=[]))(hn:¬fc (gI p.2 (e:Int))):F++[(6,(e:Int),0)]=cF p++(bI (d6 g p) p.2.length++bI (fe p) (e+1))/\false=decide (bI (d6 g p) p.2.length++bI (fe p) (e+1)=[]):=by
 have hx:fe p e=[(6,(e:Int),0)]:=fJ hn
 refine⟨?_,(decide_eq_false (by rw[bI,hx];simp)).symm⟩
 rw[h.1,bI,hx];simp
theorem tl{b:Bool}(h:F=cF p++(bI (d6 g p) p.2.length++bI (fe p) e)/\b=decide (bI (d6 g p) p.2.length++bI (fe p) e=[]))(hn:fc (gI p.2 (e:Int))):F=cF p++(bI (d6 g p) p.2.length++bI (fe p) (e+1))/\b=decide (bI (d6 g p) p.2.length++bI (fe p) (e+1)=[]):=by
 have hx:fe p e=[]:=ei (Classical.not_not.2 hn)
 rw[bI,hx,List.append_nil];exact h
theorem qe(hn:p.1.length<=1024)(hm:p.2.length<=3072)(he:e<=3072)(h:F=cF p++(bI (d6 g p) p.2.length++bI (fe p) e)):F.length<=9500000:=by
 have l1:=lq hn
 have l2:=cR (f:=d6 g p) (k:=p.2.length) nf
 have l3:=cR (f:=fe p) (k:=e) rq
 rw[h,List.length_append,List.length_append];omega
theorem qw{b:Bool}(h:F=cF p++(bI (d6 g p) p.2.length++bI (fe p) e)/\b=decide (bI (d6 g p) p.2.length++bI (fe p) e=[]))(he:e=p.2.length):F=cF p++ec g p/\b=decide (ec g p=[]):=by
 subst he;exact h
def dl(g:cP)(p:cv):List cr:=cF p++ec g p
theorem ni(hn:p.1.length<=1024)(hm:p.2.length<=3072):(dl g p).length<=9500000:=qe hn hm hm rfl
def iz(g:cP)(p:cv)(e:Nat):List cr:=bI (fo g p e) p.1.length
def ji(g:cP)(p:cv)(e:Nat):List cr:=bI (ej g p e) p.2.length
theorem nn(e:Nat):(iz g p e).length<=p.1.length:=cR (kY e)
theorem rm(e:Nat):(ji g p e).length<=p.2.length:=cR (ky e)
theorem oq(h:F=cF p++ec g p):F=dl g p++bI (iz g p) 0:=by rw[h];simp[bI,dl]
theorem qu(hn:p.1.length<=1024)(hm:p.2.length<=3072)(he:e<=3072)(hv:v<=1024)(h:G=(dl g p++bI (iz g p) e)++bI (fo g p e) v):G.length<=20000000:=by
 have l1:=ni (g:=g) hn hm
 have l2:=iV (f:=iz g p) (k:=e) (c:=1024) he (by omega) λj=>Nat.le_trans (nn j) hn
 have l3:=cR (f:=fo g p e) (k:=v) (kY e)
 rw[h,List.length_append,List.length_append];omega
theorem qP(h:G=(dl g p++bI (iz g p) e)++bI (fo g p e) v)(hv:v=p.1.length):G=dl g p++bI (iz g p) (e+1):=by
 subst hv;exact pM h
theorem ot(h:F=dl g p++bI (iz g p) e)(he:e=p.2.length):F=(dl g p++dU g p)++bI (ji g p) 0:=by
 subst he;rw[h];simp[bI,dU];rfl
theorem nZ(h:F=(dl g p++dU g p)++bI (ji g p) e):F=((dl g p++dU g p)++bI (ji g p) e)++bI (ej g p e) (e+1)/\e<e+1:=by
 refine⟨?_,by omega⟩
 rw[ew (f:=ej g p e) (k:=e+1) λj hj=>ei λh=>by omega,List.append_nil];exact h
theorem qE(hn:p.1.length<=1024)(hm:p.2.length<=3072):(dU g p).length<=9437184:=
 iV (f:=iz g p) (k:=p.2.length) (c:=1024) (by omega) (by omega) λj=>Nat.le_trans (nn j) hn
theorem qJ{f:Nat}(hn:p.1.length<=1024)(hm:p.2.length<=3072)(he:e<=3072)(hf:f<=3072)(h:G=((dl g p++dU g p)++bI (ji g p) e)++bI (ej g p e) f):G.length<=40000000:=by
 have l1:=ni (g:=g) hn hm
 have l0:=qE (g:=g) hn hm
 have l2:=iV (f:=ji g p) (k:=e) (c:=3072) he (by omega) λj=>Nat.le_trans (rm j) hm
 have l3:=cR (f:=ej g p e) (k:=f) (ky e)
 rw[h,List.length_append,List.length_append,List.length_append];omega
theorem qy{f:Nat}(h:G=((dl g p++dU g p)++bI (ji g p) e)++bI (ej g p e) f)(hf:f=p.2.length):G=(dl g p++dU g p)++bI (ji g p) (e+1):=by
 subst hf;exact pM h
theorem sZ(h:(v:Int)=(gI g.2 (e:Int)).1):fo g p e v=[]:=ei λc=>c.1.1 h
theorem uQ(h:(v:Int)=(gI g.2 (e:Int)).2):fo g p e v=[]:=ei λc=>c.1.2 h
theorem ud(h:¬decide (eV (gI p.2 (e:Int)) (gI p.1 (v:Int)))=true):fo g p e v=[]:=ei λc=>h (decide_eq_true c.2)
theorem uc(h1:¬(v:Int)=(gI g.2 (e:Int)).1)(h2:¬(v:Int)=(gI g.2 (e:Int)).2)(h:decide (eV (gI p.2 (e:Int)) (gI p.1 (v:Int)))=true):fo g p e v=[(7,(e:Int),(v:Int))]:=fJ ⟨⟨h1,h2⟩,of_decide_eq_true h⟩
theorem sA{b:Bool}(hs:c9 g p=[])(hF:F=cF p++ec g p)(hb:b=decide (ec g p=[]))(h:¬b=true):F=du g p:=by
 have:¬ec g p=[]:=λe=>h (hb.trans (decide_eq_true e))
 unfold du
 rw[if_pos hs,if_neg this,List.append_nil];exact hF
theorem qB{b:Bool}(hs:c9 g p=[])(hb:b=decide (ec g p=[]))(h:b=true)(hF:F=(dl g p++dU g p)++bI (ji g p) e)(he:e=p.2.length):F=du g p:=by
 have:ec g p=[]:=of_decide_eq_true (hb▸h)
 subst he
 unfold du
 rw[if_pos hs,if_pos this,hF]
 unfold dl
 rw[List.append_assoc];rfl
end
section
variable{g:cP}{p:cv}{e f:Int}
theorem sD{x:Pt}:x∈iE g p e f↔∃v,(v=(gI g.2 e).1\/v=(gI g.2 e).2)/\(v=(gI g.2 f).1\/v=(gI g.2 f).2)/\x=gI p.1 v:=by
 unfold iE
 rw[List.mem_append,il,il]
 simp only[List.mem_cons,List.not_mem_nil,or_false]
 constructor
 · rintro(⟨h1,h2⟩|⟨h1,h2⟩)
   · exact⟨_,.inl rfl,h1,h2⟩
   · exact⟨_,.inr rfl,h1,h2⟩
 · rintro⟨v,rfl|rfl,h1,h2⟩
   · exact .inl ⟨h1,h2⟩
   · exact .inr ⟨h1,h2⟩
theorem jQ(hm:dp g)(h0:0<=e)(h1:e<g.2.length):(0<=(gI g.2 e).1/\(gI g.2 e).1<g.1)/\0<=(gI g.2 e).2/\(gI g.2 e).2<g.1:=hm.2.2.2 _ (ba h0 h1)
theorem x0(hm:dp g)(hs:kP g p)(h0:0<=e)(h1:e<g.2.length):∀x∈iE g p e f,ck x:=by
 intro x hx
 obtain⟨v,hv,_,rfl⟩:=sD.1 hx
 obtain⟨⟨a1,a2⟩,a3,a4⟩:=jQ hm h0 h1
 have:=hs.n
 rcases hv with rfl|rfl
 · exact hs.pt _ a1 (by omega)
 · exact hs.pt _ a3 (by omega)
end
section
variable{a b but:List Pt}{i k:Nat}
theorem jO:jl a b but↔∀j:Nat,j+1<a.length->∀q:Nat,q+1<b.length->di (gI a (j:Int),gI a ((j:Int)+1)) (gI b (q:Int),gI b ((q:Int)+1)) but:=by
 unfold jl
 constructor
 · intro h j hj q hq
   exact h _ (e7.2 ⟨j,by omega,rfl⟩) _ (e7.2 ⟨q,by omega,rfl⟩)
 · intro h s hs t ht
   obtain⟨j,hj,rfl⟩:=e7.1 hs
   obtain⟨q,hq,rfl⟩:=e7.1 ht
   exact h j (by omega) q (by omega)
theorem sR(h:1<=i/\∀j:Nat,j+1<i->∀q:Nat,q+1<b.length->di (gI a (j:Int),gI a ((j:Int)+1)) (gI b (q:Int),gI b ((q:Int)+1)) but)
   (h2:1<=k/\∀q:Nat,q+1<k->di (gI a ((i:Int)-1),gI a (i:Int)) (gI b (q:Int),gI b ((q:Int)+1)) but)(hk:¬(k:Int)<b.length):
   1<=i+1/\∀j:Nat,j+1<i+1->∀q:Nat,q+1<b.length->di (gI a (j:Int),gI a ((j:Int)+1)) (gI b (q:Int),gI b ((q:Int)+1)) but:=by
 refine⟨by omega,λj hj q hq=>?_⟩
 by_cases e:j+1=i
 · have h3:=h2.2 q (by omega)
   rw[show(j:Int)=(i:Int)-1 by omega,show(i:Int)-1+1=(i:Int) by omega]
   exact h3
 · exact h.2 j (by omega) q hq
theorem nA(h:1<=k/\∀q:Nat,q+1<k->di (gI a ((i:Int)-1),gI a (i:Int)) (gI b (q:Int),gI b ((q:Int)+1)) but)(ho:decide (di (gI a ((i:Int)-1),gI a (i:Int)) (gI b ((k:Int)-1),gI b (k:Int)) but)=true):
   1<=k+1/\∀q:Nat,q+1<k+1->di (gI a ((i:Int)-1),gI a (i:Int)) (gI b (q:Int),gI b ((q:Int)+1)) but:=by
 refine⟨by omega,λq hq=>?_⟩
 by_cases e:q+1=k
 · rw[show(q:Int)=(k:Int)-1 by omega,show(k:Int)-1+1=(k:Int) by omega]
   exact of_decide_eq_true ho
 · exact h.2 q (by omega)
theorem rU(h1:1<=i)(hi:(i:Int)<a.length)(h2:1<=k)(hk:(k:Int)<b.length)(ho:¬decide (di (gI a ((i:Int)-1),gI a (i:Int)) (gI b ((k:Int)-1),gI b (k:Int)) but)=true):false=decide (jl a b but):=by
 refine(decide_eq_false λh=>ho (decide_eq_true ?_)).symm
 have:=jO.1 h (i-1) (by omega) (k-1) (by omega)
 rwa[show((i-1:Nat):Int)=(i:Int)-1 by omega,show((k-1:Nat):Int)=(k:Int)-1 by omega,show(i:Int)-1+1=(i:Int) by omega,show(k:Int)-1+1=(k:Int) by omega] at this
theorem uM(h:1<=i/\∀j:Nat,j+1<i->∀q:Nat,q+1<b.length->di (gI a (j:Int),gI a ((j:Int)+1)) (gI b (q:Int),gI b ((q:Int)+1)) but)(hi:¬(i:Int)<a.length):true=decide (jl a b but):=
 (decide_eq_true (jO.2 λj hj=>h.2 j (by omega))).symm
end
section
variable{g:cP}{p:cv}{e f:Nat}{b:Bool}
end
end TL
/-
  TlMap: maps that the call makes.
  By an AI agent.
-/
set_option linter.all false
namespace TL
open Go
class Ky (K:Type) where
  val:K->Value
section
variable{P:Program}{f:Fr}{w:World}{dst:Option Tmp}{ty:TypeId}{pos:String}{after:Array Edge}{g:Option (Nat×Bool)}{t:TypeId}{x y z:Operand}{N:Value->World->Prop}
end
instance:Ky Int where
 val k:=.int .i64 k
instance:Ky (Int×Int) where
 val k:=.agg (List.toArray [.int .i64 k.1,.int .i64 k.2])
end TL
namespace TL
open Go
end TL
