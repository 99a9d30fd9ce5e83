/- Plain texts of this claim, part 1. By an AI agent. -/
import Derived.Test.YtkhfimgjcdeejaaTlP0
import Derived.Laws.FloatBits
import Derived.Laws.StructEq
import Derived.OrdersHeld
/-
  TlDraw: regions that draw their order, taken operation by operation.
  By an AI agent.
-/
set_option linter.all false
namespace TL
open Go
def bK(n:Nat)(done:List Nat):Array Bool:=((List.range n).map λi=>decide (i∈done)).toArray
theorem bY(n:Nat)(done:List Nat)(j:Nat)(d:Bool):(bK n done).getD j d=if j<n then decide (j∈done) else d:=by
 unfold bK
 by_cases h:j<n
 · simp[h]
 · simp[h]
theorem cC{n i:Nat}(done:List Nat)(hi:i<n):(bK n done).setIfInBounds i true=bK n (i::done):=by
 apply Array.ext
 · simp[bK]
 · intro j h1 h2
   have hj:j<n:=by simpa[bK] using h2
   simp only[bK]
   by_cases hij:i=j
   · subst hij;simp
   · have:¬j=i:=λh=>hij h.symm
     simp[Array.getElem_setIfInBounds,hij,this]
section
variable{P:Program}{ops:Array Oper}{Q:Exit->Act->World->Prop}{md:Region.Mode}{qs:Nat->Bool}
def iN(P:Program)(md:Region.Mode)(ops:Array Oper)(qs:Nat->Bool)(Q:Exit->Act->World->Prop):Nat->Array Bool->Act->World->Prop
  |0,listed,a,w=>Region.ready md ops listed=[]/\Q .normal a w
  |fuel+1,listed,a,w=>(Region.ready md ops listed=[]->Q .normal a w)/\
    ∀i∈Region.ready md ops listed,if qs i then stOp P ops w i (λa'=>iN P md ops qs Q fuel (listed.setIfInBounds i true) a' w) a
      else wpOp P ops Q i (iN P md ops qs Q fuel (listed.setIfInBounds i true)) a w
theorem en:∀(fuel:Nat) (listed:Array Bool) (a:Act) (w:World),iN P md ops qs Q fuel listed a w->wpAny P md ops Q fuel listed a w
 |0,_,_,_,h=>h
 |fuel+1,listed,a,w,h=>by
   refine⟨h.1,λi hi=>?_⟩
   have h2:=h.2 i hi
   cases hq:qs i with
   |true=>
     simp only[hq,if_true] at h2
     exact wpOp_of_stOp (λa' h'=>en fuel _ a' w h') h2
   |false=>
     simp only[hq,Bool.false_eq_true,if_false] at h2
     exact wpOp_mono (λa' w' h'=>en fuel _ a' w' h') h2
theorem la{i:Nat}{oi:Oper}{v:Value}{w:World}{M D:Array Bool}(hi:ops[i]? =some oi)(hsel:∀(j:Nat) (o:Oper) cs b,ops[j]? =some o->o.op≠ .select cs b)(hqi:qs i=true)
    (hM:∀j oj,ops[j]? =some oj->M.getD j false=false->j≠i->∃e∈oj.after,Region.binds md e=true/\M.getD e.on false=false)
    (hMq:∀j oj,ops[j]? =some oj->M.getD j false=true->D.getD j true=false->j≠i->qs j=true):
    ∀(fuel:Nat) (listed:Array Bool) (a:Act),listed.size=ops.size->(∀j,listed.getD j false=true->M.getD j false=true)->(∀j,listed.getD j true=false->D.getD j true=false)->
      (∀j oj,ops[j]? =some oj->j≠i->listed.getD j true=false->(∀e∈oj.after,Region.binds md e=true->e.on≠i)->oi.apart ops oj=true)->
      i∈Region.ready md ops listed->YieldsAt P ops w oi v a->
      iN P md ops qs Q fuel (listed.setIfInBounds i true) (a.put oi.dst v) w->iN P md ops qs Q (fuel+1) listed a w:=by
  intro fuel
  induction fuel with
  |zero=>
    intro listed a _ _ _ _ hr hy H
    refine⟨λh=>(by rw[h] at hr;cases hr),λj hj=>?_⟩
    by_cases hji:j=i
    · subst hji;rw[if_pos hqi];exact hy.stOp hi H
    · have:=ready_mono hj hji
      rw[H.1] at this
      cases this
  |succ fuel ih=>
    intro listed a hsz hsub hD hfree hr hy H
    refine⟨λh=>(by rw[h] at hr;cases hr),λj hj=>?_⟩
    by_cases hji:j=i
    · subst hji;rw[if_pos hqi];exact hy.stOp hi H
    · obtain⟨hjun,oj,hoj,hall⟩:=mem_ready.1 hj
      have hMj:M.getD j false=true:=by
        cases hm:M.getD j false with
        |true=>rfl
        |false=>
          obtain⟨e,he,hb,hn⟩:=hM j oj hoj hm hji
          have:=hsub _ (hall e he hb)
          rw[hn] at this;cases this
      have hqj:=hMq j oj hoj hMj (hD j hjun) hji
      have h1:=H.2 j (ready_mono hj hji)
      rw[if_pos hqj] at h1 ⊢
      have hnot:∀e∈oj.after,Region.binds md e=true->e.on≠i:=λe he hb heq=>by
        have h1:=hall e he hb
        have h0:=(mem_ready.1 hr).1
        rw[heq] at h1
        rw[getD_both h0] at h1
        cases h1
      have h2:=stOp_put hoj (hfree j oj hoj hji hjun hnot) (λcs b=>hsel i oi cs b hi) (λcs b=>hsel j oj cs b hoj) hy h1
      have hfree':∀k ok,ops[k]? =some ok->k≠i->(listed.setIfInBounds j true).getD k true=false->
          (∀e∈ok.after,Region.binds md e=true->e.on≠i)->oi.apart ops ok=true:=λk ok hk hki hun hno=>by
        refine hfree k ok hk hki ?_ hno
        by_cases hjk:j=k
        · subst hjk;exact hjun
        · rw[getD_set_ne true hjk] at hun;exact hun
      have hsub':∀k,(listed.setIfInBounds j true).getD k false=true->M.getD k false=true:=λk hk=>by
        by_cases hjk:j=k
        · subst hjk;exact hMj
        · rw[getD_set_ne false hjk] at hk;exact hsub k hk
      have hD':∀k,(listed.setIfInBounds j true).getD k true=false->D.getD k true=false:=λk hk=>by
        by_cases hjk:j=k
        · subst hjk;exact hD j hjun
        · rw[getD_set_ne true hjk] at hk;exact hD k hk
      refine stOp_mono (λa' h3=>ih (listed.setIfInBounds j true) a' (by simpa using hsz) hsub' hD' hfree' (ready_mono hr (Ne.symm hji)) h3.1 ?_) h2
      rw[Array.setIfInBounds_comm _ _ hji]
      exact h3.2
def aA{α:Type}(s:Sem α):Prop:=∀(P:Program) (w:World) (x:α) (w':World),s.run P w= .ok x w'->cG w.heap.size w w'
theorem aA.bind{α β:Type}{s:Sem α}{f:α->Sem β}(h:aA s)(hf:∀a,aA (f a)):aA (s>>=f):=by
 intro P w x w' hr
 rw[Sem.run_bind] at hr
 cases h1:s.run P w with
 |halt e w1=>rw[h1] at hr;cases hr
 |ok a w1=>
   rw[h1] at hr
   have k1:=h P w a w1 h1
   have k2:=hf a P w1 x w' hr
   exact k1.trans (k2.mono k1.size)
theorem aA.pure{α:Type}(a:α):aA (Pure.pure a:Sem α):=λP w x w' h=>by
 simp only[Sem.run_pure] at h
 cases h;exact cG.refl _ _
theorem aA.halt{α:Type}(e:Halt):aA (Sem.halt e:Sem α):=λP w x w' h=>by cases h
theorem aA.stuck{α:Type}(e:String):aA (Go.stuck e:Sem α):=aA.halt _
theorem aA.unsupported{α:Type}(e:Unsupported):aA (Go.unsupported e:Sem α):=aA.halt _
theorem aA.program:aA Go.program:=λP w x w' h=>by
 simp only[run_program] at h
 cases h;exact cG.refl _ _
theorem aA.new(o:Obj):aA (newObj o):=λP w x w' h=>by
 simp only[run_newObj] at h
 cases h
 exact(cG.refl _ w).alloc (Nat.le_refl _) o
theorem aA.typeInfo(t:TypeId):aA (Go.typeInfo t):=aA.bind aA.program λp=>by
 cases p.info? t with
 |some i=>exact aA.pure i
 |none=>exact aA.stuck _
theorem aA.underlying(t:TypeId):aA (Go.underlying t):=aA.bind aA.program λp=>by
 cases p.underlying t with
 |some i=>exact aA.pure i
 |none=>exact aA.stuck _
theorem aA.sizeOf(t:TypeId):aA (Go.sizeOf t):=aA.bind (aA.typeInfo t) λi=>aA.pure _
theorem aA.zeroValue(t:TypeId):aA (Go.zeroValue t):=aA.bind (aA.typeInfo t) λi=>by
 cases i.zero with
 |some v=>exact aA.pure v
 |none=>exact aA.unsupported _
theorem aA.newVar(t:TypeId)(v:Value):aA (Go.newVar t v):=aA.bind (aA.new _) λ_=>aA.pure _
theorem gN(t:TypeId)(len:Nat)(parts:Array (Nat×Value)):aA (Instr.buildSlice t len parts):=by
 unfold Instr.buildSlice
 refine aA.bind (aA.underlying t) λd=>?_
 split
 · refine aA.bind (aA.sizeOf _) λsize=>?_
   have tail:∀(elem:TypeId) (zero:Array Value),aA (match Instr.fill (λi=>some (i*size,size)) ((Array.range (len*size)).map (zero[· %zero.size]!)) parts.toList with
       |some cells=>(do pure (Value.slice (some (<-newRow elem cells)) len len):Sem Value)
       |_=>Go.stuck "buildSlice: a part of the wrong size"):=λelem zero=>by
     split
     · exact aA.bind (aA.bind (aA.new _) λ_=>aA.pure _) λ_=>aA.pure _
     · exact aA.stuck _
   by_cases h1:len*size>2^24
   · simp only[h1,if_true]
     refine aA.bind (aA.unsupported _) λx=>?_
     by_cases h2:len*size=0
     · rw[if_pos h2]
       exact aA.bind (aA.pure _) λzero=>tail _ zero
     · simp only[h2,if_false]
       exact aA.bind (aA.zeroValue _) λ_=>aA.bind (aA.pure _) λzero=>tail _ zero
   · simp only[h1,if_false]
     by_cases h2:len*size=0
     · rw[if_pos h2]
       exact aA.bind (aA.pure _) λzero=>tail _ zero
     · simp only[h2,if_false]
       exact aA.bind (aA.zeroValue _) λ_=>aA.bind (aA.pure _) λzero=>tail _ zero
 · exact aA.stuck _
theorem fW{P:Program}{w w':World}{s:Sem Value}{nx:Next}(h:(do pure (Next.value (<-s)):Sem Next).run P w= .ok nx w'):∃u,nx= .value u:=by
 rw[Sem.run_bind] at h
 cases hs:s.run P w with
 |ok a w1=>rw[hs] at h;cases h;exact⟨a,rfl⟩
 |halt e w1=>rw[hs] at h;cases h
theorem aA.load(a:Addr)(m:Mode):aA (Go.load a m):=λP w x w' h=>by
 simp only[Go.load,Sem.run] at h
 split at h
 · cases h;exact cG.refl _ _
 · split at h
   · cases h;exact cG.refl _ _
   · cases h
theorem aA.cells(a:Addr):∀(n i:Nat) (acc:Array Value),aA (loadCellsFrom a i n acc)
 |0,_,_=>aA.pure _
 |n+1,i,_=>aA.bind (aA.load _ _) λ_=>aA.cells a n (i+1) _
theorem aA.isAgg(t:TypeId):aA (Go.isAgg t):=aA.bind (aA.underlying t) λd=>by
 split<;>exact aA.pure _
theorem aA.error{α:Type}(m:String):aA (runtimePanic (.error m):Sem α):=aA.bind aA.program λp=>aA.halt _
theorem aA.asIntOf(v:Value):aA (Go.asIntOf v):=by
 unfold Go.asIntOf
 split
 · exact aA.pure _
 · exact aA.unsupported _
 · exact aA.stuck _
theorem aA.asInt(v:Value):aA (Go.asInt v):=aA.bind (aA.asIntOf v) λ_=>aA.pure _
theorem aA.choose(q:Question):aA (Go.choose q):=λP w x w' h=>by
 simp only[Go.choose,Sem.run] at h
 split at h
 · cases h;exact cG.refl _ _
 · cases h;exact⟨rfl,rfl,rfl,Nat.le_refl _,λ_ _=>rfl,Nat.le_succ _⟩
theorem aA.room(n:Nat):aA (askRoom n):=λP w x w' h=>by
 unfold askRoom at h
 split at h
 · simp only[Go.mark,Sem.run] at h
   cases h;exact⟨rfl,rfl,rfl,Nat.le_refl _,λ_ _=>rfl,Nat.le_refl _⟩
 · cases h;exact cG.refl _ _
theorem jN(t:TypeId)(a:Value):aA (Instr.loadAt t a):=by
 unfold Instr.loadAt
 refine aA.bind ?_ λb=>?_
 · unfold Instr.sureAddr
   split
   · exact aA.pure _
   · exact aA.stuck _
 · unfold loadVar
   refine aA.bind (aA.isAgg t) λc=>?_
   split
   · exact aA.bind (aA.sizeOf t) λn=>aA.bind (aA.cells _ _ _ _) λ_=>aA.pure _
   · exact aA.load _ _
theorem hX(t:TypeId)(a b:Value):aA (Instr.makeSlice t a b):=by
 unfold Instr.makeSlice
 refine aA.bind (aA.underlying t) λd=>?_
 split
 · refine aA.bind (aA.asInt _) λl=>aA.bind (aA.asInt _) λc=>aA.bind (aA.typeInfo _) λi=>?_
   have tail:∀(c:Int) (l:Int) (elem:TypeId),aA (do
       let n:=c.toNat*(<-sizeOf elem)
       let zero<-if n=0 then pure #[] else do pure (<-zeroValue elem).cells
       let a<-newRow elem ((Array.range n).map (zero[· %zero.size]!))
       pure (Value.slice (some a) l.toNat c.toNat)):=λc l elem=>by
     refine aA.bind (aA.sizeOf _) λn=>?_
     have last:∀zero:Array Value,aA (do
       let a<-newRow elem ((Array.range (c.toNat*n)).map (zero[· %zero.size]!))
       pure (Value.slice (some a) l.toNat c.toNat)):=λzero=>aA.bind (aA.bind (aA.new _) λ_=>aA.pure _) λ_=>aA.pure _
     by_cases h:c.toNat*n=0
     · simp only[h,if_true]
       have:=last #[]
       simp only[h] at this
       exact aA.bind (aA.pure _) λ_=>aA.bind (aA.bind (aA.new _) λ_=>aA.pure _) λ_=>aA.pure _
     · simp only[h,if_false]
       exact aA.bind (aA.zeroValue _) λ_=>aA.bind (aA.pure _) λz=>last z
   dsimp only
   repeat' (first
     |exact aA.error _
     |exact aA.choose _
     |exact aA.room _
     |exact tail _ _ _
     |exact aA.pure _
     |refine aA.bind ?_ λ_=>?_
     |split)
 · exact aA.stuck _
def dY:Op->Bool
 | .alloc _| .box .. | .buildSlice .. | .load .. | .makeSlice .. =>true
 |_=>false
theorem iG{ρ:Operand->Value}{o:Oper}(h:dY o.op=true):aA (execOp ρ o):=by
 obtain⟨dst,op,ty,pos,after,g⟩:=o
 cases op<;>simp only[dY,Bool.false_eq_true] at h
 case alloc e=>exact aA.bind (aA.bind (aA.zeroValue _) λ_=>aA.bind (aA.newVar _ _) λ_=>aA.pure _) λ_=>aA.pure _
 case box e x=>exact aA.bind (aA.bind (aA.newVar _ _) λ_=>aA.pure _) λ_=>aA.pure _
 case buildSlice t n ps=>exact aA.bind (gN _ _ _) λ_=>aA.pure _
 case load t a=>exact aA.bind (jN _ _) λ_=>aA.pure _
 case makeSlice t a b=>exact aA.bind (hX _ _ _) λ_=>aA.pure _
theorem na{i:Nat}{oi:Oper}{v:Value}{w0:World}{M D:Array Bool}(hi:ops[i]? =some oi)(hsel:∀(j:Nat) (o:Oper) cs b,ops[j]? =some o->o.op≠ .select cs b)(hqi:qs i=true)
    (hQ:∀c a w,Q (.panic c) (a.put oi.dst v) w->Q (.panic c) a w)
    (hM:∀j oj,ops[j]? =some oj->M.getD j false=false->j≠i->∃e∈oj.after,Region.binds md e=true/\M.getD e.on false=false)
    (hMq:∀j oj,ops[j]? =some oj->M.getD j false=true->D.getD j true=false->j≠i->qs j=true\/dY oj.op=true):
    ∀(fuel:Nat) (listed:Array Bool) (a:Act) (w:World),cG w0.heap.size w0 w->(∀j,listed.getD j false=true->M.getD j false=true)->(∀j,listed.getD j true=false->D.getD j true=false)->
      (∀j oj,ops[j]? =some oj->j≠i->listed.getD j true=false->(∀e∈oj.after,Region.binds md e=true->e.on≠i)->oi.apart ops oj=true)->
      i∈Region.ready md ops listed->(∀w,cG w0.heap.size w0 w->YieldsAt P ops w oi v a)->
      iN P md ops qs Q fuel (listed.setIfInBounds i true) (a.put oi.dst v) w->iN P md ops qs Q (fuel+1) listed a w:=by
  intro fuel
  induction fuel with
  |zero=>
    intro listed a w hw _ _ _ hr hy H
    refine⟨λh=>(by rw[h] at hr;cases hr),λj hj=>?_⟩
    by_cases hji:j=i
    · subst hji;rw[if_pos hqi];exact(hy w hw).stOp hi H
    · have:=ready_mono hj hji
      rw[H.1] at this
      cases this
  |succ fuel ih=>
    intro listed a w hw hsub hD hfree hr hy H
    refine⟨λh=>(by rw[h] at hr;cases hr),λj hj=>?_⟩
    by_cases hji:j=i
    · subst hji;rw[if_pos hqi];exact(hy w hw).stOp hi H
    · obtain⟨hjun,oj,hoj,hall⟩:=mem_ready.1 hj
      have hMj:M.getD j false=true:=by
        cases hm:M.getD j false with
        |true=>rfl
        |false=>
          obtain⟨e,he,hb,hn⟩:=hM j oj hoj hm hji
          have:=hsub _ (hall e he hb)
          rw[hn] at this;cases this
      have hqj:=hMq j oj hoj hMj (hD j hjun) hji
      have h1:=H.2 j (ready_mono hj hji)
      have hnot:∀e∈oj.after,Region.binds md e=true->e.on≠i:=λe he hb heq=>by
        have h1:=hall e he hb
        have h0:=(mem_ready.1 hr).1
        rw[heq] at h1
        rw[getD_both h0] at h1
        cases h1
      have hap:=hfree j oj hoj hji hjun hnot
      have hfree':∀k ok,ops[k]? =some ok->k≠i->(listed.setIfInBounds j true).getD k true=false->
          (∀e∈ok.after,Region.binds md e=true->e.on≠i)->oi.apart ops ok=true:=λk ok hk hki hun hno=>by
        refine hfree k ok hk hki ?_ hno
        by_cases hjk:j=k
        · subst hjk;exact hjun
        · rw[getD_set_ne true hjk] at hun;exact hun
      have hsub':∀k,(listed.setIfInBounds j true).getD k false=true->M.getD k false=true:=λk hk=>by
        by_cases hjk:j=k
        · subst hjk;exact hMj
        · rw[getD_set_ne false hjk] at hk;exact hsub k hk
      have hD':∀k,(listed.setIfInBounds j true).getD k true=false->D.getD k true=false:=λk hk=>by
        by_cases hjk:j=k
        · subst hjk;exact hD j hjun
        · rw[getD_set_ne true hjk] at hk;exact hD k hk
      obtain⟨g1,g2,g3⟩:=Oper.apart_spec hap
      have keep:∀u w,cG w0.heap.size w0 w->YieldsAt P ops w oi v (a.put oj.dst u):=λu w hw=>
        (hy w hw).of_same (execOp_put oi (λcs b=>hsel i oi cs b hi) a oj.dst u g3) (wanted_put oi a oj.dst u g3)
      cases hqj':qs j with
      |true=>
        simp only[hqj',if_true] at h1 ⊢
        obtain⟨u,hyu,hK⟩:=yieldsAt_of_stOp hoj h1
        have hyj:YieldsAt P ops w oj u a:=by
          rcases hyu with⟨k1,k2⟩|⟨k1,k2⟩
          · refine .inl ⟨by rw[<-wanted_put oj a oi.dst v g1];exact k1,?_⟩
            rw[execOp_put oj (λcs b=>hsel j oj cs b hoj) a oi.dst v g1] at k2
            exact k2
          · exact .inr ⟨by rw[<-wanted_put oj a oi.dst v g1];exact k1,k2⟩
        refine hyj.stOp hoj (ih (listed.setIfInBounds j true) (a.put oj.dst u) w hw hsub' hD' hfree' (ready_mono hr (Ne.symm hji)) (keep u) ?_)
        rw[<-Act.put_comm a v u g2,Array.setIfInBounds_comm _ _ hji]
        exact hK
      |false=>
        have hkk:=hqj.resolve_left (by rw[hqj'];simp)
        simp only[hqj',Bool.false_eq_true,if_false] at h1 ⊢
        unfold wpOp at h1 ⊢
        simp only[hoj] at h1 ⊢
        rw[wanted_put oj a oi.dst v g1] at h1
        cases hwt:Region.wanted oj (yielded ops a.tmps) with
        |false=>
          simp only[hwt,Bool.false_eq_true,if_false] at h1 ⊢
          refine ih (listed.setIfInBounds j true) (a.put oj.dst undef) w hw hsub' hD' hfree' (ready_mono hr (Ne.symm hji)) (keep undef) ?_
          rw[<-Act.put_comm a v undef g2,Array.setIfInBounds_comm _ _ hji]
          exact h1
        |true=>
          simp only[hwt,if_true] at h1 ⊢
          have hke:=iG (ρ:=a.eval) hkk P w
          rcases h1 with h1|⟨h1,h2⟩
          · left
            unfold Oper.wp at h1 ⊢
            rw[execOp_put oj (λcs b=>hsel j oj cs b hoj) a oi.dst v g1] at h1
            obtain⟨dst,op,ty,pos,after,gd⟩:=oj
            cases hrun:(execOp a.eval ⟨dst,op,ty,pos,after,gd⟩).run P w with
            |halt x w'=>
              rw[hrun] at h1
              cases x<;>simp only[Oper.upon] at h1 ⊢
              case panic u=>exact hQ _ _ _ h1
            |ok nx w'=>
              rw[hrun] at h1
              have hb:=hke nx w' hrun
              have hw':cG w0.heap.size w0 w':=hw.trans (hb.mono hw.size)
              -- these operations yield values alone
              have hval:∃u,nx= .value u:=by
                cases op<;>simp only[dY,Bool.false_eq_true] at hkk
                all_goals exact fW hrun
              obtain⟨u,rfl⟩:=hval
              simp only[Oper.upon] at h1 ⊢
              refine ih (listed.setIfInBounds j true) (a.put dst u) w' hw' hsub' hD' hfree' (ready_mono hr (Ne.symm hji)) (keep u) ?_
              have h3:=h1
              rw[show(a.put oi.dst v).put dst u=(a.put dst u).put oi.dst v from Act.put_comm a v u g2,Array.setIfInBounds_comm _ _ (Ne.symm hji)] at h3
              exact h3
          · right
            refine⟨?_,h2⟩
            unfold Oper.asks at*
            rw[execOp_put oj (λcs b=>hsel j oj cs b hoj) a oi.dst v g1] at h1
            exact h1
theorem mR{i:Nat}{oi:Oper}{v:Value}(hi:ops[i]? =some oi)(hsel:∀(j:Nat) (o:Oper) cs b,ops[j]? =some o->o.op≠ .select cs b)(hqi:qs i=true)
    (hQ:∀c a w,Q (.panic c) (a.put oi.dst v) w->Q (.panic c) a w):
    ∀(fuel:Nat) (listed:Array Bool) (a:Act) (w:World),
      (∀j oj,ops[j]? =some oj->j≠i->listed.getD j true=false->(∀e∈oj.after,Region.binds md e=true->e.on≠i)->oi.apart ops oj=true)->
      i∈Region.ready md ops listed->Yields P ops oi v a->
      iN P md ops qs Q fuel (listed.setIfInBounds i true) (a.put oi.dst v) w->iN P md ops qs Q (fuel+1) listed a w:=by
  have hat:∀{a:Act} {w:World},Yields P ops oi v a->YieldsAt P ops w oi v a:=λ {a w} hy=>by
    rcases hy with⟨h1,h2⟩|⟨h1,h2⟩
    · exact .inl ⟨h1,.inl (h2 w)⟩
    · exact .inr ⟨h1,h2⟩
  intro fuel
  induction fuel with
  |zero=>
    intro listed a w _ hr hy H
    refine⟨λh=>(by rw[h] at hr;cases hr),λj hj=>?_⟩
    by_cases hji:j=i
    · subst hji;rw[if_pos hqi];exact(hat hy).stOp hi H
    · have:=ready_mono hj hji
      rw[H.1] at this
      cases this
  |succ fuel ih=>
    intro listed a w hfree hr hy H
    refine⟨λh=>(by rw[h] at hr;cases hr),λj hj=>?_⟩
    by_cases hji:j=i
    · subst hji;rw[if_pos hqi];exact(hat hy).stOp hi H
    · obtain⟨hjun,oj,hoj,hall⟩:=mem_ready.1 hj
      have h1:=H.2 j (ready_mono hj hji)
      have hnot:∀e∈oj.after,Region.binds md e=true->e.on≠i:=λe he hb heq=>by
        have h1:=hall e he hb
        have h0:=(mem_ready.1 hr).1
        rw[heq] at h1
        rw[getD_both h0] at h1
        cases h1
      have hap:=hfree j oj hoj hji hjun hnot
      have hfree':∀k ok,ops[k]? =some ok->k≠i->(listed.setIfInBounds j true).getD k true=false->
          (∀e∈ok.after,Region.binds md e=true->e.on≠i)->oi.apart ops ok=true:=λk ok hk hki hun hno=>by
        refine hfree k ok hk hki ?_ hno
        by_cases hjk:j=k
        · subst hjk;exact hjun
        · rw[getD_set_ne true hjk] at hun;exact hun
      cases hqj:qs j with
      |true=>
        simp only[hqj,if_true] at h1 ⊢
        -- a step that leaves the world
        have hy':=hy
        obtain⟨g1,g2,g3⟩:=Oper.apart_spec hap
        have keep:∀(a:Act),Yields P ops oi v a->∀u,Yields P ops oi v (a.put oj.dst u):=λa hy u=>
          hy.of_same (execOp_put oi (λcs b=>hsel i oi cs b hi) a oj.dst u g3) (wanted_put oi a oj.dst u g3)
        obtain⟨u,hyu,hK⟩:=yieldsAt_of_stOp hoj h1
        have hyj:YieldsAt P ops w oj u a:=by
          rcases hyu with⟨k1,k2⟩|⟨k1,k2⟩
          · refine .inl ⟨by rw[<-wanted_put oj a oi.dst v g1];exact k1,?_⟩
            rw[execOp_put oj (λcs b=>hsel j oj cs b hoj) a oi.dst v g1] at k2
            exact k2
          · exact .inr ⟨by rw[<-wanted_put oj a oi.dst v g1];exact k1,k2⟩
        refine hyj.stOp hoj (ih (listed.setIfInBounds j true) (a.put oj.dst u) w hfree' (ready_mono hr (Ne.symm hji)) (keep a hy u) ?_)
        rw[<-Act.put_comm a v u g2,Array.setIfInBounds_comm _ _ hji]
        exact hK
      |false=>
        simp only[hqj,Bool.false_eq_true,if_false] at h1 ⊢
        have h2:=wpOp_put hoj hap (λcs b=>hsel i oi cs b hi) (λcs b=>hsel j oj cs b hoj) hQ hy h1
        refine wpOp_mono (λa' w' h3=>ih (listed.setIfInBounds j true) a' w' hfree' (ready_mono hr (Ne.symm hji)) h3.1 ?_) h2
        rw[Array.setIfInBounds_comm _ _ hji]
        exact h3.2
end
section
variable{P:Program}{n:Nat}{l:List Oper}{qs:List Nat}{K:Fr->World->Prop}{f:Fr}{w:World}{done:List Nat}{fuel:Nat}
def jb(P:Program)(n:Nat)(l:List Oper)(qs:List Nat)(K:Fr->World->Prop)(fuel:Nat)(done:List Nat)(f:Fr)(w:World):Prop:=
  ∀a,Ag n a f->iN P .any l.toArray (λi=>decide (i∈qs)) (λe a' w'=>e= .normal/\∃f',Ag n a' f'/\K f' w') fuel (bK l.length done) a w
theorem gm{fid:Nat}{R:Ending->World->Prop}{k:List Item}{id:Nat}(γ:aV)(qs:List Nat)(hm:P.follows .mixedOrders=true)
   (h:∀w1,bh no γ w γ w1->jb P n l qs (dq P fid n R k) l.length [] f w1):dq P fid n R (.code (.region id l.toArray true)::k) f w:=
 fx λa ha=>wp_region_any hm (by
   have h0:=en _ _ _ _ (h _ (bh.refl _ _ _).drew a ha)
   have hmask:bK l.length []=Array.replicate l.toArray.size false:=by
     apply Array.ext
     · simp[bK]
     · intro j h1 h2;simp[bK]
   rw[hmask] at h0
   simpa using h0)
theorem l8{fid:Nat}{R:Ending->World->Prop}{k:List Item}{id:Nat}{σ:Type}(Mid:σ->Fr->World->Prop)(γ:aV)(qs:List Nat)(hm:P.follows .mixedOrders=true)
    (h:(∀s f w,Mid s f w->dq P fid n R k f w)->∀w1,bh no γ w γ w1->jb P n l qs (dq P fid n R k) l.length [] f w1)(hk:∀s f w,Mid s f w->dq P fid n R k f w):dq P fid n R (.code (.region id l.toArray true)::k) f w:=
  gm γ qs hm (h hk)
def dT(l:List Oper)(done:List Nat)(i:Nat):Bool:=
 !done.contains i&&match l[i]? with
   |some o=>o.after.all λe=> !Region.binds .any e||done.contains e.on&&decide (e.on<l.length)
   |none=>false
def fj(l:List Oper)(done:List Nat)(i:Nat):Bool:=
 match l[i]? with
 |none=>false
 |some oi=>(List.range l.length).all λj=>j==i||done.contains j||match l[j]? with
     |some oj=>oj.after.any (λe=>Region.binds .any e&&e.on==i)||oi.apart l.toArray oj
     |none=>true
def ju(l:List Oper)(qs done M:List Nat)(i:Nat):Bool:=
  ((List.range l.length).all λj=>M.contains j||j==i||match l[j]? with
      |some oj=>oj.after.any λe=>Region.binds .any e&& !M.contains e.on
      |none=>true)&&
  (M.all λj=>j==i||done.contains j||qs.contains j)&&(done.all λj=>M.contains j&&decide (j<l.length))&&M.all λj=>decide (j<l.length)
def eo(l:List Oper):Bool:=Region.noSelect l.toArray
theorem dD{i:Nat}(h:dT l done i=true):i<l.length/\i∈Region.ready .any l.toArray (bK l.length done):=by
 unfold dT at h
 simp only[Bool.and_eq_true,Bool.not_eq_true'] at h
 obtain⟨h1,h2⟩:=h
 split at h2
 · rename_i o ho
   have hlt:i<l.length:=(List.getElem?_eq_some_iff.1 ho).1
   refine⟨hlt,mem_ready.2 ⟨by rw[bY];simp[hlt];simpa using h1,o,by simpa using ho,λe he hb=>?_⟩⟩
   have h3:=Array.all_eq_true_iff_forall_mem.1 h2 e he
   simp only[hb,Bool.not_true,Bool.false_or,Bool.and_eq_true,decide_eq_true_eq] at h3
   rw[bY,if_pos h3.2]
   simpa using h3.1
 · cases h2
theorem e5{i:Nat}{oi:Oper}(hi:l[i]? =some oi)(h:fj l done i=true)(j:Nat)(oj:Oper)(hj:l.toArray[j]? =some oj)(hne:j≠i)(hun:(bK l.length done).getD j true=false)
   (hno:∀e∈oj.after,Region.binds .any e=true->e.on≠i):oi.apart l.toArray oj=true:=by
 have hj':l[j]? =some oj:=by simpa using hj
 have hlt:j<l.length:=(List.getElem?_eq_some_iff.1 hj').1
 unfold fj at h
 simp only[hi,List.all_eq_true,List.mem_range] at h
 have h1:=h j hlt
 rw[bY,if_pos hlt] at hun
 have hd:done.contains j=false:=by simpa using hun
 simp only[hj',Bool.or_eq_true,beq_iff_eq,hne,false_or,hd,Bool.false_eq_true] at h1
 rcases h1 with h1|h1
 · obtain⟨e,he,hb⟩:=Array.any_eq_true'.1 h1
   simp only[Bool.and_eq_true,beq_iff_eq] at hb
   exact absurd hb.2 (hno e he hb.1)
 · exact h1
theorem fp(h:eo l=true):∀(j:Nat) (o:Oper) cs b,l.toArray[j]? =some o->o.op≠ .select cs b:=Region.noSelect_spec h
theorem iE{i:Nat}(h:qs.contains i=true):decide (i∈qs)=true:=by simpa using h
variable{dst:Option Tmp}{op:Op}{ty:TypeId}{pos:String}{after:Array Edge}{g:Option (Nat×Bool)}{v:Value}
theorem s5(i:Nat)(M:List Nat)(hi:l[i]? =some ⟨dst,op,ty,pos,after,g⟩)(hn:eo l=true)(hc:(qs.contains i&&dT l done i&&fj l done i&&ju l qs done M i&&iM n ⟨dst,op,ty,pos,after,g⟩)=true)
    (hw:cf l ⟨dst,op,ty,pos,after,g⟩ f=true)(h:(execOp (ev f) ⟨dst,op,ty,pos,after,g⟩).run P w= .ok (.value v) w)(hk:jb P n l qs K fuel (i::done) (ey f dst v) w):jb P n l qs K (fuel+1) done f w:=by
  simp only[Bool.and_eq_true] at hc
  obtain⟨⟨⟨⟨hq,hr⟩,hf⟩,hb⟩,hd⟩:=hc
  obtain⟨hlt,hr'⟩:=dD hr
  intro a ha
  unfold ju at hb
  simp only[Bool.and_eq_true,List.all_eq_true,List.mem_range] at hb
  obtain⟨⟨⟨b1,b2⟩,b3⟩,b4⟩:=hb
  have hgM:∀j,(bK l.length M).getD j false=true↔j∈M:=λj=>by
    rw[bY]
    by_cases hjl:j<l.length
    · simp[hjl]
    · simp only[hjl,if_false,Bool.false_eq_true,false_iff]
      exact λhm=>hjl (by simpa using b4 j hm)
  refine la (v:=v) (M:=bK l.length M) (D:=bK l.length done) (by simpa using hi) (fp hn) (iE hq) (λj oj hj hm hne=>?_) (λj oj hj hm hD hne=>?_) fuel _ a (by simp[bK]) (λj hj=>?_) (λj hj=>hj) (e5 hi hf) hr' ?_ ?_
  · have hj':l[j]? =some oj:=by simpa using hj
    have hjl:j<l.length:=(List.getElem?_eq_some_iff.1 hj').1
    have h1:=b1 j hjl
    have hmM:M.contains j=false:=by
      cases hc:M.contains j with
      |false=>rfl
      |true=>have h9:=(hgM j).2 (by simpa using hc);rw[hm] at h9;cases h9
    simp only[hmM,hj',Bool.false_or,Bool.or_eq_true,beq_iff_eq,hne,false_or] at h1
    obtain⟨e,he,hbb⟩:=Array.any_eq_true'.1 h1
    simp only[Bool.and_eq_true,Bool.not_eq_true'] at hbb
    refine⟨e,he,hbb.1,?_⟩
    cases hc:(bK l.length M).getD e.on false with
    |false=>rfl
    |true=>
      have:=(hgM _).1 hc
      have h2:=hbb.2
      simp[this] at h2
  · have h1:=b2 j ((hgM j).1 hm)
    have hj':l[j]? =some oj:=by simpa using hj
    have hjl:j<l.length:=(List.getElem?_eq_some_iff.1 hj').1
    rw[bY,if_pos hjl] at hD
    have hd:done.contains j=false:=by simpa using hD
    simp only[Bool.or_eq_true,beq_iff_eq,hne,hd,false_or,Bool.false_eq_true] at h1
    exact iE h1
  · rw[bY] at hj
    split at hj
    · have h1:=b3 j (by simpa using hj)
      exact(hgM j).2 (by simpa using h1.1)
    · cases hj
  · refine .inl ⟨?_,.inl ?_⟩
    · rw[ha.yielded];exact hw
    · rw[ha.eval];exact h
  · rw[cC done hlt]
    exact hk _ (ha.put hd v)
def jI(l:List Oper)(qs done M:List Nat)(i:Nat):Bool:=
 ((List.range l.length).all λj=>M.contains j||j==i||match l[j]? with
     |some oj=>oj.after.any λe=>Region.binds .any e&& !M.contains e.on
     |none=>true)&&
 (M.all λj=>j==i||done.contains j||qs.contains j||match l[j]? with
     |some oj=>dY oj.op
     |none=>false)&&(done.all λj=>M.contains j&&decide (j<l.length))&&M.all λj=>decide (j<l.length)
theorem rN(i:Nat)(M:List Nat)(hi:l[i]? =some ⟨dst,op,ty,pos,after,g⟩)(hn:eo l=true)(hc:(qs.contains i&&dT l done i&&fj l done i&&jI l qs done M i&&iM n ⟨dst,op,ty,pos,after,g⟩)=true)
    (hw:cf l ⟨dst,op,ty,pos,after,g⟩ f=true)(h:∀w',cG w.heap.size w w'->(execOp (ev f) ⟨dst,op,ty,pos,after,g⟩).run P w'= .ok (.value v) w')(hk:jb P n l qs K fuel (i::done) (ey f dst v) w):jb P n l qs K (fuel+1) done f w:=by
  simp only[Bool.and_eq_true] at hc
  obtain⟨⟨⟨⟨hq,hr⟩,hf⟩,hb⟩,hd⟩:=hc
  obtain⟨hlt,hr'⟩:=dD hr
  intro a ha
  unfold jI at hb
  simp only[Bool.and_eq_true,List.all_eq_true,List.mem_range] at hb
  obtain⟨⟨⟨b1,b2⟩,b3⟩,b4⟩:=hb
  have hgM:∀j,(bK l.length M).getD j false=true↔j∈M:=λj=>by
    rw[bY]
    by_cases hjl:j<l.length
    · simp[hjl]
    · simp only[hjl,if_false,Bool.false_eq_true,false_iff]
      exact λhm=>hjl (by simpa using b4 j hm)
  refine na (v:=v) (w0:=w) (M:=bK l.length M) (D:=bK l.length done) (by simpa using hi) (fp hn) (iE hq) (λc a w h=>by cases h.1) (λj oj hj hm hne=>?_) (λj oj hj hm hD hne=>?_) fuel _ a w (cG.refl _ _) (λj hj=>?_) (λj hj=>hj) (e5 hi hf) hr' (λw' hw'=>?_) ?_
  · have hj':l[j]? =some oj:=by simpa using hj
    have hjl:j<l.length:=(List.getElem?_eq_some_iff.1 hj').1
    have h1:=b1 j hjl
    have hmM:M.contains j=false:=by
      cases hc:M.contains j with
      |false=>rfl
      |true=>have h9:=(hgM j).2 (by simpa using hc);rw[hm] at h9;cases h9
    simp only[hmM,hj',Bool.false_or,Bool.or_eq_true,beq_iff_eq,hne,false_or] at h1
    obtain⟨e,he,hbb⟩:=Array.any_eq_true'.1 h1
    simp only[Bool.and_eq_true,Bool.not_eq_true'] at hbb
    refine⟨e,he,hbb.1,?_⟩
    cases hc:(bK l.length M).getD e.on false with
    |false=>rfl
    |true=>
      have:=(hgM _).1 hc
      have h2:=hbb.2
      simp[this] at h2
  · have h1:=b2 j ((hgM j).1 hm)
    have hj':l[j]? =some oj:=by simpa using hj
    have hjl:j<l.length:=(List.getElem?_eq_some_iff.1 hj').1
    rw[bY,if_pos hjl] at hD
    have hd:done.contains j=false:=by simpa using hD
    simp only[hj',Bool.or_eq_true,beq_iff_eq,hne,hd,false_or,Bool.false_eq_true] at h1
    rcases h1 with h1|h1
    · exact .inl (iE h1)
    · exact .inr h1
  · rw[bY] at hj
    split at hj
    · have h1:=b3 j (by simpa using hj)
      exact(hgM j).2 (by simpa using h1.1)
    · cases hj
  · refine .inl ⟨?_,.inl ?_⟩
    · rw[ha.yielded];exact hw
    · rw[ha.eval];exact h w' hw'
  · rw[cC done hlt]
    exact hk _ (ha.put hd v)
theorem rE(i:Nat)(hi:l[i]? =some ⟨dst,op,ty,pos,after,g⟩)(hn:eo l=true)(hc:(qs.contains i&&dT l done i&&fj l done i&&iM n ⟨dst,op,ty,pos,after,g⟩)=true)
    (hw:cf l ⟨dst,op,ty,pos,after,g⟩ f=true)(h:∀w,(execOp (ev f) ⟨dst,op,ty,pos,after,g⟩).run P w= .ok (.value v) w)(hk:jb P n l qs K fuel (i::done) (ey f dst v) w):jb P n l qs K (fuel+1) done f w:=by
  simp only[Bool.and_eq_true] at hc
  obtain⟨⟨⟨hq,hr⟩,hf⟩,hd⟩:=hc
  obtain⟨hlt,hr'⟩:=dD hr
  intro a ha
  refine mR (v:=v) (by simpa using hi) (fp hn) (iE hq) (λc a w h=>by cases h.1) fuel _ a w (e5 hi hf) hr' (.inl ⟨by rw[ha.yielded];exact hw,λw=>by rw[ha.eval];exact h w⟩) ?_
  rw[cC done hlt]
  exact hk _ (ha.put hd v)
theorem el{i:Nat}{o:Oper}{a:Act}{K':Act->World->Prop}{Q:Exit->Act->World->Prop}{N:Value->World->Prop}(ha:Ag n a f)(hi:l[i]? =some o)(hw:cf l o f=true)(h:fb P o f w N)(hN:∀v w',N v w'->K' (a.put o.dst v) w'):wpOp P l.toArray Q i K' a w:=by
 unfold wpOp
 have hi':l.toArray[i]? =some o:=by simpa using hi
 simp only[hi']
 have hw':Region.wanted o (yielded l.toArray a.tmps)=true:=by rw[ha.yielded];exact hw
 simp only[hw',if_true]
 refine .inl ?_
 unfold Oper.wp
 rw[ha.eval]
 unfold fb at h
 generalize(execOp (ev f) o).run P w=r at*
 cases r with
 |halt x w'=>exact h.elim
 |ok nx w'=>
   cases nx<;>simp only[oq] at h<;>simp only[Oper.upon]
   case value v=>exact hN _ _ h
   case skip=>exact hN _ _ h
   case enter g args=>
     refine h.mono λe w'' he=>?_
     cases e with
     |returned v=>exact hN _ _ he
     |panicked c=>exact he.elim
     |outgrown=>exact he.elim
theorem ew(i:Nat)(hi:l[i]? =some ⟨dst,op,ty,pos,after,g⟩)(hc:(decide (Region.ready .any l.toArray (bK l.length done)=[i])&& !qs.contains i&&iM n ⟨dst,op,ty,pos,after,g⟩)=true)
    (hw:cf l ⟨dst,op,ty,pos,after,g⟩ f=true)(h:fb P ⟨dst,op,ty,pos,after,g⟩ f w (λv w'=>jb P n l qs K fuel (i::done) (ey f dst v) w')):jb P n l qs K (fuel+1) done f w:=by
  simp only[Bool.and_eq_true,decide_eq_true_eq,Bool.not_eq_true'] at hc
  obtain⟨⟨hr,hq⟩,hd⟩:=hc
  have hlt:i<l.length:=(List.getElem?_eq_some_iff.1 hi).1
  intro a ha
  refine⟨λh0=>(by rw[hr] at h0;cases h0),λj hj=>?_⟩
  rw[hr] at hj
  obtain rfl:j=i:=by simpa using hj
  have hq':decide (j∈qs)=false:=by simpa using hq
  simp only[hq',Bool.false_eq_true,if_false]
  refine el ha hi hw h λv w' hk=>?_
  rw[cC done hlt]
  exact hk _ (ha.put hd v)
theorem qQ(i j:Nat){dst':Option Tmp}{op':Op}{ty':TypeId}{pos':String}{after':Array Edge}{g':Option (Nat×Bool)}(hi:l[i]? =some ⟨dst,op,ty,pos,after,g⟩)(hj:l[j]? =some ⟨dst',op',ty',pos',after',g'⟩)
    (hc:(decide (Region.ready .any l.toArray (bK l.length done)=[i,j])&& !qs.contains i&& !qs.contains j&&iM n ⟨dst,op,ty,pos,after,g⟩&&iM n ⟨dst',op',ty',pos',after',g'⟩)=true)
    (hw:cf l ⟨dst,op,ty,pos,after,g⟩ f=true)(hw':cf l ⟨dst',op',ty',pos',after',g'⟩ f=true)
    (h:fb P ⟨dst,op,ty,pos,after,g⟩ f w (λv w'=>jb P n l qs K fuel (i::done) (ey f dst v) w'))(h':fb P ⟨dst',op',ty',pos',after',g'⟩ f w (λv w'=>jb P n l qs K fuel (j::done) (ey f dst' v) w')):jb P n l qs K (fuel+1) done f w:=by
  simp only[Bool.and_eq_true,decide_eq_true_eq,Bool.not_eq_true'] at hc
  obtain⟨⟨⟨⟨hr,hq⟩,hq2⟩,hd⟩,hd'⟩:=hc
  have hlt:i<l.length:=(List.getElem?_eq_some_iff.1 hi).1
  have hlt':j<l.length:=(List.getElem?_eq_some_iff.1 hj).1
  intro a ha
  refine⟨λh0=>(by rw[hr] at h0;cases h0),λk hk=>?_⟩
  rw[hr] at hk
  have hk':k=i\/k=j:=by simpa using hk
  rcases hk' with rfl|rfl
  · have hq':decide (k∈qs)=false:=by simpa using hq
    simp only[hq',Bool.false_eq_true,if_false]
    refine el ha hi hw h λv w' hk=>?_
    rw[cC done hlt]
    exact hk _ (ha.put hd v)
  · have hq':decide (k∈qs)=false:=by simpa using hq2
    simp only[hq',Bool.false_eq_true,if_false]
    refine el ha hj hw' h' λv w' hk=>?_
    rw[cC done hlt']
    exact hk _ (ha.put hd' v)
theorem mf(hr:decide (Region.ready .any l.toArray (bK l.length done)=[])=true)(h:K f w):jb P n l qs K 0 done f w:=λ_ ha=>⟨of_decide_eq_true hr,rfl,f,ha,h⟩
end
end TL
/-
  TlHold: regions that draw their order, where what is read stays: on the kit's OrdersHeld.
  By an AI agent.
-/
set_option linter.all false
namespace TL
open Go
section
variable{P:Program}{n:Nat}{l:List Oper}{S:World->Prop}{K:Fr->World->Prop}{f:Fr}{w:World}{done:List Nat}{fuel:Nat}
def lE(P:Program)(n:Nat)(l:List Oper)(S:World->Prop)(K:Fr->World->Prop)(fuel:Nat)(done:List Nat)(f:Fr)(w:World):Prop:=
  ∀a,Ag n a f->wpAnyH P .any l.toArray (λe a' w'=>e= .normal/\∃f',Ag n a' f'/\K f' w') S fuel (bK l.length done) a w
theorem bh.same{J:ch->Prop}{γ γ':aV}{w w':World}(h:bh J γ w γ' w'):bh J γ w γ w':=⟨h.os,h.tape,h.output,h.size,λ_ _ _=>rfl,h.keep,h.drawn⟩
theorem dl{fid:Nat}{R:Ending->World->Prop}{k:List Item}{id:Nat}(γ:aV)(J:ch->Prop)(hm:P.follows .mixedOrders=true)
   (h:∀w1,bh no γ w γ w1->lE P n l (λw'=>bh J γ w1 γ w') (dq P fid n R k) l.length [] f w1):dq P fid n R (.code (.region id l.toArray true)::k) f w:=
 fx λa ha=>wp_region_held hm (by
   have h0:=h _ (bh.refl _ _ _).drew a ha
   have hmask:bK l.length []=Array.replicate l.toArray.size false:=by
     apply Array.ext
     · simp[bK]
     · intro j h1 h2;simp[bK]
   rw[hmask] at h0
   simpa using h0)
theorem cj{fid:Nat}{R:Ending->World->Prop}{k:List Item}{id:Nat}{σ:Type}(Mid:σ->Fr->World->Prop)(γ:aV)(J:ch->Prop)(hm:P.follows .mixedOrders=true)
    (h:(∀s f w,Mid s f w->dq P fid n R k f w)->∀w1,bh no γ w γ w1->lE P n l (λw'=>bh J γ w1 γ w') (dq P fid n R k) l.length [] f w1)(hk:∀s f w,Mid s f w->dq P fid n R k f w):dq P fid n R (.code (.region id l.toArray true)::k) f w:=
  dl γ J hm (h hk)
variable{dst:Option Tmp}{op:Op}{ty:TypeId}{pos:String}{after:Array Edge}{g:Option (Nat×Bool)}{v:Value}
theorem rW(i:Nat)(hi:l[i]? =some ⟨dst,op,ty,pos,after,g⟩)(hn:eo l=true)(hc:(dT l done i&&fj l done i&&iM n ⟨dst,op,ty,pos,after,g⟩)=true)
   (hw:cf l ⟨dst,op,ty,pos,after,g⟩ f=true)(hS:S w)(h:∀w,S w->(execOp (ev f) ⟨dst,op,ty,pos,after,g⟩).run P w= .ok (.value v) w)(hk:lE P n l S K fuel (i::done) (ey f dst v) w):lE P n l S K (fuel+1) done f w:=by
 simp only[Bool.and_eq_true] at hc
 obtain⟨⟨hr,hf⟩,hd⟩:=hc
 obtain⟨hlt,hr'⟩:=dD hr
 intro a ha
 refine wpAnyH_first (v:=v) (by simpa using hi) (fp hn) (λc a w h=>by cases h.1) fuel _ a w (e5 hi hf) hr' (.inl ⟨by rw[ha.yielded];exact hw,λw hs=>by rw[ha.eval];exact h w hs⟩) hS ?_
 rw[cC done hlt]
 exact hk _ (ha.put hd v)
def rI(P:Program)(n:Nat)(l:List Oper)(S:World->Prop)(K:Fr->World->Prop)(fuel:Nat)(done:List Nat)(f:Fr)(w:World)(i:Nat):Prop:=
  ∃o,l[i]? =some o/\i<l.length/\(cf l o f=true/\iM n o=true/\fb P o f w (λv w'=>S w'/\lE P n l S K fuel (i::done) (ey f o.dst v) w'))
theorem bL(i:Nat)(hi:l[i]? =some ⟨dst,op,ty,pos,after,g⟩)(hc:iM n ⟨dst,op,ty,pos,after,g⟩=true)(hw:cf l ⟨dst,op,ty,pos,after,g⟩ f=true)
   (h:fb P ⟨dst,op,ty,pos,after,g⟩ f w (λv w'=>S w'/\lE P n l S K fuel (i::done) (ey f dst v) w')):rI P n l S K fuel done f w i:=
 ⟨_,hi,(List.getElem?_eq_some_iff.1 hi).1,hw,hc,h⟩
def pr(P:Program)(n:Nat)(l:List Oper)(S:World->Prop)(K:Fr->World->Prop)(fuel:Nat)(done:List Nat)(f:Fr)(w:World):List Nat->Prop
 |[]=>True
 |i::r=>rI P n l S K fuel done f w i/\pr P n l S K fuel done f w r
theorem pr.mem{L:List Nat}(h:pr P n l S K fuel done f w L):∀i∈L,rI P n l S K fuel done f w i:=by
 induction L with
 |nil=>intro i hi;cases hi
 |cons j r ih=>
   intro i hi
   rcases List.mem_cons.1 hi with rfl|hi
   · exact h.1
   · exact ih h.2 i hi
theorem bJ(i:Nat)(L:List Nat)(hr:decide (Region.ready .any l.toArray (bK l.length done)=i::L)=true)(h:pr P n l S K fuel done f w (i::L)):lE P n l S K (fuel+1) done f w:=by
 have hr:=of_decide_eq_true hr
 intro a ha
 refine⟨λh0=>(by rw[hr] at h0;cases h0),λk hk=>?_⟩
 rw[hr] at hk
 obtain⟨o,hi,hlt,hw,hd,ho⟩:=h.mem k (by simpa using hk)
 obtain⟨dst,op,ty,pos,after,g⟩:=o
 refine el ha hi hw ho λv w' hk=>⟨hk.1,?_⟩
 rw[cC done hlt]
 exact hk.2 _ (ha.put hd v)
theorem aE(i:Nat)(hi:l[i]? =some ⟨dst,op,ty,pos,after,g⟩)(hc:(decide (Region.ready .any l.toArray (bK l.length done)=[i])&&iM n ⟨dst,op,ty,pos,after,g⟩)=true)
   (hw:cf l ⟨dst,op,ty,pos,after,g⟩ f=true)(h:fb P ⟨dst,op,ty,pos,after,g⟩ f w (λv w'=>S w'/\lE P n l S K fuel (i::done) (ey f dst v) w')):lE P n l S K (fuel+1) done f w:=by
 simp only[Bool.and_eq_true] at hc
 exact bJ i [] hc.1 ⟨bL i hi hc.2 hw h,trivial⟩
theorem bI(hr:decide (Region.ready .any l.toArray (bK l.length done)=[])=true)(h:K f w):lE P n l S K 0 done f w:=λ_ ha=>⟨of_decide_eq_true hr,rfl,f,ha,h⟩
end
end TL
namespace TL
open Go
end TL
/-
  TlNet: nets, and what layer 3 says of them, as plain functions.
  By an AI agent.
-/
set_option linter.all false
namespace TL
abbrev cJ:=Int×List (Int×Int)
def lk(n:Int)(e:Int×Int):Prop:=(0<=e.1/\e.1<n)/\0<=e.2/\e.2<n
instance (n:Int)(e:Int×Int):Decidable (lk n e):=by unfold lk;infer_instance
def dd(g:cJ):Prop:=0<=g.1/\g.1<=1024/\g.2.length<=3072/\∀e∈g.2,lk g.1 e
instance (g:cJ):Decidable (dd g):=by unfold dd;infer_instance
def cK(g:cJ):Bool:=decide (dd g)
theorem ja{g:cJ}(h:dd g):cK g=true:=decide_eq_true h
theorem bU{g:cJ}(h:¬dd g):cK g=false:=decide_eq_false h
end TL
namespace TL
end TL
namespace TL
end TL
namespace TL
end TL
namespace TL
def qE(g:cJ)(h:Int):Int:=pI (gI g.2 (h/2)) (h%2)
def s9(g:cJ)(v:Int)(k:Nat):List Int:=((List.range (2*k)).map (λ(i:Nat)=>(i:Int))).filter λh=>decide (qE g h=v)
def t2(g:cJ)(v:Int):List Int:=s9 g v g.2.length
end TL
namespace TL
end TL
namespace TL
end TL
namespace TL
end TL
namespace TL
section
variable{l0 l1:Int}{F:Int×Int->Int}{g:cJ}{k:Nat}
end
end TL
/-
  TlKeep: rows of an own list given away one by one while the list stays readable; rows with a mark behind each.
  By an AI agent.
-/
set_option linter.all false
namespace TL
open Go
section
variable{P:Program}{w:World}{t t':TypeId}{f:Fr}{x y:Operand}{dst:Option Tmp}{ty:TypeId}{pos:String}{after:Array Edge}{g:Option (Nat×Bool)}{N:Value->World->Prop}{α:Type}[Rp α]{γ:aV}{v u:Value}{xss:List (List α)}{l:List α}{i k j:Nat}
end
section
variable{α:Type}[Rp α][Fl α]{γ γ':aV}{w w':World}{v:Value}{us:List Vc}{xss:List (List α)}{i k j q:Nat}
end
inductive Rw where
  |mk (l:List Int) (m:Int)
  |pl (l:List Int)
instance:Inhabited Rw:=⟨.pl []⟩
theorem ng{α:Type}[Rp α]{γ:aV}{S:ch->Prop}{w:World}{v:Value}{xs:List α}{m:α}(h:Sl γ S w (ti v) (xs++[m])):∃a l c,v= .slice a l c:=by
 rcases h with⟨_,h0⟩|⟨b,off,cap,hv,_⟩
 · simp at h0
 · cases v<;>simp[ti] at hv
   exact⟨_,_,_,rfl⟩
def rY(γ:aV)(S:ch->Prop)(w:World)(v:Value):Rw->Prop
  | .mk l m=>Sl γ S w (ti v) (l++[m])
  | .pl l=>Sl γ S w v l
theorem rY.one{γ:aV}{S:ch->Prop}{w:World}{v:Value}{x:Rw}(h:rY γ S w v x):v.oneCell'=true:=by
 cases x with
 |mk l m=>
   obtain⟨a,b,c,rfl⟩:=ng h
   rfl
 |pl l=>
   rcases h with⟨⟨_,rfl⟩,_⟩|⟨b,off,cap,rfl,_⟩<;>rfl
theorem rY.tr{γ γ':aV}{S S':ch->Prop}{w w':World}{v:Value}{x:Rw}(hsz:w.heap.size<=w'.heap.size)(h:∀b,b<w.heap.size->S (γ b)->w'.heap[b]? =w.heap[b]? /\S' (γ' b))(hx:rY γ S w v x):rY γ' S' w' v x:=by
 cases x with
 |mk l m=>exact Sl.tr h hx hsz
 |pl l=>exact Sl.tr h hx hsz
instance:Rp Rw where
 sz:=1
 rep γ S w cs x:=∃v,cs=[v]/\rY γ S w v x
 len:=by rintro _ _ _ _ _ ⟨v,rfl,_⟩;rfl
 one:=by
   rintro _ _ _ _ _ ⟨v,rfl,h⟩ u hu
   obtain rfl:u=v:=by simpa using hu
   exact h.one
 tr:=by
   rintro _ _ _ _ _ _ _ _ hs h ⟨v,rfl,hv⟩
   exact⟨v,rfl,hv.tr hs h⟩
section
variable{P:Program}{w:World}{t t':TypeId}{f:Fr}{x y:Operand}{dst:Option Tmp}{ty:TypeId}{pos:String}{after:Array Edge}{g:Option (Nat×Bool)}{N:Value->World->Prop}{γ:aV}{v u:Value}{xss:List (List Int)}{l:List Int}{i:Nat}
end
end TL
/-
  TlEq: structs compared; a pointer looked at for nil; a bit turned.
  By an AI agent.
-/
set_option linter.all false
namespace TL
open Go
section
variable{P:Program}{f:Fr}{w:World}{dst:Option Tmp}{ty:TypeId}{pos:String}{after:Array Edge}{g:Option (Nat×Bool)}{t t' e:TypeId}{x y:Operand}
theorem aB{a:Addr}(hx:ev f x= .pointer (some a)):(execOp (ev f) ⟨dst,.nilCheck x,ty,pos,after,g⟩).run P w= .ok (.value (.pointer (some a))) w:=by
 simp only[execOp,hx,Sem.run_pure]
inductive EqV (P:Program) (t:TypeId):Value->Value->Bool->Prop
 |int {a b:Int} (h:P.underlying t=some (.int .i64)):EqV P t (.int .i64 a) (.int .i64 b) (decide (a=b))
 |bool {a b:Bool} (h:P.underlying t=some .bool):EqV P t (.bool a) (.bool b) (decide (a=b))
inductive EqF (P:Program) (xs ys:Array Value):List Field->List Bool->Prop
 |nil:EqF P xs ys [] []
 |cons {fd:Field} {fs:List Field} {bs:List Bool} {a b z:Value} {r:Bool} {size bytes:Nat} (hn:(fd.name != "_")=true) (he:Tp P fd.type false size bytes z) (ha:xs[fd.offset]? =some a) (hb:ys[fd.offset]? =some b) (hq:EqV P fd.type a b r) (hr:EqF P xs ys fs bs):EqF P xs ys (fd::fs) (r::bs)
theorem jk{xs ys:Array Value}{fs:List Field}{bs:List Bool}(h:EqF P xs ys fs bs)(d:Nat):(Op.eqFields (d+1) xs ys fs).run P w= .ok (bs.all id) w:=by
 induction h with
 |nil=>simp[Op.eqFields,Sem.run_pure]
 | @cons fd fs bs a b z r size bytes hn he ha hb hq hr ih=>
   have hn':fd.name≠ "_" :=by simpa using hn
   have h1:=iz (P:=P) (w:=w) he ha
   have h2:=iz (P:=P) (w:=w) he hb
   have h3:(Op.equalIn (d+1) fd.type a b).run P w= .ok r w:=by
     cases hq with
     |int h=>simp[Op.equalIn,bp h,Sem.run_pure];rfl
     |bool h=>simp[Op.equalIn,bp h,Sem.run_pure];rfl
   simp only[Op.eqFields,if_pos hn',Sem.run_bind,h1,h2,h3,Result.andThen_ok]
   cases r with
   |true=>simp[ih]
   |false=>simp[Sem.run_pure]
end
end TL
namespace TL
open Go
section
variable{P:Program}{f:Fr}{w:World}{dst:Option Tmp}{ty:TypeId}{pos:String}{after:Array Edge}{g:Option (Nat×Bool)}{t:TypeId}{x:Operand}
end
end TL
namespace TL
open Go
section
variable{P:Program}{f:Fr}{w:World}{dst:Option Tmp}{ty:TypeId}{pos:String}{after:Array Edge}{g:Option (Nat×Bool)}{t t':TypeId}{x y:Operand}{m n:Int}
end
end TL
namespace TL
open Go
end TL
/-
  TlRot: rotations: which may be, turned to their least, faces.
  By an AI agent.
-/
set_option linter.all false
namespace TL
abbrev qT:=List (List Int)
def sC(g:cJ)(r:qT):Prop:=(r.length:Int)=g.1/\(∀v:Nat,v<r.length->∀h∈gI r (v:Int),(0<=h/\h<2*(g.2.length:Int))/\qE g h=v)/\r.flatten.Nodup/\(r.flatten.length:Int)=2*g.2.length
instance (g:cJ)(r:qT):Decidable (sC g r):=by unfold sC;infer_instance
section
variable{seen:List Bool}{n:Int}{g:cJ}{r:qT}{k i:Nat}
end
def fQ(s:List Int)(v:Int):Int:=if v∈s then(s.idxOf v:Int) else-1
theorem nK{s:List Int}{v:Int}{i:Nat}(h:∀j:Nat,j<i->¬v=gI s (j:Int))(hi:(i:Int)<s.length)(he:v=gI s (i:Int)):(i:Int)=fQ s v:=by
 have hlt:i<s.length:=by omega
 have e:gI s (i:Int)=s[i]:=by simp[gI,hlt]
 have hm:v∈s:=by rw[he];exact bl (by omega) hi
 unfold fQ
 rw[if_pos hm]
 have hlt2:=List.idxOf_lt_length_iff.2 hm
 have h1:¬s.idxOf v<i:=λhlt'=>h _ hlt' (by simp[gI,hlt2])
 have h2:¬i<s.idxOf v:=λhlt'=>by
   have:=List.not_of_lt_findIdx (xs:=s) (p:=(· ==v)) (i:=i) hlt'
   simp at this
   exact this (by rw[<-e,<-he])
 omega
theorem oI{s:List Int}{v:Int}{i:Nat}(h:∀j:Nat,j<i->¬v=gI s (j:Int))(hi:¬(i:Int)<s.length):(-1:Int)=fQ s v:=by
 unfold fQ
 rw[if_neg]
 intro hm
 obtain⟨j,hj,e⟩:=List.mem_iff_getElem.1 hm
 exact h j (by omega) (by simp[gI,hj,e])
end TL
namespace TL
end TL
/-
  TlShort: short names for the commonest steps (used by packed claims only).
  By an AI agent.
-/
set_option linter.all false
namespace TL
open Go
abbrev vi(x:Int):Value:=Value.int .i64 x
abbrev vp(b o:Nat):Value:=Value.pointer (some ⟨b,o,none⟩)
abbrev vn:Value:=Value.slice none 0 0
abbrev vt(l:List Value):Value:=Value.tuple (List.toArray l)
abbrev vg(l:List Value):Value:=Value.agg (List.toArray l)
theorem cg(L:List Nat){γ γ':aV}{w w':World}(h:bh (inl L) γ w γ' w'):bh (inl L) γ w γ' w':=h
theorem dt{p:Prop}[Decidable p](h:p):decide p=true:=decide_eq_true h
theorem df{p:Prop}[Decidable p](h:¬p):decide p=false:=decide_eq_false h
section
variable{P:Program}{all rest:List Oper}{K:Fr->World->Prop}{f:Fr}{w w':World}{x:Operand}
variable{dst:Option Tmp}{op:Op}{ty:TypeId}{pos:String}{after:Array Edge}{g:Option (Nat×Bool)}{o:Oper}
theorem lv(v:Value)(hw:cf all ⟨dst,op,ty,pos,after,g⟩ f=true)(h:(execOp (ev f) ⟨dst,op,ty,pos,after,g⟩).run P w= .ok (.value v) w')(hk:fL P all rest K (ey f dst v) w'):fL P all (⟨dst,op,ty,pos,after,g⟩::rest) K f w:=gX hw h hk
theorem lx{v:Value}(h:(execOp (ev f) ⟨dst,op,ty,pos,after,none⟩).run P w= .ok (.value v) w')(hk:fL P all rest K (ey f dst v) w'):fL P all (⟨dst,op,ty,pos,after,none⟩::rest) K f w:=gX rfl h hk
theorem lw(v:Value)(h:(execOp (ev f) ⟨dst,op,ty,pos,after,none⟩).run P w= .ok (.value v) w')(hk:fL P all rest K (ey f dst v) w'):fL P all (⟨dst,op,ty,pos,after,none⟩::rest) K f w:=gX rfl h hk
theorem mv(v:Value)(hk:fL P all rest K (ey f dst v) w)(h:ev f x=v:=by exact rfl):fL P all (⟨dst,.move x,ty,pos,after,none⟩::rest) K f w:=gX rfl (aR h) hk
theorem ma(v:Value)(hk:fL P all rest K (ey f dst v) w)(h:ev f x=v:=by exact rfl):fL P all (⟨dst,.assign x,ty,pos,after,none⟩::rest) K f w:=gX rfl (bw h) hk
theorem mi(v:Int)(hk:fL P all rest K (ey f dst (.int .i64 v)) w)(h:ev f x= .int .i64 v:=by exact rfl):fL P all (⟨dst,.move x,ty,pos,after,none⟩::rest) K f w:=gX rfl (aR h) hk
theorem ai(v:Int)(hk:fL P all rest K (ey f dst (.int .i64 v)) w)(h:ev f x= .int .i64 v:=by exact rfl):fL P all (⟨dst,.assign x,ty,pos,after,none⟩::rest) K f w:=gX rfl (bw h) hk
theorem mz{v:Value}(h:ev f x=v)(hk:fL P all rest K (ey f dst v) w):fL P all (⟨dst,.move x,ty,pos,after,none⟩::rest) K f w:=gX rfl (aR h) hk
theorem lo(h:fb P ⟨dst,op,ty,pos,after,none⟩ f w (λv w'=>fL P all rest K (ey f dst v) w')):fL P all (⟨dst,op,ty,pos,after,none⟩::rest) K f w:=cN rfl h
theorem wy{j:Nat}{x:Bool}{d:Nat}{b:Bool}(hx:b=x)(hg:o.guard=some (j,x):=by exact rfl)(hj:(all[j]?).bind (·.dst)=some d:=by exact rfl)(hb:f d= .bool b:=by exact rfl):cf all o f=true:=rV hg hj hb hx
theorem wn{j:Nat}{x:Bool}{d:Nat}{b:Bool}(hx:b= !x)(hg:o.guard=some (j,x):=by exact rfl)(hj:(all[j]?).bind (·.dst)=some d:=by exact rfl)(hb:f d= .bool b:=by exact rfl):cf all o f=false:=qW hg hj hb hx
variable{C:World->Prop}{KQ:Fr->Prop}
theorem qv(v:Value)(h:∀w,C w->(execOp (ev f) ⟨dst,op,ty,pos,after,none⟩).run P w= .ok (.value v) w)(hk:i8 P all C rest KQ (ey f dst v)):i8 P all C (⟨dst,op,ty,pos,after,none⟩::rest) KQ f:=bv rfl h hk
theorem qx{v:Value}(h:∀w,C w->(execOp (ev f) ⟨dst,op,ty,pos,after,none⟩).run P w= .ok (.value v) w)(hk:i8 P all C rest KQ (ey f dst v)):i8 P all C (⟨dst,op,ty,pos,after,none⟩::rest) KQ f:=bv rfl h hk
theorem qm(v:Value)(hk:i8 P all C rest KQ (ey f dst v))(h:ev f x=v:=by exact rfl):i8 P all C (⟨dst,.move x,ty,pos,after,none⟩::rest) KQ f:=bv rfl (λ_ _=>aR h) hk
theorem qz{v:Value}(h:ev f x=v)(hk:i8 P all C rest KQ (ey f dst v)):i8 P all C (⟨dst,.move x,ty,pos,after,none⟩::rest) KQ f:=bv rfl (λ_ _=>aR h) hk
end
section
variable{P:Program}{n:Nat}{l:List Oper}{S:World->Prop}{K:Fr->World->Prop}{f:Fr}{w:World}{done:List Nat}{fuel:Nat}{qs:List Nat}
variable{dst:Option Tmp}{op:Op}{ty:TypeId}{pos:String}{after:Array Edge}{g:Option (Nat×Bool)}{v:Value}
theorem ht(i:Nat)(hi:l[i]? =some ⟨dst,op,ty,pos,after,none⟩)(hS:S w)(h:∀w,S w->(execOp (ev f) ⟨dst,op,ty,pos,after,none⟩).run P w= .ok (.value v) w)(hk:lE P n l S K fuel (i::done) (ey f dst v) w)(hn:eo l=true:=by kernel_rfl)(hc:(dT l done i&&fj l done i&&iM n ⟨dst,op,ty,pos,after,none⟩)=true:=by kernel_rfl):lE P n l S K (fuel+1) done f w:=rW i hi hn hc rfl hS h hk
theorem xv(i:Nat)(M:List Nat)(hi:l[i]? =some ⟨dst,op,ty,pos,after,none⟩)(h:(execOp (ev f) ⟨dst,op,ty,pos,after,none⟩).run P w= .ok (.value v) w)(hk:jb P n l qs K fuel (i::done) (ey f dst v) w)(hn:eo l=true:=by kernel_rfl)(hc:(qs.contains i&&dT l done i&&fj l done i&&ju l qs done M i&&iM n ⟨dst,op,ty,pos,after,none⟩)=true:=by kernel_rfl):jb P n l qs K (fuel+1) done f w:=s5 i M hi hn hc rfl h hk
theorem xh(i:Nat)(M:List Nat)(hi:l[i]? =some ⟨dst,op,ty,pos,after,none⟩)(h:∀w',cG w.heap.size w w'->(execOp (ev f) ⟨dst,op,ty,pos,after,none⟩).run P w'= .ok (.value v) w')(hk:jb P n l qs K fuel (i::done) (ey f dst v) w)(hn:eo l=true:=by kernel_rfl)(hc:(qs.contains i&&dT l done i&&fj l done i&&jI l qs done M i&&iM n ⟨dst,op,ty,pos,after,none⟩)=true:=by kernel_rfl):jb P n l qs K (fuel+1) done f w:=rN i M hi hn hc rfl h hk
theorem xp(i:Nat)(hi:l[i]? =some ⟨dst,op,ty,pos,after,none⟩)(h:∀w,(execOp (ev f) ⟨dst,op,ty,pos,after,none⟩).run P w= .ok (.value v) w)(hk:jb P n l qs K fuel (i::done) (ey f dst v) w)(hn:eo l=true:=by kernel_rfl)(hc:(qs.contains i&&dT l done i&&fj l done i&&iM n ⟨dst,op,ty,pos,after,none⟩)=true:=by kernel_rfl):jb P n l qs K (fuel+1) done f w:=rE i hi hn hc rfl h hk
end
section
variable{γ γ':aV}{w w':World}{v:Value}{j k:Nat}{L:List Nat}
theorem bu.ca{w0:World}(h:bu w0 γ w)(hc:bh (inl L) γ w γ' w')(hj:L.contains 0=false:=by exact rfl):bu w0 γ' w':=h.chg hc (bt hj)
theorem bu.ce{w0:World}(h:bu w0 γ w)(hc:bh (is k) γ w γ' w')(hj:Nat.beq 0 k=false:=by exact rfl):bu w0 γ' w':=h.chg hc (fK hj)
theorem bu.cn{w0:World}(h:bu w0 γ w)(hc:bh no γ w γ' w'):bu w0 γ' w':=h.chg hc (fT _)
theorem Bx.ca{b:Nat}{cs:List Value}(h:Bx γ (is j) w b cs)(hc:bh (inl L) γ w γ' w')(hj:L.contains j=false:=by exact rfl):Bx γ' (is j) w' b cs:=h.chg hc (bt hj)
theorem Bx.ce{b:Nat}{cs:List Value}(h:Bx γ (is j) w b cs)(hc:bh (is k) γ w γ' w')(hj:Nat.beq j k=false:=by exact rfl):Bx γ' (is j) w' b cs:=h.chg hc (fK hj)
theorem Bx.cn{J:ch->Prop}{b:Nat}{cs:List Value}(h:Bx γ J w b cs)(hc:bh no γ w γ' w'):Bx γ' J w' b cs:=h.chg hc (fT _)
theorem Sl.ca{α:Type}[Rp α]{xs:List α}(h:Sl γ (is j) w v xs)(hc:bh (inl L) γ w γ' w')(hj:L.contains j=false:=by exact rfl):Sl γ' (is j) w' v xs:=h.chg hc (bt hj)
theorem Sl.ce{α:Type}[Rp α]{xs:List α}(h:Sl γ (is j) w v xs)(hc:bh (is k) γ w γ' w')(hj:Nat.beq j k=false:=by exact rfl):Sl γ' (is j) w' v xs:=h.chg hc (fK hj)
theorem Sl.cn{α:Type}[Rp α]{S:ch->Prop}{xs:List α}(h:Sl γ S w v xs)(hc:bh no γ w γ' w'):Sl γ' S w' v xs:=h.chg hc (fT _)
theorem Ow.ca{α:Type}[Rp α]{xs:List α}(h:Ow γ (is j) (is j) w v xs)(hc:bh (inl L) γ w γ' w')(hj:L.contains j=false:=by exact rfl):Ow γ' (is j) (is j) w' v xs:=h.chg hc (bt hj) (bt hj)
theorem Ow.ce{α:Type}[Rp α]{xs:List α}(h:Ow γ (is j) (is j) w v xs)(hc:bh (is k) γ w γ' w')(hj:Nat.beq j k=false:=by exact rfl):Ow γ' (is j) (is j) w' v xs:=h.chg hc (fK hj) (fK hj)
theorem Ow.cn{α:Type}[Rp α]{J S:ch->Prop}{xs:List α}(h:Ow γ J S w v xs)(hc:bh no γ w γ' w'):Ow γ' J S w' v xs:=h.chg hc (fT _) (fT _)
theorem dH.ca{α:Type}[Rp α]{xs:List (List α)}(h:dH γ j w v xs)(hc:bh (inl L) γ w γ' w')(hj:L.contains j=false:=by exact rfl):dH γ' j w' v xs:=h.chg hc (bt hj)
theorem dH.ce{α:Type}[Rp α]{xs:List (List α)}(h:dH γ j w v xs)(hc:bh (is k) γ w γ' w')(hj:Nat.beq j k=false:=by exact rfl):dH γ' j w' v xs:=h.chg hc (fK hj)
theorem dH.cn{α:Type}[Rp α]{xs:List (List α)}(h:dH γ j w v xs)(hc:bh no γ w γ' w'):dH γ' j w' v xs:=h.chg hc (fT _)
theorem em.ca{α:Type}[Rp α]{h0:Nat}{xs:List (List α)}(h:em γ j h0 w v xs)(hc:bh (inl L) γ w γ' w')(hj:L.contains j=false:=by exact rfl):em γ' j h0 w' v xs:=h.chg hc (bt hj)
theorem em.ce{α:Type}[Rp α]{h0:Nat}{xs:List (List α)}(h:em γ j h0 w v xs)(hc:bh (is k) γ w γ' w')(hj:Nat.beq j k=false:=by exact rfl):em γ' j h0 w' v xs:=h.chg hc (fK hj)
theorem em.cn{α:Type}[Rp α]{h0:Nat}{xs:List (List α)}(h:em γ j h0 w v xs)(hc:bh no γ w γ' w'):em γ' j h0 w' v xs:=h.chg hc (fT _)
def th(δ g:aV)(w:World)(ren:Nat->Nat):Prop:=(∀{α:Type} [Rp α] {i:Nat} {v:Value} {xs:List α},Ow δ (is i) (is i) w v xs->∀k:Nat,Nat.beq i 0=false->ren i=k->Ow g (is k) (is k) w v xs)/\(∀{α:Type} [Rp α] {i:Nat} {v:Value} {xs:List (List α)},dH δ i w v xs->∀k:Nat,Nat.beq i 0=false->ren i=k->dH g k w v xs)
theorem sg{δ:aV}(γ:aV)(fr:iX w δ w')(ren:Nat->Nat):∃g,bh no γ w g w'/\th δ g w' ren:=
 ⟨_,nm fr.below γ δ ren,λh k hi hr=>h.glue fr.col hi hr,λh k hi hr=>h.glue fr.col hi hr⟩
theorem Ow.gl{α:Type}[Rp α]{δ g:aV}{ren:Nat->Nat}{i:Nat}{xs:List α}(h:Ow δ (is i) (is i) w v xs)(G:th δ g w ren)(k:Nat)(hi:Nat.beq i 0=false:=by exact rfl)(hr:ren i=k:=by exact rfl):Ow g (is k) (is k) w v xs:=G.1 h k hi hr
theorem dH.gl{α:Type}[Rp α]{δ g:aV}{ren:Nat->Nat}{i:Nat}{xs:List (List α)}(h:dH δ i w v xs)(G:th δ g w ren)(k:Nat)(hi:Nat.beq i 0=false:=by exact rfl)(hr:ren i=k:=by exact rfl):dH g k w v xs:=G.2 h k hi hr
end
end TL
/-
  TlGeom: points with whole coordinates: turns, segments, how they meet.
  By an AI agent.
-/
set_option linter.all false
namespace TL
abbrev Pt:=Int×Int
def cV(x y:Int):Int:=if x<y then-1 else if y<x then 1 else 0
def ms(a b:Pt):Int:=a.1*b.2-a.2*b.1
def eR(b a:Pt):Pt:=(b.1-a.1,b.2-a.2)
def bN(a b c:Pt):Int:=cV (ms (eR b a) (eR c a)) 0
theorem i1(a b c:Pt): -1<=bN a b c/\bN a b c<=1:=by unfold bN cV;split<;>(try split)<;>omega
def kE(a b p:Pt):Prop:=(min a.1 b.1<=p.1/\p.1<=max a.1 b.1)/\min a.2 b.2<=p.2/\p.2<=max a.2 b.2
instance (a b p:Pt):Decidable (kE a b p):=by unfold kE;infer_instance
def dJ(a b p:Pt):Prop:=bN a b p=0/\kE a b p
instance (a b p:Pt):Decidable (dJ a b p):=by unfold dJ;infer_instance
def c6(a b:Pt):Int:=if cV a.1 b.1≠0 then cV a.1 b.1 else cV a.2 b.2
def du(a b c d:Pt):Int:=
 let a':=if 0<c6 a b then b else a
 let b':=if 0<c6 a b then a else b
 let c':=if 0<c6 c d then d else c
 let d':=if 0<c6 c d then c else d
 let low:=if 0<c6 c' a' then c' else a'
 let high:=if c6 d' b'<0 then d' else b'
 if 0<c6 low high then 0 else if c6 low high=0 then 2 else 3
def bX(a b c d:Pt):Int:=
 if bN a b c=0/\bN a b d=0/\bN c d a=0/\bN c d b=0 then du a b c d
 else if bN a b c*bN a b d<0/\bN c d a*bN c d b<0 then 1
 else if dJ a b c\/dJ a b d\/dJ c d a\/dJ c d b then 2 else 0
def sx(p:Pt):Int:=p.1*1073741824+p.2
def jO(p:Pt):Prop:=(-4194304<=p.1/\p.1<=4194304)/\ -4194304<=p.2/\p.2<=4194304
end TL
namespace TL
theorem jd{x y:Int}(h1: -16777216<=x/\x<=16777216)(h2: -16777216<=y/\y<=16777216): -281474976710656<=x*y/\x*y<=281474976710656:=by
 have h:=Int.natAbs_mul x y
 have a:x.natAbs<=16777216:=by omega
 have b:y.natAbs<=16777216:=by omega
 have c:x.natAbs*y.natAbs<=16777216*16777216:=Nat.mul_le_mul a b
 omega
def sA(p:Pt):Prop:=(-16777216<=p.1/\p.1<=16777216)/\ -16777216<=p.2/\p.2<=16777216
theorem lK{a b:Pt}(ha:jO a)(hb:jO b):sA (eR b a):=by
 unfold jO at ha hb
 unfold sA eR
 simp only
 omega
def c5(p:Pt):Prop:=(-1048576<=p.1/\p.1<=1048576)/\ -1048576<=p.2/\p.2<=1048576
instance (p:Pt):Decidable (c5 p):=by unfold c5;infer_instance
theorem c5.bd{p:Pt}(h:c5 p):jO p:=by unfold c5 at h;unfold jO;omega
def fF(ps:List Pt):Prop:=ps.length<=4096/\∀p∈ps,c5 p
instance (ps:List Pt):Decidable (fF ps):=by unfold fF;infer_instance
theorem rj{ps:List Pt}(h:∀j:Nat,j<ps.length->c5 (gI ps (j:Int))):∀p∈ps,c5 p:=λp hp=>by
 obtain⟨i,hi,rfl⟩:=List.mem_iff_getElem.1 hp
 have:=h i hi
 have e:gI ps (i:Int)=ps[i]:=by simp[gI,hi]
 rwa[e] at this
def kO:List Int->Int
 |[]=>0
 |x::l=>if x=0 then kO l else x
theorem nt(a b:Pt):c6 a b=kO [cV a.1 b.1,cV a.2 b.2]:=by
 unfold c6 kO
 by_cases h:cV a.1 b.1=0
 · rw[if_neg (by simp[h]),if_pos h]
   unfold kO
   by_cases h2:cV a.2 b.2=0
   · rw[if_pos h2,h2];rfl
   · rw[if_neg h2]
 · rw[if_pos h,if_neg h]
theorem nS{l:List Int}{k:Nat}(h:∀j:Nat,j<k->gI l (j:Int)=0)(hk:(k:Int)<l.length)(hx:gI l (k:Int)≠0):gI l (k:Int)=kO l:=by
 induction l generalizing k with
 |nil=>simp at hk;omega
 |cons a l ih=>
   cases k with
   |zero=>
     have e:gI (a::l) ((0:Nat):Int)=a:=by simp[gI]
     rw[e] at hx ⊢
     unfold kO;rw[if_neg hx]
   |succ k=>
     have e:∀j:Nat,gI (a::l) ((j+1:Nat):Int)=gI l (j:Int):=λj=>by simp[gI]
     have e0:gI (a::l) ((0:Nat):Int)=a:=by simp[gI]
     have h0:=h 0 (by omega)
     rw[e0] at h0
     rw[e] at hx ⊢
     unfold kO;rw[if_pos h0]
     exact ih (λj hj=>by rw[<-e];exact h (j+1) (by omega)) (by simp at hk;omega) hx
theorem nM{l:List Int}{k:Nat}(h:∀j:Nat,j<k->gI l (j:Int)=0)(hk:¬(k:Int)<l.length):0=kO l:=by
 induction l generalizing k with
 |nil=>rfl
 |cons a l ih=>
   have e:∀j:Nat,gI (a::l) ((j+1:Nat):Int)=gI l (j:Int):=λj=>by simp[gI]
   have e0:gI (a::l) ((0:Nat):Int)=a:=by simp[gI]
   simp at hk
   have h0:=h 0 (by omega)
   rw[e0] at h0
   unfold kO;rw[if_pos h0]
   exact ih (k:=k-1) (λj hj=>by rw[<-e];exact h (j+1) (by omega)) (by omega)
def cw(a b c:Pt):Bool×Int:=if c5 a/\c5 b/\c5 c then(decide (dJ a b c),0) else(false,1)
def cd(a b c d:Pt):Int×Int:=if(c5 a/\c5 b)/\c5 c/\c5 d then(bX a b c d,0) else(0,1)
theorem sP{a b c:Pt}:fF [a,b,c]↔c5 a/\c5 b/\c5 c:=by simp[fF]
theorem s8{a b c d:Pt}:fF [a,b,c,d]↔(c5 a/\c5 b)/\c5 c/\c5 d:=by simp[fF,and_assoc]
def lM(p:Pt):Int:=if 0<p.1\/p.1=0/\0<p.2 then 0 else 1
section
variable{a b c d:Pt}
theorem l9(h1:bN a b c=0)(h2:bN a b d=0)(h3:bN c d a=0)(h4:bN c d b=0):du a b c d=bX a b c d:=by
 unfold bX;rw[if_pos ⟨h1,h2,h3,h4⟩]
theorem k6(h1:bN a b c*bN a b d<0)(h2:bN c d a*bN c d b<0):1=bX a b c d:=by
 unfold bX
 rw[if_neg (λh=>by rw[h.1,Int.zero_mul] at h1;omega),if_pos ⟨h1,h2⟩]
theorem ek(h0:¬(bN a b c=0/\bN a b d=0/\bN c d a=0/\bN c d b=0))(h1:¬(bN a b c*bN a b d<0/\bN c d a*bN c d b<0))(h2:dJ a b c\/dJ a b d\/dJ c d a\/dJ c d b):2=bX a b c d:=by
 unfold bX
 rw[if_neg h0,if_neg h1,if_pos h2]
theorem kG(h0:¬(bN a b c=0/\bN a b d=0/\bN c d a=0/\bN c d b=0))(h1:¬(bN a b c*bN a b d<0/\bN c d a*bN c d b<0))(h2:¬(dJ a b c\/dJ a b d\/dJ c d a\/dJ c d b)):0=bX a b c d:=by
 unfold bX
 rw[if_neg h0,if_neg h1,if_neg h2]
end
end TL
/-
  TlGeomR: what is told of many points: areas, boxes, whether a polyline is simple.
  By an AI agent.
-/
set_option linter.all false
namespace TL
def li(ps:List Pt):Nat->Pt
 |0=>gI ps 0
 |k+1=>(min (li ps k).1 (gI ps (k:Int)).1,min (li ps k).2 (gI ps (k:Int)).2)
def kV(ps:List Pt):Nat->Pt
 |0=>gI ps 0
 |k+1=>(max (kV ps k).1 (gI ps (k:Int)).1,max (kV ps k).2 (gI ps (k:Int)).2)
def jM(ps:List Pt):Prop:=4<=(ps.length:Int)/\gI ps 0=gI ps ((ps.length:Int)-1)
instance (ps:List Pt):Decidable (jM ps):=by unfold jM;infer_instance
def lX(ps:List Pt)(i k:Nat):Prop:=k=i+1\/i=0/\(k:Int)=(ps.length:Int)-2/\jM ps
instance (ps:List Pt)(i k:Nat):Decidable (lX ps i k):=by unfold lX;infer_instance
def tn(ps:List Pt)(i k:Nat):Int:=bX (gI ps (i:Int)) (gI ps ((i:Int)+1)) (gI ps (k:Int)) (gI ps ((k:Int)+1))
def rc(ps:List Pt)(i k:Nat):Prop:=lX ps i k/\tn ps i k=3\/¬lX ps i k/\tn ps i k≠0
instance (ps:List Pt)(i k:Nat):Decidable (rc ps i k):=by unfold rc;infer_instance
def rn(ps:List Pt)(i:Nat):Prop:=gI ps (i:Int)≠gI ps ((i:Int)+1)/\∀k<ps.length,i<k->(k:Int)<=(ps.length:Int)-2->¬rc ps i k
instance (ps:List Pt)(i:Nat):Decidable (rn ps i):=by unfold rn;infer_instance
def sa(ps:List Pt):Prop:=∀i<ps.length,(i:Int)<=(ps.length:Int)-2->rn ps i
instance (ps:List Pt):Decidable (sa ps):=by unfold sa;infer_instance
section
variable{ps:List Pt}
variable{i k:Nat}
end
end TL
/-
  TlConv: whole numbers turned to another kind, a string's byte, functions that bear values.
  By an AI agent.
-/
set_option linter.all false
namespace TL
open Go
section
variable{P:Program}{w:World}{f:Fr}{dst:Option Tmp}{ty:TypeId}{pos:String}{after:Array Edge}{g:Option (Nat×Bool)}{x y:Operand}{s d t:TypeId}{m:Int}{k k0:IntKind}
end
end TL
namespace TL
open Go
section
variable{P:Program}{w:World}{f:Fr}{dst:Option Tmp}{ty:TypeId}{pos:String}{after:Array Edge}{g:Option (Nat×Bool)}{x y:Operand}{t t':TypeId}
theorem eF{fs:Array Field}{xs ys:List Value}{bs:List Bool}{q:Bool}(ht:P.underlying t=some (.struct fs))(hp:P.stoodInHeld t=false)(hg:P.eqGuardType P.depth t=false)(hx:ev f x= .agg xs.toArray)(hy:ev f y= .agg ys.toArray)(h:EqF P xs.toArray ys.toArray fs.toList bs)(hq:bs.all id=q):
   (execOp (ev f) ⟨dst,.binOp .neq t x y t',ty,pos,after,g⟩).run P w= .ok (.value (.bool !q)) w:=by
 have e1:P.fieldsOf t=fs:=by simp[Program.fieldsOf,ht]
 have hr:(Op.equal t (.agg xs.toArray) (.agg ys.toArray)).run P w= .ok q w:=by
   have:=run_equalIn_struct (P:=P) w 9999 t xs.toArray ys.toArray (by rw[e1];exact ht) hp
   rw[e1,jk h 9998,hq] at this
   exact this
 exact j0 .neq hx hy (by simp[eqGuard,hg]) (by simp[binOp,hr])
end
end TL
namespace TL
open Go
section
variable{P:Program}{w:World}{f:Fr}{dst:Option Tmp}{ty:TypeId}{pos:String}{after:Array Edge}{g:Option (Nat×Bool)}{x y:Operand}{t t':TypeId}
end
end TL
/-
  TlGeomM: meeting segments: moved, turned, named another way about; what ends they share.
  By an AI agent.
-/
set_option linter.all false
namespace TL
section
variable{a b c d:Pt}
def jc(a b c d e:Pt):Prop:=dJ a b e/\dJ c d e
instance (a b c d e:Pt):Decidable (jc a b c d e):=by unfold jc;infer_instance
def nz(a b c d:Pt):Prop:=bN a b c*bN a b d<0/\bN c d a*bN c d b<0
instance (a b c d:Pt):Decidable (nz a b c d):=by unfold nz;infer_instance
end
end TL
/-
  TlGeomS: polylines gone back, and two of them named the other way about.
  By an AI agent.
-/
set_option linter.all false
namespace TL
abbrev Sg:=Pt×Pt
def jQ(ps:List Pt):Nat->List Sg
 |0=>[]
 |k+1=>jQ ps k++[(gI ps (k:Int),gI ps ((k:Int)+1))]
def pe(ps:List Pt):List Sg:=if ps.length=1 then[(gI ps 0,gI ps 0)] else jQ ps (ps.length-1)
theorem fg{ps:List Pt}{s:Sg}:∀{k:Nat},s∈jQ ps k↔∃i:Nat,i<k/\s=(gI ps (i:Int),gI ps ((i:Int)+1))
 |0=>by simp[jQ]
 |k+1=>by
   rw[jQ,List.mem_append,fg,List.mem_singleton]
   constructor
   · rintro(⟨i,hi,e⟩|e)
     · exact⟨i,by omega,e⟩
     · exact⟨k,by omega,e⟩
   · rintro⟨i,hi,e⟩
     by_cases c:i=k
     · subst c;exact .inr e
     · exact .inl ⟨i,by omega,e⟩
def qu(ps:List Pt):Pt:=gI ps ((ps.length:Int)-1)
def rD(ps:List Pt)(p:Pt):Prop:=p=gI ps 0\/p=qu ps
instance (ps:List Pt)(p:Pt):Decidable (rD ps p):=by unfold rD;infer_instance
def oO(q:List Pt)(s t:Sg)(x:Pt):Prop:=rD q x/\dJ s.1 s.2 x/\dJ t.1 t.2 x
instance (q:List Pt)(s t:Sg)(x:Pt):Decidable (oO q s t x):=by unfold oO;infer_instance
def oz(p q:List Pt)(s t:Sg):Prop:=oO q s t (gI p 0)\/oO q s t (qu p)
instance (p q:List Pt)(s t:Sg):Decidable (oz p q s t):=by unfold oz;infer_instance
def rf(p q:List Pt)(s t:Sg):Prop:=bX s.1 s.2 t.1 t.2=3\/bX s.1 s.2 t.1 t.2≠0/\¬oz p q s t
instance (p q:List Pt)(s t:Sg):Decidable (rf p q s t):=by unfold rf;infer_instance
def s7(p q:List Pt):Prop:=∀s∈pe p,∀t∈pe q,¬rf p q s t
instance (p q:List Pt):Decidable (s7 p q):=by unfold s7;infer_instance
section
variable{p q:List Pt}
end
end TL
namespace TL
section
variable{p q:List Pt}{i k:Nat}
variable{s t:Sg}
end
end TL
namespace TL
section
variable{p q:List Pt}{s t:Sg}{i:Nat}
end
end TL
/-
  TlGeomX: polylines: the document's way and the code's.
  By an AI agent.
-/
set_option linter.all false
namespace TL
section
variable{a b c d:Pt}
end
section
variable{ps:List Pt}{i k:Nat}
end
def tg(but:List Pt)(s t:Sg):Prop:=bX s.1 s.2 t.1 t.2=3\/(bX s.1 s.2 t.1 t.2=1/\¬∃x∈but,jc s.1 s.2 t.1 t.2 x)\/((bX s.1 s.2 t.1 t.2≠0/\bX s.1 s.2 t.1 t.2≠1)/\∃e∈[s.1,s.2,t.1,t.2],jc s.1 s.2 t.1 t.2 e/\e∉but)
instance (but:List Pt)(s t:Sg):Decidable (tg but s t):=by unfold tg;infer_instance
def s6(p q but:List Pt):Prop:=∃s∈pe p,∃t∈pe q,tg but s t
instance (p q but:List Pt):Decidable (s6 p q but):=by unfold s6;infer_instance
section
variable{p q B:List Pt}
end
end TL
namespace TL
section
variable{p q but:List Pt}{i k:Nat}
variable{s t:Sg}
end
end TL
/-
  TlAround: points round another one: the order, its laws, the list that is sorted by it.
  By an AI agent.
-/
set_option linter.all false
namespace TL
def sR(p:Pt):Int:=p.1*p.1+p.2*p.2
def neg(p:Pt):Pt:=(-p.1,-p.2)
def tB(a b:Pt)(i k:Int):Prop:=lM a<lM b\/lM a=lM b/\(ms a b<0\/ms a b=0/\(sR a<sR b\/sR a=sR b/\i<k))
def vA(o:Pt)(ps:List Pt)(i:Int):Pt:=eR (gI ps i) o
def tu(o:Pt)(ps:List Pt)(i k:Int):Prop:=tB (vA o ps i) (vA o ps k) i k
def tx(o:Pt)(ps:List Pt)(k:Nat)(l:List Int):Prop:=l.Pairwise (tu o ps)/\∀x,x∈l↔0<=x/\x<(k:Int)
section
variable{o:Pt}{ps:List Pt}{k:Nat}{l l':List Int}
open Classical in
noncomputable def arL (o:Pt) (ps:List Pt):List Int:=if h:∃l,tx o ps ps.length l then choose h else[]
end
section
variable{o:Pt}{ps:List Pt}{k:Nat}{l:List Int}{q:Int}
end
section
variable{o:Pt}{ps:List Pt}
end
end TL
/-
  TlJudge: plots: their flaws, as the code and the document gather them.
  By an AI agent.
-/
set_option linter.all false
namespace TL
abbrev ej:=Int×Int×Int
abbrev ci:=List Pt×List (List Pt)
def es{β:Type}(f:Nat->List β):Nat->List β
  |0=>[]
  |k+1=>es f k++f k
section
variable{β:Type}{f h:Nat->List β}{k n:Nat}{x:β}{F B:List β}
theorem fk:∀{k:Nat},es f k=[]↔∀j,j<k->f j=[]
 |0=>by simp[es]
 |k+1=>by
   rw[es,List.append_eq_nil_iff,fk]
   constructor
   · rintro⟨h1,h2⟩ j hj
     by_cases e:j=k
     · subst e;exact h2
     · exact h1 j (by omega)
   · intro h
     exact⟨λj hj=>h j (by omega),h k (by omega)⟩
theorem m9{c:Nat}:∀{k:Nat},(∀j,j<k->(f j).length<=c)->(es f k).length<=k*c
 |0,_=>by simp[es]
 |k+1,e=>by
   have h1:=m9 (k:=k) λj hj=>e j (by omega)
   have h2:=e k (by omega)
   rw[es,List.length_append,Nat.succ_mul]
   omega
theorem f4(e:∀j,(f j).length<=1):(es f k).length<=k:=by
 have:=m9 (f:=f) (k:=k) (c:=1) λj _=>e j
 omega
theorem mt(hF:F=B++es f k)(hf:f k=[x]):F++[x]=B++es f (k+1):=by rw[hF,es,hf,List.append_assoc]
theorem qZ(hF:F=B++es f k)(hf:f k=[]):F=B++es f (k+1):=by rw[hF,es,hf,List.append_nil]
theorem nr(hF:F=es f k)(hf:f k=[x]):F++[x]=es f (k+1):=by rw[hF,es,hf]
theorem pj(hF:F=es f k)(hf:f k=[]):F=es f (k+1):=by rw[hF,es,hf,List.append_nil]
end
def fl{β:Type}(p:Prop)[Decidable p](x:β):List β:=if p then[x] else[]
section
variable{β:Type}{p:Prop}[Decidable p]{x:β}
theorem lg(h:p):fl p x=[x]:=if_pos h
theorem qH(h:¬p):fl p x=[]:=if_neg h
theorem oc:(fl p x).length<=1:=by unfold fl;split<;>simp
theorem jz:fl p x=[]↔¬p:=by unfold fl;split<;>simp_all
end
def tc(l:List Pt):Prop:=2<=(l.length:Int)/\fF l
instance (l:List Pt):Decidable (tc l):=by unfold tc;infer_instance
def kq(p:ci)(v:Nat):List ej:=fl (¬c5 (gI p.1 (v:Int))) (2,(v:Int),0)
def lS(p:ci)(e:Nat):List ej:=fl (¬tc (gI p.2 (e:Int))) (3,(e:Int),0)
def cF(g:cJ)(p:ci):List ej:=
 if(p.1.length:Int)=g.1/\(p.2.length:Int)=g.2.length then es (kq p) p.1.length++es (lS p) p.2.length else[(1,0,0)]
def qU(g:cJ)(p:ci)(e:Int):Prop:=gI (gI p.2 e) 0=gI p.1 (gI g.2 e).1/\gI (gI p.2 e) (((gI p.2 e).length:Int)-1)=gI p.1 (gI g.2 e).2
instance (g:cJ)(p:ci)(e:Int):Decidable (qU g p e):=by unfold qU;infer_instance
def qM(l:List Pt)(q:Pt):Prop:=∃s∈jQ l (l.length-1),dJ s.1 s.2 q
instance (l:List Pt)(q:Pt):Decidable (qM l q):=by unfold qM;infer_instance
def iZ(g:cJ)(p:ci)(e f:Int):List Pt:=
  fl ((gI g.2 e).1∈[(gI g.2 f).1,(gI g.2 f).2]) (gI p.1 (gI g.2 e).1)++fl ((gI g.2 e).2∈[(gI g.2 f).1,(gI g.2 f).2]) (gI p.1 (gI g.2 e).2)
def d8(s t:Sg)(but:List Pt):Prop:=bX s.1 s.2 t.1 t.2=0\/(bX s.1 s.2 t.1 t.2=1\/bX s.1 s.2 t.1 t.2=2)/\∃x∈but,jc s.1 s.2 t.1 t.2 x
instance (s t:Sg)(but:List Pt):Decidable (d8 s t but):=by unfold d8;infer_instance
def jw(a b but:List Pt):Prop:=∀s∈jQ a (a.length-1),∀t∈jQ b (b.length-1),d8 s t but
instance (a b but:List Pt):Decidable (jw a b but):=by unfold jw;infer_instance
section
variable{g:cJ}{p:ci}
structure ni(g:cJ)(p:ci):Prop where
  n:(p.1.length:Int)=g.1
  m:(p.2.length:Int)=g.2.length
  pt:∀v:Int,0<=v->v<p.1.length->c5 (gI p.1 v)
  ln:∀e:Int,0<=e->e<p.2.length->2<=((gI p.2 e).length:Int)/\fF (gI p.2 e)
theorem j3:cF g p=[]↔ni g p:=by
 unfold cF
 by_cases c:(p.1.length:Int)=g.1/\(p.2.length:Int)=g.2.length
 · rw[if_pos c,List.append_eq_nil_iff,fk,fk]
   constructor
   · rintro⟨h1,h2⟩
     refine⟨c.1,c.2,λv h0 hv=>?_,λe h0 he=>?_⟩
     · have:=h1 v.toNat (by omega)
       unfold kq at this
       rw[jz,Int.toNat_of_nonneg h0] at this
       exact Classical.not_not.1 this
     · have:=h2 e.toNat (by omega)
       unfold lS at this
       rw[jz,Int.toNat_of_nonneg h0] at this
       exact Classical.not_not.1 this
   · intro h
     exact⟨λv hv=>jz.2 (Classical.not_not.2 (h.pt _ (by omega) (by omega))),λe he=>jz.2 (Classical.not_not.2 (h.ln _ (by omega) (by omega)))⟩
 · rw[if_neg c]
   exact⟨λh=>by simp at h,λh=>absurd ⟨h.n,h.m⟩ c⟩
theorem jj(v:Nat):(kq p v).length<=1:=oc
theorem mK(v:Nat):(lS p v).length<=1:=oc
theorem l6(hm:dd g):((cF g p).length:Int)<=5000:=by
 obtain⟨_,h2,h3,_⟩:=hm
 unfold cF
 split
 · rename_i c
   have l1:=f4 (f:=kq p) (k:=p.1.length) jj
   have l2:=f4 (f:=lS p) (k:=p.2.length) mK
   rw[List.length_append];omega
 · simp
end
end TL
namespace TL
section
variable{l:List Pt}{p:Pt}{i:Nat}
end
section
variable{a b c d:Pt}{but:List Pt}{k:Nat}{m:Int}
end
def t4(p:ci)(h:Int):Pt:=if h%2=0 then gI (gI p.2 (h/2)) 1 else gI (gI p.2 (h/2)) (((gI p.2 (h/2)).length:Int)-2)
def sZ(u v:Pt):Int:=u.1*v.1+u.2*v.2
def nR(u v:Pt):Prop:=ms u v=0/\0<sZ u v
instance (u v:Pt):Decidable (nR u v):=by unfold nR;infer_instance
end TL
namespace TL
end TL
namespace TL
section
variable{g:cJ}{p:ci}{F G B:List ej}{v e k i:Nat}
theorem ru(h:decide (fF [gI p.1 (v:Int)])=true):kq p v=[]:=qH (Classical.not_not.2 ((of_decide_eq_true h).2 _ (by simp)))
theorem rT(h:¬decide (fF [gI p.1 (v:Int)])=true):kq p v=[(2,(v:Int),0)]:=
 lg λho=>h (decide_eq_true ⟨by simp,λx hx=>by obtain rfl:=List.mem_singleton.1 hx;exact ho⟩)
theorem sd(h:(((gI p.2 (e:Int)).length:Nat):Int)<2):lS p e=[(3,(e:Int),0)]:=lg λho=>by have:=ho.1;omega
theorem sI(h:¬decide (fF (gI p.2 (e:Int)))=true):lS p e=[(3,(e:Int),0)]:=lg λho=>h (decide_eq_true ho.2)
theorem sL(h0:¬(((gI p.2 (e:Int)).length:Nat):Int)<2)(h:decide (fF (gI p.2 (e:Int)))=true):lS p e=[]:=qH λho=>ho ⟨by omega,of_decide_eq_true h⟩
theorem oa{β:Type}{f h:Nat->List β}{F:List β}{k n:Nat}(hF:F=es f k)(hk:k=n):F=es f n++es h 0:=by
 subst hk;rw[hF];simp[es]
theorem sj(h:¬((p.1.length:Nat):Int)=g.1):[(1,0,0)]=cF g p:=by unfold cF;rw[if_neg λc=>h c.1]
theorem sD(h:¬((p.2.length:Nat):Int)=(g.2.length:Int)):[(1,0,0)]=cF g p:=by unfold cF;rw[if_neg λc=>h c.2]
theorem s4(h1:((p.1.length:Nat):Int)=g.1)(h2:((p.2.length:Nat):Int)=(g.2.length:Int))(hG:G=es (kq p) p.1.length++es (lS p) e)(he:e=p.2.length):G=cF g p:=by
 unfold cF;rw[if_pos ⟨h1,h2⟩,hG,he]
theorem ql(hF:F=es (kq p) v):F.length<=v:=by rw[hF];exact f4 jj
theorem ph(hF:F=es (kq p) v++es (lS p) e):F.length<=v+e:=by
 rw[hF,List.length_append]
 have l1:=f4 (f:=kq p) (k:=v) jj
 have l2:=f4 (f:=lS p) (k:=e) mK
 omega
theorem rl(hF:F=cF g p)(h:¬0<(F.length:Int)):F=[]/\cF g p=[]/\ni g p:=by
 have:F=[]:=List.eq_nil_of_length_eq_zero (by omega)
 have h2:cF g p=[]:=hF▸this
 exact⟨this,h2,j3.1 h2⟩
end
section
variable{g:cJ}{p:ci}{e f:Int}
end
section
variable{a b but:List Pt}{i k:Nat}
theorem mI:jw a b but↔∀j:Nat,j+1<a.length->∀q:Nat,q+1<b.length->d8 (gI a (j:Int),gI a ((j:Int)+1)) (gI b (q:Int),gI b ((q:Int)+1)) but:=by
 unfold jw
 constructor
 · intro h j hj q hq
   exact h _ (fg.2 ⟨j,by omega,rfl⟩) _ (fg.2 ⟨q,by omega,rfl⟩)
 · intro h s hs t ht
   obtain⟨j,hj,rfl⟩:=fg.1 hs
   obtain⟨q,hq,rfl⟩:=fg.1 ht
   exact h j (by omega) q (by omega)
theorem pG(h:1<=i/\∀j:Nat,j+1<i->∀q:Nat,q+1<b.length->d8 (gI a (j:Int),gI a ((j:Int)+1)) (gI b (q:Int),gI b ((q:Int)+1)) but)
   (h2:1<=k/\∀q:Nat,q+1<k->d8 (gI a ((i:Int)-1),gI a (i:Int)) (gI b (q:Int),gI b ((q:Int)+1)) but)(hk:¬(k:Int)<b.length):
   1<=i+1/\∀j:Nat,j+1<i+1->∀q:Nat,q+1<b.length->d8 (gI a (j:Int),gI a ((j:Int)+1)) (gI b (q:Int),gI b ((q:Int)+1)) but:=by
 refine⟨by omega,λj hj q hq=>?_⟩
 by_cases e:j+1=i
 · have h3:=h2.2 q (by omega)
   rw[show(j:Int)=(i:Int)-1 by omega,show(i:Int)-1+1=(i:Int) by omega]
   exact h3
 · exact h.2 j (by omega) q hq
theorem kv(h:1<=k/\∀q:Nat,q+1<k->d8 (gI a ((i:Int)-1),gI a (i:Int)) (gI b (q:Int),gI b ((q:Int)+1)) but)(ho:decide (d8 (gI a ((i:Int)-1),gI a (i:Int)) (gI b ((k:Int)-1),gI b (k:Int)) but)=true):
   1<=k+1/\∀q:Nat,q+1<k+1->d8 (gI a ((i:Int)-1),gI a (i:Int)) (gI b (q:Int),gI b ((q:Int)+1)) but:=by
 refine⟨by omega,λq hq=>?_⟩
 by_cases e:q+1=k
 · rw[show(q:Int)=(k:Int)-1 by omega,show(k:Int)-1+1=(k:Int) by omega]
   exact of_decide_eq_true ho
 · exact h.2 q (by omega)
theorem nu(h1:1<=i)(hi:(i:Int)<a.length)(h2:1<=k)(hk:(k:Int)<b.length)(ho:¬decide (d8 (gI a ((i:Int)-1),gI a (i:Int)) (gI b ((k:Int)-1),gI b (k:Int)) but)=true):false=decide (jw a b but):=by
 refine(decide_eq_false λh=>ho (decide_eq_true ?_)).symm
 have:=mI.1 h (i-1) (by omega) (k-1) (by omega)
 rwa[show((i-1:Nat):Int)=(i:Int)-1 by omega,show((k-1:Nat):Int)=(k:Int)-1 by omega,show(i:Int)-1+1=(i:Int) by omega,show(k:Int)-1+1=(k:Int) by omega] at this
theorem pk(h:1<=i/\∀j:Nat,j+1<i->∀q:Nat,q+1<b.length->d8 (gI a (j:Int),gI a ((j:Int)+1)) (gI b (q:Int),gI b ((q:Int)+1)) but)(hi:¬(i:Int)<a.length):true=decide (jw a b but):=
 (decide_eq_true (mI.2 λj hj=>h.2 j (by omega))).symm
end
section
variable{g:cJ}{p:ci}{e f:Nat}{b:Bool}
end
end TL
/-
  TlMap: maps that the call makes.
  By an AI agent.
-/
set_option linter.all false
namespace TL
open Go
class Ky (K:Type) where
  val:K->Value
section
variable{P:Program}{f:Fr}{w:World}{dst:Option Tmp}{ty:TypeId}{pos:String}{after:Array Edge}{g:Option (Nat×Bool)}{t:TypeId}{x y z:Operand}{N:Value->World->Prop}
end
instance:Ky Int where
 val k:=.int .i64 k
instance:Ky (Int×Int) where
 val k:=.agg (List.toArray [.int .i64 k.1,.int .i64 k.2])
end TL
namespace TL
open Go
end TL
/-
  TlStill: in a region that draws its order: an operation before which only reading ones may come is taken first.
  By an AI agent.
-/
set_option linter.all false
namespace TL
open Go
theorem aA.asBool(v:Value):aA (Go.asBool v):=by
 unfold Go.asBool
 repeat' (first|exact aA.pure _|exact aA.stuck _|exact aA.unsupported _|split)
theorem gZ(op:BinOp)(x y:ByteArray):aA (Op.stringOp op x y):=by
 unfold Op.stringOp
 dsimp only
 repeat' (first|exact aA.pure _|exact aA.stuck _|exact aA.unsupported _|split)
theorem lb(x y:Value):aA (Builtin.min2 x y):=by
 unfold Builtin.min2
 repeat' (first|exact aA.pure _|exact aA.stuck _|exact aA.unsupported _|exact aA.bind (aA.choose _) λ_=>aA.pure _|exact aA.bind (gZ _ _ _) λ_=>aA.bind (aA.asBool _) λ_=>aA.pure _|split)
theorem lj(x y:Value):aA (Builtin.max2 x y):=by
 unfold Builtin.max2
 repeat' (first|exact aA.pure _|exact aA.stuck _|exact aA.unsupported _|exact aA.bind (aA.choose _) λ_=>aA.pure _|exact aA.bind (gZ _ _ _) λ_=>aA.bind (aA.asBool _) λ_=>aA.pure _|split)
theorem fV{f:Value->Value->Sem Value}(hf:∀x y,aA (f x y)):∀(l:List Value) (x:Value),aA (l.foldlM f x)
 |[],x=>by simp only[List.foldlM_nil];exact aA.pure _
 |y::l,x=>by simp only[List.foldlM_cons];exact aA.bind (hf x y) λz=>fV hf l z
def dv:Op->Bool
 | .call c=>match c.callee with
   | .builtin .min| .builtin .max=>true
   |_=>false
 |o=>dY o
theorem k8{ρ:Operand->Value}{o:Oper}(h:dv o.op=true):aA (execOp ρ o)/\∀P w nx w',(execOp ρ o).run P w= .ok nx w'->∃u,nx= .value u:=by
 obtain⟨dst,op,ty,pos,after,g⟩:=o
 cases op
 case call c=>
   obtain⟨callee,args,at_⟩:=c
   cases callee with
   |builtin b=>
     cases b<;>simp only[dv,Bool.false_eq_true] at h
     case min=>
       have e:execOp ρ ⟨dst,.call {callee:=.builtin .min,args:=args,argTypes:=at_},ty,pos,after,g⟩=(do pure (Next.value (<-Builtin.min_ at_ ty (args.map ρ)))):=by
         simp[execOp,resolve,invoke,builtin]
       rw[e]
       refine⟨aA.bind ?_ λ_=>aA.pure _,λP w nx w' hr=>fW hr⟩
       unfold Builtin.min_
       split
       · exact aA.stuck _
       · exact fV lb _ _
     case max=>
       have e:execOp ρ ⟨dst,.call {callee:=.builtin .max,args:=args,argTypes:=at_},ty,pos,after,g⟩=(do pure (Next.value (<-Builtin.max_ at_ ty (args.map ρ)))):=by
         simp[execOp,resolve,invoke,builtin]
       rw[e]
       refine⟨aA.bind ?_ λ_=>aA.pure _,λP w nx w' hr=>fW hr⟩
       unfold Builtin.max_
       split
       · exact aA.stuck _
       · exact fV lj _ _
   |_=>simp only[dv,Bool.false_eq_true] at h
 all_goals
   first
   |(simp only[dv,dY,Bool.false_eq_true] at h;done)
   |exact⟨iG (by simpa[dv] using h),λP w nx w' hr=>fW hr⟩
section
variable{P:Program}{ops:Array Oper}{Q:Exit->Act->World->Prop}{md:Region.Mode}{S:World->Prop}
def sU(P:Program)(ops:Array Oper)(w:World)(o:Oper)(v:Value)(a:Act):Prop:=Region.wanted o (yielded ops a.tmps)=true/\(execOp a.eval o).run P w= .ok (.value v) w
theorem sU.wpOp{i:Nat}{o:Oper}{v:Value}{a:Act}{w:World}(hi:ops[i]? =some o)(hy:sU P ops w o v a){K:Act->World->Prop}(h:K (a.put o.dst v) w):wpOp P ops Q i K a w:=by
 unfold Go.wpOp
 simp only[hi,hy.1,if_true,Oper.wp,hy.2,Oper.upon]
 exact .inl h
theorem kS{i:Nat}{oi:Oper}{v:Value}{w0:World}{M D:Array Bool}(hi:ops[i]? =some oi)(hsel:∀(j:Nat) (o:Oper) cs b,ops[j]? =some o->o.op≠ .select cs b)
   (hQ:∀c a w,Q (.panic c) (a.put oi.dst v) w->Q (.panic c) a w)
   (hM:∀j oj,ops[j]? =some oj->M.getD j false=false->j≠i->∃e∈oj.after,Region.binds md e=true/\M.getD e.on false=false)
   (hMq:∀j oj,ops[j]? =some oj->M.getD j false=true->D.getD j true=false->j≠i->dv oj.op=true):
   ∀(fuel:Nat) (listed:Array Bool) (a:Act) (w:World),cG w0.heap.size w0 w->S w->(∀j,listed.getD j false=true->M.getD j false=true)->(∀j,listed.getD j true=false->D.getD j true=false)->
     (∀j oj,ops[j]? =some oj->j≠i->listed.getD j true=false->(∀e∈oj.after,Region.binds md e=true->e.on≠i)->oi.apart ops oj=true)->
     i∈Region.ready md ops listed->(∀w,cG w0.heap.size w0 w->sU P ops w oi v a)->
     wpAnyH P md ops Q S fuel (listed.setIfInBounds i true) (a.put oi.dst v) w->wpAnyH P md ops Q S (fuel+1) listed a w:=by
 intro fuel
 induction fuel with
 |zero=>
   intro listed a w hw hS _ _ _ hr hy H
   refine⟨λh=>(by rw[h] at hr;cases hr),λj hj=>?_⟩
   by_cases hji:j=i
   · subst hji;exact(hy w hw).wpOp hi ⟨hS,H⟩
   · have:=ready_mono hj hji
     rw[H.1] at this
     cases this
 |succ fuel ih=>
   intro listed a w hw hS hsub hD hfree hr hy H
   refine⟨λh=>(by rw[h] at hr;cases hr),λj hj=>?_⟩
   by_cases hji:j=i
   · subst hji;exact(hy w hw).wpOp hi ⟨hS,H⟩
   · obtain⟨hjun,oj,hoj,hall⟩:=mem_ready.1 hj
     have hMj:M.getD j false=true:=by
       cases hm:M.getD j false with
       |true=>rfl
       |false=>
         obtain⟨e,he,hb,hn⟩:=hM j oj hoj hm hji
         have:=hsub _ (hall e he hb)
         rw[hn] at this;cases this
     have hkk:=hMq j oj hoj hMj (hD j hjun) hji
     have h1:=H.2 j (ready_mono hj hji)
     have hnot:∀e∈oj.after,Region.binds md e=true->e.on≠i:=λe he hb heq=>by
       have h1:=hall e he hb
       have h0:=(mem_ready.1 hr).1
       rw[heq] at h1
       rw[getD_both h0] at h1
       cases h1
     have hap:=hfree j oj hoj hji hjun hnot
     have hfree':∀k ok,ops[k]? =some ok->k≠i->(listed.setIfInBounds j true).getD k true=false->
         (∀e∈ok.after,Region.binds md e=true->e.on≠i)->oi.apart ops ok=true:=λk ok hk hki hun hno=>by
       refine hfree k ok hk hki ?_ hno
       by_cases hjk:j=k
       · subst hjk;exact hjun
       · rw[getD_set_ne true hjk] at hun;exact hun
     have hsub':∀k,(listed.setIfInBounds j true).getD k false=true->M.getD k false=true:=λk hk=>by
       by_cases hjk:j=k
       · subst hjk;exact hMj
       · rw[getD_set_ne false hjk] at hk;exact hsub k hk
     have hD':∀k,(listed.setIfInBounds j true).getD k true=false->D.getD k true=false:=λk hk=>by
       by_cases hjk:j=k
       · subst hjk;exact hD j hjun
       · rw[getD_set_ne true hjk] at hk;exact hD k hk
     obtain⟨g1,g2,g3⟩:=Oper.apart_spec hap
     have keep:∀u w,cG w0.heap.size w0 w->sU P ops w oi v (a.put oj.dst u):=λu w hw=>by
       obtain⟨k1,k2⟩:=hy w hw
       refine⟨by rw[wanted_put oi a oj.dst u g3];exact k1,?_⟩
       rw[execOp_put oi (λcs b=>hsel i oi cs b hi) a oj.dst u g3];exact k2
     unfold Go.wpOp at h1 ⊢
     simp only[hoj] at h1 ⊢
     rw[wanted_put oj a oi.dst v g1] at h1
     cases hwt:Region.wanted oj (yielded ops a.tmps) with
     |false=>
       simp only[hwt,Bool.false_eq_true,if_false] at h1 ⊢
       refine⟨h1.1,ih (listed.setIfInBounds j true) (a.put oj.dst undef) w hw h1.1 hsub' hD' hfree' (ready_mono hr (Ne.symm hji)) (keep undef) ?_⟩
       rw[<-Act.put_comm a v undef g2,Array.setIfInBounds_comm _ _ hji]
       exact h1.2
     |true=>
       simp only[hwt,if_true] at h1 ⊢
       obtain⟨hke,hval⟩:=k8 (ρ:=a.eval) hkk
       rcases h1 with h1|⟨h1,h2⟩
       · left
         unfold Oper.wp at h1 ⊢
         rw[execOp_put oj (λcs b=>hsel j oj cs b hoj) a oi.dst v g1] at h1
         obtain⟨dst,op,ty,pos,after,gd⟩:=oj
         cases hrun:(execOp a.eval ⟨dst,op,ty,pos,after,gd⟩).run P w with
         |halt x w'=>
           rw[hrun] at h1
           cases x<;>simp only[Oper.upon] at h1 ⊢
           case panic u=>exact hQ _ _ _ h1
         |ok nx w'=>
           rw[hrun] at h1
           have hb:=hke P w nx w' hrun
           have hw':cG w0.heap.size w0 w':=hw.trans (hb.mono hw.size)
           obtain⟨u,rfl⟩:=hval P w nx w' hrun
           simp only[Oper.upon] at h1 ⊢
           refine⟨h1.1,ih (listed.setIfInBounds j true) (a.put dst u) w' hw' h1.1 hsub' hD' hfree' (ready_mono hr (Ne.symm hji)) (keep u) ?_⟩
           have h3:=h1.2
           rw[show(a.put oi.dst v).put dst u=(a.put dst u).put oi.dst v from Act.put_comm a v u g2,Array.setIfInBounds_comm _ _ (Ne.symm hji)] at h3
           exact h3
       · right
         refine⟨?_,h2⟩
         unfold Oper.asks at*
         rw[execOp_put oj (λcs b=>hsel j oj cs b hoj) a oi.dst v g1] at h1
         exact h1
end
end TL
namespace TL
open Go
section
variable{P:Program}{n:Nat}{l:List Oper}{S:World->Prop}{K:Fr->World->Prop}{f:Fr}{w:World}{done:List Nat}{fuel:Nat}
variable{dst:Option Tmp}{op:Op}{ty:TypeId}{pos:String}{after:Array Edge}{g:Option (Nat×Bool)}{v:Value}
def mM(l:List Oper)(done M:List Nat)(i:Nat):Bool:=
 ((List.range l.length).all λj=>M.contains j||j==i||match l[j]? with
     |some oj=>oj.after.any λe=>Region.binds .any e&& !M.contains e.on
     |none=>true)&&
 (M.all λj=>j==i||done.contains j||match l[j]? with
     |some oj=>dv oj.op
     |none=>false)&&(done.all λj=>M.contains j&&decide (j<l.length))&&M.all λj=>decide (j<l.length)
theorem ie(i:Nat)(M:List Nat)(hi:l[i]? =some ⟨dst,op,ty,pos,after,g⟩)(hn:eo l=true)(hc:(dT l done i&&fj l done i&&mM l done M i&&iM n ⟨dst,op,ty,pos,after,g⟩)=true)
    (hw:cf l ⟨dst,op,ty,pos,after,g⟩ f=true)(hS:S w)(h:∀w',cG w.heap.size w w'->(execOp (ev f) ⟨dst,op,ty,pos,after,g⟩).run P w'= .ok (.value v) w')(hk:lE P n l S K fuel (i::done) (ey f dst v) w):lE P n l S K (fuel+1) done f w:=by
  simp only[Bool.and_eq_true] at hc
  obtain⟨⟨⟨hr,hf⟩,hb⟩,hd⟩:=hc
  obtain⟨hlt,hr'⟩:=dD hr
  intro a ha
  unfold mM at hb
  simp only[Bool.and_eq_true,List.all_eq_true,List.mem_range] at hb
  obtain⟨⟨⟨b1,b2⟩,b3⟩,b4⟩:=hb
  have hgM:∀j,(bK l.length M).getD j false=true↔j∈M:=λj=>by
    rw[bY]
    by_cases hjl:j<l.length
    · simp[hjl]
    · simp only[hjl,if_false,Bool.false_eq_true,false_iff]
      exact λhm=>hjl (by simpa using b4 j hm)
  refine kS (v:=v) (w0:=w) (M:=bK l.length M) (D:=bK l.length done) (by simpa using hi) (fp hn) (λc a w h=>by cases h.1) (λj oj hj hm hne=>?_) (λj oj hj hm hD hne=>?_) fuel _ a w (cG.refl _ _) hS (λj hj=>?_) (λj hj=>hj) (e5 hi hf) hr' (λw' hw'=>?_) ?_
  · have hj':l[j]? =some oj:=by simpa using hj
    have hjl:j<l.length:=(List.getElem?_eq_some_iff.1 hj').1
    have h1:=b1 j hjl
    have hmM:M.contains j=false:=by
      cases hc:M.contains j with
      |false=>rfl
      |true=>have h9:=(hgM j).2 (by simpa using hc);rw[hm] at h9;cases h9
    simp only[hmM,hj',Bool.false_or,Bool.or_eq_true,beq_iff_eq,hne,false_or] at h1
    obtain⟨e,he,hbb⟩:=Array.any_eq_true'.1 h1
    simp only[Bool.and_eq_true,Bool.not_eq_true'] at hbb
    refine⟨e,he,hbb.1,?_⟩
    cases hc:(bK l.length M).getD e.on false with
    |false=>rfl
    |true=>
      have:=(hgM _).1 hc
      have h2:=hbb.2
      simp[this] at h2
  · have h1:=b2 j ((hgM j).1 hm)
    have hj':l[j]? =some oj:=by simpa using hj
    have hjl:j<l.length:=(List.getElem?_eq_some_iff.1 hj').1
    rw[bY,if_pos hjl] at hD
    have hd:done.contains j=false:=by simpa using hD
    simp only[hj',Bool.or_eq_true,beq_iff_eq,hne,hd,false_or,Bool.false_eq_true] at h1
    exact h1
  · rw[bY] at hj
    split at hj
    · have h1:=b3 j (by simpa using hj)
      exact(hgM j).2 (by simpa using h1.1)
    · cases hj
  · refine⟨?_,?_⟩
    · rw[ha.yielded];exact hw
    · rw[ha.eval];exact h w' hw'
  · rw[cC done hlt]
    exact hk _ (ha.put hd v)
end
end TL
namespace TL
open Go
def n7:List Nat->List Item->List Item
  |[],k=>k
  |1::c,.code (.seq x y)::k=>n7 c (.code x:: .code y::k)
  |2::c,.code (.cond _ _ y)::k=>n7 c (.code y::k)
  |3::c,.code (.cond _ x _)::k=>n7 c (.code x::k)
  |0::c,_::k=>n7 c k
  |_,k=>k
theorem jT(c:List Nat){P:Program}{fid n:Nat}{R:Ending->World->Prop}{k:List Item}{f:Fr}{w:World}{σ:Type}(Mid:σ->Fr->World->Prop)
    (h:(∀s f w,Mid s f w->dq P fid n R (n7 c k) f w)->dq P fid n R k f w)(hk:∀s f w,Mid s f w->dq P fid n R (n7 c k) f w):dq P fid n R k f w:=h hk
end TL
set_option linter.unusedVariables false
namespace TL
variable{a b c d:Int×Int}
theorem o1{A B C D:Prop}[Decidable A](h:decide A=true):A\/B\/C\/D:=.inl (of_decide_eq_true h)
theorem o2{A B C D:Prop}[Decidable B](h:decide B=true):A\/B\/C\/D:=.inr (.inl (of_decide_eq_true h))
theorem o3{A B C D:Prop}[Decidable C](h:decide C=true):A\/B\/C\/D:=.inr (.inr (.inl (of_decide_eq_true h)))
theorem o4{A B C D:Prop}[Decidable D](h:decide D=true):A\/B\/C\/D:=.inr (.inr (.inr (of_decide_eq_true h)))
theorem o5{A B C D:Prop}[Decidable A][Decidable B][Decidable C][Decidable D](h1:¬decide A=true)(h2:¬decide B=true)(h3:¬decide C=true)(h4:¬decide D=true):¬(A\/B\/C\/D):=by
 rintro(h|h|h|h)
 · exact h1 (decide_eq_true h)
 · exact h2 (decide_eq_true h)
 · exact h3 (decide_eq_true h)
 · exact h4 (decide_eq_true h)
end TL
/-
  TlCyc: lists gone round: what stands behind what; rotations turned, and moved.
  By an AI agent.
-/
set_option linter.all false
namespace TL
def tt(l:List Int)(h:Int):Int:=gI l ((((l.idxOf h:Nat):Int)+1)%(l.length:Int))
section
variable{g:cJ}{r:qT}{to:List Int}
end
end TL
/-
  TlOrb: going round by a permutation; two places changed; what that does to the numbers of rounds.
  By an AI agent.
-/
set_option linter.all false
namespace TL
def tr(a b x:Int):Int:=if x=a then b else if x=b then a else x
theorem least{P:Nat->Prop}:∀(k:Nat),P k->∃m,P m/\∀j,j<m->¬P j:=by
 intro k
 induction k using Nat.strongRecOn with
 |ind k ih=>
   intro hk
   by_cases c:∃j,j<k/\P j
   · obtain⟨j,hj,hp⟩:=c
     exact ih j hj hp
   · exact⟨k,hk,λj hj hp=>c ⟨j,hj,hp⟩⟩
end TL
/-
  TlEul: Euler's count of a rotation.
  By an AI agent.
-/
set_option linter.all false
namespace TL
def cy(r:qT)(x:Int):Int:=match r.find? (λl=>decide (x∈l)) with
  |some l=>tt l x
  |none=>x
end TL
/-
  TlDual: faces as nodes: the dual, corners' faces, edges laid, taken and split, ways over faces, as plain functions.
  By an AI agent.
-/
set_option linter.all false
namespace TL
def qy(g:cJ)(r:qT)(c:Int×Int):Prop:=(0<=c.1/\c.1<g.1)/\if((gI r c.1).length:Int)=0 then c.2= -1 else c.2∈gI r c.1
instance (g:cJ)(r:qT)(c:Int×Int):Decidable (qy g r c):=by unfold qy;infer_instance
theorem nY{l:List Int}{x:Int}:decide (0<=fQ l x)=decide (x∈l):=by
 unfold fQ
 by_cases h:x∈l
 · rw[if_pos h,decide_eq_true h,decide_eq_true (by omega)]
 · rw[if_neg h,decide_eq_false h];rfl
end TL
namespace TL
end TL
namespace TL
end TL
namespace TL
section
variable{g:cJ}{r:qT}{a b:Int×Int}
end
end TL
/-
  TlArr: the whole of an array that lies in a list, as a list.
  By an AI agent.
-/
set_option linter.all false
namespace TL
open Go
def lh(v:Value)(i:Nat):Value:=.slice (some (bb v 2 i)) 2 2
section
variable{P:Program}{f:Fr}{w:World}{dst:Option Tmp}{ty:TypeId}{pos:String}{after:Array Edge}{g:Option (Nat×Bool)}{t e:TypeId}{x y:Operand}
theorem eb{v:Value}{i:Nat}(ht:P.underlying t=some (.array 2 e))(hs:(P.info? e).map (·.size)=some 1)(hx:ev f x= .pointer (some (bb v 2 i))):
   (execOp (ev f) ⟨dst,.slice t x none none none,ty,pos,after,g⟩).run P w= .ok (.value (lh v i)) w:=by
 cases hq:P.info? e with
 |none=>simp[hq] at hs
 |some q=>
   have hsub:execOp (ev f) ⟨dst,.slice t x none none none,ty,pos,after,g⟩=(do pure (.value (<-Instr.sliceAt t (.pointer (some (bb v 2 i))) none none none))):=by
     simp[execOp,hx]
   rw[hsub]
   have ha:(bb v 2 i).add 0=bb v 2 i:=by rw[gH,Nat.add_zero,<-fu]
   simp[Instr.sliceAt,Instr.sureAddr,Instr.sliceBounds,bp ht,cb hq,lh,ha]
theorem jh{γ:aV}{S:ch->Prop}{v:Value}{xs:List (Int×Int)}{i:Int}(hs:Sl γ S w v xs)(h0:0<=i)(h1:i<xs.length):Sl γ S w (lh v i.toNat) [(gI xs i).1,(gI xs i).2]:=by
 have hg:=gK h0 h1
 rcases hs with⟨⟨_,rfl⟩,rfl⟩|⟨b,off,cap,rfl,_,hx⟩
 · simp at h1;omega
 · obtain⟨hb,hS,cs,hcs,hr⟩:=hx _ _ hg
   have hr':cs=[.int .i64 (gI xs i).1,.int .i64 (gI xs i).2]:=by
     have:=Fl.rep_iff.1 hr
     simpa[Fl.cells] using this
   refine .inr ⟨b,off+i.toNat*2,2,rfl,⟨by simp,by simp⟩,λj x hj=>?_⟩
   have hc0:=hcs 0 (by decide)
   have hc1:=hcs 1 (by decide)
   rw[hr'] at hc0 hc1
   have hlt:j<2:=by have:=(List.getElem?_eq_some_iff.1 hj).1;simpa using this
   rcases(by omega:j=0\/j=1) with rfl|rfl
   · have hx0:(gI xs i).1=x:=by simpa using hj
     refine⟨hb,hS,[.int .i64 (gI xs i).1],λq hq=>?_,by rw[hx0];rfl⟩
     have:q=0:=by have h9:q<1:=hq;omega
     subst this
     exact hc0
   · have hx0:(gI xs i).2=x:=by simpa using hj
     refine⟨hb,hS,[.int .i64 (gI xs i).2],λq hq=>?_,by rw[hx0];rfl⟩
     have:q=0:=by have h9:q<1:=hq;omega
     subst this
     exact hc1
end
end TL
/-
  TlJudge2: what is told of a plot; its rotation.
  By an AI agent.
-/
set_option linter.all false
namespace TL
def br(p:ci):List Pt:=p.1++p.2.flatten
theorem og{p:ci}{l:List Pt}{k:Nat}(h:l=p.1++(p.2.take k).flatten/\(l.length:Int)<=1024+4096*(k:Int))(hk:(k:Int)<p.2.length)(hl:(gI p.2 (k:Int)).length<=4096):l++gI p.2 (k:Int)=p.1++(p.2.take (k+1)).flatten/\((l++gI p.2 (k:Int)).length:Int)<=1024+4096*((k+1:Nat):Int):=by
 refine⟨by rw[dn hk,h.1];simp,?_⟩
 rw[List.length_append];have:=h.2;omega
theorem oQ{p:ci}{l:List Pt}{k:Nat}(h:l=p.1++(p.2.take k).flatten)(hk:¬(k:Int)<p.2.length):l=br p:=by
 rw[List.take_of_length_le (by omega)] at h;exact h
def eV(p:ci):Nat->Int
 |0=>0
 |k+1=>eV p k+(((gI p.2 (k:Int)).length:Int)-2)
theorem k7{p:ci}(h:∀e:Int,0<=e->e<p.2.length->2<=((gI p.2 e).length:Int)/\fF (gI p.2 e)):∀k:Nat,(k:Int)<=p.2.length->0<=eV p k/\eV p k<=4096*(k:Int)
 |0,_=>by simp[eV]
 |k+1,hk=>by
   have h1:=k7 h k (by omega)
   obtain⟨h2,h3,_⟩:=h (k:Int) (by omega) (by omega)
   unfold eV;omega
def eA(f:Nat->Bool):Nat->Bool
 |0=>true
 |k+1=>eA f k&&f k
def kY(l:List Pt)(j:Nat):Bool:=decide ((gI l (j:Int)).1=(gI l ((j:Int)+1)).1\/(gI l (j:Int)).2=(gI l ((j:Int)+1)).2)
def sY(p:ci)(e:Nat):Bool:=eA (kY (gI p.2 (e:Int))) ((gI p.2 (e:Int)).length-1)
def j5(p:ci)(k:Nat):Bool:=eA (sY p) k
section
variable{p:ci}{l:List Pt}{a b:Bool}{i k:Nat}
theorem pL(h:a=j5 p k):1<=(1:Nat)/\a=(j5 p k&&eA (kY l) (1-1)):=⟨Nat.le_refl _,by rw[h];simp[eA]⟩
theorem ta(h:1<=i/\a=(j5 p k&&eA (kY l) (i-1)))(ha:a=true)(hx:(gI l ((i:Int)-1)).1=(gI l (i:Int)).1):1<=i+1/\true=(j5 p k&&eA (kY l) (i+1-1)):=by
 obtain⟨h1,h2⟩:=h
 refine⟨by omega,?_⟩
 obtain⟨j,rfl⟩:∃j,i=j+1:=⟨i-1,by omega⟩
 have e:(((j+1:Nat):Int)-1)=(j:Int):=by omega
 have e2:((j+1:Nat):Int)=(j:Int)+1:=by omega
 rw[e,e2] at hx
 rw[Nat.add_sub_cancel,eA,<-Bool.and_assoc]
 rw[Nat.add_sub_cancel] at h2
 rw[<-h2,ha]
 unfold kY
 rw[decide_eq_true (.inl hx)];rfl
theorem sW(h:1<=i/\a=(j5 p k&&eA (kY l) (i-1)))(ha:a=true)(hx:¬(gI l ((i:Int)-1)).1=(gI l (i:Int)).1):1<=i+1/\decide ((gI l ((i:Int)-1)).2=(gI l (i:Int)).2)=(j5 p k&&eA (kY l) (i+1-1)):=by
 obtain⟨h1,h2⟩:=h
 refine⟨by omega,?_⟩
 obtain⟨j,rfl⟩:∃j,i=j+1:=⟨i-1,by omega⟩
 have e:(((j+1:Nat):Int)-1)=(j:Int):=by omega
 have e2:((j+1:Nat):Int)=(j:Int)+1:=by omega
 rw[e,e2] at hx ⊢
 rw[Nat.add_sub_cancel,eA,<-Bool.and_assoc]
 rw[Nat.add_sub_cancel] at h2
 rw[<-h2,ha]
 unfold kY
 rw[Bool.true_and,decide_eq_decide]
 exact⟨.inr,λh=>h.resolve_left hx⟩
theorem t7(h:1<=i/\a=(j5 p k&&eA (kY l) (i-1)))(ha:¬a=true):1<=i+1/\false=(j5 p k&&eA (kY l) (i+1-1)):=by
 obtain⟨h1,h2⟩:=h
 refine⟨by omega,?_⟩
 obtain⟨j,rfl⟩:∃j,i=j+1:=⟨i-1,by omega⟩
 rw[Nat.add_sub_cancel,eA,<-Bool.and_assoc]
 rw[Nat.add_sub_cancel] at h2
 rw[<-h2,Bool.eq_false_iff.2 ha];rfl
theorem rM(hb:b=j5 p k)(h:1<=i/\a=(j5 p k&&eA (kY (gI p.2 (k:Int))) (i-1)))(hi:¬(i:Int)<(gI p.2 (k:Int)).length)(hi2:(i:Int)<=(gI p.2 (k:Int)).length):a=j5 p (k+1):=by
 have:i=(gI p.2 (k:Int)).length:=by omega
 rw[h.2,this];rfl
end
def gk(p:ci):Int×Int:=
 if 0<((br p).length:Int) then((kV (br p) (br p).length).1-(li (br p) (br p).length).1,(kV (br p) (br p).length).2-(li (br p) (br p).length).2) else(0,0)
def dI(p:ci):Int×Int×Int×Bool×Bool:=(eV p p.2.length,(gk p).1,(gk p).2,decide (eV p p.2.length=0),j5 p p.2.length)
def ad(g:cJ)(p:ci):(Int×Int×Int×Bool×Bool)×Int:=
 if dd g then if cF g p=[] then(dI p,0) else((0,0,0,false,false),24) else((0,0,0,false,false),1)
section
variable{g:cJ}{p:ci}
theorem nJ(h:ni g p):∀q∈br p,c5 q:=by
 intro q hq
 unfold br at hq
 rcases List.mem_append.1 hq with hq|hq
 · obtain⟨i,hi,rfl⟩:=List.mem_iff_getElem.1 hq
   have:=h.pt (i:Int) (by omega) (by omega)
   rwa[show gI p.1 (i:Int)=p.1[i] by simp[gI,hi]] at this
 · obtain⟨l,hl,hq⟩:=List.mem_flatten.1 hq
   obtain⟨i,hi,rfl⟩:=List.mem_iff_getElem.1 hl
   have:=(h.ln (i:Int) (by omega) (by omega)).2.2
   rw[show gI p.2 (i:Int)=p.2[i] by simp[gI,hi]] at this
   exact this q hq
theorem nO{l:List Pt}(h:∀q∈l,c5 q)(h0:0<l.length):∀k:Nat,k<=l.length->c5 (li l k)/\c5 (kV l k)
 |0,_=>⟨h _ (bl (by omega) (by omega)),h _ (bl (by omega) (by omega))⟩
 |k+1,hk=>by
   obtain⟨h1,h2⟩:=nO h h0 k (by omega)
   have h3:=h _ (bl (xs:=l) (i:=(k:Int)) (by omega) (by omega))
   unfold li kV
   unfold c5 at*
   simp only
   omega
theorem nZ(h:¬dd g):ad g p=((0,0,0,false,false),1):=by unfold ad;rw[if_neg h]
theorem lH(h:dd g){F:List ej}(hF:F=cF g p)(h1:0<(F.length:Int)):ad g p=((0,0,0,false,false),24):=by
 unfold ad
 rw[if_pos h,if_neg]
 intro e
 rw[hF,e] at h1
 simp at h1
theorem jf(h:dd g)(h1:cF g p=[]):ad g p=(dI p,0):=by unfold ad;rw[if_pos h,if_pos h1]
theorem rQ{n:Int}{a:Bool}{k q:Nat}{x1 x2 y1 y2:Int}(hn:n=eV p k)(ha:a=j5 p k)(hk:k=p.2.length)(h0:0<((br p).length:Int))(hb:(x1=(li (br p) q).1/\x2=(li (br p) q).2)/\y1=(kV (br p) q).1/\y2=(kV (br p) q).2)(hq:q=(br p).length):
   (n,y1-x1,y2-x2,decide (n=0),a)=dI p:=by
 obtain⟨⟨e1,e2⟩,e3,e4⟩:=hb
 subst hk hq
 unfold dI gk
 rw[if_pos h0,hn,ha,e1,e2,e3,e4]
theorem rL{n:Int}{a:Bool}{k:Nat}(hn:n=eV p k)(ha:a=j5 p k)(hk:k=p.2.length)(h0:¬0<((br p).length:Int)):(n,0,0,decide (n=0),a)=dI p:=by
 subst hk
 unfold dI gk
 rw[if_neg h0,hn,ha]
end
def sT(p:ci)(l:List Int):List Pt:=l.map (t4 p)
def rF(p:ci)(o:Pt)(l:List Int):Prop:=∃j:Nat,j<l.length/\0<j/\nR (eR (gI (sT p l) (gI (arL o (sT p l)) ((j:Int)-1))) o) (eR (gI (sT p l) (gI (arL o (sT p l)) (j:Int))) o)
noncomputable instance (p:ci) (o:Pt) (l:List Int):Decidable (rF p o l):=by unfold rF;infer_instance
def si(g:cJ)(p:ci):Prop:=∃v:Nat,v<g.1.toNat/\rF p (gI p.1 (v:Int)) (t2 g (v:Int))
noncomputable instance (g:cJ) (p:ci):Decidable (si g p):=by unfold si;infer_instance
end TL
/-
  TlFloat: floating numbers that are no NaN and have no sign: their bits, as a natural number, stand as they do; sums, roots and quotients of such.
  By an AI agent.
-/
set_option linter.all false
namespace TL
open Ieee
abbrev aJ:Nat:=9218868437227405312
abbrev ij:Nat:=9221120237041090561
def mg(x:Nat):Nat:=if x<4503599627370496 then x else 4503599627370496+x%4503599627370496
def pl(x:Nat):Nat:=x/4503599627370496-1
def vl(x:Nat):Nat:=mg x*2^pl x
theorem kt:double.binade=4503599627370496:=by decide
theorem im:double.infRung=aJ:=by decide
theorem oo:double.signWeight=9223372036854775808:=by decide
theorem oD:double.leastPlace= -1074:=by decide
theorem bA{x:Nat}(h:x<aJ):double.read x= .number false (mg x) (-1074+(pl x:Nat)):=by
 unfold Format.read
 simp only[kt,im,oo,oD]
 have hh:x<9218868437227405312:=h
 have h1:x/9223372036854775808=0:=Nat.div_eq_of_lt (by omega)
 have h2:x%9223372036854775808=x:=Nat.mod_eq_of_lt (by omega)
 rw[h1,h2]
 by_cases hx:x<4503599627370496
 · rw[if_pos hx]
   have:pl x=0:=by unfold pl;omega
   simp[mg,hx,this]
 · rw[if_neg hx,if_pos h]
   simp[mg,hx,pl]
theorem eW:double.read aJ= .infinity false:=by decide
theorem eg{x:Nat}(h:x<=aJ):(∃m i,double.read x= .number false m i)\/double.read x= .infinity false:=by
 rcases Nat.lt_or_ge x aJ with c|c
 · exact .inl ⟨_,_,bA c⟩
 · rw[show x=aJ by omega];exact .inr eW
theorem dO{x:Nat}:mg x=0↔x=0:=by unfold mg;split<;>omega
theorem fG(x:Nat):mg x<9007199254740992:=by unfold mg;split<;>omega
theorem oP{x y:Nat}(h:x<=y):pl x<=pl y:=by unfold pl;omega
theorem oe{x y:Nat}(h:x<y):vl x<vl y:=by
 unfold vl
 by_cases e:pl x=pl y
 · rw[e]
   refine Nat.mul_lt_mul_of_pos_right ?_ (Nat.two_pow_pos _)
   unfold mg;unfold pl at e
   split<;>split<;>omega
 · have hp:=oP (Nat.le_of_lt h)
   obtain⟨d,hd⟩:∃d,pl y=pl x+1+d:=⟨pl y-pl x-1,by omega⟩
   have hy:4503599627370496<=mg y:=by
     unfold pl at e hd;unfold mg;split<;>omega
   rw[hd,Nat.pow_add,Nat.pow_succ]
   have hx:=fG x
   have h1:0<2^pl x:=Nat.two_pow_pos _
   have h2:1<=2^d:=Nat.two_pow_pos _
   calc mg x*2^pl x<9007199254740992*2^pl x:=Nat.mul_lt_mul_of_pos_right hx h1
     _=4503599627370496*(2^pl x*2*1):=by omega
     _<=mg y*(2^pl x*2*2^d):=Nat.mul_le_mul hy (Nat.mul_le_mul_left _ h2)
theorem qD{x y:Nat}(h:x<=y):vl x<=vl y:=by
 rcases Nat.lt_or_ge x y with c|c
 · exact Nat.le_of_lt (oe c)
 · rw[show x=y by omega];exact Nat.le_refl _
theorem db(m k:Nat):m <<< k=m*2^k:=Nat.shiftLeft_eq m k
theorem jx(a b:Nat):min (-1074+(a:Int)) (-1074+(b:Int))= -1074+((min a b:Nat):Int):=by omega
theorem nC(a b:Nat):(-1074+(a:Int)-(-1074+((min a b:Nat):Int))).toNat=a-min a b:=by omega
theorem ly(a b:Nat):(-1074+(b:Int)-(-1074+((min a b:Nat):Int))).toNat=b-min a b:=by omega
theorem dS{a b:Nat}(h:b<=a):2^(a-b)*2^b=2^a:=by rw[<-Nat.pow_add];congr 1;omega
theorem pf(a b:Nat):compare (a:Int) (b:Int)=compare a b:=by
 rcases Nat.lt_trichotomy a b with h|h|h
 · simp[compare,compareOfLessAndEq,h]
 · subst h;simp[compare,compareOfLessAndEq]
 · have h1:¬a<b:=by omega
   have h2:¬a=b:=by omega
   have h3:¬(a:Int)<b:=by omega
   have h4:¬(a:Int)=b:=by omega
   simp[compare,compareOfLessAndEq,h1,h2,h3,h4]
theorem gJ{a b:Nat}(h:a<b):compare a b= .lt:=by simp[compare,compareOfLessAndEq,h]
theorem gL{a b:Nat}(h:b<a):compare a b= .gt:=by simp[compare,compareOfLessAndEq,Nat.not_lt.2 (Nat.le_of_lt h),Nat.ne_of_gt h]
theorem f9(a:Nat):compare a a= .eq:=by simp[compare,compareOfLessAndEq]
theorem gA{x y:Nat}(hx:x<=aJ)(hy:y<=aJ):double.order x y=some (compare x y):=by
  unfold Format.order
  rcases Nat.lt_or_ge x aJ with cx|cx<;>rcases Nat.lt_or_ge y aJ with cy|cy
  · rw[bA cx,bA cy]
    simp only[Datum.order,signed,jx,nC,ly,pf,db,Bool.false_eq_true,if_false]
    have k1:=dS (a:=pl x) (b:=min (pl x) (pl y)) (by omega)
    have k2:=dS (a:=pl y) (b:=min (pl x) (pl y)) (by omega)
    have h0:0<2^min (pl x) (pl y):=Nat.two_pow_pos _
    have e1:vl x=mg x*2^(pl x-min (pl x) (pl y))*2^min (pl x) (pl y):=by rw[Nat.mul_assoc,k1];rfl
    have e2:vl y=mg y*2^(pl y-min (pl x) (pl y))*2^min (pl x) (pl y):=by rw[Nat.mul_assoc,k2];rfl
    rcases Nat.lt_trichotomy x y with c|c|c
    · rw[gJ c];congr 1;refine gJ ?_
      have:=oe c;rw[e1,e2] at this;exact Nat.lt_of_mul_lt_mul_right this
    · subst c;rw[f9,f9]
    · rw[gL c];congr 1;refine gL ?_
      have:=oe c;rw[e1,e2] at this;exact Nat.lt_of_mul_lt_mul_right this
  · rw[bA cx,show y=aJ by omega,eW];simp[Datum.order,gJ cx]
  · rw[bA cy,show x=aJ by omega,eW];simp[Datum.order,gL cy]
  · rw[show x=aJ by omega,show y=aJ by omega,eW];simp[Datum.order,f9]
theorem dN(m:Nat)(p:Int):double.nearest false m p<=aJ:=by
 unfold Format.nearest
 dsimp only
 split
 · simp[Format.word]
 · simp only[Format.word,Bool.false_eq_true,if_false]
   exact Nat.le_trans (Nat.min_le_right _ _) (Nat.le_of_eq im)
theorem dy:double.write (.infinity false)=aJ:=by decide
theorem iR(s:Bool){r:Nat}(h:r<=aJ):∀q t,double.read (double.word s r)≠ .nan q t:=by
 intro q t
 unfold Format.read
 simp only[kt,im,oo,oD]
 have h2:double.word s r%9223372036854775808=r:=by
   have h':r<=9218868437227405312:=h
   unfold Format.word;rw[oo];split<;>omega
 rw[h2]
 have h':r<=9218868437227405312:=h
 split
 · simp
 · split
   · simp
   · rename_i c;have c':¬r<9218868437227405312:=c
     rw[if_pos (show r=aJ by show r=9218868437227405312;omega)];simp
theorem n5(s:Bool)(m:Nat)(p:Int):∃r,r<=aJ/\double.nearest s m p=double.word s r:=by
 unfold Format.nearest
 dsimp only
 split
 · exact⟨0,by omega,rfl⟩
 · exact⟨_,Nat.le_trans (Nat.min_le_right _ _) (Nat.le_of_eq im),rfl⟩
def cE(x y:Nat):Nat:=(double.add x y).getD ij
def cr(x y:Nat):Nat:=(double.sub x y).getD ij
def bi(x y:Nat):Nat:=(double.mul x y).getD ij
def aO(x y:Nat):Nat:=(double.div x y).getD ij
def az(x:Nat):Nat:=(double.sqrt x).getD ij
theorem mY{o:Option Nat}{d:Nat}(h:o.isSome=true):o=some (o.getD d):=by cases o<;>simp_all
theorem eT{x y:Nat}(hx:x<=aJ)(hy:y<=aJ):double.add x y=some (cE x y)/\cE x y<=aJ:=by
 have:∃z,double.add x y=some z/\z<=aJ:=by
   unfold Format.add
   rcases eg hx with⟨m,i,e⟩|e<;>rcases eg hy with⟨n,j,e'⟩|e'<;>rw[e,e']
   · refine⟨_,rfl,?_⟩
     have k:(if signed false m (i-min i j).toNat+signed false n (j-min i j).toNat=0 then false&&false else decide (signed false m (i-min i j).toNat+signed false n (j-min i j).toNat<0))=false:=by
       simp only[signed,Bool.false_eq_true,if_false]
       split
       · rfl
       · exact decide_eq_false (Int.not_lt.2 (Int.add_nonneg (Int.natCast_nonneg _) (Int.natCast_nonneg _)))
     simp only[k]
     exact dN _ _
   · exact⟨_,rfl,Nat.le_of_eq dy⟩
   · exact⟨_,rfl,Nat.le_of_eq dy⟩
   · exact⟨_,rfl,Nat.le_of_eq dy⟩
 obtain⟨z,h1,h2⟩:=this
 unfold cE;rw[h1];exact⟨rfl,h2⟩
theorem ob{x y:Nat}(hx:x<aJ)(hy:y<=aJ):double.sub x y=some (cr x y):=by
 refine mY ?_
 unfold Format.sub
 rw[bA hx]
 rcases eg hy with⟨n,j,e⟩|e<;>rw[e]<;>rfl
def fE(x:Nat):Prop:=∀q t,double.read x≠ .nan q t
theorem ft{d:Datum}(h:∀q t,d≠ .nan q t):fE (double.write d):=by
 cases d with
 |nan q t=>exact absurd rfl (h q t)
 |infinity s=>exact iR s (r:=aJ) (Nat.le_refl _)
 |number s m i=>
   obtain⟨r,hr,e⟩:=n5 s m i
   show fE (double.nearest s m i)
   rw[e];exact iR s hr
theorem pi{x y:Nat}(hx:x<aJ)(hy:y<=aJ):fE (cr x y):=by
 have h:=ob hx hy
 unfold Format.sub at h
 rw[bA hx] at h
 rcases eg hy with⟨n,j,e⟩|e<;>rw[e] at h
 · rw[<-Option.some.inj h];exact ft (λq t=>by simp)
 · rw[<-Option.some.inj h];exact ft (λq t=>by simp)
theorem qw{x:Nat}(h:fE x):double.mul x x=some (bi x x)/\bi x x<=aJ:=by
 have:∃z,double.mul x x=some z/\z<=aJ:=by
   unfold Format.mul
   cases e:double.read x with
   |nan q t=>exact absurd e (h q t)
   |infinity s=>exact⟨_,rfl,by cases s<;>decide⟩
   |number s m i=>
     refine⟨_,rfl,?_⟩
     simp only[Datum.product,Bool.xor_self]
     exact dN _ _
 obtain⟨z,h1,h2⟩:=this
 unfold bi;rw[h1];exact⟨rfl,h2⟩
theorem cu{x y:Nat}(hx:x<aJ)(hy:y<aJ):double.mul x y=some (bi x y)/\bi x y<=aJ:=by
 have:∃z,double.mul x y=some z/\z<=aJ:=by
   unfold Format.mul
   rw[bA hx,bA hy]
   exact⟨_,rfl,dN _ _⟩
 obtain⟨z,h1,h2⟩:=this
 unfold bi;rw[h1];exact⟨rfl,h2⟩
theorem kZ{x y:Nat}(hx:x<=aJ)(hy:y<aJ)(h:¬y=0):double.div x y=some (aO x y)/\aO x y<=aJ:=by
 have:∃z,double.div x y=some z/\z<=aJ:=by
   unfold Format.div
   rw[bA hy]
   have h0:¬mg y=0:=λe=>h (dO.1 e)
   rcases eg hx with⟨m,i,e⟩|e<;>rw[e]
   · simp only[Datum.quotient,if_neg h0,Option.map_some]
     exact⟨_,rfl,dN _ _⟩
   · exact⟨_,rfl,Nat.le_of_eq dy⟩
 obtain⟨z,h1,h2⟩:=this
 unfold aO;rw[h1];exact⟨rfl,h2⟩
theorem kI{x:Nat}(hx:x<=aJ)(h:¬x=0):double.div x 0=some aJ:=by
 unfold Format.div
 rw[bA (x:=0) (by omega)]
 have h0:mg 0=0:=rfl
 rcases Nat.lt_or_ge x aJ with c|c
 · have h1:¬mg x=0:=λe=>h (dO.1 e)
   rw[bA c]
   simp only[Datum.quotient,h0,if_neg h1,if_true]
   rfl
 · rw[show x=aJ by omega,eW];rfl
theorem gh{x:Nat}(hx:x<=aJ):double.sqrt x=some (az x)/\az x<=aJ:=by
 have:∃z,double.sqrt x=some z/\z<=aJ:=by
   unfold Format.sqrt
   rcases eg hx with⟨m,i,e⟩|e<;>rw[e]
   · simp only[Datum.root]
     split
     · exact⟨_,rfl,dN _ _⟩
     · exact⟨_,rfl,dN _ _⟩
   · exact⟨_,rfl,Nat.le_of_eq dy⟩
 obtain⟨z,h1,h2⟩:=this
 unfold az;rw[h1];exact⟨rfl,h2⟩
end TL
/-
  TlFloat2: how far a rounded number lies from what is rounded; sums and roots that are finite; sums with nought.
  By an AI agent.
-/
set_option linter.all false
namespace TL
open Ieee
def e9(n d:Nat):Nat:=n/2^d+(if 2^d<2*(n%2^d)\/2^d=2*(n%2^d)/\n/2^d%2=1 then 1 else 0)
theorem kP(s:Bool)(n d:Nat):Toward.even.cut s n d=e9 n d:=by
 unfold Toward.cut e9
 simp only[db,Nat.one_mul]
 have hb:∀g:Nat,(n/g+(decide (g<2*(n%g))||g==2*(n%g)&&n/g%2==1).toNat)=n/g+(if g<2*(n%g)\/g=2*(n%g)/\n/g%2=1 then 1 else 0):=by
   intro g
   congr 1
   by_cases c:g<2*(n%g)\/g=2*(n%g)/\n/g%2=1
   · rw[if_pos c]
     have:(decide (g<2*(n%g))||g==2*(n%g)&&n/g%2==1)=true:=by simpa using c
     rw[this];rfl
   · rw[if_neg c]
     have:(decide (g<2*(n%g))||g==2*(n%g)&&n/g%2==1)=false:=by
       rw[<-Bool.not_eq_true];simpa using c
     rw[this];rfl
 rw[hb]
 rcases(Nat.lt_or_ge (n.log2+2) d).symm with c|c
 · rw[Nat.min_eq_left c]
 · rw[Nat.min_eq_right (Nat.le_of_lt c)]
   have h1:n<2^(n.log2+1):=Nat.lt_log2_self
   have h2:2^(n.log2+2)=2*2^(n.log2+1):=by rw[Nat.pow_succ];omega
   have h3:2^(n.log2+2)<=2^d:=Nat.pow_le_pow_right (by omega) (by omega)
   rw[Nat.div_eq_of_lt (show n<2^(n.log2+2) by omega),Nat.mod_eq_of_lt (show n<2^(n.log2+2) by omega),Nat.div_eq_of_lt (show n<2^d by omega),Nat.mod_eq_of_lt (show n<2^d by omega)]
   rw[if_neg (by omega),if_neg (by omega)]
theorem dV(n d k:Nat):e9 (n*2^k) (d+k)=e9 n d:=by
 unfold e9
 have h0:0<2^k:=Nat.two_pow_pos _
 rw[Nat.pow_add,Nat.mul_div_mul_right _ _ h0,Nat.mul_mod_mul_right]
 have e:2*(n%2^d*2^k)=2*(n%2^d)*2^k:=by rw[Nat.mul_assoc]
 rw[e]
 congr 1
 have a1:2^d*2^k<2*(n%2^d)*2^k↔2^d<2*(n%2^d):=⟨λh=>Nat.lt_of_mul_lt_mul_right h,λh=>Nat.mul_lt_mul_of_pos_right h h0⟩
 have a2:2^d*2^k=2*(n%2^d)*2^k↔2^d=2*(n%2^d):=⟨λh=>Nat.eq_of_mul_eq_mul_right h0 h,λh=>congrArg (· *2^k) h⟩
 simp only[a1,a2]
theorem ex(n:Nat):e9 n 0=n:=by unfold e9;simp[Nat.mod_one]
def rd(T:Nat):Nat:=if T=0 then 0 else min ((T.log2-52)*4503599627370496+e9 T (T.log2-52)) aJ
theorem da{m:Nat}(h:m≠0)(k:Nat):(m*2^k).log2=m.log2+k:=by
 have h0:0<2^k:=Nat.two_pow_pos _
 have hp:m*2^k≠0:=by
   intro e;rcases Nat.mul_eq_zero.1 e with c|c<;>omega
 refine(Nat.log2_eq_iff hp).2 ⟨?_,?_⟩
 · rw[Nat.pow_add];exact Nat.mul_le_mul_right _ (Nat.log2_self_le h)
 · rw[Nat.add_right_comm,Nat.pow_add];exact Nat.mul_lt_mul_of_pos_right Nat.lt_log2_self h0
theorem dA(m i:Nat):double.nearest false m (-1074+(i:Int))=rd (m*2^i):=by
 unfold Format.nearest rd
 by_cases h:m=0
 · subst h;simp[Format.word]
 have h0:0<2^i:=Nat.two_pow_pos _
 have hp:m*2^i≠0:=by
   intro e;rcases Nat.mul_eq_zero.1 e with c|c<;>omega
 rw[if_neg h,if_neg hp]
 simp only[kt,oD,Format.word,Bool.false_eq_true,if_false,kP,da h,show double.fractionBits=52 from rfl]
 have hI:double.infRung=aJ:=im
 rw[hI]
 have e1:(max (-1074+(i:Int)+(m.log2:Int)-((52:Nat):Int)) (-1074)-(-1074)).toNat=m.log2+i-52:=by omega
 rw[e1]
 congr 2
 rw[db]
 rcases(Nat.lt_or_ge (m.log2+i-52) i).symm with c|c
 · have e2:((-1074+(i:Int))-max (-1074+(i:Int)+(m.log2:Int)-((52:Nat):Int)) (-1074)).toNat=0:=by omega
   have e3:(max (-1074+(i:Int)+(m.log2:Int)-((52:Nat):Int)) (-1074)-(-1074+(i:Int))).toNat=m.log2+i-52-i:=by omega
   rw[e2,e3,Nat.pow_zero,Nat.mul_one]
   conv=>rhs;rw[show m.log2+i-52=(m.log2+i-52-i)+i by omega]
   rw[dV]
 · have e2:((-1074+(i:Int))-max (-1074+(i:Int)+(m.log2:Int)-((52:Nat):Int)) (-1074)).toNat=i-(m.log2+i-52):=by omega
   have e3:(max (-1074+(i:Int)+(m.log2:Int)-((52:Nat):Int)) (-1074)-(-1074+(i:Int))).toNat=0:=by omega
   rw[e2,e3,ex]
   generalize hE:m.log2+i-52=E at c ⊢
   have sx:=dV (m*2^(i-E)) 0 E
   rw[Nat.zero_add,ex,Nat.mul_assoc,<-Nat.pow_add,Nat.sub_add_cancel (Nat.le_of_lt c)] at sx
   exact sx.symm
theorem se(T:Nat):rd T<=aJ:=by
 unfold rd;split
 · exact Nat.zero_le _
 · exact Nat.min_le_right _ _
theorem jp{T:Nat}(h:T≠0):rd T≠0:=by
 unfold rd;rw[if_neg h]
 have h1:1<=T/2^(T.log2-52):=by
   refine(Nat.le_div_iff_mul_le (Nat.two_pow_pos _)).2 ?_
   rw[Nat.one_mul]
   exact Nat.le_trans (Nat.pow_le_pow_right (by omega) (by omega)) (Nat.log2_self_le h)
 have h2:1<=e9 T (T.log2-52):=Nat.le_trans h1 (Nat.le_add_right _ _)
 have hI:aJ=9218868437227405312:=rfl
 have h3:1<=(T.log2-52)*4503599627370496+e9 T (T.log2-52):=by omega
 rw[Nat.min_def];split<;>omega
theorem fI{T k:Nat}(h:T<2^(k+1))(hk:52<=k):rd T<=(k-50)*4503599627370496:=by
  unfold rd
  by_cases h0:T=0
  · rw[if_pos h0];exact Nat.zero_le _
  rw[if_neg h0]
  refine Nat.le_trans (Nat.min_le_left _ _) ?_
  have hl:T.log2<=k:=by have:=(Nat.log2_lt h0).2 h;omega
  have h1:T/2^(T.log2-52)<9007199254740992:=by
    refine(Nat.div_lt_iff_lt_mul (Nat.two_pow_pos _)).2 ?_
    refine Nat.lt_of_lt_of_le (Nat.lt_log2_self (n:=T)) ?_
    rw[show(9007199254740992:Nat)=2^53 by decide,<-Nat.pow_add]
    exact Nat.pow_le_pow_right (by omega) (by omega)
  have h2:e9 T (T.log2-52)<=9007199254740992:=by
    unfold e9;split<;>omega
  omega
theorem kA{x e:Nat}(h:x<=e*4503599627370496)(he:1<=e):vl x<=2^(51+e):=by
 have h1:vl (e*4503599627370496)=2^(51+e):=by
   unfold vl mg pl
   rw[if_neg (by omega),Nat.mul_mod_left,Nat.mul_div_cancel _ (by omega),Nat.add_zero,show(4503599627370496:Nat)=2^52 by decide,<-Nat.pow_add]
   congr 1;omega
 rw[<-h1];exact qD h
theorem gT{x y:Nat}(hx:x<aJ)(hy:y<aJ):cE x y=rd (vl x+vl y):=by
 unfold cE Format.add
 rw[bA hx,bA hy]
 simp only[Datum.sum,signed,jx,nC,ly,db,Bool.false_eq_true,if_false,Option.map_some,Option.getD_some]
 have k1:=dS (a:=pl x) (b:=min (pl x) (pl y)) (by omega)
 have k2:=dS (a:=pl y) (b:=min (pl x) (pl y)) (by omega)
 have k:(if((mg x*2^(pl x-min (pl x) (pl y)):Nat):Int)+((mg y*2^(pl y-min (pl x) (pl y)):Nat):Int)=0 then false&&false else decide (((mg x*2^(pl x-min (pl x) (pl y)):Nat):Int)+((mg y*2^(pl y-min (pl x) (pl y)):Nat):Int)<0))=false:=by
   split
   · rfl
   · exact decide_eq_false (Int.not_lt.2 (Int.add_nonneg (Int.natCast_nonneg _) (Int.natCast_nonneg _)))
 rw[k]
 show double.nearest false _ _=_
 rw[dA]
 congr 1
 rw[<-Int.natCast_add,Int.natAbs_natCast,Nat.add_mul,Nat.mul_assoc,k1,Nat.mul_assoc,k2]
 rfl
theorem kw{x:Nat}(h:x<aJ):rd (vl x)=x:=by
 have hI:aJ=9218868437227405312:=rfl
 unfold rd
 by_cases h0:x=0
 · subst h0;rfl
 have hm:mg x≠0:=λe=>h0 (dO.1 e)
 have hv:vl x≠0:=by
   intro e;rcases Nat.mul_eq_zero.1 e with c|c
   · exact hm c
   · have:=Nat.two_pow_pos (pl x);omega
 rw[if_neg hv]
 unfold vl
 rw[da hm]
 by_cases hs:x<4503599627370496
 · have e1:mg x=x:=by unfold mg;rw[if_pos hs]
   have e2:pl x=0:=by unfold pl;omega
   have e3:x.log2<52:=(Nat.log2_lt h0).2 hs
   rw[e1,e2,show x.log2+0-52=0 by omega,ex,Nat.pow_zero,Nat.mul_one,Nat.zero_mul,Nat.zero_add,Nat.min_eq_left (Nat.le_of_lt h)]
 · have e1:mg x=4503599627370496+x%4503599627370496:=by unfold mg;rw[if_neg hs]
   have e3:(mg x).log2=52:=(Nat.log2_eq_iff hm).2 ⟨by rw[e1];show 4503599627370496<=_;omega,by rw[e1];show _<9007199254740992;omega⟩
   rw[e3,show 52+pl x-52=0+pl x by omega,dV,ex,e1]
   have:(0+pl x)*4503599627370496+(4503599627370496+x%4503599627370496)=x:=by unfold pl;omega
   rw[this,Nat.min_eq_left (Nat.le_of_lt h)]
theorem fX:vl 0=0:=rfl
theorem rU{x:Nat}(h:x<=aJ):cE 0 x=x:=by
 rcases Nat.lt_or_ge x aJ with c|c
 · rw[gT (by decide) c,fX,Nat.zero_add,kw c]
 · rw[show x=aJ by omega];decide
theorem nI{x y e:Nat}(hx:x<=e*4503599627370496)(hy:y<=e*4503599627370496)(he:1<=e)(h2:e<2047):cE x y<=(e+2)*4503599627370496:=by
  have hI:aJ=9218868437227405312:=rfl
  rw[gT (by omega) (by omega)]
  have h1:=kA hx he
  have h2:=kA hy he
  have h3:2^(52+e)=2*2^(51+e):=by rw[show 52+e=51+e+1 by omega,Nat.pow_succ];omega
  have h4:2^(52+e+1)=2*2^(52+e):=by rw[Nat.pow_succ];omega
  have h5:0<2^(51+e):=Nat.two_pow_pos _
  have:=fI (T:=vl x+vl y) (k:=52+e) (by omega) (by omega)
  rw[show 52+e-50=e+2 by omega] at this
  exact this
theorem fe(n:Nat):∀t r:Nat,Datum.rootFrom n t r<r+2^t
 |0,r=>by simp[Datum.rootFrom]
 |t+1,r=>by
   unfold Datum.rootFrom
   simp only[db,Nat.one_mul]
   have h0:0<2^t:=Nat.two_pow_pos _
   split
   · have:=fe n t (r+2^t);rw[Nat.pow_succ];omega
   · have:=fe n t r;rw[Nat.pow_succ];omega
theorem mH{x e:Nat}(hx:x<=e*4503599627370496)(he:1<=e)(h2:e<2047):az x<=(520+e/2)*4503599627370496/\(x≠0->az x≠0):=by
  have hI:aJ=9218868437227405312:=rfl
  unfold az Format.sqrt
  rw[bA (by omega)]
  simp only[Datum.root]
  by_cases h0:mg x=0
  · have hx0:=dO.1 h0
    subst hx0
    simp only[if_pos h0,Option.map_some,Option.getD_some]
    refine⟨?_,λh=>absurd rfl h⟩
    have:double.write (.number false (mg 0) (-1074+(pl 0:Nat)))=0:=by decide
    rw[this];exact Nat.zero_le _
  simp only[if_neg h0,Option.map_some,Option.getD_some,Bool.false_eq_true,if_false,show double.fractionBits+2=54 from rfl]
  generalize hm1:2*54-(mg x).log2=m1
  generalize hm2:m1+((-1074+(pl x:Int)-(m1:Int))%2).toNat=m2
  generalize hn:mg x <<< m2=n
  generalize hw:Datum.rootFrom n (n.log2/2+1) 0=q
  have hl:(mg x).log2<=52:=by have:=(Nat.log2_lt h0 (k:=53)).2 (fG x);omega
  have hp:pl x<=e-1:=by unfold pl;omega
  have hnl:n.log2=(mg x).log2+m2:=by rw[<-hn,db,da h0]
  have hnb:n.log2<=109:=by omega
  have hq:=fe n (n.log2/2+1) 0
  rw[hw] at hq
  have hq2:2^(n.log2/2+1)<=2^55:=Nat.pow_le_pow_right (by omega) (by omega)
  have hb:(q*q !=n).toNat<=1:=by cases(q*q !=n)<;>simp
  have hj:∃j:Nat,(-1074+(pl x:Int)-(m2:Int))/2-1= -1074+(j:Int)/\j<=508+e/2:=by
    refine⟨((-1074+(pl x:Int)-(m2:Int))/2-1+1074).toNat,?_,?_⟩<;>omega
  obtain⟨j,hj1,hj2⟩:=hj
  show double.nearest false _ _<=_/\(x≠0->double.nearest false _ _≠0)
  rw[hj1,dA]
  refine⟨?_,λhx0=>jp ?_⟩
  · have hT:(2*q+(q*q !=n).toNat)*2^j<2^(569+e/2+1):=by
      have a1:2*q+(q*q !=n).toNat<2^57:=by
        have:(2:Nat)^57=4*2^55:=by decide
        omega
      calc(2*q+(q*q !=n).toNat)*2^j<2^57*2^j:=Nat.mul_lt_mul_of_pos_right a1 (Nat.two_pow_pos _)
        _=2^(57+j):=(Nat.pow_add _ _ _).symm
        _<=_:=Nat.pow_le_pow_right (by omega) (by omega)
    have:=fI hT (by omega)
    refine Nat.le_trans this (Nat.mul_le_mul_right _ (by omega))
  · intro e0
    rcases Nat.mul_eq_zero.1 e0 with c|c
    · have hq0:q=0:=by omega
      have hn0:n=0:=by
        rw[hq0] at c
        by_cases hz:n=0
        · exact hz
        · have:((0:Nat)*0 !=n)=true:=by simp;omega
          rw[this] at c;simp at c
      rw[<-hn,db] at hn0
      rcases Nat.mul_eq_zero.1 hn0 with d|d
      · exact h0 d
      · have:=Nat.two_pow_pos m2;omega
    · have:=Nat.two_pow_pos j;omega
def fh(n:Nat):Nat:=double.nearest false n 0
theorem ec(n:Nat):fh n=rd (n*2^1074):=dA n 1074
theorem od{n:Nat}(k:Nat)(h:n<2^64):n*2^k<2^(63+k+1):=by
 rw[show 63+k+1=64+k by omega,Nat.pow_add]
 exact Nat.mul_lt_mul_of_pos_right h (Nat.two_pow_pos _)
theorem pw{n:Nat}(h:n<2^64):fh n<=1088*4503599627370496:=by
 rw[ec]
 exact Nat.le_trans (fI (od 1074 h) (by decide)) (by decide)
theorem ki{n:Nat}(h:n≠0):fh n≠0:=by
 rw[ec];refine jp ?_
 intro e;rcases Nat.mul_eq_zero.1 e with c|c
 · exact h c
 · have:=Nat.two_pow_pos 1074;omega
theorem j8:fh 0=0:=by decide
end TL
