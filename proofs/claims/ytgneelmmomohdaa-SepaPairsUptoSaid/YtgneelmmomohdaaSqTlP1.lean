/- Plain texts of this claim, part 1. By an AI agent. -/
import Derived.Test.YtgneelmmomohdaaSqTlP0
import Derived.Laws.StructEq
import Derived.OrdersHeld
/-
  TlDraw: regions that draw their order, taken operation by operation.
  By an AI agent.
-/
set_option linter.all false
namespace TL
open Go
def ch(n:Nat)(done:List Nat):Array Bool:=((List.range n).map λi=>decide (i∈done)).toArray
theorem dr(n:Nat)(done:List Nat)(j:Nat)(d:Bool):(ch n done).getD j d=if j<n then decide (j∈done) else d:=by
 unfold ch
 by_cases h:j<n
 · simp[h]
 · simp[h]
theorem dj{n i:Nat}(done:List Nat)(hi:i<n):(ch n done).setIfInBounds i true=ch n (i::done):=by
 apply Array.ext
 · simp[ch]
 · intro j h1 h2
   have hj:j<n:=by simpa[ch] using h2
   simp only[ch]
   by_cases hij:i=j
   · subst hij;simp
   · have:¬j=i:=λh=>hij h.symm
     simp[Array.getElem_setIfInBounds,hij,this]
section
variable{P:Program}{ops:Array Oper}{Q:Exit->Act->World->Prop}{md:Region.Mode}{qs:Nat->Bool}
def mE(P:Program)(md:Region.Mode)(ops:Array Oper)(qs:Nat->Bool)(Q:Exit->Act->World->Prop):Nat->Array Bool->Act->World->Prop
  |0,listed,a,w=>Region.ready md ops listed=[]/\Q .normal a w
  |fuel+1,listed,a,w=>(Region.ready md ops listed=[]->Q .normal a w)/\
    ∀i∈Region.ready md ops listed,if qs i then stOp P ops w i (λa'=>mE P md ops qs Q fuel (listed.setIfInBounds i true) a' w) a
      else wpOp P ops Q i (mE P md ops qs Q fuel (listed.setIfInBounds i true)) a w
theorem gw:∀(fuel:Nat) (listed:Array Bool) (a:Act) (w:World),mE P md ops qs Q fuel listed a w->wpAny P md ops Q fuel listed a w
 |0,_,_,_,h=>h
 |fuel+1,listed,a,w,h=>by
   refine⟨h.1,λi hi=>?_⟩
   have h2:=h.2 i hi
   cases hq:qs i with
   |true=>
     simp only[hq,if_true] at h2
     exact wpOp_of_stOp (λa' h'=>gw fuel _ a' w h') h2
   |false=>
     simp only[hq,Bool.false_eq_true,if_false] at h2
     exact wpOp_mono (λa' w' h'=>gw fuel _ a' w' h') h2
theorem qO{i:Nat}{oi:Oper}{v:Value}{w:World}{M D:Array Bool}(hi:ops[i]? =some oi)(hsel:∀(j:Nat) (o:Oper) cs b,ops[j]? =some o->o.op≠ .select cs b)(hqi:qs i=true)
    (hM:∀j oj,ops[j]? =some oj->M.getD j false=false->j≠i->∃e∈oj.after,Region.binds md e=true/\M.getD e.on false=false)
    (hMq:∀j oj,ops[j]? =some oj->M.getD j false=true->D.getD j true=false->j≠i->qs j=true):
    ∀(fuel:Nat) (listed:Array Bool) (a:Act),listed.size=ops.size->(∀j,listed.getD j false=true->M.getD j false=true)->(∀j,listed.getD j true=false->D.getD j true=false)->
      (∀j oj,ops[j]? =some oj->j≠i->listed.getD j true=false->(∀e∈oj.after,Region.binds md e=true->e.on≠i)->oi.apart ops oj=true)->
      i∈Region.ready md ops listed->YieldsAt P ops w oi v a->
      mE P md ops qs Q fuel (listed.setIfInBounds i true) (a.put oi.dst v) w->mE P md ops qs Q (fuel+1) listed a w:=by
  intro fuel
  induction fuel with
  |zero=>
    intro listed a _ _ _ _ hr hy H
    refine⟨λh=>(by rw[h] at hr;cases hr),λj hj=>?_⟩
    by_cases hji:j=i
    · subst hji;rw[if_pos hqi];exact hy.stOp hi H
    · have:=ready_mono hj hji
      rw[H.1] at this
      cases this
  |succ fuel ih=>
    intro listed a hsz hsub hD hfree hr hy H
    refine⟨λh=>(by rw[h] at hr;cases hr),λj hj=>?_⟩
    by_cases hji:j=i
    · subst hji;rw[if_pos hqi];exact hy.stOp hi H
    · obtain⟨hjun,oj,hoj,hall⟩:=mem_ready.1 hj
      have hMj:M.getD j false=true:=by
        cases hm:M.getD j false with
        |true=>rfl
        |false=>
          obtain⟨e,he,hb,hn⟩:=hM j oj hoj hm hji
          have:=hsub _ (hall e he hb)
          rw[hn] at this;cases this
      have hqj:=hMq j oj hoj hMj (hD j hjun) hji
      have h1:=H.2 j (ready_mono hj hji)
      rw[if_pos hqj] at h1 ⊢
      have hnot:∀e∈oj.after,Region.binds md e=true->e.on≠i:=λe he hb heq=>by
        have h1:=hall e he hb
        have h0:=(mem_ready.1 hr).1
        rw[heq] at h1
        rw[getD_both h0] at h1
        cases h1
      have h2:=stOp_put hoj (hfree j oj hoj hji hjun hnot) (λcs b=>hsel i oi cs b hi) (λcs b=>hsel j oj cs b hoj) hy h1
      have hfree':∀k ok,ops[k]? =some ok->k≠i->(listed.setIfInBounds j true).getD k true=false->
          (∀e∈ok.after,Region.binds md e=true->e.on≠i)->oi.apart ops ok=true:=λk ok hk hki hun hno=>by
        refine hfree k ok hk hki ?_ hno
        by_cases hjk:j=k
        · subst hjk;exact hjun
        · rw[getD_set_ne true hjk] at hun;exact hun
      have hsub':∀k,(listed.setIfInBounds j true).getD k false=true->M.getD k false=true:=λk hk=>by
        by_cases hjk:j=k
        · subst hjk;exact hMj
        · rw[getD_set_ne false hjk] at hk;exact hsub k hk
      have hD':∀k,(listed.setIfInBounds j true).getD k true=false->D.getD k true=false:=λk hk=>by
        by_cases hjk:j=k
        · subst hjk;exact hD j hjun
        · rw[getD_set_ne true hjk] at hk;exact hD k hk
      refine stOp_mono (λa' h3=>ih (listed.setIfInBounds j true) a' (by simpa using hsz) hsub' hD' hfree' (ready_mono hr (Ne.symm hji)) h3.1 ?_) h2
      rw[Array.setIfInBounds_comm _ _ hji]
      exact h3.2
def aN{α:Type}(s:Sem α):Prop:=∀(P:Program) (w:World) (x:α) (w':World),s.run P w= .ok x w'->e8 w.heap.size w w'
theorem aN.bind{α β:Type}{s:Sem α}{f:α->Sem β}(h:aN s)(hf:∀a,aN (f a)):aN (s>>=f):=by
 intro P w x w' hr
 rw[Sem.run_bind] at hr
 cases h1:s.run P w with
 |halt e w1=>rw[h1] at hr;cases hr
 |ok a w1=>
   rw[h1] at hr
   have k1:=h P w a w1 h1
   have k2:=hf a P w1 x w' hr
   exact k1.trans (k2.mono k1.size)
theorem aN.pure{α:Type}(a:α):aN (Pure.pure a:Sem α):=λP w x w' h=>by
 simp only[Sem.run_pure] at h
 cases h;exact e8.refl _ _
theorem aN.halt{α:Type}(e:Halt):aN (Sem.halt e:Sem α):=λP w x w' h=>by cases h
theorem aN.stuck{α:Type}(e:String):aN (Go.stuck e:Sem α):=aN.halt _
theorem aN.unsupported{α:Type}(e:Unsupported):aN (Go.unsupported e:Sem α):=aN.halt _
theorem aN.program:aN Go.program:=λP w x w' h=>by
 simp only[run_program] at h
 cases h;exact e8.refl _ _
theorem aN.new(o:Obj):aN (newObj o):=λP w x w' h=>by
 simp only[run_newObj] at h
 cases h
 exact(e8.refl _ w).alloc (Nat.le_refl _) o
theorem aN.typeInfo(t:TypeId):aN (Go.typeInfo t):=aN.bind aN.program λp=>by
 cases p.info? t with
 |some i=>exact aN.pure i
 |none=>exact aN.stuck _
theorem aN.underlying(t:TypeId):aN (Go.underlying t):=aN.bind aN.program λp=>by
 cases p.underlying t with
 |some i=>exact aN.pure i
 |none=>exact aN.stuck _
theorem aN.sizeOf(t:TypeId):aN (Go.sizeOf t):=aN.bind (aN.typeInfo t) λi=>aN.pure _
theorem aN.zeroValue(t:TypeId):aN (Go.zeroValue t):=aN.bind (aN.typeInfo t) λi=>by
 cases i.zero with
 |some v=>exact aN.pure v
 |none=>exact aN.unsupported _
theorem aN.newVar(t:TypeId)(v:Value):aN (Go.newVar t v):=aN.bind (aN.new _) λ_=>aN.pure _
theorem kq(t:TypeId)(len:Nat)(parts:Array (Nat×Value)):aN (Instr.buildSlice t len parts):=by
 unfold Instr.buildSlice
 refine aN.bind (aN.underlying t) λd=>?_
 split
 · refine aN.bind (aN.sizeOf _) λsize=>?_
   have tail:∀(elem:TypeId) (zero:Array Value),aN (match Instr.fill (λi=>some (i*size,size)) ((Array.range (len*size)).map (zero[· %zero.size]!)) parts.toList with
       |some cells=>(do pure (Value.slice (some (<-newRow elem cells)) len len):Sem Value)
       |_=>Go.stuck "buildSlice: a part of the wrong size"):=λelem zero=>by
     split
     · exact aN.bind (aN.bind (aN.new _) λ_=>aN.pure _) λ_=>aN.pure _
     · exact aN.stuck _
   by_cases h1:len*size>2^24
   · simp only[h1,if_true]
     refine aN.bind (aN.unsupported _) λx=>?_
     by_cases h2:len*size=0
     · rw[if_pos h2]
       exact aN.bind (aN.pure _) λzero=>tail _ zero
     · simp only[h2,if_false]
       exact aN.bind (aN.zeroValue _) λ_=>aN.bind (aN.pure _) λzero=>tail _ zero
   · simp only[h1,if_false]
     by_cases h2:len*size=0
     · rw[if_pos h2]
       exact aN.bind (aN.pure _) λzero=>tail _ zero
     · simp only[h2,if_false]
       exact aN.bind (aN.zeroValue _) λ_=>aN.bind (aN.pure _) λzero=>tail _ zero
 · exact aN.stuck _
theorem ti{P:Program}{w w':World}{s:Sem Value}{nx:Next}(h:(do pure (Next.value (<-s)):Sem Next).run P w= .ok nx w'):∃u,nx= .value u:=by
 rw[Sem.run_bind] at h
 cases hs:s.run P w with
 |ok a w1=>rw[hs] at h;cases h;exact⟨a,rfl⟩
 |halt e w1=>rw[hs] at h;cases h
theorem aN.load(a:Addr)(m:Mode):aN (Go.load a m):=λP w x w' h=>by
 simp only[Go.load,Sem.run] at h
 split at h
 · cases h;exact e8.refl _ _
 · split at h
   · cases h;exact e8.refl _ _
   · cases h
theorem aN.cells(a:Addr):∀(n i:Nat) (acc:Array Value),aN (loadCellsFrom a i n acc)
 |0,_,_=>aN.pure _
 |n+1,i,_=>aN.bind (aN.load _ _) λ_=>aN.cells a n (i+1) _
theorem aN.isAgg(t:TypeId):aN (Go.isAgg t):=aN.bind (aN.underlying t) λd=>by
 split<;>exact aN.pure _
theorem aN.error{α:Type}(m:String):aN (runtimePanic (.error m):Sem α):=aN.bind aN.program λp=>aN.halt _
theorem aN.asIntOf(v:Value):aN (Go.asIntOf v):=by
 unfold Go.asIntOf
 split
 · exact aN.pure _
 · exact aN.unsupported _
 · exact aN.stuck _
theorem aN.asInt(v:Value):aN (Go.asInt v):=aN.bind (aN.asIntOf v) λ_=>aN.pure _
theorem aN.choose(q:Question):aN (Go.choose q):=λP w x w' h=>by
 simp only[Go.choose,Sem.run] at h
 split at h
 · cases h;exact e8.refl _ _
 · cases h;exact⟨rfl,rfl,rfl,Nat.le_refl _,λ_ _=>rfl,Nat.le_succ _⟩
theorem aN.room(n:Nat):aN (askRoom n):=λP w x w' h=>by
 unfold askRoom at h
 split at h
 · simp only[Go.mark,Sem.run] at h
   cases h;exact⟨rfl,rfl,rfl,Nat.le_refl _,λ_ _=>rfl,Nat.le_refl _⟩
 · cases h;exact e8.refl _ _
theorem nK(t:TypeId)(a:Value):aN (Instr.loadAt t a):=by
 unfold Instr.loadAt
 refine aN.bind ?_ λb=>?_
 · unfold Instr.sureAddr
   split
   · exact aN.pure _
   · exact aN.stuck _
 · unfold loadVar
   refine aN.bind (aN.isAgg t) λc=>?_
   split
   · exact aN.bind (aN.sizeOf t) λn=>aN.bind (aN.cells _ _ _ _) λ_=>aN.pure _
   · exact aN.load _ _
theorem kQ(t:TypeId)(a b:Value):aN (Instr.makeSlice t a b):=by
 unfold Instr.makeSlice
 refine aN.bind (aN.underlying t) λd=>?_
 split
 · refine aN.bind (aN.asInt _) λl=>aN.bind (aN.asInt _) λc=>aN.bind (aN.typeInfo _) λi=>?_
   have tail:∀(c:Int) (l:Int) (elem:TypeId),aN (do
       let n:=c.toNat*(<-sizeOf elem)
       let zero<-if n=0 then pure #[] else do pure (<-zeroValue elem).cells
       let a<-newRow elem ((Array.range n).map (zero[· %zero.size]!))
       pure (Value.slice (some a) l.toNat c.toNat)):=λc l elem=>by
     refine aN.bind (aN.sizeOf _) λn=>?_
     have last:∀zero:Array Value,aN (do
       let a<-newRow elem ((Array.range (c.toNat*n)).map (zero[· %zero.size]!))
       pure (Value.slice (some a) l.toNat c.toNat)):=λzero=>aN.bind (aN.bind (aN.new _) λ_=>aN.pure _) λ_=>aN.pure _
     by_cases h:c.toNat*n=0
     · simp only[h,if_true]
       have:=last #[]
       simp only[h] at this
       exact aN.bind (aN.pure _) λ_=>aN.bind (aN.bind (aN.new _) λ_=>aN.pure _) λ_=>aN.pure _
     · simp only[h,if_false]
       exact aN.bind (aN.zeroValue _) λ_=>aN.bind (aN.pure _) λz=>last z
   dsimp only
   repeat' (first
     |exact aN.error _
     |exact aN.choose _
     |exact aN.room _
     |exact tail _ _ _
     |exact aN.pure _
     |refine aN.bind ?_ λ_=>?_
     |split)
 · exact aN.stuck _
def iq:Op->Bool
 | .alloc _| .box .. | .buildSlice .. | .load .. | .makeSlice .. =>true
 |_=>false
theorem qn{ρ:Operand->Value}{o:Oper}(h:iq o.op=true):aN (execOp ρ o):=by
 obtain⟨dst,op,ty,pos,after,g⟩:=o
 cases op<;>simp only[iq,Bool.false_eq_true] at h
 case alloc e=>exact aN.bind (aN.bind (aN.zeroValue _) λ_=>aN.bind (aN.newVar _ _) λ_=>aN.pure _) λ_=>aN.pure _
 case box e x=>exact aN.bind (aN.bind (aN.newVar _ _) λ_=>aN.pure _) λ_=>aN.pure _
 case buildSlice t n ps=>exact aN.bind (kq _ _ _) λ_=>aN.pure _
 case load t a=>exact aN.bind (nK _ _) λ_=>aN.pure _
 case makeSlice t a b=>exact aN.bind (kQ _ _ _) λ_=>aN.pure _
theorem sD{i:Nat}{oi:Oper}{v:Value}{w0:World}{M D:Array Bool}(hi:ops[i]? =some oi)(hsel:∀(j:Nat) (o:Oper) cs b,ops[j]? =some o->o.op≠ .select cs b)(hqi:qs i=true)
    (hQ:∀c a w,Q (.panic c) (a.put oi.dst v) w->Q (.panic c) a w)
    (hM:∀j oj,ops[j]? =some oj->M.getD j false=false->j≠i->∃e∈oj.after,Region.binds md e=true/\M.getD e.on false=false)
    (hMq:∀j oj,ops[j]? =some oj->M.getD j false=true->D.getD j true=false->j≠i->qs j=true\/iq oj.op=true):
    ∀(fuel:Nat) (listed:Array Bool) (a:Act) (w:World),e8 w0.heap.size w0 w->(∀j,listed.getD j false=true->M.getD j false=true)->(∀j,listed.getD j true=false->D.getD j true=false)->
      (∀j oj,ops[j]? =some oj->j≠i->listed.getD j true=false->(∀e∈oj.after,Region.binds md e=true->e.on≠i)->oi.apart ops oj=true)->
      i∈Region.ready md ops listed->(∀w,e8 w0.heap.size w0 w->YieldsAt P ops w oi v a)->
      mE P md ops qs Q fuel (listed.setIfInBounds i true) (a.put oi.dst v) w->mE P md ops qs Q (fuel+1) listed a w:=by
  intro fuel
  induction fuel with
  |zero=>
    intro listed a w hw _ _ _ hr hy H
    refine⟨λh=>(by rw[h] at hr;cases hr),λj hj=>?_⟩
    by_cases hji:j=i
    · subst hji;rw[if_pos hqi];exact(hy w hw).stOp hi H
    · have:=ready_mono hj hji
      rw[H.1] at this
      cases this
  |succ fuel ih=>
    intro listed a w hw hsub hD hfree hr hy H
    refine⟨λh=>(by rw[h] at hr;cases hr),λj hj=>?_⟩
    by_cases hji:j=i
    · subst hji;rw[if_pos hqi];exact(hy w hw).stOp hi H
    · obtain⟨hjun,oj,hoj,hall⟩:=mem_ready.1 hj
      have hMj:M.getD j false=true:=by
        cases hm:M.getD j false with
        |true=>rfl
        |false=>
          obtain⟨e,he,hb,hn⟩:=hM j oj hoj hm hji
          have:=hsub _ (hall e he hb)
          rw[hn] at this;cases this
      have hqj:=hMq j oj hoj hMj (hD j hjun) hji
      have h1:=H.2 j (ready_mono hj hji)
      have hnot:∀e∈oj.after,Region.binds md e=true->e.on≠i:=λe he hb heq=>by
        have h1:=hall e he hb
        have h0:=(mem_ready.1 hr).1
        rw[heq] at h1
        rw[getD_both h0] at h1
        cases h1
      have hap:=hfree j oj hoj hji hjun hnot
      have hfree':∀k ok,ops[k]? =some ok->k≠i->(listed.setIfInBounds j true).getD k true=false->
          (∀e∈ok.after,Region.binds md e=true->e.on≠i)->oi.apart ops ok=true:=λk ok hk hki hun hno=>by
        refine hfree k ok hk hki ?_ hno
        by_cases hjk:j=k
        · subst hjk;exact hjun
        · rw[getD_set_ne true hjk] at hun;exact hun
      have hsub':∀k,(listed.setIfInBounds j true).getD k false=true->M.getD k false=true:=λk hk=>by
        by_cases hjk:j=k
        · subst hjk;exact hMj
        · rw[getD_set_ne false hjk] at hk;exact hsub k hk
      have hD':∀k,(listed.setIfInBounds j true).getD k true=false->D.getD k true=false:=λk hk=>by
        by_cases hjk:j=k
        · subst hjk;exact hD j hjun
        · rw[getD_set_ne true hjk] at hk;exact hD k hk
      obtain⟨g1,g2,g3⟩:=Oper.apart_spec hap
      have keep:∀u w,e8 w0.heap.size w0 w->YieldsAt P ops w oi v (a.put oj.dst u):=λu w hw=>
        (hy w hw).of_same (execOp_put oi (λcs b=>hsel i oi cs b hi) a oj.dst u g3) (wanted_put oi a oj.dst u g3)
      cases hqj':qs j with
      |true=>
        simp only[hqj',if_true] at h1 ⊢
        obtain⟨u,hyu,hK⟩:=yieldsAt_of_stOp hoj h1
        have hyj:YieldsAt P ops w oj u a:=by
          rcases hyu with⟨k1,k2⟩|⟨k1,k2⟩
          · refine .inl ⟨by rw[<-wanted_put oj a oi.dst v g1];exact k1,?_⟩
            rw[execOp_put oj (λcs b=>hsel j oj cs b hoj) a oi.dst v g1] at k2
            exact k2
          · exact .inr ⟨by rw[<-wanted_put oj a oi.dst v g1];exact k1,k2⟩
        refine hyj.stOp hoj (ih (listed.setIfInBounds j true) (a.put oj.dst u) w hw hsub' hD' hfree' (ready_mono hr (Ne.symm hji)) (keep u) ?_)
        rw[<-Act.put_comm a v u g2,Array.setIfInBounds_comm _ _ hji]
        exact hK
      |false=>
        have hkk:=hqj.resolve_left (by rw[hqj'];simp)
        simp only[hqj',Bool.false_eq_true,if_false] at h1 ⊢
        unfold wpOp at h1 ⊢
        simp only[hoj] at h1 ⊢
        rw[wanted_put oj a oi.dst v g1] at h1
        cases hwt:Region.wanted oj (yielded ops a.tmps) with
        |false=>
          simp only[hwt,Bool.false_eq_true,if_false] at h1 ⊢
          refine ih (listed.setIfInBounds j true) (a.put oj.dst undef) w hw hsub' hD' hfree' (ready_mono hr (Ne.symm hji)) (keep undef) ?_
          rw[<-Act.put_comm a v undef g2,Array.setIfInBounds_comm _ _ hji]
          exact h1
        |true=>
          simp only[hwt,if_true] at h1 ⊢
          have hke:=qn (ρ:=a.eval) hkk P w
          rcases h1 with h1|⟨h1,h2⟩
          · left
            unfold Oper.wp at h1 ⊢
            rw[execOp_put oj (λcs b=>hsel j oj cs b hoj) a oi.dst v g1] at h1
            obtain⟨dst,op,ty,pos,after,gd⟩:=oj
            cases hrun:(execOp a.eval ⟨dst,op,ty,pos,after,gd⟩).run P w with
            |halt x w'=>
              rw[hrun] at h1
              cases x<;>simp only[Oper.upon] at h1 ⊢
              case panic u=>exact hQ _ _ _ h1
            |ok nx w'=>
              rw[hrun] at h1
              have hb:=hke nx w' hrun
              have hw':e8 w0.heap.size w0 w':=hw.trans (hb.mono hw.size)
              -- these operations yield values alone
              have hval:∃u,nx= .value u:=by
                cases op<;>simp only[iq,Bool.false_eq_true] at hkk
                all_goals exact ti hrun
              obtain⟨u,rfl⟩:=hval
              simp only[Oper.upon] at h1 ⊢
              refine ih (listed.setIfInBounds j true) (a.put dst u) w' hw' hsub' hD' hfree' (ready_mono hr (Ne.symm hji)) (keep u) ?_
              have h3:=h1
              rw[show(a.put oi.dst v).put dst u=(a.put dst u).put oi.dst v from Act.put_comm a v u g2,Array.setIfInBounds_comm _ _ (Ne.symm hji)] at h3
              exact h3
          · right
            refine⟨?_,h2⟩
            unfold Oper.asks at*
            rw[execOp_put oj (λcs b=>hsel j oj cs b hoj) a oi.dst v g1] at h1
            exact h1
theorem n7{i:Nat}{oi:Oper}{v:Value}(hi:ops[i]? =some oi)(hsel:∀(j:Nat) (o:Oper) cs b,ops[j]? =some o->o.op≠ .select cs b)(hqi:qs i=true)
    (hQ:∀c a w,Q (.panic c) (a.put oi.dst v) w->Q (.panic c) a w):
    ∀(fuel:Nat) (listed:Array Bool) (a:Act) (w:World),
      (∀j oj,ops[j]? =some oj->j≠i->listed.getD j true=false->(∀e∈oj.after,Region.binds md e=true->e.on≠i)->oi.apart ops oj=true)->
      i∈Region.ready md ops listed->Yields P ops oi v a->
      mE P md ops qs Q fuel (listed.setIfInBounds i true) (a.put oi.dst v) w->mE P md ops qs Q (fuel+1) listed a w:=by
  have hat:∀{a:Act} {w:World},Yields P ops oi v a->YieldsAt P ops w oi v a:=λ {a w} hy=>by
    rcases hy with⟨h1,h2⟩|⟨h1,h2⟩
    · exact .inl ⟨h1,.inl (h2 w)⟩
    · exact .inr ⟨h1,h2⟩
  intro fuel
  induction fuel with
  |zero=>
    intro listed a w _ hr hy H
    refine⟨λh=>(by rw[h] at hr;cases hr),λj hj=>?_⟩
    by_cases hji:j=i
    · subst hji;rw[if_pos hqi];exact(hat hy).stOp hi H
    · have:=ready_mono hj hji
      rw[H.1] at this
      cases this
  |succ fuel ih=>
    intro listed a w hfree hr hy H
    refine⟨λh=>(by rw[h] at hr;cases hr),λj hj=>?_⟩
    by_cases hji:j=i
    · subst hji;rw[if_pos hqi];exact(hat hy).stOp hi H
    · obtain⟨hjun,oj,hoj,hall⟩:=mem_ready.1 hj
      have h1:=H.2 j (ready_mono hj hji)
      have hnot:∀e∈oj.after,Region.binds md e=true->e.on≠i:=λe he hb heq=>by
        have h1:=hall e he hb
        have h0:=(mem_ready.1 hr).1
        rw[heq] at h1
        rw[getD_both h0] at h1
        cases h1
      have hap:=hfree j oj hoj hji hjun hnot
      have hfree':∀k ok,ops[k]? =some ok->k≠i->(listed.setIfInBounds j true).getD k true=false->
          (∀e∈ok.after,Region.binds md e=true->e.on≠i)->oi.apart ops ok=true:=λk ok hk hki hun hno=>by
        refine hfree k ok hk hki ?_ hno
        by_cases hjk:j=k
        · subst hjk;exact hjun
        · rw[getD_set_ne true hjk] at hun;exact hun
      cases hqj:qs j with
      |true=>
        simp only[hqj,if_true] at h1 ⊢
        -- a step that leaves the world
        have hy':=hy
        obtain⟨g1,g2,g3⟩:=Oper.apart_spec hap
        have keep:∀(a:Act),Yields P ops oi v a->∀u,Yields P ops oi v (a.put oj.dst u):=λa hy u=>
          hy.of_same (execOp_put oi (λcs b=>hsel i oi cs b hi) a oj.dst u g3) (wanted_put oi a oj.dst u g3)
        obtain⟨u,hyu,hK⟩:=yieldsAt_of_stOp hoj h1
        have hyj:YieldsAt P ops w oj u a:=by
          rcases hyu with⟨k1,k2⟩|⟨k1,k2⟩
          · refine .inl ⟨by rw[<-wanted_put oj a oi.dst v g1];exact k1,?_⟩
            rw[execOp_put oj (λcs b=>hsel j oj cs b hoj) a oi.dst v g1] at k2
            exact k2
          · exact .inr ⟨by rw[<-wanted_put oj a oi.dst v g1];exact k1,k2⟩
        refine hyj.stOp hoj (ih (listed.setIfInBounds j true) (a.put oj.dst u) w hfree' (ready_mono hr (Ne.symm hji)) (keep a hy u) ?_)
        rw[<-Act.put_comm a v u g2,Array.setIfInBounds_comm _ _ hji]
        exact hK
      |false=>
        simp only[hqj,Bool.false_eq_true,if_false] at h1 ⊢
        have h2:=wpOp_put hoj hap (λcs b=>hsel i oi cs b hi) (λcs b=>hsel j oj cs b hoj) hQ hy h1
        refine wpOp_mono (λa' w' h3=>ih (listed.setIfInBounds j true) a' w' hfree' (ready_mono hr (Ne.symm hji)) h3.1 ?_) h2
        rw[Array.setIfInBounds_comm _ _ hji]
        exact h3.2
end
section
variable{P:Program}{n:Nat}{l:List Oper}{qs:List Nat}{K:Fr->World->Prop}{f:Fr}{w:World}{done:List Nat}{fuel:Nat}
def jn(P:Program)(n:Nat)(l:List Oper)(qs:List Nat)(K:Fr->World->Prop)(fuel:Nat)(done:List Nat)(f:Fr)(w:World):Prop:=
  ∀a,Ag n a f->mE P .any l.toArray (λi=>decide (i∈qs)) (λe a' w'=>e= .normal/\∃f',Ag n a' f'/\K f' w') fuel (ch l.length done) a w
theorem bB{fid:Nat}{R:Ending->World->Prop}{k:List Item}{id:Nat}(γ:aL)(qs:List Nat)(hm:P.follows .mixedOrders=true)
   (h:∀w1,bI no γ w γ w1->jn P n l qs (ft P fid n R k) l.length [] f w1):ft P fid n R (.code (.region id l.toArray true)::k) f w:=
 iO λa ha=>wp_region_any hm (by
   have h0:=gw _ _ _ _ (h _ (bI.refl _ _ _).drew a ha)
   have hmask:ch l.length []=Array.replicate l.toArray.size false:=by
     apply Array.ext
     · simp[ch]
     · intro j h1 h2;simp[ch]
   rw[hmask] at h0
   simpa using h0)
theorem dK{fid:Nat}{R:Ending->World->Prop}{k:List Item}{id:Nat}{σ:Type}(Mid:σ->Fr->World->Prop)(γ:aL)(qs:List Nat)(hm:P.follows .mixedOrders=true)
    (h:(∀s f w,Mid s f w->ft P fid n R k f w)->∀w1,bI no γ w γ w1->jn P n l qs (ft P fid n R k) l.length [] f w1)(hk:∀s f w,Mid s f w->ft P fid n R k f w):ft P fid n R (.code (.region id l.toArray true)::k) f w:=
  bB γ qs hm (h hk)
def fY(l:List Oper)(done:List Nat)(i:Nat):Bool:=
 !done.contains i&&match l[i]? with
   |some o=>o.after.all λe=> !Region.binds .any e||done.contains e.on&&decide (e.on<l.length)
   |none=>false
def ik(l:List Oper)(done:List Nat)(i:Nat):Bool:=
 match l[i]? with
 |none=>false
 |some oi=>(List.range l.length).all λj=>j==i||done.contains j||match l[j]? with
     |some oj=>oj.after.any (λe=>Region.binds .any e&&e.on==i)||oi.apart l.toArray oj
     |none=>true
def o3(l:List Oper)(qs done M:List Nat)(i:Nat):Bool:=
  ((List.range l.length).all λj=>M.contains j||j==i||match l[j]? with
      |some oj=>oj.after.any λe=>Region.binds .any e&& !M.contains e.on
      |none=>true)&&
  (M.all λj=>j==i||done.contains j||qs.contains j)&&(done.all λj=>M.contains j&&decide (j<l.length))&&M.all λj=>decide (j<l.length)
def gx(l:List Oper):Bool:=Region.noSelect l.toArray
theorem fA{i:Nat}(h:fY l done i=true):i<l.length/\i∈Region.ready .any l.toArray (ch l.length done):=by
 unfold fY at h
 simp only[Bool.and_eq_true,Bool.not_eq_true'] at h
 obtain⟨h1,h2⟩:=h
 split at h2
 · rename_i o ho
   have hlt:i<l.length:=(List.getElem?_eq_some_iff.1 ho).1
   refine⟨hlt,mem_ready.2 ⟨by rw[dr];simp[hlt];simpa using h1,o,by simpa using ho,λe he hb=>?_⟩⟩
   have h3:=Array.all_eq_true_iff_forall_mem.1 h2 e he
   simp only[hb,Bool.not_true,Bool.false_or,Bool.and_eq_true,decide_eq_true_eq] at h3
   rw[dr,if_pos h3.2]
   simpa using h3.1
 · cases h2
theorem gh{i:Nat}{oi:Oper}(hi:l[i]? =some oi)(h:ik l done i=true)(j:Nat)(oj:Oper)(hj:l.toArray[j]? =some oj)(hne:j≠i)(hun:(ch l.length done).getD j true=false)
   (hno:∀e∈oj.after,Region.binds .any e=true->e.on≠i):oi.apart l.toArray oj=true:=by
 have hj':l[j]? =some oj:=by simpa using hj
 have hlt:j<l.length:=(List.getElem?_eq_some_iff.1 hj').1
 unfold ik at h
 simp only[hi,List.all_eq_true,List.mem_range] at h
 have h1:=h j hlt
 rw[dr,if_pos hlt] at hun
 have hd:done.contains j=false:=by simpa using hun
 simp only[hj',Bool.or_eq_true,beq_iff_eq,hne,false_or,hd,Bool.false_eq_true] at h1
 rcases h1 with h1|h1
 · obtain⟨e,he,hb⟩:=Array.any_eq_true'.1 h1
   simp only[Bool.and_eq_true,beq_iff_eq] at hb
   exact absurd hb.2 (hno e he hb.1)
 · exact h1
theorem il(h:gx l=true):∀(j:Nat) (o:Oper) cs b,l.toArray[j]? =some o->o.op≠ .select cs b:=Region.noSelect_spec h
theorem kh{i:Nat}(h:qs.contains i=true):decide (i∈qs)=true:=by simpa using h
variable{dst:Option Tmp}{op:Op}{ty:TypeId}{pos:String}{after:Array Edge}{g:Option (Nat×Bool)}{v:Value}
theorem du(i:Nat)(M:List Nat)(hi:l[i]? =some ⟨dst,op,ty,pos,after,g⟩)(hn:gx l=true)(hc:(qs.contains i&&fY l done i&&ik l done i&&o3 l qs done M i&&kz n ⟨dst,op,ty,pos,after,g⟩)=true)
    (hw:cR l ⟨dst,op,ty,pos,after,g⟩ f=true)(h:(execOp (ev f) ⟨dst,op,ty,pos,after,g⟩).run P w= .ok (.value v) w)(hk:jn P n l qs K fuel (i::done) (g0 f dst v) w):jn P n l qs K (fuel+1) done f w:=by
  simp only[Bool.and_eq_true] at hc
  obtain⟨⟨⟨⟨hq,hr⟩,hf⟩,hb⟩,hd⟩:=hc
  obtain⟨hlt,hr'⟩:=fA hr
  intro a ha
  unfold o3 at hb
  simp only[Bool.and_eq_true,List.all_eq_true,List.mem_range] at hb
  obtain⟨⟨⟨b1,b2⟩,b3⟩,b4⟩:=hb
  have hgM:∀j,(ch l.length M).getD j false=true↔j∈M:=λj=>by
    rw[dr]
    by_cases hjl:j<l.length
    · simp[hjl]
    · simp only[hjl,if_false,Bool.false_eq_true,false_iff]
      exact λhm=>hjl (by simpa using b4 j hm)
  refine qO (v:=v) (M:=ch l.length M) (D:=ch l.length done) (by simpa using hi) (il hn) (kh hq) (λj oj hj hm hne=>?_) (λj oj hj hm hD hne=>?_) fuel _ a (by simp[ch]) (λj hj=>?_) (λj hj=>hj) (gh hi hf) hr' ?_ ?_
  · have hj':l[j]? =some oj:=by simpa using hj
    have hjl:j<l.length:=(List.getElem?_eq_some_iff.1 hj').1
    have h1:=b1 j hjl
    have hmM:M.contains j=false:=by
      cases hc:M.contains j with
      |false=>rfl
      |true=>have h9:=(hgM j).2 (by simpa using hc);rw[hm] at h9;cases h9
    simp only[hmM,hj',Bool.false_or,Bool.or_eq_true,beq_iff_eq,hne,false_or] at h1
    obtain⟨e,he,hbb⟩:=Array.any_eq_true'.1 h1
    simp only[Bool.and_eq_true,Bool.not_eq_true'] at hbb
    refine⟨e,he,hbb.1,?_⟩
    cases hc:(ch l.length M).getD e.on false with
    |false=>rfl
    |true=>
      have:=(hgM _).1 hc
      have h2:=hbb.2
      simp[this] at h2
  · have h1:=b2 j ((hgM j).1 hm)
    have hj':l[j]? =some oj:=by simpa using hj
    have hjl:j<l.length:=(List.getElem?_eq_some_iff.1 hj').1
    rw[dr,if_pos hjl] at hD
    have hd:done.contains j=false:=by simpa using hD
    simp only[Bool.or_eq_true,beq_iff_eq,hne,hd,false_or,Bool.false_eq_true] at h1
    exact kh h1
  · rw[dr] at hj
    split at hj
    · have h1:=b3 j (by simpa using hj)
      exact(hgM j).2 (by simpa using h1.1)
    · cases hj
  · refine .inl ⟨?_,.inl ?_⟩
    · rw[ha.yielded];exact hw
    · rw[ha.eval];exact h
  · rw[dj done hlt]
    exact hk _ (ha.put hd v)
def nE(l:List Oper)(qs done M:List Nat)(i:Nat):Bool:=
 ((List.range l.length).all λj=>M.contains j||j==i||match l[j]? with
     |some oj=>oj.after.any λe=>Region.binds .any e&& !M.contains e.on
     |none=>true)&&
 (M.all λj=>j==i||done.contains j||qs.contains j||match l[j]? with
     |some oj=>iq oj.op
     |none=>false)&&(done.all λj=>M.contains j&&decide (j<l.length))&&M.all λj=>decide (j<l.length)
theorem yw(i:Nat)(M:List Nat)(hi:l[i]? =some ⟨dst,op,ty,pos,after,g⟩)(hn:gx l=true)(hc:(qs.contains i&&fY l done i&&ik l done i&&nE l qs done M i&&kz n ⟨dst,op,ty,pos,after,g⟩)=true)
    (hw:cR l ⟨dst,op,ty,pos,after,g⟩ f=true)(h:∀w',e8 w.heap.size w w'->(execOp (ev f) ⟨dst,op,ty,pos,after,g⟩).run P w'= .ok (.value v) w')(hk:jn P n l qs K fuel (i::done) (g0 f dst v) w):jn P n l qs K (fuel+1) done f w:=by
  simp only[Bool.and_eq_true] at hc
  obtain⟨⟨⟨⟨hq,hr⟩,hf⟩,hb⟩,hd⟩:=hc
  obtain⟨hlt,hr'⟩:=fA hr
  intro a ha
  unfold nE at hb
  simp only[Bool.and_eq_true,List.all_eq_true,List.mem_range] at hb
  obtain⟨⟨⟨b1,b2⟩,b3⟩,b4⟩:=hb
  have hgM:∀j,(ch l.length M).getD j false=true↔j∈M:=λj=>by
    rw[dr]
    by_cases hjl:j<l.length
    · simp[hjl]
    · simp only[hjl,if_false,Bool.false_eq_true,false_iff]
      exact λhm=>hjl (by simpa using b4 j hm)
  refine sD (v:=v) (w0:=w) (M:=ch l.length M) (D:=ch l.length done) (by simpa using hi) (il hn) (kh hq) (λc a w h=>by cases h.1) (λj oj hj hm hne=>?_) (λj oj hj hm hD hne=>?_) fuel _ a w (e8.refl _ _) (λj hj=>?_) (λj hj=>hj) (gh hi hf) hr' (λw' hw'=>?_) ?_
  · have hj':l[j]? =some oj:=by simpa using hj
    have hjl:j<l.length:=(List.getElem?_eq_some_iff.1 hj').1
    have h1:=b1 j hjl
    have hmM:M.contains j=false:=by
      cases hc:M.contains j with
      |false=>rfl
      |true=>have h9:=(hgM j).2 (by simpa using hc);rw[hm] at h9;cases h9
    simp only[hmM,hj',Bool.false_or,Bool.or_eq_true,beq_iff_eq,hne,false_or] at h1
    obtain⟨e,he,hbb⟩:=Array.any_eq_true'.1 h1
    simp only[Bool.and_eq_true,Bool.not_eq_true'] at hbb
    refine⟨e,he,hbb.1,?_⟩
    cases hc:(ch l.length M).getD e.on false with
    |false=>rfl
    |true=>
      have:=(hgM _).1 hc
      have h2:=hbb.2
      simp[this] at h2
  · have h1:=b2 j ((hgM j).1 hm)
    have hj':l[j]? =some oj:=by simpa using hj
    have hjl:j<l.length:=(List.getElem?_eq_some_iff.1 hj').1
    rw[dr,if_pos hjl] at hD
    have hd:done.contains j=false:=by simpa using hD
    simp only[hj',Bool.or_eq_true,beq_iff_eq,hne,hd,false_or,Bool.false_eq_true] at h1
    rcases h1 with h1|h1
    · exact .inl (kh h1)
    · exact .inr h1
  · rw[dr] at hj
    split at hj
    · have h1:=b3 j (by simpa using hj)
      exact(hgM j).2 (by simpa using h1.1)
    · cases hj
  · refine .inl ⟨?_,.inl ?_⟩
    · rw[ha.yielded];exact hw
    · rw[ha.eval];exact h w' hw'
  · rw[dj done hlt]
    exact hk _ (ha.put hd v)
theorem bP(i:Nat)(hi:l[i]? =some ⟨dst,op,ty,pos,after,g⟩)(hn:gx l=true)(hc:(qs.contains i&&fY l done i&&ik l done i&&kz n ⟨dst,op,ty,pos,after,g⟩)=true)
    (hw:cR l ⟨dst,op,ty,pos,after,g⟩ f=true)(h:∀w,(execOp (ev f) ⟨dst,op,ty,pos,after,g⟩).run P w= .ok (.value v) w)(hk:jn P n l qs K fuel (i::done) (g0 f dst v) w):jn P n l qs K (fuel+1) done f w:=by
  simp only[Bool.and_eq_true] at hc
  obtain⟨⟨⟨hq,hr⟩,hf⟩,hd⟩:=hc
  obtain⟨hlt,hr'⟩:=fA hr
  intro a ha
  refine n7 (v:=v) (by simpa using hi) (il hn) (kh hq) (λc a w h=>by cases h.1) fuel _ a w (gh hi hf) hr' (.inl ⟨by rw[ha.yielded];exact hw,λw=>by rw[ha.eval];exact h w⟩) ?_
  rw[dj done hlt]
  exact hk _ (ha.put hd v)
theorem aR(i:Nat)(hi:l[i]? =some ⟨dst,op,ty,pos,after,g⟩)(hn:gx l=true)(hc:(qs.contains i&&fY l done i&&ik l done i&&kz n ⟨dst,op,ty,pos,after,g⟩)=true)
   (hw:cR l ⟨dst,op,ty,pos,after,g⟩ f=false)(hk:jn P n l qs K fuel (i::done) (g0 f dst undef) w):jn P n l qs K (fuel+1) done f w:=by
 simp only[Bool.and_eq_true] at hc
 obtain⟨⟨⟨hq,hr⟩,hf⟩,hd⟩:=hc
 obtain⟨hlt,hr'⟩:=fA hr
 intro a ha
 refine n7 (v:=undef) (by simpa using hi) (il hn) (kh hq) (λc a w h=>by cases h.1) fuel _ a w (gh hi hf) hr' (.inr ⟨by rw[ha.yielded];exact hw,rfl⟩) ?_
 rw[dj done hlt]
 exact hk _ (ha.put hd undef)
theorem fz{i:Nat}{o:Oper}{a:Act}{K':Act->World->Prop}{Q:Exit->Act->World->Prop}{N:Value->World->Prop}(ha:Ag n a f)(hi:l[i]? =some o)(hw:cR l o f=true)(h:fv P o f w N)(hN:∀v w',N v w'->K' (a.put o.dst v) w'):wpOp P l.toArray Q i K' a w:=by
 unfold wpOp
 have hi':l.toArray[i]? =some o:=by simpa using hi
 simp only[hi']
 have hw':Region.wanted o (yielded l.toArray a.tmps)=true:=by rw[ha.yielded];exact hw
 simp only[hw',if_true]
 refine .inl ?_
 unfold Oper.wp
 rw[ha.eval]
 unfold fv at h
 generalize(execOp (ev f) o).run P w=r at*
 cases r with
 |halt x w'=>exact h.elim
 |ok nx w'=>
   cases nx<;>simp only[s5] at h<;>simp only[Oper.upon]
   case value v=>exact hN _ _ h
   case skip=>exact hN _ _ h
   case enter g args=>
     refine h.mono λe w'' he=>?_
     cases e with
     |returned v=>exact hN _ _ he
     |panicked c=>exact he.elim
     |outgrown=>exact he.elim
theorem bc(i:Nat)(hi:l[i]? =some ⟨dst,op,ty,pos,after,g⟩)(hc:(decide (Region.ready .any l.toArray (ch l.length done)=[i])&& !qs.contains i&&kz n ⟨dst,op,ty,pos,after,g⟩)=true)
    (hw:cR l ⟨dst,op,ty,pos,after,g⟩ f=true)(h:fv P ⟨dst,op,ty,pos,after,g⟩ f w (λv w'=>jn P n l qs K fuel (i::done) (g0 f dst v) w')):jn P n l qs K (fuel+1) done f w:=by
  simp only[Bool.and_eq_true,decide_eq_true_eq,Bool.not_eq_true'] at hc
  obtain⟨⟨hr,hq⟩,hd⟩:=hc
  have hlt:i<l.length:=(List.getElem?_eq_some_iff.1 hi).1
  intro a ha
  refine⟨λh0=>(by rw[hr] at h0;cases h0),λj hj=>?_⟩
  rw[hr] at hj
  obtain rfl:j=i:=by simpa using hj
  have hq':decide (j∈qs)=false:=by simpa using hq
  simp only[hq',Bool.false_eq_true,if_false]
  refine fz ha hi hw h λv w' hk=>?_
  rw[dj done hlt]
  exact hk _ (ha.put hd v)
theorem fC(i j:Nat){dst':Option Tmp}{op':Op}{ty':TypeId}{pos':String}{after':Array Edge}{g':Option (Nat×Bool)}(hi:l[i]? =some ⟨dst,op,ty,pos,after,g⟩)(hj:l[j]? =some ⟨dst',op',ty',pos',after',g'⟩)
    (hc:(decide (Region.ready .any l.toArray (ch l.length done)=[i,j])&& !qs.contains i&& !qs.contains j&&kz n ⟨dst,op,ty,pos,after,g⟩&&kz n ⟨dst',op',ty',pos',after',g'⟩)=true)
    (hw:cR l ⟨dst,op,ty,pos,after,g⟩ f=true)(hw':cR l ⟨dst',op',ty',pos',after',g'⟩ f=true)
    (h:fv P ⟨dst,op,ty,pos,after,g⟩ f w (λv w'=>jn P n l qs K fuel (i::done) (g0 f dst v) w'))(h':fv P ⟨dst',op',ty',pos',after',g'⟩ f w (λv w'=>jn P n l qs K fuel (j::done) (g0 f dst' v) w')):jn P n l qs K (fuel+1) done f w:=by
  simp only[Bool.and_eq_true,decide_eq_true_eq,Bool.not_eq_true'] at hc
  obtain⟨⟨⟨⟨hr,hq⟩,hq2⟩,hd⟩,hd'⟩:=hc
  have hlt:i<l.length:=(List.getElem?_eq_some_iff.1 hi).1
  have hlt':j<l.length:=(List.getElem?_eq_some_iff.1 hj).1
  intro a ha
  refine⟨λh0=>(by rw[hr] at h0;cases h0),λk hk=>?_⟩
  rw[hr] at hk
  have hk':k=i\/k=j:=by simpa using hk
  rcases hk' with rfl|rfl
  · have hq':decide (k∈qs)=false:=by simpa using hq
    simp only[hq',Bool.false_eq_true,if_false]
    refine fz ha hi hw h λv w' hk=>?_
    rw[dj done hlt]
    exact hk _ (ha.put hd v)
  · have hq':decide (k∈qs)=false:=by simpa using hq2
    simp only[hq',Bool.false_eq_true,if_false]
    refine fz ha hj hw' h' λv w' hk=>?_
    rw[dj done hlt']
    exact hk _ (ha.put hd' v)
theorem bY(hr:decide (Region.ready .any l.toArray (ch l.length done)=[])=true)(h:K f w):jn P n l qs K 0 done f w:=λ_ ha=>⟨of_decide_eq_true hr,rfl,f,ha,h⟩
end
end TL
/-
  TlHold: regions that draw their order, where what is read stays: on the kit's OrdersHeld.
  By an AI agent.
-/
set_option linter.all false
namespace TL
open Go
section
variable{P:Program}{n:Nat}{l:List Oper}{S:World->Prop}{K:Fr->World->Prop}{f:Fr}{w:World}{done:List Nat}{fuel:Nat}
def t7(P:Program)(n:Nat)(l:List Oper)(S:World->Prop)(K:Fr->World->Prop)(fuel:Nat)(done:List Nat)(f:Fr)(w:World):Prop:=
  ∀a,Ag n a f->wpAnyH P .any l.toArray (λe a' w'=>e= .normal/\∃f',Ag n a' f'/\K f' w') S fuel (ch l.length done) a w
theorem bI.same{J:cC->Prop}{γ γ':aL}{w w':World}(h:bI J γ w γ' w'):bI J γ w γ w':=⟨h.os,h.tape,h.output,h.size,λ_ _ _=>rfl,h.keep,h.drawn⟩
theorem jA{fid:Nat}{R:Ending->World->Prop}{k:List Item}{id:Nat}(γ:aL)(J:cC->Prop)(hm:P.follows .mixedOrders=true)
   (h:∀w1,bI no γ w γ w1->t7 P n l (λw'=>bI J γ w1 γ w') (ft P fid n R k) l.length [] f w1):ft P fid n R (.code (.region id l.toArray true)::k) f w:=
 iO λa ha=>wp_region_held hm (by
   have h0:=h _ (bI.refl _ _ _).drew a ha
   have hmask:ch l.length []=Array.replicate l.toArray.size false:=by
     apply Array.ext
     · simp[ch]
     · intro j h1 h2;simp[ch]
   rw[hmask] at h0
   simpa using h0)
theorem io{fid:Nat}{R:Ending->World->Prop}{k:List Item}{id:Nat}{σ:Type}(Mid:σ->Fr->World->Prop)(γ:aL)(J:cC->Prop)(hm:P.follows .mixedOrders=true)
    (h:(∀s f w,Mid s f w->ft P fid n R k f w)->∀w1,bI no γ w γ w1->t7 P n l (λw'=>bI J γ w1 γ w') (ft P fid n R k) l.length [] f w1)(hk:∀s f w,Mid s f w->ft P fid n R k f w):ft P fid n R (.code (.region id l.toArray true)::k) f w:=
  jA γ J hm (h hk)
variable{dst:Option Tmp}{op:Op}{ty:TypeId}{pos:String}{after:Array Edge}{g:Option (Nat×Bool)}{v:Value}
theorem yA(i:Nat)(hi:l[i]? =some ⟨dst,op,ty,pos,after,g⟩)(hn:gx l=true)(hc:(fY l done i&&ik l done i&&kz n ⟨dst,op,ty,pos,after,g⟩)=true)
   (hw:cR l ⟨dst,op,ty,pos,after,g⟩ f=true)(hS:S w)(h:∀w,S w->(execOp (ev f) ⟨dst,op,ty,pos,after,g⟩).run P w= .ok (.value v) w)(hk:t7 P n l S K fuel (i::done) (g0 f dst v) w):t7 P n l S K (fuel+1) done f w:=by
 simp only[Bool.and_eq_true] at hc
 obtain⟨⟨hr,hf⟩,hd⟩:=hc
 obtain⟨hlt,hr'⟩:=fA hr
 intro a ha
 refine wpAnyH_first (v:=v) (by simpa using hi) (il hn) (λc a w h=>by cases h.1) fuel _ a w (gh hi hf) hr' (.inl ⟨by rw[ha.yielded];exact hw,λw hs=>by rw[ha.eval];exact h w hs⟩) hS ?_
 rw[dj done hlt]
 exact hk _ (ha.put hd v)
def yy(P:Program)(n:Nat)(l:List Oper)(S:World->Prop)(K:Fr->World->Prop)(fuel:Nat)(done:List Nat)(f:Fr)(w:World)(i:Nat):Prop:=
  ∃o,l[i]? =some o/\i<l.length/\(cR l o f=true/\kz n o=true/\fv P o f w (λv w'=>S w'/\t7 P n l S K fuel (i::done) (g0 f o.dst v) w'))
theorem jm(i:Nat)(hi:l[i]? =some ⟨dst,op,ty,pos,after,g⟩)(hc:kz n ⟨dst,op,ty,pos,after,g⟩=true)(hw:cR l ⟨dst,op,ty,pos,after,g⟩ f=true)
   (h:fv P ⟨dst,op,ty,pos,after,g⟩ f w (λv w'=>S w'/\t7 P n l S K fuel (i::done) (g0 f dst v) w')):yy P n l S K fuel done f w i:=
 ⟨_,hi,(List.getElem?_eq_some_iff.1 hi).1,hw,hc,h⟩
def wm(P:Program)(n:Nat)(l:List Oper)(S:World->Prop)(K:Fr->World->Prop)(fuel:Nat)(done:List Nat)(f:Fr)(w:World):List Nat->Prop
 |[]=>True
 |i::r=>yy P n l S K fuel done f w i/\wm P n l S K fuel done f w r
theorem wm.mem{L:List Nat}(h:wm P n l S K fuel done f w L):∀i∈L,yy P n l S K fuel done f w i:=by
 induction L with
 |nil=>intro i hi;cases hi
 |cons j r ih=>
   intro i hi
   rcases List.mem_cons.1 hi with rfl|hi
   · exact h.1
   · exact ih h.2 i hi
theorem iD(i:Nat)(L:List Nat)(hr:decide (Region.ready .any l.toArray (ch l.length done)=i::L)=true)(h:wm P n l S K fuel done f w (i::L)):t7 P n l S K (fuel+1) done f w:=by
 have hr:=of_decide_eq_true hr
 intro a ha
 refine⟨λh0=>(by rw[hr] at h0;cases h0),λk hk=>?_⟩
 rw[hr] at hk
 obtain⟨o,hi,hlt,hw,hd,ho⟩:=h.mem k (by simpa using hk)
 obtain⟨dst,op,ty,pos,after,g⟩:=o
 refine fz ha hi hw ho λv w' hk=>⟨hk.1,?_⟩
 rw[dj done hlt]
 exact hk.2 _ (ha.put hd v)
theorem cD(i:Nat)(hi:l[i]? =some ⟨dst,op,ty,pos,after,g⟩)(hc:(decide (Region.ready .any l.toArray (ch l.length done)=[i])&&kz n ⟨dst,op,ty,pos,after,g⟩)=true)
   (hw:cR l ⟨dst,op,ty,pos,after,g⟩ f=true)(h:fv P ⟨dst,op,ty,pos,after,g⟩ f w (λv w'=>S w'/\t7 P n l S K fuel (i::done) (g0 f dst v) w')):t7 P n l S K (fuel+1) done f w:=by
 simp only[Bool.and_eq_true] at hc
 exact iD i [] hc.1 ⟨jm i hi hc.2 hw h,trivial⟩
theorem ij(hr:decide (Region.ready .any l.toArray (ch l.length done)=[])=true)(h:K f w):t7 P n l S K 0 done f w:=λ_ ha=>⟨of_decide_eq_true hr,rfl,f,ha,h⟩
end
end TL
namespace TL
open Go
end TL
/-
  TlNet: nets, and what layer 3 says of them, as plain functions.
  By an AI agent.
-/
set_option linter.all false
namespace TL
abbrev bh:=Int×List (Int×Int)
def nP(n:Int)(e:Int×Int):Prop:=(0<=e.1/\e.1<n)/\0<=e.2/\e.2<n
instance (n:Int)(e:Int×Int):Decidable (nP n e):=by unfold nP;infer_instance
def b7(g:bh):Prop:=0<=g.1/\g.1<=1024/\g.2.length<=3072/\∀e∈g.2,nP g.1 e
instance (g:bh):Decidable (b7 g):=by unfold b7;infer_instance
def cS(g:bh):Bool:=decide (b7 g)
theorem n8{g:bh}(h:b7 g):cS g=true:=decide_eq_true h
theorem cL{g:bh}(h:¬b7 g):cS g=false:=decide_eq_false h
end TL
namespace TL
def fx(n:Int):List Int->List Int->Int
  |[],_=>0
  |i::r,seen=>if i<0\/n<=i then 2 else if i∈seen then 18 else fx n r (seen++[i])
def cG(l:List Int)(n:Int):Int:=fx n l []
structure e7(seen:List Bool)(l:List Int)(n:Int)(k:Nat):Prop where
 len:(seen.length:Int)=n
 seen:∀i,0<=i->i<n->gI seen i=decide (i∈l.take k)
 rest:fx n (l.drop k) (l.take k)=cG l n
 all:∀i∈l.take k,0<=i/\i<n
theorem nw{α:Type}[Inhabited α]{xs:List α}{k:Nat}(h:(k:Int)<xs.length):xs.drop k=gI xs k::xs.drop (k+1):=by
 have h':k<xs.length:=by omega
 rw[List.drop_eq_getElem_cons h']
 simp[gI,h']
theorem c5{α:Type}[Inhabited α]{xs:List α}{i j:Int}{y:α}(hi:0<=i)(hi':i<xs.length)(hj:0<=j):gI (xs.set i.toNat y) j=if j=i then y else gI xs j:=by
 unfold gI
 by_cases h:j=i
 · subst h
   have:j.toNat<xs.length:=by omega
   simp[this]
 · have:i.toNat≠j.toNat:=by omega
   simp[h,List.getElem?_set_ne this]
theorem fI{α:Type}[Inhabited α]{n:Nat}{x:α}{i:Int}(h0:0<=i)(h1:i<n):gI (List.replicate n x) i=x:=by
 have:i.toNat<n:=by omega
 simp[gI,this]
theorem e7.start(l:List Int)(n:Int)(hn:0<=n):e7 (List.replicate n.toNat false) l n 0:=
 ⟨by simp;omega,λi h0 h1=>by rw[fI h0 (by omega)];simp,by simp[cG],by simp⟩
theorem e7.next{seen:List Bool}{l:List Int}{n:Int}{k:Nat}(h:e7 seen l n k)(hk:(k:Int)<l.length)(h0:0<=gI l k)(h1:gI l k<n)(hs:gI seen (gI l k)=false):e7 (seen.set (gI l k).toNat true) l n (k+1):=by
 have ht:=bO hk
 have hd:=nw hk
 have hl:=h.len
 have hni:gI l k∉l.take k:=by
   have:=h.seen _ h0 h1
   rw[hs] at this
   simpa using this.symm
 refine⟨by simpa using h.len,λi h2 h3=>?_,?_,λi hi=>?_⟩
 · rw[c5 h0 (by omega) h2,ht]
   by_cases he:i=gI l k
   · subst he;simp
   · rw[if_neg he,h.seen i h2 h3]
     simp[he]
 · rw[<-h.rest,hd,ht]
   simp only[fx]
   rw[if_neg (by omega),if_neg hni]
 · rw[ht] at hi
   rcases List.mem_append.1 hi with h'|h'
   · exact h.all i h'
   · obtain rfl:=List.mem_singleton.1 h'
     exact⟨h0,h1⟩
theorem e7.bad{seen:List Bool}{l:List Int}{n:Int}{k:Nat}(h:e7 seen l n k)(hk:(k:Int)<l.length)(h0:gI l k<0\/n<=gI l k):(2:Int)=cG l n:=by
 rw[<-h.rest,nw hk];simp only[fx];rw[if_pos h0]
theorem e7.twice{seen:List Bool}{l:List Int}{n:Int}{k:Nat}(h:e7 seen l n k)(hk:(k:Int)<l.length)(h0:0<=gI l k)(h1:gI l k<n)(hs:gI seen (gI l k)=true):(18:Int)=cG l n:=by
 have hni:gI l k∈l.take k:=by
   have:=h.seen _ h0 h1
   rw[hs] at this
   simpa using this.symm
 rw[<-h.rest,nw hk];simp only[fx];rw[if_neg (by omega),if_pos hni]
theorem e7.done{seen:List Bool}{l:List Int}{n:Int}{k:Nat}(h:e7 seen l n k)(hk:¬(k:Int)<l.length):(0:Int)=cG l n:=by
 rw[<-h.rest,List.drop_of_length_le (by omega)];rfl
theorem jl{n:Int}:∀(l seen:List Int),fx n l seen=0->(∀i∈l,0<=i/\i<n)/\l.Nodup/\∀i∈l,i∉seen
 |[],seen,_=>by simp
 |i::r,seen,h=>by
   simp only[fx] at h
   split at h
   · cases h
   · split at h
     · cases h
     · rename_i h1 h2
       obtain⟨a,b,c⟩:=jl r (seen++[i]) h
       refine⟨λj hj=>?_,List.nodup_cons.2 ⟨λhi=>c i hi (by simp),b⟩,λj hj=>?_⟩
       · rcases List.mem_cons.1 hj with rfl|hj
         · omega
         · exact a j hj
       · rcases List.mem_cons.1 hj with rfl|hj
         · exact h2
         · exact λhs=>c j hj (by simp[hs])
theorem qQ{n:Int}{l:List Int}(h:cG l n=0):(∀i∈l,0<=i/\i<n)/\l.Nodup:=⟨(jl l [] h).1,(jl l [] h).2.1⟩
def dq(nodes:List Int)(v:Int):Int:=if v∈nodes then(nodes.idxOf v:Int)+1 else 0
def lH(g:bh)(nodes:List Int):List Int:=((List.range g.2.length).map (λ(i:Nat)=>(i:Int))).filter λi=>decide ((gI g.2 i).1∈nodes)&&decide ((gI g.2 i).2∈nodes)
def cZ(g:bh)(nodes:List Int):bh×List Int×Int:=
 if b7 g then
   if cG nodes g.1=0 then(((nodes.length:Int),(lH g nodes).map λi=>(dq nodes (gI g.2 i).1-1,dq nodes (gI g.2 i).2-1)),lH g nodes,0) else((0,[]),[],cG nodes g.1)
 else((0,[]),[],1)
end TL
namespace TL
structure iu(T:List Int)(nodes:List Int)(n:Int)(k:Nat):Prop where
 len:(T.length:Int)=n
 pos:∀v,0<=v->v<n->gI T v=dq (nodes.take k) v
theorem iu.start(nodes:List Int)(n:Int)(hn:0<=n):iu (List.replicate n.toNat 0) nodes n 0:=
 ⟨by simp;omega,λv h0 h1=>by rw[fI h0 (by omega)];simp[dq]⟩
theorem sj{l:List Int}{x v:Int}(hx:x∉l):dq (l++[x]) v=if v=x then(l.length:Int)+1 else dq l v:=by
 unfold dq
 by_cases h:v=x
 · subst h
   simp[List.idxOf_append,hx]
 · by_cases hv:v∈l
   · simp[h,hv,List.idxOf_append]
   · simp[h,hv]
theorem iu.next{T nodes:List Int}{n:Int}{k:Nat}(h:iu T nodes n k)(hk:(k:Int)<nodes.length)(h0:0<=gI nodes k)(h1:gI nodes k<n)(hd:nodes.Nodup):iu (T.set (gI nodes k).toNat ((k:Int)+1)) nodes n (k+1):=by
 have ht:=bO hk
 have hl:=h.len
 have hn:gI nodes k∉nodes.take k:=by
   have h2:(nodes.take (k+1)).Nodup:=hd.sublist (List.take_sublist _ _)
   rw[ht] at h2
   have:=List.nodup_append.1 h2
   intro hm
   exact this.2.2 _ hm _ (by simp) rfl
 have hlk:(nodes.take k).length=k:=by simp;omega
 refine⟨by simpa using h.len,λv h2 h3=>?_⟩
 rw[c5 h0 (by omega) h2,ht,sj hn,h.pos v h2 h3,hlk]
def dm(g:bh)(nodes:List Int)(k:Nat):List Int:=((List.range k).map (λ(i:Nat)=>(i:Int))).filter λi=>decide ((gI g.2 i).1∈nodes)&&decide ((gI g.2 i).2∈nodes)
theorem iA(g:bh)(nodes:List Int)(k:Nat):dm g nodes (k+1)=if(gI g.2 k).1∈nodes/\(gI g.2 k).2∈nodes then dm g nodes k++[(k:Int)] else dm g nodes k:=by
 unfold dm
 rw[List.range_succ,List.map_append,List.filter_append]
 by_cases h:(gI g.2 k).1∈nodes/\(gI g.2 k).2∈nodes
 · rw[if_pos h];simp[h.1,h.2]
 · rw[if_neg h]
   have:¬((gI g.2 (k:Int)).1∈nodes/\(gI g.2 (k:Int)).2∈nodes):=h
   by_cases h1:(gI g.2 (k:Int)).1∈nodes
   · have h2:(gI g.2 (k:Int)).2∉nodes:=λh2=>h ⟨h1,h2⟩
     simp[h1,h2]
   · simp[h1]
theorem qK(g:bh)(nodes:List Int)(k:Nat):(dm g nodes k).length<=k:=by
 unfold dm
 have:=List.length_filter_le (λi=>decide ((gI g.2 i).1∈nodes)&&decide ((gI g.2 i).2∈nodes)) ((List.range k).map (λ(i:Nat)=>(i:Int)))
 simpa using this
theorem fZ{l:List Int}{v:Int}:0<dq l v↔v∈l:=by
 unfold dq
 by_cases h:v∈l
 · simp[h]
 · simp[h]
theorem jG(l:List Int)(v:Int):dq l v<=l.length:=by
 unfold dq
 split
 · rename_i h
   have:=List.idxOf_lt_length_iff.2 h
   omega
 · omega
end TL
namespace TL
theorem qL{g:bh}{nodes:List Int}{k:Nat}(h1:0<dq nodes (gI g.2 k).1)(h2:0<dq nodes (gI g.2 k).2):dm g nodes (k+1)=dm g nodes k++[(k:Int)]:=by
 rw[iA,if_pos ⟨fZ.1 h1,fZ.1 h2⟩]
theorem qS{g:bh}{nodes:List Int}{k:Nat}(h1:¬0<dq nodes (gI g.2 k).1):dm g nodes (k+1)=dm g nodes k:=by
 rw[iA,if_neg λh=>h1 (fZ.2 h.1)]
theorem qC{g:bh}{nodes:List Int}{k:Nat}(h1:¬0<dq nodes (gI g.2 k).2):dm g nodes (k+1)=dm g nodes k:=by
 rw[iA,if_neg λh=>h1 (fZ.2 h.2)]
end TL
namespace TL
def aI(g:bh)(h:Int):Int:=pI (gI g.2 (h/2)) (h%2)
def i9(g:bh)(v:Int)(k:Nat):List Int:=((List.range (2*k)).map (λ(i:Nat)=>(i:Int))).filter λh=>decide (aI g h=v)
def dM(g:bh)(v:Int):List Int:=i9 g v g.2.length
theorem ms(g:bh)(k:Nat):aI g (2*(k:Int))=(gI g.2 k).1:=by
 unfold aI
 have h1:2*(k:Int)/2=k:=by omega
 have h2:2*(k:Int)%2=0:=by omega
 rw[h1,h2];rfl
theorem nk(g:bh)(k:Nat):aI g (2*(k:Int)+1)=(gI g.2 k).2:=by
 unfold aI
 have h1:(2*(k:Int)+1)/2=k:=by omega
 have h2:(2*(k:Int)+1)%2=1:=by omega
 rw[h1,h2];rfl
theorem qH(g:bh)(v:Int)(k:Nat):i9 g v (k+1)=i9 g v k++((if(gI g.2 k).1=v then[2*(k:Int)] else[])++(if(gI g.2 k).2=v then[2*(k:Int)+1] else[])):=by
 unfold i9
 rw[show 2*(k+1)=2*k+1+1 by omega,List.range_succ,List.range_succ]
 simp only[List.map_append,List.filter_append,List.map_cons,List.map_nil,List.append_assoc]
 congr 1
 have e1:((2*k:Nat):Int)=2*(k:Int):=by omega
 have e2:((2*k+1:Nat):Int)=2*(k:Int)+1:=by omega
 rw[e1,e2]
 congr 1
 · by_cases h:(gI g.2 (k:Int)).1=v
   · simp[ms,h]
   · simp[ms,h]
 · by_cases h:(gI g.2 (k:Int)).2=v
   · simp[nk,h]
   · simp[nk,h]
theorem sM(g:bh)(v:Int)(k:Nat):(i9 g v k).length<=2*k:=by
 unfold i9
 have:=List.length_filter_le (λh=>decide (aI g h=v)) ((List.range (2*k)).map (λ(i:Nat)=>(i:Int)))
 simpa using this
def cO(g:bh):List Int:=(List.range g.1.toNat).map λ(v:Nat)=>((dM g v).length:Int)
end TL
namespace TL
theorem kA{α:Type}[Inhabited α]{l l':List α}(hl:l.length=l'.length)(h:∀i:Nat,i<l.length->gI l i=gI l' i):l=l':=by
 apply List.ext_getElem hl
 intro i h1 h2
 have:=h i h1
 simpa[gI,h1,h2] using this
end TL
namespace TL
def sJ(x:List Int)(i:Nat):Int:=((x.take i).drop 1).foldl min (gI x 0)
def sG(x:List Int)(i:Nat):Int:=((x.take i).drop 1).foldl max (gI x 0)
def yD(x:List Int):Int:=sJ x x.length
def yp(x:List Int):Int:=sG x x.length
theorem ii{x:List Int}{i:Nat}(h1:1<=i)(hi:(i:Int)<x.length):(x.take (i+1)).drop 1=(x.take i).drop 1++[gI x i]:=by
 rw[bO hi,List.drop_append_of_le_length (by simp;omega)]
theorem sk{x:List Int}{i:Nat}(h1:1<=i)(hi:(i:Int)<x.length):sJ x (i+1)=min (sJ x i) (gI x i):=by
 unfold sJ;rw[ii h1 hi];simp
theorem sL{x:List Int}{i:Nat}(h1:1<=i)(hi:(i:Int)<x.length):sG x (i+1)=max (sG x i) (gI x i):=by
 unfold sG;rw[ii h1 hi];simp
def cP(e:Int×Int):Int×Int:=(min e.1 e.2,max e.1 e.2)
def dY(g:bh)(k:Nat):Int:=((g.2.take k).countP λe=>decide (e.1=e.2):Nat)
def gk(g:bh)(k:Nat):Int:=((List.range k).countP λi=>decide (cP (gI g.2 i)∈(g.2.map cP).take i):Nat)
theorem sW(g:bh)(k:Nat):0<=dY g k/\dY g k<=k:=by
 unfold dY
 have h1:=List.countP_le_length (p:=λe:Int×Int=>decide (e.1=e.2)) (l:=g.2.take k)
 have h2:(g.2.take k).length<=k:=List.length_take_le _ _
 omega
theorem vV(g:bh)(k:Nat):0<=gk g k/\gk g k<=k:=by
 unfold gk
 have h1:=List.countP_le_length (p:=λi:Nat=>decide (cP (gI g.2 i)∈(g.2.map cP).take i)) (l:=List.range k)
 simp only[List.length_range] at h1
 omega
theorem kw{g:bh}{k:Nat}(hk:(k:Int)<g.2.length):dY g (k+1)=dY g k+if(gI g.2 k).1=(gI g.2 k).2 then 1 else 0:=by
 unfold dY
 rw[bO hk,List.countP_append]
 by_cases h:(gI g.2 (k:Int)).1=(gI g.2 (k:Int)).2<;>simp[h]
theorem mM(g:bh)(k:Nat):gk g (k+1)=gk g k+if cP (gI g.2 k)∈(g.2.map cP).take k then 1 else 0:=by
 unfold gk
 rw[List.range_succ,List.countP_append]
 by_cases h:cP (gI g.2 (k:Int))∈(g.2.map cP).take k
 · simp[h]
 · simp[h]
def eA(g:bh):(Int×Int×Int×Int×Bool)×Int:=
 if b7 g then
   ((dY g g.2.length,gk g g.2.length,if 0<g.1 then yD (cO g) else 0,if 0<g.1 then yp (cO g) else 0,decide (dY g g.2.length=0/\gk g g.2.length=0)),0)
 else((0,0,0,0,false),1)
end TL
namespace TL
theorem iZ{g:bh}{k:Nat}(hk:(k:Int)<g.2.length):(g.2.map cP).take (k+1)=(g.2.map cP).take k++[cP (gI g.2 k)]:=by
 rw[bO (by simpa using hk)]
 have h':k<g.2.length:=by omega
 simp[gI,h']
end TL
namespace TL
section
variable{l0 l1:Int}{F:Int×Int->Int}{g:bh}{k:Nat}
end
end TL
/-
  TlNetLaws: what follows of nets: parts of parts, subs of subs.
  By an AI agent.
-/
set_option linter.all false
namespace TL
theorem jt{n:Int}:∀(l seen:List Int),(∀i∈l,0<=i/\i<n)->l.Nodup->(∀i∈l,i∉seen)->fx n l seen=0
 |[],_,_,_,_=>rfl
 |i::r,seen,h1,h2,h3=>by
   have h4:=h1 i (by simp)
   obtain⟨h5,h6⟩:=List.nodup_cons.1 h2
   simp only[fx]
   rw[if_neg (by omega),if_neg (h3 i (by simp))]
   refine jt r _ (λj hj=>h1 j (by simp[hj])) h6 (λj hj hs=>?_)
   rcases List.mem_append.1 hs with h|h
   · exact h3 j (by simp[hj]) h
   · obtain rfl:=List.mem_singleton.1 h
     exact h5 hj
theorem nC{n:Int}{l:List Int}(h1:∀i∈l,0<=i/\i<n)(h2:l.Nodup):cG l n=0:=jt l [] h1 h2 (by simp)
theorem qu{α β:Type}[Inhabited α][Inhabited β](f:α->β){l:List α}{i:Int}(h0:0<=i)(h1:i<l.length):gI (l.map f) i=f (gI l i):=by
 have:i.toNat<l.length:=by omega
 simp[gI,this]
theorem xX{l:List Int}(h:l.Nodup){i j:Int}(hi0:0<=i)(hi:i<l.length)(hj0:0<=j)(hj:j<l.length)(he:gI l i=gI l j):i=j:=by
 have h1:i.toNat<l.length:=by omega
 have h2:j.toNat<l.length:=by omega
 simp[gI,h1,h2] at he
 have:=(List.getElem_inj h).1 he
 omega
theorem wV{l:List Int}{v:Int}(h:v∈l):gI l (dq l v-1)=v:=by
 have h1:=List.idxOf_lt_length_iff.2 h
 unfold dq gI
 rw[if_pos h]
 have:((l.idxOf v:Int)+1-1).toNat=l.idxOf v:=by omega
 rw[this]
 simp[h1]
theorem qY{l:List Int}(hn:l.Nodup){i:Int}(h0:0<=i)(h1:i<l.length):dq l (gI l i)=i+1:=by
 have hm:=bv (xs:=l) h0 h1
 have h2:=wV hm
 have h3:=fZ.2 hm
 have h4:=jG l (gI l i)
 have:=xX hn (i:=dq l (gI l i)-1) (j:=i) (by omega) (by omega) h0 h1 h2
 omega
end TL
/-
  TlNetSums: degrees' sum; all edges, all nodes; moved there and back.
  By an AI agent.
-/
set_option linter.all false
namespace TL
def bG(n:Nat):List Int:=(List.range n).map λ(i:Nat)=>(i:Int)
theorem eI(n:Nat):(bG n).length=n:=by simp[bG]
theorem cV(n:Nat):bG (n+1)=bG n++[(n:Int)]:=by simp[bG,List.range_succ]
theorem cw{n:Nat}{x:Int}:x∈bG n↔0<=x/\x<n:=by
 unfold bG
 rw[List.mem_map]
 constructor
 · rintro⟨i,hi,rfl⟩
   have:=List.mem_range.1 hi
   omega
 · rintro⟨h1,h2⟩
   exact⟨x.toNat,List.mem_range.2 (by omega),by omega⟩
theorem ea(n:Nat):(bG n).Nodup:=by
 induction n with
 |zero=>simp[bG]
 |succ n ih=>
   rw[cV,List.nodup_append]
   refine⟨ih,by simp,λa ha b hb=>?_⟩
   have:=cw.1 ha
   have:=List.mem_singleton.1 hb
   omega
theorem xc{g:bh}(hm:0<=g.1):((cO g).length:Int)=g.1:=by simp[cO];omega
theorem jk{g:bh}:∀x∈cO g,0<=x:=by
 intro x hx
 unfold cO at hx
 obtain⟨v,_,rfl⟩:=List.mem_map.1 hx
 omega
theorem qT:∀(n:Nat) (l:List Int),l.Nodup->(∀x∈l,0<=x/\x<(n:Int))->l.length<=n
 |0,l,_,h=>by
   cases l with
   |nil=>simp
   |cons a l=>have:=h a (by simp);omega
 |n+1,l,hn,h=>by
   have h1:(l.erase (n:Int)).Nodup:=hn.erase _
   have h2:=qT n (l.erase (n:Int)) h1 (λx hx=>by
     have h3:=hn.mem_erase_iff.1 hx
     have:=h x h3.2
     omega)
   by_cases hm:(n:Int)∈l
   · have:=List.length_erase_of_mem hm
     omega
   · rw[List.erase_of_not_mem hm] at h2
     omega
end TL
/-
  TlNet3: nets split, merged, bared: what they come to.
  By an AI agent.
-/
set_option linter.all false
namespace TL
def gH(g:bh)(i:Int):Bool:=decide (¬(gI g.2 i).1=(gI g.2 i).2)&&decide (¬cP (gI g.2 i)∈(g.2.map cP).take i.toNat)
def fk(g:bh)(k:Nat):List Int:=(bG k).filter (gH g)
def bE(g:bh):bh×List Int×Int:=if b7 g then((g.1,(fk g g.2.length).map (gI g.2)),fk g g.2.length,0) else((0,[]),[],1)
theorem gj(g:bh)(k:Nat):fk g (k+1)=if gH g k=true then fk g k++[(k:Int)] else fk g k:=by
 unfold fk
 rw[cV,List.filter_append]
 by_cases h:gH g (k:Int)=true
 · rw[if_pos h];simp[h]
 · rw[if_neg h];simp[h]
theorem jX(g:bh)(k:Nat):(fk g k).length<=k:=by
 unfold fk
 have:=List.length_filter_le (gH g) (bG k)
 rw[eI] at this
 exact this
end TL
namespace TL
structure de(left:List Int)(out:List (Int×Int))(F:Int×Int->Int)(g:bh)(k:Nat):Prop where
 left:left=fk g k
 out:out=(fk g k).map (gI g.2)
 seen:∀q,F q=(((g.2.map cP).take k).count q:Nat)
theorem de.start(g:bh):de [] [] (λ_=>0) g 0:=⟨rfl,rfl,λq=>by simp⟩
section
variable{left:List Int}{out:List (Int×Int)}{F:Int×Int->Int}{g:bh}{k:Nat}
theorem de.bd(h:de left out F g k):left.length<=k/\out.length<=k/\∀q,0<=F q/\F q<=k:=by
 refine⟨by rw[h.left];exact jX g k,by rw[h.out,List.length_map];exact jX g k,λq=>?_⟩
 rw[h.seen]
 have h1:=List.count_le_length (a:=q) (l:=(g.2.map cP).take k)
 have h2:((g.2.map cP).take k).length<=k:=List.length_take_le _ _
 omega
theorem de.seen_next(h:de left out F g k)(hk:(k:Int)<g.2.length)(q:Int×Int):(if q=cP (gI g.2 k) then F (cP (gI g.2 k))+1 else F q)=(((g.2.map cP).take (k+1)).count q:Nat):=by
 rw[iZ hk,List.count_append,h.seen,h.seen]
 by_cases h2:q=cP (gI g.2 (k:Int))
 · subst h2;simp
 · have h3:¬cP (gI g.2 (k:Int))=q:=λh=>h2 h.symm
   simp[h2,h3]
theorem de.none_iff(h:de left out F g k):F (cP (gI g.2 k))=0↔¬cP (gI g.2 k)∈(g.2.map cP).take k:=by
 rw[h.seen,<-List.count_eq_zero];omega
theorem de.take(h:de left out F g k)(hk:(k:Int)<g.2.length)(c1:¬(gI g.2 k).1=(gI g.2 k).2)(c2:F (min (gI g.2 k).1 (gI g.2 k).2,max (gI g.2 k).1 (gI g.2 k).2)=0):
   de (left++[(k:Int)]) (out++[gI g.2 k]) (λq=>if q=(min (gI g.2 k).1 (gI g.2 k).2,max (gI g.2 k).1 (gI g.2 k).2) then F (min (gI g.2 k).1 (gI g.2 k).2,max (gI g.2 k).1 (gI g.2 k).2)+1 else F q) g (k+1):=by
 have hp:gH g (k:Int)=true:=by
   unfold gH
   have:=h.none_iff.1 c2
   simp only[Int.toNat_natCast,Bool.and_eq_true,decide_eq_true_eq]
   exact⟨c1,this⟩
 refine⟨by rw[gj,if_pos hp,h.left],by rw[gj,if_pos hp,h.out];simp,λq=>h.seen_next hk q⟩
theorem de.skip(h:de left out F g k)(hk:(k:Int)<g.2.length)(c:(gI g.2 k).1=(gI g.2 k).2\/¬F (min (gI g.2 k).1 (gI g.2 k).2,max (gI g.2 k).1 (gI g.2 k).2)=0):
   de left out (λq=>if q=(min (gI g.2 k).1 (gI g.2 k).2,max (gI g.2 k).1 (gI g.2 k).2) then F (min (gI g.2 k).1 (gI g.2 k).2,max (gI g.2 k).1 (gI g.2 k).2)+1 else F q) g (k+1):=by
 have hp:¬gH g (k:Int)=true:=by
   unfold gH
   simp only[Int.toNat_natCast,Bool.and_eq_true,decide_eq_true_eq]
   rintro⟨c1,c3⟩
   rcases c with c|c
   · exact c1 c
   · exact c (h.none_iff.2 c3)
 exact⟨by rw[gj,if_neg hp,h.left],by rw[gj,if_neg hp,h.out],λq=>h.seen_next hk q⟩
end
end TL
/-
  TlNetChg: degrees behind a split and a merge; a bare net is simple, and bare again the same.
  By an AI agent.
-/
set_option linter.all false
namespace TL
end TL
namespace TL
theorem lq(g:bh):∀k:Nat,(k:Int)<=g.2.length->(((fk g k).map (gI g.2)).map cP).Nodup/\(∀q∈((fk g k).map (gI g.2)).map cP,q∈(g.2.map cP).take k)/\(∀d∈(fk g k).map (gI g.2),d∈g.2/\¬d.1=d.2):=by
  intro k
  induction k with
  |zero=>intro _;simp[fk,bG]
  |succ k ih=>
    intro hk
    obtain⟨a,b,c⟩:=ih (by omega)
    rw[gj,iZ (by omega)]
    by_cases hp:gH g (k:Int)=true
    · rw[if_pos hp]
      have hp':=hp
      unfold gH at hp'
      simp only[Int.toNat_natCast,Bool.and_eq_true,decide_eq_true_eq] at hp'
      simp only[List.map_append,List.map_cons,List.map_nil]
      refine⟨?_,λq hq=>?_,λd hd=>?_⟩
      · rw[List.nodup_append]
        refine⟨a,by simp,λx hx y hy=>?_⟩
        obtain rfl:=List.mem_singleton.1 hy
        intro e
        exact hp'.2 (e▸b x hx)
      · rcases List.mem_append.1 hq with h|h
        · exact List.mem_append.2 (.inl (b q h))
        · exact List.mem_append.2 (.inr h)
      · rcases List.mem_append.1 hd with h|h
        · exact c d h
        · obtain rfl:=List.mem_singleton.1 h
          exact⟨bv (by omega) (by omega),hp'.1⟩
    · rw[if_neg hp]
      exact⟨a,λq hq=>List.mem_append.2 (.inl (b q hq)),c⟩
theorem fB{g:bh}(hm:b7 g):bE g=((g.1,(fk g g.2.length).map (gI g.2)),fk g g.2.length,0):=by unfold bE;rw[if_pos hm]
theorem jD{g:bh}(hm:b7 g):b7 (bE g).1:=by
 obtain⟨m1,m2,m3,m4⟩:=hm
 rw[fB ⟨m1,m2,m3,m4⟩]
 refine⟨m1,m2,?_,λd hd=>m4 d ((lq g _ (Int.le_refl _)).2.2 d hd).1⟩
 have:=jX g g.2.length
 simp only[List.length_map];omega
theorem uN{g:bh}(hm:b7 g):∀i:Nat,i<(bE g).1.2.length->¬(gI (bE g).1.2 (i:Int)).1=(gI (bE g).1.2 (i:Int)).2/\¬cP (gI (bE g).1.2 (i:Int))∈((bE g).1.2.map cP).take i:=by
 obtain⟨a,b,c⟩:=lq g g.2.length (Int.le_refl _)
 rw[fB hm]
 intro i hi
 simp only at hi ⊢
 refine⟨(c _ (bv (by omega) (by omega))).2,λhmem=>?_⟩
 generalize(fk g g.2.length).map (gI g.2)=L at a hi hmem
 have hs:(L.map cP).take (i+1)=(L.map cP).take i++[cP (gI L (i:Int))]:=by
   rw[bO (xs:=L.map cP) (by simp;omega),qu cP (by omega) (by omega)]
 have hn:=a.sublist (List.take_sublist (i+1) (L.map cP))
 rw[hs,List.nodup_append] at hn
 exact hn.2.2 _ hmem _ (by simp) rfl
end TL
namespace TL
end TL
/-
  TlRef3: what the document's own answer of layer 3 goes through.
  By an AI agent.
-/
set_option linter.all false
namespace TL
def oe(g:bh)(v:Int)(h:Nat):List Int:=((List.range h).map (λ(i:Nat)=>(i:Int))).filter λh=>decide (aI g h=v)
theorem s8(g:bh)(v:Int)(h:Nat):oe g v (h+1)=if aI g h=v then oe g v h++[(h:Int)] else oe g v h:=by
 unfold oe
 rw[List.range_succ,List.map_append,List.filter_append]
 by_cases e:aI g (h:Int)=v
 · rw[if_pos e];simp[e]
 · rw[if_neg e];simp[e]
theorem uS(g:bh)(v:Int)(h:Nat):(oe g v h).length<=h:=by
 unfold oe
 have:=List.length_filter_le (λh=>decide (aI g h=v)) ((List.range h).map (λ(i:Nat)=>(i:Int)))
 simpa using this
theorem uE(g:bh)(v:Int){h:Nat}(hh:h=2*g.2.length):oe g v h=dM g v:=by subst hh;rfl
theorem uy{g:bh}(hm:b7 g){h:Int}(h0:0<=h)(h1:h<2*(g.2.length:Int)):0<=aI g h/\aI g h<g.1:=by
 have hok:=hm.2.2.2 _ (bv (xs:=g.2) (i:=h/2) (by omega) (by omega))
 unfold nP at hok
 unfold aI pI
 split<;>omega
structure kS(l:List Int)(g:bh)(h:Nat):Prop where
 len:(l.length:Int)=g.1
 deg:∀v,0<=v->v<g.1->gI l v=((oe g v h).length:Int)
theorem kS.start(g:bh)(h:0<=g.1):kS (List.replicate g.1.toNat 0) g 0:=
 ⟨by simp;omega,λv h0 h1=>by rw[fI h0 (by omega)];simp[oe]⟩
theorem kS.next{l:List Int}{g:bh}{h:Nat}(hd:kS l g h)(h0:0<=aI g h)(h1:aI g h<g.1):kS (l.set (aI g h).toNat (gI l (aI g h)+1)) g (h+1):=by
 have hl:=hd.len
 refine⟨by simpa using hl,λv h2 h3=>?_⟩
 rw[c5 h0 (by omega) h2,s8]
 by_cases e:v=aI g (h:Int)
 · rw[if_pos e,if_pos e.symm,hd.deg _ h0 h1,<-e];simp
 · have e':¬aI g (h:Int)=v:=λh=>e h.symm
   rw[if_neg e,if_neg e',hd.deg v h2 h3]
theorem kS.done{l:List Int}{g:bh}{h:Nat}(hd:kS l g h)(hh:h=2*g.2.length):l=cO g:=by
 have hl:=hd.len
 apply kA
 · simp[cO];omega
 · intro i hi
   rw[hd.deg i (by omega) (by omega),uE g _ hh]
   have:i<g.1.toNat:=by omega
   simp[cO,gI,this]
theorem kS.bd{l:List Int}{g:bh}{h:Nat}(hd:kS l g h){v:Int}(h0:0<=v)(h1:v<g.1):0<=gI l v/\gI l v<=h:=by
 rw[hd.deg v h0 h1]
 have:=uS g v h
 omega
theorem wf{g:bh}{e:Int}{i:Nat}(h:∀j:Nat,j<i->¬cP (gI g.2 j)=cP (gI g.2 e))(he:e<=g.2.length)(hi:¬(i:Int)<e):¬cP (gI g.2 e)∈(g.2.map cP).take e.toNat:=by
 intro hm
 obtain⟨j,hj,e1⟩:=List.mem_take_iff_getElem.1 hm
 simp only[List.length_map] at hj
 rw[List.getElem_map] at e1
 refine h j (by omega) ?_
 rw[<-e1]
 congr 1
 simp[gI,show j<g.2.length by omega]
theorem we{g:bh}{e:Int}{i:Nat}(he:e<g.2.length)(hi:(i:Int)<e)(h:cP (gI g.2 i)=cP (gI g.2 e)):cP (gI g.2 e)∈(g.2.map cP).take e.toNat:=by
 rw[<-h]
 refine List.mem_take_iff_getElem.2 ⟨i,by simp;omega,?_⟩
 rw[List.getElem_map]
 simp[gI,show i<g.2.length by omega]
theorem vy{e:Int×Int}(h:e.2<e.1):(e.2,e.1)=cP e:=by unfold cP;rw[Int.min_eq_right (by omega),Int.max_eq_left (by omega)]
theorem uf{e:Int×Int}(h:¬e.2<e.1):e=cP e:=by unfold cP;rw[Int.min_eq_left (by omega),Int.max_eq_right (by omega)]
theorem tw{g:bh}{k:Nat}{l:Int}(hk:(k:Int)<g.2.length)(hl:l=dY g k)(h:(gI g.2 k).1=(gI g.2 k).2):l+1=dY g (k+1):=by rw[kw hk,if_pos h,hl]
theorem uJ{g:bh}{k:Nat}{l:Int}(hk:(k:Int)<g.2.length)(hl:l=dY g k)(h:¬(gI g.2 k).1=(gI g.2 k).2):l=dY g (k+1):=by rw[kw hk,if_neg h,hl,Int.add_zero]
theorem xO{g:bh}{k:Nat}{l:Int}(hl:l=gk g k)(h:decide (cP (gI g.2 k)∈(g.2.map cP).take (k:Int).toNat)=true):l+1=gk g (k+1):=by
 have h':=of_decide_eq_true h
 simp only[Int.toNat_natCast] at h'
 rw[mM,if_pos h',hl]
theorem xC{g:bh}{k:Nat}{l:Int}(hl:l=gk g k)(h:¬decide (cP (gI g.2 k)∈(g.2.map cP).take (k:Int).toNat)=true):l=gk g (k+1):=by
 have h':¬cP (gI g.2 (k:Int))∈(g.2.map cP).take (k:Int).toNat:=λh2=>h (decide_eq_true h2)
 simp only[Int.toNat_natCast] at h'
 rw[mM,if_neg h',hl,Int.add_zero]
structure fK(a b:Int)(d:List Int)(v:Nat):Prop where
  a:a=if v=0 then 0 else sJ d v
  b:b=if v=0 then 0 else sG d v
theorem fK.start(d:List Int):fK 0 0 d 0:=⟨rfl,rfl⟩
theorem fK.next{a b:Int}{d:List Int}{v:Nat}(h:fK a b d v)(hv:(v:Int)<d.length)(h0:∀x∈d,0<=x){a':Int}(ha:a'=if v=0\/gI d v<a then gI d v else a):fK a' (max b (gI d v)) d (v+1):=by
 have hp:0<=gI d (v:Int):=h0 _ (bv (by omega) hv)
 cases v with
 |zero=>
   have hb:=h.b
   simp only[if_true] at hb
   subst hb
   refine⟨?_,?_⟩
   · rw[ha,if_pos (.inl rfl)];simp[sJ]
   · rw[Int.max_eq_right hp];simp[sG]
 |succ n=>
   have h1:=h.a
   have h2:=h.b
   rw[if_neg (by omega)] at h1 h2
   refine⟨?_,?_⟩
   · rw[if_neg (by omega),sk (by omega) hv,<-h1,ha]
     by_cases e:gI d ((n+1:Nat):Int)<a
     · rw[if_pos (.inr e),Int.min_eq_right (by omega)]
     · rw[if_neg (by omega),Int.min_eq_left (by omega)]
   · rw[if_neg (by omega),sL (by omega) hv,<-h2]
theorem fK.done{a b:Int}{d:List Int}{v:Nat}(h:fK a b d v)(hv:v=d.length):a=(if 0<(d.length:Int) then yD d else 0)/\b=(if 0<(d.length:Int) then yp d else 0):=by
 subst hv
 have h1:=h.a
 have h2:=h.b
 by_cases e:d.length=0
 · rw[if_pos e] at h1 h2
   rw[if_neg (by omega),if_neg (by omega)];exact⟨h1,h2⟩
 · rw[if_neg e] at h1 h2
   rw[if_pos (by omega),if_pos (by omega)];exact⟨h1,h2⟩
theorem pR{g:bh}(hm:b7 g){l p a b:Int}(hl:l=dY g g.2.length)(hp:p=gk g g.2.length)(ha:a=if 0<((cO g).length:Int) then yD (cO g) else 0)(hb:b=if 0<((cO g).length:Int) then yp (cO g) else 0){q:Bool}(hq:q=decide (l=0/\p=0)):(l,p,a,b,q)=(eA g).1:=by
 have hd:=xc (g:=g) hm.1
 rw[hd] at ha hb
 unfold eA
 rw[if_pos hm,hl.symm,hp.symm,ha.symm,hb.symm,hq]
theorem sH{g:bh}{i:Nat}(hi:(i:Int)<g.2.length):gH g i=true↔(¬(gI g.2 i).1=(gI g.2 i).2)/\¬cP (gI g.2 i)∈(g.2.map cP).take i:=by
 unfold gH
 simp only[Int.toNat_natCast,Bool.and_eq_true,decide_eq_true_eq]
end TL
/-
  TlKeep: rows of an own list given away one by one while the list stays readable; rows with a mark behind each.
  By an AI agent.
-/
set_option linter.all false
namespace TL
open Go
def j3(q i k:Nat):cC->Prop:=λc=>c.1=q\/(c.1=i/\c.2=0)\/c.1=k
theorem bI.l3{L:List Nat}{q i k:Nat}{γ γ':aL}{w w':World}(h:bI (j3 q i k) γ w γ' w')(h1:L.contains q=true)(h2:L.contains i=true)(h3:L.contains k=true):bI (inl L) γ w γ' w':=h.mono λc hc=>by
 unfold inl
 rcases hc with hc|hc|hc
 · rw[hc];exact h1
 · rw[hc.1];exact h2
 · rw[hc];exact h3
section
variable{P:Program}{w:World}{t t':TypeId}{f:Fr}{x y:Operand}{dst:Option Tmp}{ty:TypeId}{pos:String}{after:Array Edge}{g:Option (Nat×Bool)}{N:Value->World->Prop}{α:Type}[Rp α]{γ:aL}{v u:Value}{xss:List (List α)}{l:List α}{i k j:Nat}
end
section
variable{α:Type}[Rp α][Fl α]{γ γ':aL}{w w':World}{v:Value}{us:List Vc}{xss:List (List α)}{i k j q:Nat}
end
inductive Rw where
  |mk (l:List Int) (m:Int)
  |pl (l:List Int)
instance:Inhabited Rw:=⟨.pl []⟩
theorem sY{α:Type}[Rp α]{γ:aL}{S:cC->Prop}{w:World}{v:Value}{xs:List α}{m:α}(h:Sl γ S w (zx v) (xs++[m])):∃a l c,v= .slice a l c:=by
 rcases h with⟨_,h0⟩|⟨b,off,cap,hv,_⟩
 · simp at h0
 · cases v<;>simp[zx] at hv
   exact⟨_,_,_,rfl⟩
def yI(γ:aL)(S:cC->Prop)(w:World)(v:Value):Rw->Prop
  | .mk l m=>Sl γ S w (zx v) (l++[m])
  | .pl l=>Sl γ S w v l
theorem yI.one{γ:aL}{S:cC->Prop}{w:World}{v:Value}{x:Rw}(h:yI γ S w v x):v.oneCell'=true:=by
 cases x with
 |mk l m=>
   obtain⟨a,b,c,rfl⟩:=sY h
   rfl
 |pl l=>
   rcases h with⟨⟨_,rfl⟩,_⟩|⟨b,off,cap,rfl,_⟩<;>rfl
theorem yI.tr{γ γ':aL}{S S':cC->Prop}{w w':World}{v:Value}{x:Rw}(hsz:w.heap.size<=w'.heap.size)(h:∀b,b<w.heap.size->S (γ b)->w'.heap[b]? =w.heap[b]? /\S' (γ' b))(hx:yI γ S w v x):yI γ' S' w' v x:=by
 cases x with
 |mk l m=>exact Sl.tr h hx hsz
 |pl l=>exact Sl.tr h hx hsz
instance:Rp Rw where
 sz:=1
 rep γ S w cs x:=∃v,cs=[v]/\yI γ S w v x
 len:=by rintro _ _ _ _ _ ⟨v,rfl,_⟩;rfl
 one:=by
   rintro _ _ _ _ _ ⟨v,rfl,h⟩ u hu
   obtain rfl:u=v:=by simpa using hu
   exact h.one
 tr:=by
   rintro _ _ _ _ _ _ _ _ hs h ⟨v,rfl,hv⟩
   exact⟨v,rfl,hv.tr hs h⟩
section
variable{P:Program}{w:World}{t t':TypeId}{f:Fr}{x y:Operand}{dst:Option Tmp}{ty:TypeId}{pos:String}{after:Array Edge}{g:Option (Nat×Bool)}{N:Value->World->Prop}{γ:aL}{v u:Value}{xss:List (List Int)}{l:List Int}{i:Nat}
end
end TL
/-
  TlEq: structs compared; a pointer looked at for nil; a bit turned.
  By an AI agent.
-/
set_option linter.all false
namespace TL
open Go
section
variable{P:Program}{f:Fr}{w:World}{dst:Option Tmp}{ty:TypeId}{pos:String}{after:Array Edge}{g:Option (Nat×Bool)}{t t' e:TypeId}{x y:Operand}
theorem au{a:Addr}(hx:ev f x= .pointer (some a)):(execOp (ev f) ⟨dst,.nilCheck x,ty,pos,after,g⟩).run P w= .ok (.value (.pointer (some a))) w:=by
 simp only[execOp,hx,Sem.run_pure]
end
end TL
namespace TL
open Go
section
variable{P:Program}{f:Fr}{w:World}{dst:Option Tmp}{ty:TypeId}{pos:String}{after:Array Edge}{g:Option (Nat×Bool)}{t:TypeId}{x:Operand}
end
end TL
namespace TL
open Go
section
variable{P:Program}{f:Fr}{w:World}{dst:Option Tmp}{ty:TypeId}{pos:String}{after:Array Edge}{g:Option (Nat×Bool)}{t t':TypeId}{x y:Operand}{m n:Int}
end
end TL
namespace TL
open Go
theorem ug{f:Fr}{x:Operand}{xs:List Operand}{v:Value}{vs:List Value}(h:ev f x=v)(h2:xs.map (ev f)=vs):(x::xs).map (ev f)=v::vs:=by subst h h2;rfl
end TL
/-
  TlRot: rotations: which may be, turned to their gK, faces.
  By an AI agent.
-/
set_option linter.all false
namespace TL
abbrev iN:=List (List Int)
def za(g:bh)(r:iN):Prop:=(r.length:Int)=g.1/\(∀v:Nat,v<r.length->∀h∈gI r (v:Int),(0<=h/\h<2*(g.2.length:Int))/\aI g h=v)/\r.flatten.Nodup/\(r.flatten.length:Int)=2*g.2.length
instance (g:bh)(r:iN):Decidable (za g r):=by unfold za;infer_instance
theorem tA{n:Int}{l:List Int}(h0:0<=n)(hn:l.Nodup)(h:∀x∈l,0<=x/\x<n):(l.length:Int)<=n:=by
 have:=qT n.toNat l hn (λx hx=>by have:=h x hx;omega)
 omega
section
variable{seen:List Bool}{n:Int}{g:bh}{r:iN}{k i:Nat}
end
end TL
namespace TL
end TL
/-
  TlMap: maps that the call makes.
  By an AI agent.
-/
set_option linter.all false
namespace TL
open Go
class Ky (K:Type) where
  val:K->Value
structure lC(P:Program)(kt:TypeId)(K:Type)[DecidableEq K][Ky K]:Prop where
 check:∀(b:Bool) (k:K) (w:World),(Instr.checkKey b 10000 kt (Ky.val k)).run P w= .ok () w
 find:∀(k:K) (es:List MapEntry) (ks:List K) (w:World),es.map (·.key)=ks.map Ky.val->(Instr.findKey kt (Ky.val k) es).run P w= .ok ((ks.findIdx? (· =k)).bind λi=>(es[i]?).map λe=>(i,e.val)) w
 bits:∀k:K,Instr.sameBits 10000 (Ky.val k) (Ky.val k)=true
structure cJ(K:Type) where
  key:K
  val:Int
  born:Nat
def cz{K:Type}[Ky K](e:cJ K):MapEntry:={key:=Ky.val e.key,val:=.int .i64 e.val,born:=e.born}
def dX{K:Type}[DecidableEq K](es:List (cJ K))(k:K):Int:=((es.find? λe=>decide (e.key=k)).map (·.val)).getD 0
structure yb{K:Type}(es:List (cJ K))(clock:Nat):Prop where
 keys:(es.map (·.key)).Nodup
 born:(es.map (·.born)).Nodup
 lt:∀e∈es,e.born<clock
def Mp{K:Type}[DecidableEq K][Ky K](γ:aL)(J:cC->Prop)(w:World)(v:Value)(F:K->Int):Prop:=
  ∃(r:Nat) (es:List (cJ K)) (clock:Nat),v= .map (some r)/\J (γ r)/\w.heap[r]? =some (.map (es.map cz).toArray clock)/\yb es clock/\F=dX es
def pY{K:Type}[DecidableEq K][Ky K](γ:aL)(J:cC->Prop)(w:World)(v:Value)(F:K->Int)(s:Int)(k:K):Prop:=
  ∃(r:Nat) (es:List (cJ K)) (clock:Nat),v= .map (some r)/\J (γ r)/\w.heap[r]? =some (.map (es.map cz).toArray clock)/\yb es clock/\F=dX es/\∃(i:Nat) (e:cJ K),es[i]? =some e/\e.key=k/\(e.born:Int)=s
theorem Mp.chg{K:Type}[DecidableEq K][Ky K]{γ γ':aL}{J J':cC->Prop}{w w':World}{v:Value}{F:K->Int}(h:Mp γ J w v F)(hc:bI J' γ w γ' w')(hJ:∀c,J c->¬J' c):Mp γ' J w' v F:=by
 obtain⟨r,es,clock,h1,h2,h3,h4⟩:=h
 exact⟨r,es,clock,h1,by rw[hc.col r (ck h3) (hJ _ h2)];exact h2,by rw[hc.keep r (ck h3) (hJ _ h2)];exact h3,h4⟩
theorem pY.chg{K:Type}[DecidableEq K][Ky K]{γ γ':aL}{J J':cC->Prop}{w w':World}{v:Value}{F:K->Int}{s:Int}{k:K}(h:pY γ J w v F s k)(hc:bI J' γ w γ' w')(hJ:∀c,J c->¬J' c):pY γ' J w' v F s k:=by
 obtain⟨r,es,clock,h1,h2,h3,h4⟩:=h
 exact⟨r,es,clock,h1,by rw[hc.col r (ck h3) (hJ _ h2)];exact h2,by rw[hc.keep r (ck h3) (hJ _ h2)];exact h3,h4⟩
theorem Mp.bel{K:Type}[DecidableEq K][Ky K]{γ:aL}{J:cC->Prop}{w w':World}{v:Value}{F:K->Int}(h:Mp γ J w v F)(hc:e8 w.heap.size w w'):Mp γ J w' v F:=by
 obtain⟨r,es,clock,h1,h2,h3,h4⟩:=h
 exact⟨r,es,clock,h1,h2,by rw[hc.block r (ck h3)];exact h3,h4⟩
theorem gD{K:Type}[DecidableEq K][Ky K](es:List (cJ K))(k:K):(((es.map (·.key)).findIdx? (· =k)).bind λi=>((es.map cz)[i]?).map λe=>(i,e.val))=((es.map (·.key)).findIdx? (· =k)).map λi=>(i,Value.int .i64 (dX es k)):=by
 cases h:(es.map (·.key)).findIdx? (· =k) with
 |none=>rfl
 |some i=>
   obtain⟨hi,hk,hlt⟩:=List.findIdx?_eq_some_iff_getElem.1 h
   have hi':i<es.length:=by simpa using hi
   have hke:es[i].key=k:=by simpa using hk
   have hf:es.find? (λe=>decide (e.key=k))=some es[i]:=by
     rw[List.find?_eq_some_iff_getElem]
     refine⟨by simpa using hke,i,hi',rfl,λj hj=>?_⟩
     have:=hlt j hj
     simpa using this
   simp[hi',cz,dX,hf]
section
variable{P:Program}{f:Fr}{w:World}{dst:Option Tmp}{ty:TypeId}{pos:String}{after:Array Edge}{g:Option (Nat×Bool)}{t:TypeId}{x y z:Operand}{N:Value->World->Prop}
theorem bZ{r:Nat}{es:Array MapEntry}{clock:Nat}(h:w.heap[r]? =some (.map es clock)):(getObj r).run P w= .ok (.map es clock) w:=by
 simp[getObj,Sem.run,h]
theorem d3{r:Nat}{es:Array MapEntry}{clock:Nat}{o:Obj}(h:w.heap[r]? =some (.map es clock)):(setObj r o).run P w= .ok () {w with heap:=w.heap.setIfInBounds r o}:=by
 simp[setObj,Sem.run,h]
theorem ec(γ:aL){r:Nat}(o:Obj){J:cC->Prop}(hJ:J (γ r)):bI J γ w γ {w with heap:=w.heap.setIfInBounds r o}:=
 ⟨rfl,rfl,rfl,by simp,λ_ _ _=>rfl,λk _ hk=>by
   have:r≠k:=λh=>hk (h▸hJ)
   simp[Array.getElem?_setIfInBounds_ne this],Nat.le_refl _⟩
theorem dG{r:Nat}{o o':Obj}(h:w.heap[r]? =some o'):({w with heap:=w.heap.setIfInBounds r o}:World).heap[r]? =some o:=by
 have:=ck h
 simp[this]
theorem s7{K:Type}[DecidableEq K][Ky K](γ:aL)(J:cC->Prop)(c:cC)(hJ:J c)(hk:∀γ' w' v,bI no γ w γ' w'->Mp (K:=K) γ' J w' v (λ_=>0)->N v w'):fv P ⟨dst,.makeMap t none,ty,pos,after,g⟩ f w N:=by
 refine aU (v:=.map (some w.heap.size)) (w':=w.alloc (.map #[] 0)) (by simp[execOp,Instr.makeMap]) (hk (gE γ w.heap.size c) _ _ (fm γ w _ c) ⟨w.heap.size,[],0,rfl,by simpa[gE] using hJ,by rw[d5];rfl,⟨by simp,by simp,by simp⟩,?_⟩)
 funext k;simp[dX]
theorem dl{K:Type}[DecidableEq K][Ky K]{γ:aL}{J:cC->Prop}{v u:Value}{F:K->Int}{kt et size bytes:Nat}{agg:Bool}(k:K)(ht:P.underlying t=some (.map kt et))(hk:lC P kt K)(he:Tp P et agg size bytes (.int .i64 0))(hx:ev f x=v)(hm:Mp γ J w v F)(hy:ev f y=u)(hu:u=Ky.val k):
   (execOp (ev f) ⟨dst,.lookup t x y false,ty,pos,after,g⟩).run P w= .ok (.value (.int .i64 (F k))) w:=by
 obtain⟨r,es,clock,rfl,hJ,hb,hok,rfl⟩:=hm
 obtain⟨i,hi,_,_,hz⟩:=he.info
 subst hu
 have hf:=hk.find k (es.map cz) (es.map (·.key)) w (by simp[cz,Function.comp_def])
 rw[gD] at hf
 cases h:(es.map (·.key)).findIdx? (· =k) with
 |none=>
   rw[h] at hf
   have h0:dX es k=0:=by
     have hn:es.find? (λe=>decide (e.key=k))=none:=by
       rw[List.find?_eq_none]
       intro e he
       have:=List.findIdx?_eq_none_iff.1 h (e.key) (List.mem_map_of_mem he)
       simpa using this
     simp[dX,hn]
   simp[execOp,hx,hy,Instr.lookup,b6 ht,bZ hb,hk.check,hf,dW hi hz,h0]
 |some i=>
   rw[h] at hf
   simp[execOp,hx,hy,Instr.lookup,b6 ht,bZ hb,hk.check,hf]
theorem fq{K:Type}[DecidableEq K][Ky K]{γ:aL}{J:cC->Prop}{v u:Value}{F:K->Int}{kt et size bytes:Nat}{agg:Bool}(k:K)(ht:P.underlying t=some (.map kt et))(hk:lC P kt K)(he:Tp P et agg size bytes (.int .i64 0))(hx:ev f x=v)(hm:Mp γ J w v F)(hy:ev f y=u)(hu:u=Ky.val k)
   (hn:∀w' s,bI J γ w γ w'->pY γ J w' v F s k->N (.tuple (List.toArray [.int .i64 (F k),.int .i64 s])) w'):fv P ⟨dst,.mapEntry t x y,ty,pos,after,g⟩ f w N:=by
 obtain⟨r,es,clock,rfl,hJ,hb,hok,rfl⟩:=hm
 obtain⟨q,hi,_,_,hz⟩:=he.info
 subst hu
 have hf:=hk.find k (es.map cz) (es.map (·.key)) w (by simp[cz,Function.comp_def])
 rw[gD] at hf
 cases h:(es.map (·.key)).findIdx? (· =k) with
 |none=>
   rw[h] at hf
   have hnk:∀e∈es,e.key≠k:=λe he=>by
     have:=List.findIdx?_eq_none_iff.1 h (e.key) (List.mem_map_of_mem he)
     simpa using this
   have h0:dX es k=0:=by
     have hn:es.find? (λe=>decide (e.key=k))=none:=by
       rw[List.find?_eq_none]
       intro e he
       simpa using hnk e he
     simp[dX,hn]
   refine aU (v:=.tuple (List.toArray [.int .i64 (dX es k),.int .i64 (clock:Int)])) (w':={w with heap:=w.heap.setIfInBounds r (.map ((es++[(⟨k,0,clock⟩:cJ K)]).map cz).toArray (clock+1))}) ?_ ?_
   rotate_left
   · refine hn _ _ (ec γ _ hJ) ⟨r,es++[⟨k,0,clock⟩],clock+1,rfl,hJ,dG hb,⟨?_,?_,?_⟩,?_,es.length,⟨k,0,clock⟩,by simp,rfl,rfl⟩
     rotate_left 3
     · funext k'
       simp only[dX,List.find?_append]
       by_cases hkk:k=k'
       · subst hkk
         have hn:es.find? (λe=>decide (e.key=k))=none:=by
           rw[List.find?_eq_none]
           intro e he
           simpa using hnk e he
         simp[hn]
       · cases es.find? (λe=>decide (e.key=k'))<;>simp[hkk]
     · rw[List.map_append,List.nodup_append]
       refine⟨hok.keys,by simp,λa ha b hb=>?_⟩
       obtain⟨e,he,rfl⟩:=List.mem_map.1 ha
       have:b=k:=by simpa using hb
       subst this;exact hnk e he
     · rw[List.map_append,List.nodup_append]
       refine⟨hok.born,by simp,λa ha b hb=>?_⟩
       obtain⟨e,he,rfl⟩:=List.mem_map.1 ha
       have:b=clock:=by simpa using hb
       subst this;exact Nat.ne_of_lt (hok.lt e he)
     · intro e he
       rcases List.mem_append.1 he with h|h
       · exact Nat.lt_succ_of_lt (hok.lt e h)
       · obtain rfl:=List.mem_singleton.1 h;exact Nat.lt_succ_self _
   · simp[execOp,hx,hy,Instr.mapEntry,b6 ht,bZ hb,hk.check,hf,dW hi hz,d3 hb,h0,cz,goInt]
 |some i=>
   rw[h] at hf
   obtain⟨hil,hke,_⟩:=List.findIdx?_eq_some_iff_getElem.1 h
   have hi':i<es.length:=by simpa using hil
   have hke':es[i].key=k:=by simpa using hke
   have hsame:(es.map cz).modify i (λe=>{e with key:=Ky.val k})=es.map cz:=by
     apply List.ext_getElem?
     intro j
     rw[List.getElem?_modify]
     by_cases hij:i=j
     · subst hij;simp[hi',cz,hke']
     · simp[hij]
   refine aU (v:=.tuple (List.toArray [.int .i64 (dX es k),.int .i64 ((es[i].born:Nat):Int)])) (w':={w with heap:=w.heap.setIfInBounds r (.map (es.map cz).toArray clock)}) ?_
     (hn _ _ (ec γ _ hJ) ⟨r,es,clock,rfl,hJ,dG hb,hok,rfl,i,es[i],by simp,hke',rfl⟩)
   have hkb:=hk.bits k
   have hold:(Instr.keyThatStays (Ky.val k) (Ky.val k)).run P w= .ok (Ky.val k) w:=by simp[Instr.keyThatStays,hkb]
   simp[execOp,hx,hy,Instr.mapEntry,b6 ht,bZ hb,hk.check,hf,hi',cz,hke',hold,d3 hb,goInt]
   rw[hsame]
theorem eu{K:Type}[DecidableEq K][Ky K]{γ:aL}{J:cC->Prop}{v:Value}{F:K->Int}{s m:Int}{k:K}(hx:ev f x=v)(hm:pY γ J w v F s k)(hy:ev f y= .int .i64 s)(hz:ev f z= .int .i64 m)
   (hn:∀w',bI J γ w γ w'->Mp γ J w' v (λk'=>if k'=k then m else F k')->N undef w'):fv P ⟨dst,.entryStore t x y z,ty,pos,after,g⟩ f w N:=by
 obtain⟨r,es,clock,rfl,hJ,hb,hok,rfl,i,e,hie,rfl,rfl⟩:=hm
 have hi':i<es.length:=(List.getElem?_eq_some_iff.1 hie).1
 have hei:es[i]=e:=(List.getElem?_eq_some_iff.1 hie).2
 have hfi:((es.map cz).toArray.findIdx? (λq=>(q.born:Int)==(e.born:Int)))=some i:=by
   rw[List.findIdx?_toArray,List.findIdx?_eq_some_iff_getElem]
   refine⟨by simpa using hi',by simp[cz,hei],λj hj=>?_⟩
   have hj':j<es.length:=by omega
   have hne:es[j].born≠e.born:=λh=>by
     have h1:(es.map (·.born))[j]'(by simpa using hj')=(es.map (·.born))[i]'(by simpa using hi'):=by simp[hei,h]
     have:=(List.getElem_inj hok.born).1 h1
     omega
   simp[cz]
   omega
 have hmod:(es.map cz).modify i (λq=>{q with val:=.int .i64 m})=(es.modify i (λq=>{q with val:=m})).map cz:=by
   apply List.ext_getElem?
   intro j
   rw[List.getElem?_modify,List.getElem?_map,List.getElem?_map,List.getElem?_modify]
   by_cases hij:i=j
   · subst hij;simp[hi',cz]
   · simp[hij]
 have hkeys:(es.modify i (λq=>{q with val:=m})).map (·.key)=es.map (·.key):=by
   apply List.ext_getElem?
   intro j
   rw[List.getElem?_map,List.getElem?_map,List.getElem?_modify]
   by_cases hij:i=j
   · subst hij;simp[hi']
   · simp[hij]
 have hborn:(es.modify i (λq=>{q with val:=m})).map (·.born)=es.map (·.born):=by
   apply List.ext_getElem?
   intro j
   rw[List.getElem?_map,List.getElem?_map,List.getElem?_modify]
   by_cases hij:i=j
   · subst hij;simp[hi']
   · simp[hij]
 refine gf (w':={w with heap:=w.heap.setIfInBounds r (.map ((es.modify i (λq=>{q with val:=m})).map cz).toArray clock)}) ?_
   (hn _ (ec γ _ hJ) ⟨r,es.modify i (λq=>{q with val:=m}),clock,rfl,hJ,dG hb,⟨by rw[hkeys];exact hok.keys,by rw[hborn];exact hok.born,λq hq=>?_⟩,?_⟩)
 · simp[execOp,hx,hy,hz,Instr.entryStore,bZ hb,asInt,asIntOf,hfi,d3 hb]
   rw[<-hmod]
 · have:q.born∈es.map (·.born):=by rw[<-hborn];exact List.mem_map_of_mem hq
   obtain⟨q',hq',he'⟩:=List.mem_map.1 this
   rw[<-he'];exact hok.lt q' hq'
 · funext k'
   -- the entry of k' in the changed list
   have hfind:∀(l:List (cJ K)),(l.map (·.key)).Nodup->∀j (hj:j<l.length),dX l l[j].key=l[j].val:=by
     intro l hl j hj
     have hf:l.find? (λe=>decide (e.key=l[j].key))=some l[j]:=by
       rw[List.find?_eq_some_iff_getElem]
       refine⟨by simp,j,hj,rfl,λq hq=>?_⟩
       have hne:l[q].key≠l[j].key:=λh=>by
         have h1:(l.map (·.key))[q]'(by simp;omega)=(l.map (·.key))[j]'(by simpa using hj):=by simp[h]
         have:=(List.getElem_inj hl).1 h1
         omega
       simpa using hne
     simp[dX,hf]
   by_cases hkk:k'=e.key
   · subst hkk
     rw[if_pos rfl]
     have h1:=hfind (es.modify i (λq=>{q with val:=m})) (by rw[hkeys];exact hok.keys) i (by simpa using hi')
     simp[List.getElem_modify,hei] at h1
     exact h1.symm
   · rw[if_neg hkk]
     have hfe:(es.modify i (λq=>{q with val:=m})).find? (λe=>decide (e.key=k'))=es.find? (λe=>decide (e.key=k')):=by
       have hgen:∀(l:List (cJ K)) (i:Nat) (e:cJ K),l[i]? =some e->k'≠e.key->(l.modify i (λq=>{q with val:=m})).find? (λe=>decide (e.key=k'))=l.find? (λe=>decide (e.key=k')):=by
         intro l
         induction l with
         |nil=>intro i e h;simp at h
         |cons a l ih=>
           intro i e h hne
           cases i with
           |zero=>
             obtain rfl:a=e:=by simpa using h
             have:decide (a.key=k')=false:=by simpa using λh=>hne h.symm
             simp[List.find?_cons,this]
           |succ i=>
             have h':l[i]? =some e:=by simpa using h
             simp only[List.modify_succ_cons,List.find?_cons,ih i e h' hne]
       exact hgen es i e hie hkk
     simp[dX,hfe]
end
instance:Ky Int where
 val k:=.int .i64 k
instance:Ky (Int×Int) where
 val k:=.agg (List.toArray [.int .i64 k.1,.int .i64 k.2])
theorem bL{P:Program}{kt e bytes:Nat}{z:Value}(ht:P.underlying kt=some (.array 2 e))(he:P.underlying e=some (.int .i64))(hp:Tp P e false 1 bytes z):lC P kt (Int×Int) where
 check b k w:=by
   obtain⟨i,hi,hs,_⟩:=hp.info
   have h0:=λ(x y:Int)=>gT (P:=P) (w:=w) (cs:= #[.int .i64 x,.int .i64 y]) (o:=0) hp (v:=.int .i64 x) (by rfl)
   have h1:=λ(x y:Int)=>gT (P:=P) (w:=w) (cs:= #[.int .i64 x,.int .i64 y]) (o:=1) hp (v:=.int .i64 y) (by rfl)
   have hr:(List.range' 0 2 1)=[0,1]:=rfl
   have hc:∀x:Int,(Instr.checkKey b 9999 e (.int .i64 x)).run P w= .ok () w:=λx=>by
     rw[Instr.checkKey]
     simp only[Sem.run_bind,b6 he,Result.andThen_ok]
     rfl
   show(Instr.checkKey b (9999+1) kt _).run P w=_
   rw[Instr.checkKey]
   simp only[Ky.val,Sem.run_bind,b6 ht,Result.andThen_ok]
   rw[Std.Legacy.Range.forIn_eq_forIn_range']
   simp only[Std.Legacy.Range.size,Nat.sub_zero,Nat.reduceAdd,Nat.reduceSub,Nat.div_one,hr]
   simp[cX hi,hs,h0,h1,hc]
 find k es ks w hm:=by
   have hfn:∀(es:List MapEntry) (i:Nat),es≠[]->(∀e∈es,∃c,e.key= .agg c)->Instr.findNow (.array 2 e) (Ky.val k) es i=none:=by
     intro es i h0 _
     cases es with
     |nil=>exact absurd rfl h0
     |cons a l=>simp[Instr.findNow,Instr.sameNow]
   have hask:∀(es:List MapEntry) (ks:List (Int×Int)) (i:Nat),es.map (·.key)=ks.map Ky.val->(Instr.findAsking kt (Ky.val k) es i).run P w= .ok ((ks.findIdx? (· =k)).bind λj=>(es[j]?).map λe=>(i+j,e.val)) w:=by
     intro es
     induction es with
     |nil=>
       intro ks i h
       have:ks=[]:=by cases ks<;>simp at h ⊢
       subst this;simp[Instr.findAsking]
     |cons a l ih=>
       intro ks i h
       cases ks with
       |nil=>simp at h
       |cons q ks=>
         simp only[List.map_cons,List.cons.injEq] at h
         obtain⟨ha,hl⟩:=h
         have heq:=gY (P:=P) (w:=w) (a:=k) (b:=q) ht he hp
         have heq':(Op.equal kt (Ky.val k) a.key).run P w= .ok (decide (k=q)) w:=by rw[ha];exact heq
         by_cases hkq:k=q
         · subst hkq
           simp[Instr.findAsking,heq',List.findIdx?_cons]
         · have hqk:¬q=k:=λh=>hkq h.symm
           have ih':=ih ks (i+1) hl
           simp[Instr.findAsking,heq',hkq,List.findIdx?_cons,hqk,ih']
           cases ks.findIdx? (λx=>decide (x=k)) with
           |none=>rfl
           |some j=>simp[Nat.add_comm 1 j,Nat.add_assoc]
   simp only[Instr.findKey,Sem.run_bind,b6 ht,Result.andThen_ok]
   cases es with
   |nil=>
     have:ks=[]:=by cases ks<;>simp at hm ⊢
     subst this;simp[Instr.findNow]
   |cons a l=>
     rw[hfn (a::l) 0 (by simp) (λe he=>by
       have:e.key∈(a::l).map (·.key):=List.mem_map_of_mem he
       rw[hm] at this
       obtain⟨q,_,hq⟩:=List.mem_map.1 this
       exact⟨_,hq.symm⟩)]
     simp only[hask (a::l) ks 0 hm,Nat.zero_add]
 bits k:=by
   show Instr.sameBits (9999+1) _ _=true
   simp[Ky.val,Instr.sameBits]
theorem dS{P:Program}{kt:Nat}(ht:P.underlying kt=some (.int .i64)):lC P kt Int where
 check b k w:=by
   show(Instr.checkKey b (9999+1) kt _).run P w=_
   rw[Instr.checkKey]
   simp only[Ky.val,Sem.run_bind,b6 ht,Result.andThen_ok]
   rfl
 find k es ks w hm:=by
   have hnow:∀(es:List MapEntry) (ks:List Int) (i:Nat),es.map (·.key)=ks.map Ky.val->Instr.findNow (.int .i64) (Ky.val k) es i=some ((ks.findIdx? (· =k)).bind λj=>(es[j]?).map λe=>(i+j,e.val)):=by
     intro es
     induction es with
     |nil=>
       intro ks i h
       have:ks=[]:=by cases ks<;>simp at h ⊢
       subst this;simp[Instr.findNow]
     |cons a l ih=>
       intro ks i h
       cases ks with
       |nil=>simp at h
       |cons q ks=>
         simp only[List.map_cons,List.cons.injEq] at h
         obtain⟨ha,hl⟩:=h
         have hs:Instr.sameNow (.int .i64) (Ky.val k) a.key=some (k==q):=by rw[ha];simp[Ky.val,Instr.sameNow]
         by_cases hkq:k=q
         · subst hkq
           simp[Instr.findNow,hs,List.findIdx?_cons]
         · have hqk:¬q=k:=λh=>hkq h.symm
           have ih':=ih ks (i+1) hl
           have hb:(k==q)=false:=by simpa using hkq
           simp[Instr.findNow,hs,hb,List.findIdx?_cons,hqk,ih']
           cases ks.findIdx? (λx=>decide (x=k)) with
           |none=>rfl
           |some j=>simp[Nat.add_comm 1 j,Nat.add_assoc]
   simp only[Instr.findKey,Sem.run_bind,b6 ht,Result.andThen_ok,hnow es ks 0 hm,Nat.zero_add]
   rfl
 bits k:=by
   show Instr.sameBits (9999+1) _ _=true
   simp[Ky.val,Instr.sameBits]
end TL
namespace TL
open Go
theorem pY.mp{K:Type}[DecidableEq K][Ky K]{γ:aL}{J:cC->Prop}{w:World}{v:Value}{F:K->Int}{s:Int}{k:K}(h:pY γ J w v F s k):Mp γ J w v F:=by
 obtain⟨r,es,clock,h1,h2,h3,h4,h5,_⟩:=h
 exact⟨r,es,clock,h1,h2,h3,h4,h5⟩
end TL
/-
  TlMapD: maps that the call makes, with the keys that they have.
  By an AI agent.
-/
set_option linter.all false
namespace TL
open Go
def Md{K:Type}[DecidableEq K][Ky K](γ:aL)(J:cC->Prop)(w:World)(v:Value)(F:K->Int)(D:List K):Prop:=
 ∃(r:Nat) (es:List (cJ K)) (clock:Nat),v= .map (some r)/\J (γ r)/\w.heap[r]? =some (.map (es.map cz).toArray clock)/\yb es clock/\F=dX es/\D=es.map (·.key)
def q5{K:Type}[DecidableEq K][Ky K](γ:aL)(J:cC->Prop)(w:World)(v:Value)(F:K->Int)(D:List K)(s:Int)(k:K):Prop:=
 ∃(r:Nat) (es:List (cJ K)) (clock:Nat),v= .map (some r)/\J (γ r)/\w.heap[r]? =some (.map (es.map cz).toArray clock)/\yb es clock/\F=dX es/\D=es.map (·.key)/\∃(i:Nat) (e:cJ K),es[i]? =some e/\e.key=k/\(e.born:Int)=s
variable{K:Type}[DecidableEq K][Ky K]
theorem Md.chg{γ γ':aL}{J J':cC->Prop}{w w':World}{v:Value}{F:K->Int}{D:List K}(h:Md γ J w v F D)(hc:bI J' γ w γ' w')(hJ:∀c,J c->¬J' c):Md γ' J w' v F D:=by
 obtain⟨r,es,clock,h1,h2,h3,h4⟩:=h
 exact⟨r,es,clock,h1,by rw[hc.col r (ck h3) (hJ _ h2)];exact h2,by rw[hc.keep r (ck h3) (hJ _ h2)];exact h3,h4⟩
theorem q5.chg{γ γ':aL}{J J':cC->Prop}{w w':World}{v:Value}{F:K->Int}{D:List K}{s:Int}{k:K}(h:q5 γ J w v F D s k)(hc:bI J' γ w γ' w')(hJ:∀c,J c->¬J' c):q5 γ' J w' v F D s k:=by
 obtain⟨r,es,clock,h1,h2,h3,h4⟩:=h
 exact⟨r,es,clock,h1,by rw[hc.col r (ck h3) (hJ _ h2)];exact h2,by rw[hc.keep r (ck h3) (hJ _ h2)];exact h3,h4⟩
theorem Md.mp{γ:aL}{J:cC->Prop}{w:World}{v:Value}{F:K->Int}{D:List K}(h:Md γ J w v F D):Mp γ J w v F:=by
 obtain⟨r,es,clock,h1,h2,h3,h4,h5,_⟩:=h
 exact⟨r,es,clock,h1,h2,h3,h4,h5⟩
theorem q5.md{γ:aL}{J:cC->Prop}{w:World}{v:Value}{F:K->Int}{D:List K}{s:Int}{k:K}(h:q5 γ J w v F D s k):Md γ J w v F D:=by
 obtain⟨r,es,clock,h1,h2,h3,h4,h5,h6,_⟩:=h
 exact⟨r,es,clock,h1,h2,h3,h4,h5,h6⟩
theorem Md.bel{γ:aL}{J:cC->Prop}{w w':World}{v:Value}{F:K->Int}{D:List K}(h:Md γ J w v F D)(hc:e8 w.heap.size w w'):Md γ J w' v F D:=by
 obtain⟨r,es,clock,h1,h2,h3,h4⟩:=h
 exact⟨r,es,clock,h1,h2,by rw[hc.block r (ck h3)];exact h3,h4⟩
section
variable{P:Program}{f:Fr}{w:World}{dst:Option Tmp}{ty:TypeId}{pos:String}{after:Array Edge}{g:Option (Nat×Bool)}{t:TypeId}{x y z:Operand}{N:Value->World->Prop}
theorem jd(γ:aL)(J:cC->Prop)(c:cC)(hJ:J c)(hk:∀γ' w' v,bI no γ w γ' w'->Md (K:=K) γ' J w' v (λ_=>0) []->N v w'):fv P ⟨dst,.makeMap t none,ty,pos,after,g⟩ f w N:=by
 refine aU (v:=.map (some w.heap.size)) (w':=w.alloc (.map #[] 0)) (by simp[execOp,Instr.makeMap]) (hk (gE γ w.heap.size c) _ _ (fm γ w _ c) ⟨w.heap.size,[],0,rfl,by simpa[gE] using hJ,by rw[d5];rfl,⟨by simp,by simp,by simp⟩,?_,rfl⟩)
 funext k;simp[dX]
theorem gv{γ:aL}{J:cC->Prop}{v u:Value}{F:K->Int}{D:List K}{kt et size bytes:Nat}{agg:Bool}(k:K)(ht:P.underlying t=some (.map kt et))(hk:lC P kt K)(he:Tp P et agg size bytes (.int .i64 0))(hx:ev f x=v)(hm:Md γ J w v F D)(hy:ev f y=u)(hu:u=Ky.val k):
   (execOp (ev f) ⟨dst,.lookup t x y true,ty,pos,after,g⟩).run P w= .ok (.value (.tuple #[.int .i64 (F k),.bool (decide (k∈D))])) w:=by
 obtain⟨r,es,clock,rfl,hJ,hb,hok,rfl,rfl⟩:=hm
 obtain⟨i,hi,_,_,hz⟩:=he.info
 subst hu
 have hf:=hk.find k (es.map cz) (es.map (·.key)) w (by simp[cz,Function.comp_def])
 rw[gD] at hf
 cases h:(es.map (·.key)).findIdx? (· =k) with
 |none=>
   rw[h] at hf
   have hnk:k∉es.map (·.key):=λhmm=>by
     have:=List.findIdx?_eq_none_iff.1 h k hmm
     simp at this
   have h0:dX es k=0:=by
     have hn:es.find? (λe=>decide (e.key=k))=none:=by
       rw[List.find?_eq_none]
       intro e he
       have:=List.findIdx?_eq_none_iff.1 h (e.key) (List.mem_map_of_mem he)
       simpa using this
     simp[dX,hn]
   rw[decide_eq_false hnk]
   simp[execOp,hx,hy,Instr.lookup,b6 ht,bZ hb,hk.check,hf,dW hi hz,h0]
 |some i=>
   rw[h] at hf
   obtain⟨hil,hke,_⟩:=List.findIdx?_eq_some_iff_getElem.1 h
   have hke':(es.map (·.key))[i]=k:=by simpa using hke
   have hmm:k∈es.map (·.key):=by rw[<-hke'];exact List.getElem_mem hil
   rw[decide_eq_true hmm]
   simp[execOp,hx,hy,Instr.lookup,b6 ht,bZ hb,hk.check,hf]
theorem mO{γ:aL}{J:cC->Prop}{v:Value}{F:K->Int}{D:List K}{kt et:Nat}(ht:P.underlying t=some (.map kt et))(hx:ev f x=v)(hm:Md γ J w v F D):
   (execOp (ev f) ⟨dst,.call {callee:=.builtin .len,args:= #[x],argTypes:= #[t]},ty,pos,after,g⟩).run P w= .ok (.value (.int .i64 (D.length:Int))) w:=by
 obtain⟨r,es,clock,rfl,hJ,hb,hok,rfl,rfl⟩:=hm
 simp[execOp,resolve,invoke,builtin,hx,Builtin.len_,b6 ht,bZ hb,goInt]
theorem eS{γ:aL}{J:cC->Prop}{v u:Value}{F:K->Int}{D:List K}{kt et size bytes:Nat}{agg:Bool}(k:K)(ht:P.underlying t=some (.map kt et))(hk:lC P kt K)(he:Tp P et agg size bytes (.int .i64 0))(hx:ev f x=v)(hm:Md γ J w v F D)(hy:ev f y=u)(hu:u=Ky.val k)
   (hn:∀w' s,bI J γ w γ w'->q5 γ J w' v F (if k∈D then D else D++[k]) s k->N (.tuple (List.toArray [.int .i64 (F k),.int .i64 s])) w'):fv P ⟨dst,.mapEntry t x y,ty,pos,after,g⟩ f w N:=by
 obtain⟨r,es,clock,rfl,hJ,hb,hok,rfl,rfl⟩:=hm
 obtain⟨q,hi,_,_,hz⟩:=he.info
 subst hu
 have hf:=hk.find k (es.map cz) (es.map (·.key)) w (by simp[cz,Function.comp_def])
 rw[gD] at hf
 cases h:(es.map (·.key)).findIdx? (· =k) with
 |none=>
   rw[h] at hf
   have hnk:∀e∈es,e.key≠k:=λe he=>by
     have:=List.findIdx?_eq_none_iff.1 h (e.key) (List.mem_map_of_mem he)
     simpa using this
   have h0:dX es k=0:=by
     have hn:es.find? (λe=>decide (e.key=k))=none:=by
       rw[List.find?_eq_none]
       intro e he
       simpa using hnk e he
     simp[dX,hn]
   refine aU (v:=.tuple (List.toArray [.int .i64 (dX es k),.int .i64 (clock:Int)])) (w':={w with heap:=w.heap.setIfInBounds r (.map ((es++[(⟨k,0,clock⟩:cJ K)]).map cz).toArray (clock+1))}) ?_ ?_
   rotate_left
   · refine hn _ _ (ec γ _ hJ) ⟨r,es++[⟨k,0,clock⟩],clock+1,rfl,hJ,dG hb,⟨?_,?_,?_⟩,?_,by rw[if_neg (λhmm=>by obtain⟨e,he,hke⟩:=List.mem_map.1 hmm;exact hnk e he hke)];simp,es.length,⟨k,0,clock⟩,by simp,rfl,rfl⟩
     rotate_left 3
     · funext k'
       simp only[dX,List.find?_append]
       by_cases hkk:k=k'
       · subst hkk
         have hn:es.find? (λe=>decide (e.key=k))=none:=by
           rw[List.find?_eq_none]
           intro e he
           simpa using hnk e he
         simp[hn]
       · cases es.find? (λe=>decide (e.key=k'))<;>simp[hkk]
     · rw[List.map_append,List.nodup_append]
       refine⟨hok.keys,by simp,λa ha b hb=>?_⟩
       obtain⟨e,he,rfl⟩:=List.mem_map.1 ha
       have:b=k:=by simpa using hb
       subst this;exact hnk e he
     · rw[List.map_append,List.nodup_append]
       refine⟨hok.born,by simp,λa ha b hb=>?_⟩
       obtain⟨e,he,rfl⟩:=List.mem_map.1 ha
       have:b=clock:=by simpa using hb
       subst this;exact Nat.ne_of_lt (hok.lt e he)
     · intro e he
       rcases List.mem_append.1 he with h|h
       · exact Nat.lt_succ_of_lt (hok.lt e h)
       · obtain rfl:=List.mem_singleton.1 h;exact Nat.lt_succ_self _
   · simp[execOp,hx,hy,Instr.mapEntry,b6 ht,bZ hb,hk.check,hf,dW hi hz,d3 hb,h0,cz,goInt]
 |some i=>
   rw[h] at hf
   obtain⟨hil,hke,_⟩:=List.findIdx?_eq_some_iff_getElem.1 h
   have hi':i<es.length:=by simpa using hil
   have hke':es[i].key=k:=by simpa using hke
   have hsame:(es.map cz).modify i (λe=>{e with key:=Ky.val k})=es.map cz:=by
     apply List.ext_getElem?
     intro j
     rw[List.getElem?_modify]
     by_cases hij:i=j
     · subst hij;simp[hi',cz,hke']
     · simp[hij]
   refine aU (v:=.tuple (List.toArray [.int .i64 (dX es k),.int .i64 ((es[i].born:Nat):Int)])) (w':={w with heap:=w.heap.setIfInBounds r (.map (es.map cz).toArray clock)}) ?_
     (hn _ _ (ec γ _ hJ) ⟨r,es,clock,rfl,hJ,dG hb,hok,rfl,by rw[if_pos (by rw[<-hke'];exact List.mem_map_of_mem (List.getElem_mem hi'))],i,es[i],by simp,hke',rfl⟩)
   have hkb:=hk.bits k
   have hold:(Instr.keyThatStays (Ky.val k) (Ky.val k)).run P w= .ok (Ky.val k) w:=by simp[Instr.keyThatStays,hkb]
   simp[execOp,hx,hy,Instr.mapEntry,b6 ht,bZ hb,hk.check,hf,hi',cz,hke',hold,d3 hb,goInt]
   rw[hsame]
theorem dV{γ:aL}{J:cC->Prop}{v:Value}{F:K->Int}{D:List K}{s m:Int}{k:K}(hx:ev f x=v)(hm:q5 γ J w v F D s k)(hy:ev f y= .int .i64 s)(hz:ev f z= .int .i64 m)
   (hn:∀w',bI J γ w γ w'->Md γ J w' v (λk'=>if k'=k then m else F k') D->N undef w'):fv P ⟨dst,.entryStore t x y z,ty,pos,after,g⟩ f w N:=by
 obtain⟨r,es,clock,rfl,hJ,hb,hok,rfl,rfl,i,e,hie,rfl,rfl⟩:=hm
 have hi':i<es.length:=(List.getElem?_eq_some_iff.1 hie).1
 have hei:es[i]=e:=(List.getElem?_eq_some_iff.1 hie).2
 have hfi:((es.map cz).toArray.findIdx? (λq=>(q.born:Int)==(e.born:Int)))=some i:=by
   rw[List.findIdx?_toArray,List.findIdx?_eq_some_iff_getElem]
   refine⟨by simpa using hi',by simp[cz,hei],λj hj=>?_⟩
   have hj':j<es.length:=by omega
   have hne:es[j].born≠e.born:=λh=>by
     have h1:(es.map (·.born))[j]'(by simpa using hj')=(es.map (·.born))[i]'(by simpa using hi'):=by simp[hei,h]
     have:=(List.getElem_inj hok.born).1 h1
     omega
   simp[cz]
   omega
 have hmod:(es.map cz).modify i (λq=>{q with val:=.int .i64 m})=(es.modify i (λq=>{q with val:=m})).map cz:=by
   apply List.ext_getElem?
   intro j
   rw[List.getElem?_modify,List.getElem?_map,List.getElem?_map,List.getElem?_modify]
   by_cases hij:i=j
   · subst hij;simp[hi',cz]
   · simp[hij]
 have hkeys:(es.modify i (λq=>{q with val:=m})).map (·.key)=es.map (·.key):=by
   apply List.ext_getElem?
   intro j
   rw[List.getElem?_map,List.getElem?_map,List.getElem?_modify]
   by_cases hij:i=j
   · subst hij;simp[hi']
   · simp[hij]
 have hborn:(es.modify i (λq=>{q with val:=m})).map (·.born)=es.map (·.born):=by
   apply List.ext_getElem?
   intro j
   rw[List.getElem?_map,List.getElem?_map,List.getElem?_modify]
   by_cases hij:i=j
   · subst hij;simp[hi']
   · simp[hij]
 refine gf (w':={w with heap:=w.heap.setIfInBounds r (.map ((es.modify i (λq=>{q with val:=m})).map cz).toArray clock)}) ?_
   (hn _ (ec γ _ hJ) ⟨r,es.modify i (λq=>{q with val:=m}),clock,rfl,hJ,dG hb,⟨by rw[hkeys];exact hok.keys,by rw[hborn];exact hok.born,λq hq=>?_⟩,?_,hkeys.symm⟩)
 · simp[execOp,hx,hy,hz,Instr.entryStore,bZ hb,asInt,asIntOf,hfi,d3 hb]
   rw[<-hmod]
 · have:q.born∈es.map (·.born):=by rw[<-hborn];exact List.mem_map_of_mem hq
   obtain⟨q',hq',he'⟩:=List.mem_map.1 this
   rw[<-he'];exact hok.lt q' hq'
 · funext k'
   -- the entry of k' in the changed list
   have hfind:∀(l:List (cJ K)),(l.map (·.key)).Nodup->∀j (hj:j<l.length),dX l l[j].key=l[j].val:=by
     intro l hl j hj
     have hf:l.find? (λe=>decide (e.key=l[j].key))=some l[j]:=by
       rw[List.find?_eq_some_iff_getElem]
       refine⟨by simp,j,hj,rfl,λq hq=>?_⟩
       have hne:l[q].key≠l[j].key:=λh=>by
         have h1:(l.map (·.key))[q]'(by simp;omega)=(l.map (·.key))[j]'(by simpa using hj):=by simp[h]
         have:=(List.getElem_inj hl).1 h1
         omega
       simpa using hne
     simp[dX,hf]
   by_cases hkk:k'=e.key
   · subst hkk
     rw[if_pos rfl]
     have h1:=hfind (es.modify i (λq=>{q with val:=m})) (by rw[hkeys];exact hok.keys) i (by simpa using hi')
     simp[List.getElem_modify,hei] at h1
     exact h1.symm
   · rw[if_neg hkk]
     have hfe:(es.modify i (λq=>{q with val:=m})).find? (λe=>decide (e.key=k'))=es.find? (λe=>decide (e.key=k')):=by
       have hgen:∀(l:List (cJ K)) (i:Nat) (e:cJ K),l[i]? =some e->k'≠e.key->(l.modify i (λq=>{q with val:=m})).find? (λe=>decide (e.key=k'))=l.find? (λe=>decide (e.key=k')):=by
         intro l
         induction l with
         |nil=>intro i e h;simp at h
         |cons a l ih=>
           intro i e h hne
           cases i with
           |zero=>
             obtain rfl:a=e:=by simpa using h
             have:decide (a.key=k')=false:=by simpa using λh=>hne h.symm
             simp[List.find?_cons,this]
           |succ i=>
             have h':l[i]? =some e:=by simpa using h
             simp only[List.modify_succ_cons,List.find?_cons,ih i e h' hne]
       exact hgen es i e hie hkk
     simp[dX,hfe]
end
end TL
namespace TL
open Go
variable{K:Type}[DecidableEq K][Ky K]
theorem pX{es:List (cJ K)}{m:Int}(hn:(es.map (·.key)).Nodup){i:Nat}{e:cJ K}(hie:es[i]? =some e):dX (es.modify i (λq=>{q with val:=m}))=λk'=>if k'=e.key then m else dX es k':=by
 have hi':i<es.length:=(List.getElem?_eq_some_iff.1 hie).1
 have hei:es[i]=e:=(List.getElem?_eq_some_iff.1 hie).2
 have hkeys:(es.modify i (λq=>{q with val:=m})).map (·.key)=es.map (·.key):=by
   apply List.ext_getElem?
   intro j
   rw[List.getElem?_map,List.getElem?_map,List.getElem?_modify]
   by_cases hij:i=j
   · subst hij;simp[hi']
   · simp[hij]
 funext k'
 have hfind:∀(l:List (cJ K)),(l.map (·.key)).Nodup->∀j (hj:j<l.length),dX l l[j].key=l[j].val:=by
   intro l hl j hj
   have hf:l.find? (λe=>decide (e.key=l[j].key))=some l[j]:=by
     rw[List.find?_eq_some_iff_getElem]
     refine⟨by simp,j,hj,rfl,λq hq=>?_⟩
     have hne:l[q].key≠l[j].key:=λh=>by
       have h1:(l.map (·.key))[q]'(by simp;omega)=(l.map (·.key))[j]'(by simpa using hj):=by simp[h]
       have:=(List.getElem_inj hl).1 h1
       omega
     simpa using hne
   simp[dX,hf]
 by_cases hkk:k'=e.key
 · subst hkk
   rw[if_pos rfl]
   have h1:=hfind (es.modify i (λq=>{q with val:=m})) (by rw[hkeys];exact hn) i (by simpa using hi')
   simp[List.getElem_modify,hei] at h1
   exact h1
 · rw[if_neg hkk]
   have hfe:(es.modify i (λq=>{q with val:=m})).find? (λe=>decide (e.key=k'))=es.find? (λe=>decide (e.key=k')):=by
     have hgen:∀(l:List (cJ K)) (i:Nat) (e:cJ K),l[i]? =some e->k'≠e.key->(l.modify i (λq=>{q with val:=m})).find? (λe=>decide (e.key=k'))=l.find? (λe=>decide (e.key=k')):=by
       intro l
       induction l with
       |nil=>intro i e h;simp at h
       |cons a l ih=>
         intro i e h hne
         cases i with
         |zero=>
           obtain rfl:a=e:=by simpa using h
           have:decide (a.key=k')=false:=by simpa using λh=>hne h.symm
           simp[List.find?_cons,this]
         |succ i=>
           have h':l[i]? =some e:=by simpa using h
           simp only[List.modify_succ_cons,List.find?_cons,ih i e h' hne]
     exact hgen es i e hie hkk
   simp[dX,hfe]
section
variable{P:Program}{f:Fr}{w:World}{dst:Option Tmp}{ty:TypeId}{pos:String}{after:Array Edge}{g:Option (Nat×Bool)}{t:TypeId}{x y z:Operand}{N:Value->World->Prop}
theorem fS{γ:aL}{J:cC->Prop}{v u:Value}{F:K->Int}{D:List K}{kt et:Nat}{m:Int}(k:K)(ht:P.underlying t=some (.map kt et))(hk:lC P kt K)(hx:ev f x=v)(hm:Md γ J w v F D)(hy:ev f y=u)(hu:u=Ky.val k)(hz:ev f z= .int .i64 m)
   (hn:∀w',bI J γ w γ w'->Md γ J w' v (λk'=>if k'=k then m else F k') (if k∈D then D else D++[k])->N undef w'):fv P ⟨dst,.mapUpdate t x y z,ty,pos,after,g⟩ f w N:=by
 obtain⟨r,es,clock,rfl,hJ,hb,hok,rfl,rfl⟩:=hm
 subst hu
 have hf:=hk.find k (es.map cz) (es.map (·.key)) w (by simp[cz,Function.comp_def])
 rw[gD] at hf
 cases h:(es.map (·.key)).findIdx? (· =k) with
 |none=>
   rw[h] at hf
   have hnk:∀e∈es,e.key≠k:=λe he=>by
     have:=List.findIdx?_eq_none_iff.1 h (e.key) (List.mem_map_of_mem he)
     simpa using this
   have hnD:k∉es.map (·.key):=λhmm=>by obtain⟨e,he,hke⟩:=List.mem_map.1 hmm;exact hnk e he hke
   refine gf (w':={w with heap:=w.heap.setIfInBounds r (.map ((es++[(⟨k,m,clock⟩:cJ K)]).map cz).toArray (clock+1))}) ?_
     (hn _ (ec γ _ hJ) ⟨r,es++[⟨k,m,clock⟩],clock+1,rfl,hJ,dG hb,⟨?_,?_,?_⟩,?_,by rw[if_neg hnD];simp⟩)
   · simp[execOp,hx,hy,hz,Instr.mapUpdate,b6 ht,bZ hb,hk.check,hf,d3 hb,cz]
   · rw[List.map_append,List.nodup_append]
     refine⟨hok.keys,by simp,λa ha b hb=>?_⟩
     have:b=k:=by simpa using hb
     subst this;intro e;subst e;exact hnD ha
   · rw[List.map_append,List.nodup_append]
     refine⟨hok.born,by simp,λa ha b hb=>?_⟩
     obtain⟨e,he,rfl⟩:=List.mem_map.1 ha
     have:b=clock:=by simpa using hb
     subst this;exact Nat.ne_of_lt (hok.lt e he)
   · intro e he
     rcases List.mem_append.1 he with h|h
     · exact Nat.lt_succ_of_lt (hok.lt e h)
     · obtain rfl:=List.mem_singleton.1 h;exact Nat.lt_succ_self _
   · funext k'
     simp only[dX,List.find?_append]
     by_cases hkk:k'=k
     · subst hkk
       have hn:es.find? (λe=>decide (e.key=k'))=none:=by
         rw[List.find?_eq_none]
         intro e he
         simpa using hnk e he
       simp[hn]
     · have hkk':¬k=k':=λe=>hkk e.symm
       rw[if_neg hkk]
       cases es.find? (λe=>decide (e.key=k'))<;>simp[hkk']
 |some i=>
   rw[h] at hf
   obtain⟨hil,hke,_⟩:=List.findIdx?_eq_some_iff_getElem.1 h
   have hi':i<es.length:=by simpa using hil
   have hke':es[i].key=k:=by simpa using hke
   have hmod:(es.map cz).modify i (λq=>{q with key:=Ky.val k,val:=.int .i64 m})=(es.modify i (λq=>{q with val:=m})).map cz:=by
     apply List.ext_getElem?
     intro j
     rw[List.getElem?_modify,List.getElem?_map,List.getElem?_map,List.getElem?_modify]
     by_cases hij:i=j
     · subst hij;simp[hi',cz,hke']
     · simp[hij]
   have hkeys:(es.modify i (λq=>{q with val:=m})).map (·.key)=es.map (·.key):=by
     apply List.ext_getElem?
     intro j
     rw[List.getElem?_map,List.getElem?_map,List.getElem?_modify]
     by_cases hij:i=j
     · subst hij;simp[hi']
     · simp[hij]
   have hborn:(es.modify i (λq=>{q with val:=m})).map (·.born)=es.map (·.born):=by
     apply List.ext_getElem?
     intro j
     rw[List.getElem?_map,List.getElem?_map,List.getElem?_modify]
     by_cases hij:i=j
     · subst hij;simp[hi']
     · simp[hij]
   have hkb:=hk.bits k
   have hold:(Instr.keyThatStays (Ky.val k) (Ky.val k)).run P w= .ok (Ky.val k) w:=by simp[Instr.keyThatStays,hkb]
   refine gf (w':={w with heap:=w.heap.setIfInBounds r (.map ((es.modify i (λq=>{q with val:=m})).map cz).toArray clock)}) ?_
     (hn _ (ec γ _ hJ) ⟨r,es.modify i (λq=>{q with val:=m}),clock,rfl,hJ,dG hb,⟨by rw[hkeys];exact hok.keys,by rw[hborn];exact hok.born,λq hq=>?_⟩,?_,by rw[if_pos (by rw[<-hke'];exact List.mem_map_of_mem (List.getElem_mem hi')),hkeys]⟩)
   · simp[execOp,hx,hy,hz,Instr.mapUpdate,b6 ht,bZ hb,hk.check,hf,hi',cz,hke',hold,d3 hb]
     rw[<-hmod]
   · have:q.born∈es.map (·.born):=by rw[<-hborn];exact List.mem_map_of_mem hq
     obtain⟨q',hq',he'⟩:=List.mem_map.1 this
     rw[<-he'];exact hok.lt q' hq'
   · rw[pX hok.keys (e:=es[i]) (by simp),hke']
end
end TL
/-
  TlShort: short names for the commonest steps (used by packed claims only).
  By an AI agent.
-/
set_option linter.all false
namespace TL
open Go
abbrev vi(x:Int):Value:=Value.int .i64 x
abbrev vp(b o:Nat):Value:=Value.pointer (some ⟨b,o,none⟩)
abbrev vn:Value:=Value.slice none 0 0
abbrev vt(l:List Value):Value:=Value.tuple (List.toArray l)
abbrev vg(l:List Value):Value:=Value.agg (List.toArray l)
theorem cg(L:List Nat){γ γ':aL}{w w':World}(h:bI (inl L) γ w γ' w'):bI (inl L) γ w γ' w':=h
theorem dt{p:Prop}[Decidable p](h:p):decide p=true:=decide_eq_true h
theorem df{p:Prop}[Decidable p](h:¬p):decide p=false:=decide_eq_false h
section
variable{P:Program}{all rest:List Oper}{K:Fr->World->Prop}{f:Fr}{w w':World}{x:Operand}
variable{dst:Option Tmp}{op:Op}{ty:TypeId}{pos:String}{after:Array Edge}{g:Option (Nat×Bool)}{o:Oper}
theorem lv(v:Value)(hw:cR all ⟨dst,op,ty,pos,after,g⟩ f=true)(h:(execOp (ev f) ⟨dst,op,ty,pos,after,g⟩).run P w= .ok (.value v) w')(hk:j4 P all rest K (g0 f dst v) w'):j4 P all (⟨dst,op,ty,pos,after,g⟩::rest) K f w:=kK hw h hk
theorem lx{v:Value}(h:(execOp (ev f) ⟨dst,op,ty,pos,after,none⟩).run P w= .ok (.value v) w')(hk:j4 P all rest K (g0 f dst v) w'):j4 P all (⟨dst,op,ty,pos,after,none⟩::rest) K f w:=kK rfl h hk
theorem lw(v:Value)(h:(execOp (ev f) ⟨dst,op,ty,pos,after,none⟩).run P w= .ok (.value v) w')(hk:j4 P all rest K (g0 f dst v) w'):j4 P all (⟨dst,op,ty,pos,after,none⟩::rest) K f w:=kK rfl h hk
theorem mv(v:Value)(hk:j4 P all rest K (g0 f dst v) w)(h:ev f x=v:=by exact rfl):j4 P all (⟨dst,.move x,ty,pos,after,none⟩::rest) K f w:=kK rfl (av h) hk
theorem ma(v:Value)(hk:j4 P all rest K (g0 f dst v) w)(h:ev f x=v:=by exact rfl):j4 P all (⟨dst,.assign x,ty,pos,after,none⟩::rest) K f w:=kK rfl (cQ h) hk
theorem mi(v:Int)(hk:j4 P all rest K (g0 f dst (.int .i64 v)) w)(h:ev f x= .int .i64 v:=by exact rfl):j4 P all (⟨dst,.move x,ty,pos,after,none⟩::rest) K f w:=kK rfl (av h) hk
theorem ai(v:Int)(hk:j4 P all rest K (g0 f dst (.int .i64 v)) w)(h:ev f x= .int .i64 v:=by exact rfl):j4 P all (⟨dst,.assign x,ty,pos,after,none⟩::rest) K f w:=kK rfl (cQ h) hk
theorem mz{v:Value}(h:ev f x=v)(hk:j4 P all rest K (g0 f dst v) w):j4 P all (⟨dst,.move x,ty,pos,after,none⟩::rest) K f w:=kK rfl (av h) hk
theorem lo(h:fv P ⟨dst,op,ty,pos,after,none⟩ f w (λv w'=>j4 P all rest K (g0 f dst v) w')):j4 P all (⟨dst,op,ty,pos,after,none⟩::rest) K f w:=cF rfl h
theorem wy{j:Nat}{x:Bool}{d:Nat}{b:Bool}(hx:b=x)(hg:o.guard=some (j,x):=by exact rfl)(hj:(all[j]?).bind (·.dst)=some d:=by exact rfl)(hb:f d= .bool b:=by exact rfl):cR all o f=true:=yn hg hj hb hx
theorem wn{j:Nat}{x:Bool}{d:Nat}{b:Bool}(hx:b= !x)(hg:o.guard=some (j,x):=by exact rfl)(hj:(all[j]?).bind (·.dst)=some d:=by exact rfl)(hb:f d= .bool b:=by exact rfl):cR all o f=false:=y9 hg hj hb hx
variable{C:World->Prop}{KQ:Fr->Prop}
theorem qv(v:Value)(h:∀w,C w->(execOp (ev f) ⟨dst,op,ty,pos,after,none⟩).run P w= .ok (.value v) w)(hk:l8 P all C rest KQ (g0 f dst v)):l8 P all C (⟨dst,op,ty,pos,after,none⟩::rest) KQ f:=ba rfl h hk
theorem qx{v:Value}(h:∀w,C w->(execOp (ev f) ⟨dst,op,ty,pos,after,none⟩).run P w= .ok (.value v) w)(hk:l8 P all C rest KQ (g0 f dst v)):l8 P all C (⟨dst,op,ty,pos,after,none⟩::rest) KQ f:=ba rfl h hk
theorem qm(v:Value)(hk:l8 P all C rest KQ (g0 f dst v))(h:ev f x=v:=by exact rfl):l8 P all C (⟨dst,.move x,ty,pos,after,none⟩::rest) KQ f:=ba rfl (λ_ _=>av h) hk
theorem qz{v:Value}(h:ev f x=v)(hk:l8 P all C rest KQ (g0 f dst v)):l8 P all C (⟨dst,.move x,ty,pos,after,none⟩::rest) KQ f:=ba rfl (λ_ _=>av h) hk
end
section
variable{P:Program}{n:Nat}{l:List Oper}{S:World->Prop}{K:Fr->World->Prop}{f:Fr}{w:World}{done:List Nat}{fuel:Nat}{qs:List Nat}
variable{dst:Option Tmp}{op:Op}{ty:TypeId}{pos:String}{after:Array Edge}{g:Option (Nat×Bool)}{v:Value}
theorem ht(i:Nat)(hi:l[i]? =some ⟨dst,op,ty,pos,after,none⟩)(hS:S w)(h:∀w,S w->(execOp (ev f) ⟨dst,op,ty,pos,after,none⟩).run P w= .ok (.value v) w)(hk:t7 P n l S K fuel (i::done) (g0 f dst v) w)(hn:gx l=true:=by kernel_rfl)(hc:(fY l done i&&ik l done i&&kz n ⟨dst,op,ty,pos,after,none⟩)=true:=by kernel_rfl):t7 P n l S K (fuel+1) done f w:=yA i hi hn hc rfl hS h hk
theorem xv(i:Nat)(M:List Nat)(hi:l[i]? =some ⟨dst,op,ty,pos,after,none⟩)(h:(execOp (ev f) ⟨dst,op,ty,pos,after,none⟩).run P w= .ok (.value v) w)(hk:jn P n l qs K fuel (i::done) (g0 f dst v) w)(hn:gx l=true:=by kernel_rfl)(hc:(qs.contains i&&fY l done i&&ik l done i&&o3 l qs done M i&&kz n ⟨dst,op,ty,pos,after,none⟩)=true:=by kernel_rfl):jn P n l qs K (fuel+1) done f w:=du i M hi hn hc rfl h hk
theorem xh(i:Nat)(M:List Nat)(hi:l[i]? =some ⟨dst,op,ty,pos,after,none⟩)(h:∀w',e8 w.heap.size w w'->(execOp (ev f) ⟨dst,op,ty,pos,after,none⟩).run P w'= .ok (.value v) w')(hk:jn P n l qs K fuel (i::done) (g0 f dst v) w)(hn:gx l=true:=by kernel_rfl)(hc:(qs.contains i&&fY l done i&&ik l done i&&nE l qs done M i&&kz n ⟨dst,op,ty,pos,after,none⟩)=true:=by kernel_rfl):jn P n l qs K (fuel+1) done f w:=yw i M hi hn hc rfl h hk
theorem xp(i:Nat)(hi:l[i]? =some ⟨dst,op,ty,pos,after,none⟩)(h:∀w,(execOp (ev f) ⟨dst,op,ty,pos,after,none⟩).run P w= .ok (.value v) w)(hk:jn P n l qs K fuel (i::done) (g0 f dst v) w)(hn:gx l=true:=by kernel_rfl)(hc:(qs.contains i&&fY l done i&&ik l done i&&kz n ⟨dst,op,ty,pos,after,none⟩)=true:=by kernel_rfl):jn P n l qs K (fuel+1) done f w:=bP i hi hn hc rfl h hk
end
section
variable{γ γ':aL}{w w':World}{v:Value}{j k:Nat}{L:List Nat}
theorem bq.ca{w0:World}(h:bq w0 γ w)(hc:bI (inl L) γ w γ' w')(hj:L.contains 0=false:=by exact rfl):bq w0 γ' w':=h.chg hc (dn hj)
theorem bq.ce{w0:World}(h:bq w0 γ w)(hc:bI (is k) γ w γ' w')(hj:Nat.beq 0 k=false:=by exact rfl):bq w0 γ' w':=h.chg hc (gu hj)
theorem bq.cn{w0:World}(h:bq w0 γ w)(hc:bI no γ w γ' w'):bq w0 γ' w':=h.chg hc (cW _)
theorem Bx.ca{b:Nat}{cs:List Value}(h:Bx γ (is j) w b cs)(hc:bI (inl L) γ w γ' w')(hj:L.contains j=false:=by exact rfl):Bx γ' (is j) w' b cs:=h.chg hc (dn hj)
theorem Bx.ce{b:Nat}{cs:List Value}(h:Bx γ (is j) w b cs)(hc:bI (is k) γ w γ' w')(hj:Nat.beq j k=false:=by exact rfl):Bx γ' (is j) w' b cs:=h.chg hc (gu hj)
theorem Bx.cn{J:cC->Prop}{b:Nat}{cs:List Value}(h:Bx γ J w b cs)(hc:bI no γ w γ' w'):Bx γ' J w' b cs:=h.chg hc (cW _)
theorem Sl.ca{α:Type}[Rp α]{xs:List α}(h:Sl γ (is j) w v xs)(hc:bI (inl L) γ w γ' w')(hj:L.contains j=false:=by exact rfl):Sl γ' (is j) w' v xs:=h.chg hc (dn hj)
theorem Sl.ce{α:Type}[Rp α]{xs:List α}(h:Sl γ (is j) w v xs)(hc:bI (is k) γ w γ' w')(hj:Nat.beq j k=false:=by exact rfl):Sl γ' (is j) w' v xs:=h.chg hc (gu hj)
theorem Sl.cn{α:Type}[Rp α]{S:cC->Prop}{xs:List α}(h:Sl γ S w v xs)(hc:bI no γ w γ' w'):Sl γ' S w' v xs:=h.chg hc (cW _)
theorem Ow.ca{α:Type}[Rp α]{xs:List α}(h:Ow γ (is j) (is j) w v xs)(hc:bI (inl L) γ w γ' w')(hj:L.contains j=false:=by exact rfl):Ow γ' (is j) (is j) w' v xs:=h.chg hc (dn hj) (dn hj)
theorem Ow.ce{α:Type}[Rp α]{xs:List α}(h:Ow γ (is j) (is j) w v xs)(hc:bI (is k) γ w γ' w')(hj:Nat.beq j k=false:=by exact rfl):Ow γ' (is j) (is j) w' v xs:=h.chg hc (gu hj) (gu hj)
theorem Ow.cn{α:Type}[Rp α]{J S:cC->Prop}{xs:List α}(h:Ow γ J S w v xs)(hc:bI no γ w γ' w'):Ow γ' J S w' v xs:=h.chg hc (cW _) (cW _)
theorem dJ.ca{α:Type}[Rp α]{xs:List (List α)}(h:dJ γ j w v xs)(hc:bI (inl L) γ w γ' w')(hj:L.contains j=false:=by exact rfl):dJ γ' j w' v xs:=h.chg hc (dn hj)
theorem dJ.ce{α:Type}[Rp α]{xs:List (List α)}(h:dJ γ j w v xs)(hc:bI (is k) γ w γ' w')(hj:Nat.beq j k=false:=by exact rfl):dJ γ' j w' v xs:=h.chg hc (gu hj)
theorem dJ.cn{α:Type}[Rp α]{xs:List (List α)}(h:dJ γ j w v xs)(hc:bI no γ w γ' w'):dJ γ' j w' v xs:=h.chg hc (cW _)
theorem gy.ca{α:Type}[Rp α]{h0:Nat}{xs:List (List α)}(h:gy γ j h0 w v xs)(hc:bI (inl L) γ w γ' w')(hj:L.contains j=false:=by exact rfl):gy γ' j h0 w' v xs:=h.chg hc (dn hj)
theorem gy.ce{α:Type}[Rp α]{h0:Nat}{xs:List (List α)}(h:gy γ j h0 w v xs)(hc:bI (is k) γ w γ' w')(hj:Nat.beq j k=false:=by exact rfl):gy γ' j h0 w' v xs:=h.chg hc (gu hj)
theorem gy.cn{α:Type}[Rp α]{h0:Nat}{xs:List (List α)}(h:gy γ j h0 w v xs)(hc:bI no γ w γ' w'):gy γ' j h0 w' v xs:=h.chg hc (cW _)
def zB(δ g:aL)(w:World)(ren:Nat->Nat):Prop:=(∀{α:Type} [Rp α] {i:Nat} {v:Value} {xs:List α},Ow δ (is i) (is i) w v xs->∀k:Nat,Nat.beq i 0=false->ren i=k->Ow g (is k) (is k) w v xs)/\(∀{α:Type} [Rp α] {i:Nat} {v:Value} {xs:List (List α)},dJ δ i w v xs->∀k:Nat,Nat.beq i 0=false->ren i=k->dJ g k w v xs)
theorem jK{δ:aL}(γ:aL)(fr:eX w δ w')(ren:Nat->Nat):∃g,bI no γ w g w'/\zB δ g w' ren:=
 ⟨_,vK fr.below γ δ ren,λh k hi hr=>h.glue fr.col hi hr,λh k hi hr=>h.glue fr.col hi hr⟩
theorem Ow.gl{α:Type}[Rp α]{δ g:aL}{ren:Nat->Nat}{i:Nat}{xs:List α}(h:Ow δ (is i) (is i) w v xs)(G:zB δ g w ren)(k:Nat)(hi:Nat.beq i 0=false:=by exact rfl)(hr:ren i=k:=by exact rfl):Ow g (is k) (is k) w v xs:=G.1 h k hi hr
theorem dJ.gl{α:Type}[Rp α]{δ g:aL}{ren:Nat->Nat}{i:Nat}{xs:List (List α)}(h:dJ δ i w v xs)(G:zB δ g w ren)(k:Nat)(hi:Nat.beq i 0=false:=by exact rfl)(hr:ren i=k:=by exact rfl):dJ g k w v xs:=G.2 h k hi hr
end
section
variable{K:Type}[DecidableEq K][Ky K]
theorem Md.ca{γ γ':aL}{j:Nat}{L:List Nat}{w w':World}{v:Value}{F:K->Int}{D:List K}(h:Md γ (is j) w v F D)(hc:bI (inl L) γ w γ' w')(hj:L.contains j=false:=by exact rfl):Md γ' (is j) w' v F D:=h.chg hc (dn hj)
theorem Md.ce{γ γ':aL}{j k:Nat}{w w':World}{v:Value}{F:K->Int}{D:List K}(h:Md γ (is j) w v F D)(hc:bI (is k) γ w γ' w')(hj:Nat.beq j k=false:=by exact rfl):Md γ' (is j) w' v F D:=h.chg hc (gu hj)
theorem Md.cn{γ γ':aL}{J:cC->Prop}{w w':World}{v:Value}{F:K->Int}{D:List K}(h:Md γ J w v F D)(hc:bI no γ w γ' w'):Md γ' J w' v F D:=h.chg hc (cW _)
theorem q5.ca{γ γ':aL}{j:Nat}{L:List Nat}{w w':World}{v:Value}{F:K->Int}{D:List K}{s:Int}{k:K}(h:q5 γ (is j) w v F D s k)(hc:bI (inl L) γ w γ' w')(hj:L.contains j=false:=by exact rfl):q5 γ' (is j) w' v F D s k:=h.chg hc (dn hj)
theorem q5.ce{γ γ':aL}{j q:Nat}{w w':World}{v:Value}{F:K->Int}{D:List K}{s:Int}{k:K}(h:q5 γ (is j) w v F D s k)(hc:bI (is q) γ w γ' w')(hj:Nat.beq j q=false:=by exact rfl):q5 γ' (is j) w' v F D s k:=h.chg hc (gu hj)
theorem q5.cn{γ γ':aL}{J:cC->Prop}{w w':World}{v:Value}{F:K->Int}{D:List K}{s:Int}{k:K}(h:q5 γ J w v F D s k)(hc:bI no γ w γ' w'):q5 γ' J w' v F D s k:=h.chg hc (cW _)
theorem Mp.ca{γ γ':aL}{j:Nat}{L:List Nat}{w w':World}{v:Value}{F:K->Int}(h:Mp γ (is j) w v F)(hc:bI (inl L) γ w γ' w')(hj:L.contains j=false:=by exact rfl):Mp γ' (is j) w' v F:=h.chg hc (dn hj)
theorem Mp.ce{γ γ':aL}{j k:Nat}{w w':World}{v:Value}{F:K->Int}(h:Mp γ (is j) w v F)(hc:bI (is k) γ w γ' w')(hj:Nat.beq j k=false:=by exact rfl):Mp γ' (is j) w' v F:=h.chg hc (gu hj)
theorem Mp.cn{γ γ':aL}{J:cC->Prop}{w w':World}{v:Value}{F:K->Int}(h:Mp γ J w v F)(hc:bI no γ w γ' w'):Mp γ' J w' v F:=h.chg hc (cW _)
theorem pY.ca{γ γ':aL}{j:Nat}{L:List Nat}{w w':World}{v:Value}{F:K->Int}{s:Int}{k:K}(h:pY γ (is j) w v F s k)(hc:bI (inl L) γ w γ' w')(hj:L.contains j=false:=by exact rfl):pY γ' (is j) w' v F s k:=h.chg hc (dn hj)
theorem pY.ce{γ γ':aL}{j q:Nat}{w w':World}{v:Value}{F:K->Int}{s:Int}{k:K}(h:pY γ (is j) w v F s k)(hc:bI (is q) γ w γ' w')(hj:Nat.beq j q=false:=by exact rfl):pY γ' (is j) w' v F s k:=h.chg hc (gu hj)
theorem pY.cn{γ γ':aL}{J:cC->Prop}{w w':World}{v:Value}{F:K->Int}{s:Int}{k:K}(h:pY γ J w v F s k)(hc:bI no γ w γ' w'):pY γ' J w' v F s k:=h.chg hc (cW _)
end
end TL
/-
  TlFace: half-edges' next ones, faces.
  By an AI agent.
-/
set_option linter.all false
namespace TL
end TL
namespace TL
structure dD(out:List (List Int))(g:bh)(k:Nat):Prop where
  len:(out.length:Int)=g.1
  at_:∀v,0<=v->v<g.1->gI out v=i9 g v k
theorem dD.start{g:bh}(h:0<=g.1):dD (List.replicate g.1.toNat []) g 0:=⟨by simp;omega,λv h0 h1=>by rw[fI h0 (by omega)];simp[i9]⟩
theorem dD.next{out:List (List Int)}{g:bh}{k:Nat}(h:dD out g k)(h1:0<=(gI g.2 k).1)(h2:(gI g.2 k).1<g.1)(h3:0<=(gI g.2 k).2)(h4:(gI g.2 k).2<g.1){a b:Int}(ha:a=2*(k:Int))(hb:b=2*(k:Int)+1):
   dD ((out.set (gI g.2 k).1.toNat (gI out (gI g.2 k).1++[a])).set (gI g.2 k).2.toNat (gI (out.set (gI g.2 k).1.toNat (gI out (gI g.2 k).1++[a])) (gI g.2 k).2++[b])) g (k+1):=by
 have hl:=h.len
 refine⟨by simpa using hl,λv h5 h6=>?_⟩
 rw[c5 h3 (by simp;omega) h5,c5 h1 (by omega) h3,c5 h1 (by omega) h5,qH,h.at_ _ h1 h2,h.at_ _ h3 h4,h.at_ v h5 h6,ha,hb]
 by_cases e2:v=(gI g.2 (k:Int)).2
 · by_cases e1:v=(gI g.2 (k:Int)).1
   · rw[<-e1,<-e2];simp
   · have e3:¬(gI g.2 (k:Int)).2=(gI g.2 (k:Int)).1:=λh=>e1 (e2.trans h)
     have e6:¬(gI g.2 (k:Int)).1=(gI g.2 (k:Int)).2:=λh=>e3 h.symm
     simp[e2,e3,e6]
 · have e4:¬(gI g.2 (k:Int)).2=v:=λh=>e2 h.symm
   by_cases e1:v=(gI g.2 (k:Int)).1
   · rw[if_neg e2,if_pos e1,if_neg e4,if_pos e1.symm,<-e1];simp
   · have e5:¬(gI g.2 (k:Int)).1=v:=λh=>e1 h.symm
     rw[if_neg e2,if_neg e1,if_neg e4,if_neg e5];simp
end TL
namespace TL
end TL
