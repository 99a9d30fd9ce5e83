/- Plain texts of this claim, part 1. By an AI agent. -/
import Derived.Test.YtmakonaaojadbaaBjTlP0
import Derived.Laws.Externs
import Derived.Laws.FloatArith
import Derived.Laws.FloatBits
import Derived.Laws.NewFold
import Derived.Laws.StructEq
import Derived.OrdersHeld
/-
  TlDraw: regions that draw their order, taken operation by operation.
  By an AI agent.
-/
set_option linter.all false
namespace TL
open Go
def bJ(n:Nat)(done:List Nat):Array Bool:=((List.range n).map λi=>decide (i∈done)).toArray
theorem cS(n:Nat)(done:List Nat)(j:Nat)(d:Bool):(bJ n done).getD j d=if j<n then decide (j∈done) else d:=by
 unfold bJ
 by_cases h:j<n
 · simp[h]
 · simp[h]
theorem ck{n i:Nat}(done:List Nat)(hi:i<n):(bJ n done).setIfInBounds i true=bJ n (i::done):=by
 apply Array.ext
 · simp[bJ]
 · intro j h1 h2
   have hj:j<n:=by simpa[bJ] using h2
   simp only[bJ]
   by_cases hij:i=j
   · subst hij;simp
   · have:¬j=i:=λh=>hij h.symm
     simp[Array.getElem_setIfInBounds,hij,this]
section
variable{P:Program}{ops:Array Oper}{Q:Exit->Act->World->Prop}{md:Region.Mode}{qs:Nat->Bool}
def iJ(P:Program)(md:Region.Mode)(ops:Array Oper)(qs:Nat->Bool)(Q:Exit->Act->World->Prop):Nat->Array Bool->Act->World->Prop
  |0,listed,a,w=>Region.ready md ops listed=[]/\Q .normal a w
  |fuel+1,listed,a,w=>(Region.ready md ops listed=[]->Q .normal a w)/\
    ∀i∈Region.ready md ops listed,if qs i then stOp P ops w i (λa'=>iJ P md ops qs Q fuel (listed.setIfInBounds i true) a' w) a
      else wpOp P ops Q i (iJ P md ops qs Q fuel (listed.setIfInBounds i true)) a w
theorem eK:∀(fuel:Nat) (listed:Array Bool) (a:Act) (w:World),iJ P md ops qs Q fuel listed a w->wpAny P md ops Q fuel listed a w
 |0,_,_,_,h=>h
 |fuel+1,listed,a,w,h=>by
   refine⟨h.1,λi hi=>?_⟩
   have h2:=h.2 i hi
   cases hq:qs i with
   |true=>
     simp only[hq,if_true] at h2
     exact wpOp_of_stOp (λa' h'=>eK fuel _ a' w h') h2
   |false=>
     simp only[hq,Bool.false_eq_true,if_false] at h2
     exact wpOp_mono (λa' w' h'=>eK fuel _ a' w' h') h2
theorem ko{i:Nat}{oi:Oper}{v:Value}{w:World}{M D:Array Bool}(hi:ops[i]? =some oi)(hsel:∀(j:Nat) (o:Oper) cs b,ops[j]? =some o->o.op≠ .select cs b)(hqi:qs i=true)
    (hM:∀j oj,ops[j]? =some oj->M.getD j false=false->j≠i->∃e∈oj.after,Region.binds md e=true/\M.getD e.on false=false)
    (hMq:∀j oj,ops[j]? =some oj->M.getD j false=true->D.getD j true=false->j≠i->qs j=true):
    ∀(fuel:Nat) (listed:Array Bool) (a:Act),listed.size=ops.size->(∀j,listed.getD j false=true->M.getD j false=true)->(∀j,listed.getD j true=false->D.getD j true=false)->
      (∀j oj,ops[j]? =some oj->j≠i->listed.getD j true=false->(∀e∈oj.after,Region.binds md e=true->e.on≠i)->oi.apart ops oj=true)->
      i∈Region.ready md ops listed->YieldsAt P ops w oi v a->
      iJ P md ops qs Q fuel (listed.setIfInBounds i true) (a.put oi.dst v) w->iJ P md ops qs Q (fuel+1) listed a w:=by
  intro fuel
  induction fuel with
  |zero=>
    intro listed a _ _ _ _ hr hy H
    refine⟨λh=>(by rw[h] at hr;cases hr),λj hj=>?_⟩
    by_cases hji:j=i
    · subst hji;rw[if_pos hqi];exact hy.stOp hi H
    · have:=ready_mono hj hji
      rw[H.1] at this
      cases this
  |succ fuel ih=>
    intro listed a hsz hsub hD hfree hr hy H
    refine⟨λh=>(by rw[h] at hr;cases hr),λj hj=>?_⟩
    by_cases hji:j=i
    · subst hji;rw[if_pos hqi];exact hy.stOp hi H
    · obtain⟨hjun,oj,hoj,hall⟩:=mem_ready.1 hj
      have hMj:M.getD j false=true:=by
        cases hm:M.getD j false with
        |true=>rfl
        |false=>
          obtain⟨e,he,hb,hn⟩:=hM j oj hoj hm hji
          have:=hsub _ (hall e he hb)
          rw[hn] at this;cases this
      have hqj:=hMq j oj hoj hMj (hD j hjun) hji
      have h1:=H.2 j (ready_mono hj hji)
      rw[if_pos hqj] at h1 ⊢
      have hnot:∀e∈oj.after,Region.binds md e=true->e.on≠i:=λe he hb heq=>by
        have h1:=hall e he hb
        have h0:=(mem_ready.1 hr).1
        rw[heq] at h1
        rw[getD_both h0] at h1
        cases h1
      have h2:=stOp_put hoj (hfree j oj hoj hji hjun hnot) (λcs b=>hsel i oi cs b hi) (λcs b=>hsel j oj cs b hoj) hy h1
      have hfree':∀k ok,ops[k]? =some ok->k≠i->(listed.setIfInBounds j true).getD k true=false->
          (∀e∈ok.after,Region.binds md e=true->e.on≠i)->oi.apart ops ok=true:=λk ok hk hki hun hno=>by
        refine hfree k ok hk hki ?_ hno
        by_cases hjk:j=k
        · subst hjk;exact hjun
        · rw[getD_set_ne true hjk] at hun;exact hun
      have hsub':∀k,(listed.setIfInBounds j true).getD k false=true->M.getD k false=true:=λk hk=>by
        by_cases hjk:j=k
        · subst hjk;exact hMj
        · rw[getD_set_ne false hjk] at hk;exact hsub k hk
      have hD':∀k,(listed.setIfInBounds j true).getD k true=false->D.getD k true=false:=λk hk=>by
        by_cases hjk:j=k
        · subst hjk;exact hD j hjun
        · rw[getD_set_ne true hjk] at hk;exact hD k hk
      refine stOp_mono (λa' h3=>ih (listed.setIfInBounds j true) a' (by simpa using hsz) hsub' hD' hfree' (ready_mono hr (Ne.symm hji)) h3.1 ?_) h2
      rw[Array.setIfInBounds_comm _ _ hji]
      exact h3.2
def ay{α:Type}(s:Sem α):Prop:=∀(P:Program) (w:World) (x:α) (w':World),s.run P w= .ok x w'->dE w.heap.size w w'
theorem ay.bind{α β:Type}{s:Sem α}{f:α->Sem β}(h:ay s)(hf:∀a,ay (f a)):ay (s>>=f):=by
 intro P w x w' hr
 rw[Sem.run_bind] at hr
 cases h1:s.run P w with
 |halt e w1=>rw[h1] at hr;cases hr
 |ok a w1=>
   rw[h1] at hr
   have k1:=h P w a w1 h1
   have k2:=hf a P w1 x w' hr
   exact k1.trans (k2.mono k1.size)
theorem ay.pure{α:Type}(a:α):ay (Pure.pure a:Sem α):=λP w x w' h=>by
 simp only[Sem.run_pure] at h
 cases h;exact dE.refl _ _
theorem ay.halt{α:Type}(e:Halt):ay (Sem.halt e:Sem α):=λP w x w' h=>by cases h
theorem ay.stuck{α:Type}(e:String):ay (Go.stuck e:Sem α):=ay.halt _
theorem ay.unsupported{α:Type}(e:Unsupported):ay (Go.unsupported e:Sem α):=ay.halt _
theorem ay.program:ay Go.program:=λP w x w' h=>by
 simp only[run_program] at h
 cases h;exact dE.refl _ _
theorem ay.new(o:Obj):ay (newObj o):=λP w x w' h=>by
 simp only[run_newObj] at h
 cases h
 exact(dE.refl _ w).alloc (Nat.le_refl _) o
theorem ay.typeInfo(t:TypeId):ay (Go.typeInfo t):=ay.bind ay.program λp=>by
 cases p.info? t with
 |some i=>exact ay.pure i
 |none=>exact ay.stuck _
theorem ay.underlying(t:TypeId):ay (Go.underlying t):=ay.bind ay.program λp=>by
 cases p.underlying t with
 |some i=>exact ay.pure i
 |none=>exact ay.stuck _
theorem ay.sizeOf(t:TypeId):ay (Go.sizeOf t):=ay.bind (ay.typeInfo t) λi=>ay.pure _
theorem ay.zeroValue(t:TypeId):ay (Go.zeroValue t):=ay.bind (ay.typeInfo t) λi=>by
 cases i.zero with
 |some v=>exact ay.pure v
 |none=>exact ay.unsupported _
theorem ay.newVar(t:TypeId)(v:Value):ay (Go.newVar t v):=ay.bind (ay.new _) λ_=>ay.pure _
theorem gN(t:TypeId)(len:Nat)(parts:Array (Nat×Value)):ay (Instr.buildSlice t len parts):=by
 unfold Instr.buildSlice
 refine ay.bind (ay.underlying t) λd=>?_
 split
 · refine ay.bind (ay.sizeOf _) λsize=>?_
   have tail:∀(elem:TypeId) (zero:Array Value),ay (match Instr.fill (λi=>some (i*size,size)) ((Array.range (len*size)).map (zero[· %zero.size]!)) parts.toList with
       |some cells=>(do pure (Value.slice (some (<-newRow elem cells)) len len):Sem Value)
       |_=>Go.stuck "buildSlice: a part of the wrong size"):=λelem zero=>by
     split
     · exact ay.bind (ay.bind (ay.new _) λ_=>ay.pure _) λ_=>ay.pure _
     · exact ay.stuck _
   by_cases h1:len*size>2^24
   · simp only[h1,if_true]
     refine ay.bind (ay.unsupported _) λx=>?_
     by_cases h2:len*size=0
     · rw[if_pos h2]
       exact ay.bind (ay.pure _) λzero=>tail _ zero
     · simp only[h2,if_false]
       exact ay.bind (ay.zeroValue _) λ_=>ay.bind (ay.pure _) λzero=>tail _ zero
   · simp only[h1,if_false]
     by_cases h2:len*size=0
     · rw[if_pos h2]
       exact ay.bind (ay.pure _) λzero=>tail _ zero
     · simp only[h2,if_false]
       exact ay.bind (ay.zeroValue _) λ_=>ay.bind (ay.pure _) λzero=>tail _ zero
 · exact ay.stuck _
theorem nj{P:Program}{w w':World}{s:Sem Value}{nx:Next}(h:(do pure (Next.value (<-s)):Sem Next).run P w= .ok nx w'):∃u,nx= .value u:=by
 rw[Sem.run_bind] at h
 cases hs:s.run P w with
 |ok a w1=>rw[hs] at h;cases h;exact⟨a,rfl⟩
 |halt e w1=>rw[hs] at h;cases h
theorem ay.load(a:Addr)(m:Mode):ay (Go.load a m):=λP w x w' h=>by
 simp only[Go.load,Sem.run] at h
 split at h
 · cases h;exact dE.refl _ _
 · split at h
   · cases h;exact dE.refl _ _
   · cases h
theorem ay.cells(a:Addr):∀(n i:Nat) (acc:Array Value),ay (loadCellsFrom a i n acc)
 |0,_,_=>ay.pure _
 |n+1,i,_=>ay.bind (ay.load _ _) λ_=>ay.cells a n (i+1) _
theorem ay.isAgg(t:TypeId):ay (Go.isAgg t):=ay.bind (ay.underlying t) λd=>by
 split<;>exact ay.pure _
theorem ay.error{α:Type}(m:String):ay (runtimePanic (.error m):Sem α):=ay.bind ay.program λp=>ay.halt _
theorem ay.asIntOf(v:Value):ay (Go.asIntOf v):=by
 unfold Go.asIntOf
 split
 · exact ay.pure _
 · exact ay.unsupported _
 · exact ay.stuck _
theorem ay.asInt(v:Value):ay (Go.asInt v):=ay.bind (ay.asIntOf v) λ_=>ay.pure _
theorem ay.choose(q:Question):ay (Go.choose q):=λP w x w' h=>by
 simp only[Go.choose,Sem.run] at h
 split at h
 · cases h;exact dE.refl _ _
 · cases h;exact⟨rfl,rfl,rfl,Nat.le_refl _,λ_ _=>rfl,Nat.le_succ _⟩
theorem ay.room(n:Nat):ay (askRoom n):=λP w x w' h=>by
 unfold askRoom at h
 split at h
 · simp only[Go.mark,Sem.run] at h
   cases h;exact⟨rfl,rfl,rfl,Nat.le_refl _,λ_ _=>rfl,Nat.le_refl _⟩
 · cases h;exact dE.refl _ _
theorem j7(t:TypeId)(a:Value):ay (Instr.loadAt t a):=by
 unfold Instr.loadAt
 refine ay.bind ?_ λb=>?_
 · unfold Instr.sureAddr
   split
   · exact ay.pure _
   · exact ay.stuck _
 · unfold loadVar
   refine ay.bind (ay.isAgg t) λc=>?_
   split
   · exact ay.bind (ay.sizeOf t) λn=>ay.bind (ay.cells _ _ _ _) λ_=>ay.pure _
   · exact ay.load _ _
theorem i3(t:TypeId)(a b:Value):ay (Instr.makeSlice t a b):=by
 unfold Instr.makeSlice
 refine ay.bind (ay.underlying t) λd=>?_
 split
 · refine ay.bind (ay.asInt _) λl=>ay.bind (ay.asInt _) λc=>ay.bind (ay.typeInfo _) λi=>?_
   have tail:∀(c:Int) (l:Int) (elem:TypeId),ay (do
       let n:=c.toNat*(<-sizeOf elem)
       let zero<-if n=0 then pure #[] else do pure (<-zeroValue elem).cells
       let a<-newRow elem ((Array.range n).map (zero[· %zero.size]!))
       pure (Value.slice (some a) l.toNat c.toNat)):=λc l elem=>by
     refine ay.bind (ay.sizeOf _) λn=>?_
     have last:∀zero:Array Value,ay (do
       let a<-newRow elem ((Array.range (c.toNat*n)).map (zero[· %zero.size]!))
       pure (Value.slice (some a) l.toNat c.toNat)):=λzero=>ay.bind (ay.bind (ay.new _) λ_=>ay.pure _) λ_=>ay.pure _
     by_cases h:c.toNat*n=0
     · simp only[h,if_true]
       have:=last #[]
       simp only[h] at this
       exact ay.bind (ay.pure _) λ_=>ay.bind (ay.bind (ay.new _) λ_=>ay.pure _) λ_=>ay.pure _
     · simp only[h,if_false]
       exact ay.bind (ay.zeroValue _) λ_=>ay.bind (ay.pure _) λz=>last z
   dsimp only
   repeat' (first
     |exact ay.error _
     |exact ay.choose _
     |exact ay.room _
     |exact tail _ _ _
     |exact ay.pure _
     |refine ay.bind ?_ λ_=>?_
     |split)
 · exact ay.stuck _
def fq:Op->Bool
 | .alloc _| .box .. | .buildSlice .. | .load .. | .makeSlice .. =>true
 |_=>false
theorem kB{ρ:Operand->Value}{o:Oper}(h:fq o.op=true):ay (execOp ρ o):=by
 obtain⟨dst,op,ty,pos,after,g⟩:=o
 cases op<;>simp only[fq,Bool.false_eq_true] at h
 case alloc e=>exact ay.bind (ay.bind (ay.zeroValue _) λ_=>ay.bind (ay.newVar _ _) λ_=>ay.pure _) λ_=>ay.pure _
 case box e x=>exact ay.bind (ay.bind (ay.newVar _ _) λ_=>ay.pure _) λ_=>ay.pure _
 case buildSlice t n ps=>exact ay.bind (gN _ _ _) λ_=>ay.pure _
 case load t a=>exact ay.bind (j7 _ _) λ_=>ay.pure _
 case makeSlice t a b=>exact ay.bind (i3 _ _ _) λ_=>ay.pure _
theorem m0{i:Nat}{oi:Oper}{v:Value}{w0:World}{M D:Array Bool}(hi:ops[i]? =some oi)(hsel:∀(j:Nat) (o:Oper) cs b,ops[j]? =some o->o.op≠ .select cs b)(hqi:qs i=true)
    (hQ:∀c a w,Q (.panic c) (a.put oi.dst v) w->Q (.panic c) a w)
    (hM:∀j oj,ops[j]? =some oj->M.getD j false=false->j≠i->∃e∈oj.after,Region.binds md e=true/\M.getD e.on false=false)
    (hMq:∀j oj,ops[j]? =some oj->M.getD j false=true->D.getD j true=false->j≠i->qs j=true\/fq oj.op=true):
    ∀(fuel:Nat) (listed:Array Bool) (a:Act) (w:World),dE w0.heap.size w0 w->(∀j,listed.getD j false=true->M.getD j false=true)->(∀j,listed.getD j true=false->D.getD j true=false)->
      (∀j oj,ops[j]? =some oj->j≠i->listed.getD j true=false->(∀e∈oj.after,Region.binds md e=true->e.on≠i)->oi.apart ops oj=true)->
      i∈Region.ready md ops listed->(∀w,dE w0.heap.size w0 w->YieldsAt P ops w oi v a)->
      iJ P md ops qs Q fuel (listed.setIfInBounds i true) (a.put oi.dst v) w->iJ P md ops qs Q (fuel+1) listed a w:=by
  intro fuel
  induction fuel with
  |zero=>
    intro listed a w hw _ _ _ hr hy H
    refine⟨λh=>(by rw[h] at hr;cases hr),λj hj=>?_⟩
    by_cases hji:j=i
    · subst hji;rw[if_pos hqi];exact(hy w hw).stOp hi H
    · have:=ready_mono hj hji
      rw[H.1] at this
      cases this
  |succ fuel ih=>
    intro listed a w hw hsub hD hfree hr hy H
    refine⟨λh=>(by rw[h] at hr;cases hr),λj hj=>?_⟩
    by_cases hji:j=i
    · subst hji;rw[if_pos hqi];exact(hy w hw).stOp hi H
    · obtain⟨hjun,oj,hoj,hall⟩:=mem_ready.1 hj
      have hMj:M.getD j false=true:=by
        cases hm:M.getD j false with
        |true=>rfl
        |false=>
          obtain⟨e,he,hb,hn⟩:=hM j oj hoj hm hji
          have:=hsub _ (hall e he hb)
          rw[hn] at this;cases this
      have hqj:=hMq j oj hoj hMj (hD j hjun) hji
      have h1:=H.2 j (ready_mono hj hji)
      have hnot:∀e∈oj.after,Region.binds md e=true->e.on≠i:=λe he hb heq=>by
        have h1:=hall e he hb
        have h0:=(mem_ready.1 hr).1
        rw[heq] at h1
        rw[getD_both h0] at h1
        cases h1
      have hap:=hfree j oj hoj hji hjun hnot
      have hfree':∀k ok,ops[k]? =some ok->k≠i->(listed.setIfInBounds j true).getD k true=false->
          (∀e∈ok.after,Region.binds md e=true->e.on≠i)->oi.apart ops ok=true:=λk ok hk hki hun hno=>by
        refine hfree k ok hk hki ?_ hno
        by_cases hjk:j=k
        · subst hjk;exact hjun
        · rw[getD_set_ne true hjk] at hun;exact hun
      have hsub':∀k,(listed.setIfInBounds j true).getD k false=true->M.getD k false=true:=λk hk=>by
        by_cases hjk:j=k
        · subst hjk;exact hMj
        · rw[getD_set_ne false hjk] at hk;exact hsub k hk
      have hD':∀k,(listed.setIfInBounds j true).getD k true=false->D.getD k true=false:=λk hk=>by
        by_cases hjk:j=k
        · subst hjk;exact hD j hjun
        · rw[getD_set_ne true hjk] at hk;exact hD k hk
      obtain⟨g1,g2,g3⟩:=Oper.apart_spec hap
      have keep:∀u w,dE w0.heap.size w0 w->YieldsAt P ops w oi v (a.put oj.dst u):=λu w hw=>
        (hy w hw).of_same (execOp_put oi (λcs b=>hsel i oi cs b hi) a oj.dst u g3) (wanted_put oi a oj.dst u g3)
      cases hqj':qs j with
      |true=>
        simp only[hqj',if_true] at h1 ⊢
        obtain⟨u,hyu,hK⟩:=yieldsAt_of_stOp hoj h1
        have hyj:YieldsAt P ops w oj u a:=by
          rcases hyu with⟨k1,k2⟩|⟨k1,k2⟩
          · refine .inl ⟨by rw[<-wanted_put oj a oi.dst v g1];exact k1,?_⟩
            rw[execOp_put oj (λcs b=>hsel j oj cs b hoj) a oi.dst v g1] at k2
            exact k2
          · exact .inr ⟨by rw[<-wanted_put oj a oi.dst v g1];exact k1,k2⟩
        refine hyj.stOp hoj (ih (listed.setIfInBounds j true) (a.put oj.dst u) w hw hsub' hD' hfree' (ready_mono hr (Ne.symm hji)) (keep u) ?_)
        rw[<-Act.put_comm a v u g2,Array.setIfInBounds_comm _ _ hji]
        exact hK
      |false=>
        have hkk:=hqj.resolve_left (by rw[hqj'];simp)
        simp only[hqj',Bool.false_eq_true,if_false] at h1 ⊢
        unfold wpOp at h1 ⊢
        simp only[hoj] at h1 ⊢
        rw[wanted_put oj a oi.dst v g1] at h1
        cases hwt:Region.wanted oj (yielded ops a.tmps) with
        |false=>
          simp only[hwt,Bool.false_eq_true,if_false] at h1 ⊢
          refine ih (listed.setIfInBounds j true) (a.put oj.dst undef) w hw hsub' hD' hfree' (ready_mono hr (Ne.symm hji)) (keep undef) ?_
          rw[<-Act.put_comm a v undef g2,Array.setIfInBounds_comm _ _ hji]
          exact h1
        |true=>
          simp only[hwt,if_true] at h1 ⊢
          have hke:=kB (ρ:=a.eval) hkk P w
          rcases h1 with h1|⟨h1,h2⟩
          · left
            unfold Oper.wp at h1 ⊢
            rw[execOp_put oj (λcs b=>hsel j oj cs b hoj) a oi.dst v g1] at h1
            obtain⟨dst,op,ty,pos,after,gd⟩:=oj
            cases hrun:(execOp a.eval ⟨dst,op,ty,pos,after,gd⟩).run P w with
            |halt x w'=>
              rw[hrun] at h1
              cases x<;>simp only[Oper.upon] at h1 ⊢
              case panic u=>exact hQ _ _ _ h1
            |ok nx w'=>
              rw[hrun] at h1
              have hb:=hke nx w' hrun
              have hw':dE w0.heap.size w0 w':=hw.trans (hb.mono hw.size)
              -- these operations yield values alone
              have hval:∃u,nx= .value u:=by
                cases op<;>simp only[fq,Bool.false_eq_true] at hkk
                all_goals exact nj hrun
              obtain⟨u,rfl⟩:=hval
              simp only[Oper.upon] at h1 ⊢
              refine ih (listed.setIfInBounds j true) (a.put dst u) w' hw' hsub' hD' hfree' (ready_mono hr (Ne.symm hji)) (keep u) ?_
              have h3:=h1
              rw[show(a.put oi.dst v).put dst u=(a.put dst u).put oi.dst v from Act.put_comm a v u g2,Array.setIfInBounds_comm _ _ (Ne.symm hji)] at h3
              exact h3
          · right
            refine⟨?_,h2⟩
            unfold Oper.asks at*
            rw[execOp_put oj (λcs b=>hsel j oj cs b hoj) a oi.dst v g1] at h1
            exact h1
theorem iU{i:Nat}{oi:Oper}{v:Value}(hi:ops[i]? =some oi)(hsel:∀(j:Nat) (o:Oper) cs b,ops[j]? =some o->o.op≠ .select cs b)(hqi:qs i=true)
    (hQ:∀c a w,Q (.panic c) (a.put oi.dst v) w->Q (.panic c) a w):
    ∀(fuel:Nat) (listed:Array Bool) (a:Act) (w:World),
      (∀j oj,ops[j]? =some oj->j≠i->listed.getD j true=false->(∀e∈oj.after,Region.binds md e=true->e.on≠i)->oi.apart ops oj=true)->
      i∈Region.ready md ops listed->Yields P ops oi v a->
      iJ P md ops qs Q fuel (listed.setIfInBounds i true) (a.put oi.dst v) w->iJ P md ops qs Q (fuel+1) listed a w:=by
  have hat:∀{a:Act} {w:World},Yields P ops oi v a->YieldsAt P ops w oi v a:=λ {a w} hy=>by
    rcases hy with⟨h1,h2⟩|⟨h1,h2⟩
    · exact .inl ⟨h1,.inl (h2 w)⟩
    · exact .inr ⟨h1,h2⟩
  intro fuel
  induction fuel with
  |zero=>
    intro listed a w _ hr hy H
    refine⟨λh=>(by rw[h] at hr;cases hr),λj hj=>?_⟩
    by_cases hji:j=i
    · subst hji;rw[if_pos hqi];exact(hat hy).stOp hi H
    · have:=ready_mono hj hji
      rw[H.1] at this
      cases this
  |succ fuel ih=>
    intro listed a w hfree hr hy H
    refine⟨λh=>(by rw[h] at hr;cases hr),λj hj=>?_⟩
    by_cases hji:j=i
    · subst hji;rw[if_pos hqi];exact(hat hy).stOp hi H
    · obtain⟨hjun,oj,hoj,hall⟩:=mem_ready.1 hj
      have h1:=H.2 j (ready_mono hj hji)
      have hnot:∀e∈oj.after,Region.binds md e=true->e.on≠i:=λe he hb heq=>by
        have h1:=hall e he hb
        have h0:=(mem_ready.1 hr).1
        rw[heq] at h1
        rw[getD_both h0] at h1
        cases h1
      have hap:=hfree j oj hoj hji hjun hnot
      have hfree':∀k ok,ops[k]? =some ok->k≠i->(listed.setIfInBounds j true).getD k true=false->
          (∀e∈ok.after,Region.binds md e=true->e.on≠i)->oi.apart ops ok=true:=λk ok hk hki hun hno=>by
        refine hfree k ok hk hki ?_ hno
        by_cases hjk:j=k
        · subst hjk;exact hjun
        · rw[getD_set_ne true hjk] at hun;exact hun
      cases hqj:qs j with
      |true=>
        simp only[hqj,if_true] at h1 ⊢
        -- a step that leaves the world
        have hy':=hy
        obtain⟨g1,g2,g3⟩:=Oper.apart_spec hap
        have keep:∀(a:Act),Yields P ops oi v a->∀u,Yields P ops oi v (a.put oj.dst u):=λa hy u=>
          hy.of_same (execOp_put oi (λcs b=>hsel i oi cs b hi) a oj.dst u g3) (wanted_put oi a oj.dst u g3)
        obtain⟨u,hyu,hK⟩:=yieldsAt_of_stOp hoj h1
        have hyj:YieldsAt P ops w oj u a:=by
          rcases hyu with⟨k1,k2⟩|⟨k1,k2⟩
          · refine .inl ⟨by rw[<-wanted_put oj a oi.dst v g1];exact k1,?_⟩
            rw[execOp_put oj (λcs b=>hsel j oj cs b hoj) a oi.dst v g1] at k2
            exact k2
          · exact .inr ⟨by rw[<-wanted_put oj a oi.dst v g1];exact k1,k2⟩
        refine hyj.stOp hoj (ih (listed.setIfInBounds j true) (a.put oj.dst u) w hfree' (ready_mono hr (Ne.symm hji)) (keep a hy u) ?_)
        rw[<-Act.put_comm a v u g2,Array.setIfInBounds_comm _ _ hji]
        exact hK
      |false=>
        simp only[hqj,Bool.false_eq_true,if_false] at h1 ⊢
        have h2:=wpOp_put hoj hap (λcs b=>hsel i oi cs b hi) (λcs b=>hsel j oj cs b hoj) hQ hy h1
        refine wpOp_mono (λa' w' h3=>ih (listed.setIfInBounds j true) a' w' hfree' (ready_mono hr (Ne.symm hji)) h3.1 ?_) h2
        rw[Array.setIfInBounds_comm _ _ hji]
        exact h3.2
end
section
variable{P:Program}{n:Nat}{l:List Oper}{qs:List Nat}{K:Fr->World->Prop}{f:Fr}{w:World}{done:List Nat}{fuel:Nat}
def fQ(P:Program)(n:Nat)(l:List Oper)(qs:List Nat)(K:Fr->World->Prop)(fuel:Nat)(done:List Nat)(f:Fr)(w:World):Prop:=
  ∀a,Ag n a f->iJ P .any l.toArray (λi=>decide (i∈qs)) (λe a' w'=>e= .normal/\∃f',Ag n a' f'/\K f' w') fuel (bJ l.length done) a w
theorem aW{fid:Nat}{R:Ending->World->Prop}{k:List Item}{id:Nat}(γ:aC)(qs:List Nat)(hm:P.follows .mixedOrders=true)
   (h:∀w1,aU no γ w γ w1->fQ P n l qs (dZ P fid n R k) l.length [] f w1):dZ P fid n R (.code (.region id l.toArray true)::k) f w:=
 fC λa ha=>wp_region_any hm (by
   have h0:=eK _ _ _ _ (h _ (aU.refl _ _ _).drew a ha)
   have hmask:bJ l.length []=Array.replicate l.toArray.size false:=by
     apply Array.ext
     · simp[bJ]
     · intro j h1 h2;simp[bJ]
   rw[hmask] at h0
   simpa using h0)
theorem bT{fid:Nat}{R:Ending->World->Prop}{k:List Item}{id:Nat}{σ:Type}(Mid:σ->Fr->World->Prop)(γ:aC)(qs:List Nat)(hm:P.follows .mixedOrders=true)
    (h:(∀s f w,Mid s f w->dZ P fid n R k f w)->∀w1,aU no γ w γ w1->fQ P n l qs (dZ P fid n R k) l.length [] f w1)(hk:∀s f w,Mid s f w->dZ P fid n R k f w):dZ P fid n R (.code (.region id l.toArray true)::k) f w:=
  aW γ qs hm (h hk)
def eC(l:List Oper)(done:List Nat)(i:Nat):Bool:=
 !done.contains i&&match l[i]? with
   |some o=>o.after.all λe=> !Region.binds .any e||done.contains e.on&&decide (e.on<l.length)
   |none=>false
def fl(l:List Oper)(done:List Nat)(i:Nat):Bool:=
 match l[i]? with
 |none=>false
 |some oi=>(List.range l.length).all λj=>j==i||done.contains j||match l[j]? with
     |some oj=>oj.after.any (λe=>Region.binds .any e&&e.on==i)||oi.apart l.toArray oj
     |none=>true
def jk(l:List Oper)(qs done M:List Nat)(i:Nat):Bool:=
  ((List.range l.length).all λj=>M.contains j||j==i||match l[j]? with
      |some oj=>oj.after.any λe=>Region.binds .any e&& !M.contains e.on
      |none=>true)&&
  (M.all λj=>j==i||done.contains j||qs.contains j)&&(done.all λj=>M.contains j&&decide (j<l.length))&&M.all λj=>decide (j<l.length)
def eM(l:List Oper):Bool:=Region.noSelect l.toArray
theorem dT{i:Nat}(h:eC l done i=true):i<l.length/\i∈Region.ready .any l.toArray (bJ l.length done):=by
 unfold eC at h
 simp only[Bool.and_eq_true,Bool.not_eq_true'] at h
 obtain⟨h1,h2⟩:=h
 split at h2
 · rename_i o ho
   have hlt:i<l.length:=(List.getElem?_eq_some_iff.1 ho).1
   refine⟨hlt,mem_ready.2 ⟨by rw[cS];simp[hlt];simpa using h1,o,by simpa using ho,λe he hb=>?_⟩⟩
   have h3:=Array.all_eq_true_iff_forall_mem.1 h2 e he
   simp only[hb,Bool.not_true,Bool.false_or,Bool.and_eq_true,decide_eq_true_eq] at h3
   rw[cS,if_pos h3.2]
   simpa using h3.1
 · cases h2
theorem ec{i:Nat}{oi:Oper}(hi:l[i]? =some oi)(h:fl l done i=true)(j:Nat)(oj:Oper)(hj:l.toArray[j]? =some oj)(hne:j≠i)(hun:(bJ l.length done).getD j true=false)
   (hno:∀e∈oj.after,Region.binds .any e=true->e.on≠i):oi.apart l.toArray oj=true:=by
 have hj':l[j]? =some oj:=by simpa using hj
 have hlt:j<l.length:=(List.getElem?_eq_some_iff.1 hj').1
 unfold fl at h
 simp only[hi,List.all_eq_true,List.mem_range] at h
 have h1:=h j hlt
 rw[cS,if_pos hlt] at hun
 have hd:done.contains j=false:=by simpa using hun
 simp only[hj',Bool.or_eq_true,beq_iff_eq,hne,false_or,hd,Bool.false_eq_true] at h1
 rcases h1 with h1|h1
 · obtain⟨e,he,hb⟩:=Array.any_eq_true'.1 h1
   simp only[Bool.and_eq_true,beq_iff_eq] at hb
   exact absurd hb.2 (hno e he hb.1)
 · exact h1
theorem fm(h:eM l=true):∀(j:Nat) (o:Oper) cs b,l.toArray[j]? =some o->o.op≠ .select cs b:=Region.noSelect_spec h
theorem gR{i:Nat}(h:qs.contains i=true):decide (i∈qs)=true:=by simpa using h
variable{dst:Option Tmp}{op:Op}{ty:TypeId}{pos:String}{after:Array Edge}{g:Option (Nat×Bool)}{v:Value}
theorem cA(i:Nat)(M:List Nat)(hi:l[i]? =some ⟨dst,op,ty,pos,after,g⟩)(hn:eM l=true)(hc:(qs.contains i&&eC l done i&&fl l done i&&jk l qs done M i&&gW n ⟨dst,op,ty,pos,after,g⟩)=true)
    (hw:c9 l ⟨dst,op,ty,pos,after,g⟩ f=true)(h:(execOp (ev f) ⟨dst,op,ty,pos,after,g⟩).run P w= .ok (.value v) w)(hk:fQ P n l qs K fuel (i::done) (ea f dst v) w):fQ P n l qs K (fuel+1) done f w:=by
  simp only[Bool.and_eq_true] at hc
  obtain⟨⟨⟨⟨hq,hr⟩,hf⟩,hb⟩,hd⟩:=hc
  obtain⟨hlt,hr'⟩:=dT hr
  intro a ha
  unfold jk at hb
  simp only[Bool.and_eq_true,List.all_eq_true,List.mem_range] at hb
  obtain⟨⟨⟨b1,b2⟩,b3⟩,b4⟩:=hb
  have hgM:∀j,(bJ l.length M).getD j false=true↔j∈M:=λj=>by
    rw[cS]
    by_cases hjl:j<l.length
    · simp[hjl]
    · simp only[hjl,if_false,Bool.false_eq_true,false_iff]
      exact λhm=>hjl (by simpa using b4 j hm)
  refine ko (v:=v) (M:=bJ l.length M) (D:=bJ l.length done) (by simpa using hi) (fm hn) (gR hq) (λj oj hj hm hne=>?_) (λj oj hj hm hD hne=>?_) fuel _ a (by simp[bJ]) (λj hj=>?_) (λj hj=>hj) (ec hi hf) hr' ?_ ?_
  · have hj':l[j]? =some oj:=by simpa using hj
    have hjl:j<l.length:=(List.getElem?_eq_some_iff.1 hj').1
    have h1:=b1 j hjl
    have hmM:M.contains j=false:=by
      cases hc:M.contains j with
      |false=>rfl
      |true=>have h9:=(hgM j).2 (by simpa using hc);rw[hm] at h9;cases h9
    simp only[hmM,hj',Bool.false_or,Bool.or_eq_true,beq_iff_eq,hne,false_or] at h1
    obtain⟨e,he,hbb⟩:=Array.any_eq_true'.1 h1
    simp only[Bool.and_eq_true,Bool.not_eq_true'] at hbb
    refine⟨e,he,hbb.1,?_⟩
    cases hc:(bJ l.length M).getD e.on false with
    |false=>rfl
    |true=>
      have:=(hgM _).1 hc
      have h2:=hbb.2
      simp[this] at h2
  · have h1:=b2 j ((hgM j).1 hm)
    have hj':l[j]? =some oj:=by simpa using hj
    have hjl:j<l.length:=(List.getElem?_eq_some_iff.1 hj').1
    rw[cS,if_pos hjl] at hD
    have hd:done.contains j=false:=by simpa using hD
    simp only[Bool.or_eq_true,beq_iff_eq,hne,hd,false_or,Bool.false_eq_true] at h1
    exact gR h1
  · rw[cS] at hj
    split at hj
    · have h1:=b3 j (by simpa using hj)
      exact(hgM j).2 (by simpa using h1.1)
    · cases hj
  · refine .inl ⟨?_,.inl ?_⟩
    · rw[ha.yielded];exact hw
    · rw[ha.eval];exact h
  · rw[ck done hlt]
    exact hk _ (ha.put hd v)
def jp(l:List Oper)(qs done M:List Nat)(i:Nat):Bool:=
 ((List.range l.length).all λj=>M.contains j||j==i||match l[j]? with
     |some oj=>oj.after.any λe=>Region.binds .any e&& !M.contains e.on
     |none=>true)&&
 (M.all λj=>j==i||done.contains j||qs.contains j||match l[j]? with
     |some oj=>fq oj.op
     |none=>false)&&(done.all λj=>M.contains j&&decide (j<l.length))&&M.all λj=>decide (j<l.length)
theorem qn(i:Nat)(M:List Nat)(hi:l[i]? =some ⟨dst,op,ty,pos,after,g⟩)(hn:eM l=true)(hc:(qs.contains i&&eC l done i&&fl l done i&&jp l qs done M i&&gW n ⟨dst,op,ty,pos,after,g⟩)=true)
    (hw:c9 l ⟨dst,op,ty,pos,after,g⟩ f=true)(h:∀w',dE w.heap.size w w'->(execOp (ev f) ⟨dst,op,ty,pos,after,g⟩).run P w'= .ok (.value v) w')(hk:fQ P n l qs K fuel (i::done) (ea f dst v) w):fQ P n l qs K (fuel+1) done f w:=by
  simp only[Bool.and_eq_true] at hc
  obtain⟨⟨⟨⟨hq,hr⟩,hf⟩,hb⟩,hd⟩:=hc
  obtain⟨hlt,hr'⟩:=dT hr
  intro a ha
  unfold jp at hb
  simp only[Bool.and_eq_true,List.all_eq_true,List.mem_range] at hb
  obtain⟨⟨⟨b1,b2⟩,b3⟩,b4⟩:=hb
  have hgM:∀j,(bJ l.length M).getD j false=true↔j∈M:=λj=>by
    rw[cS]
    by_cases hjl:j<l.length
    · simp[hjl]
    · simp only[hjl,if_false,Bool.false_eq_true,false_iff]
      exact λhm=>hjl (by simpa using b4 j hm)
  refine m0 (v:=v) (w0:=w) (M:=bJ l.length M) (D:=bJ l.length done) (by simpa using hi) (fm hn) (gR hq) (λc a w h=>by cases h.1) (λj oj hj hm hne=>?_) (λj oj hj hm hD hne=>?_) fuel _ a w (dE.refl _ _) (λj hj=>?_) (λj hj=>hj) (ec hi hf) hr' (λw' hw'=>?_) ?_
  · have hj':l[j]? =some oj:=by simpa using hj
    have hjl:j<l.length:=(List.getElem?_eq_some_iff.1 hj').1
    have h1:=b1 j hjl
    have hmM:M.contains j=false:=by
      cases hc:M.contains j with
      |false=>rfl
      |true=>have h9:=(hgM j).2 (by simpa using hc);rw[hm] at h9;cases h9
    simp only[hmM,hj',Bool.false_or,Bool.or_eq_true,beq_iff_eq,hne,false_or] at h1
    obtain⟨e,he,hbb⟩:=Array.any_eq_true'.1 h1
    simp only[Bool.and_eq_true,Bool.not_eq_true'] at hbb
    refine⟨e,he,hbb.1,?_⟩
    cases hc:(bJ l.length M).getD e.on false with
    |false=>rfl
    |true=>
      have:=(hgM _).1 hc
      have h2:=hbb.2
      simp[this] at h2
  · have h1:=b2 j ((hgM j).1 hm)
    have hj':l[j]? =some oj:=by simpa using hj
    have hjl:j<l.length:=(List.getElem?_eq_some_iff.1 hj').1
    rw[cS,if_pos hjl] at hD
    have hd:done.contains j=false:=by simpa using hD
    simp only[hj',Bool.or_eq_true,beq_iff_eq,hne,hd,false_or,Bool.false_eq_true] at h1
    rcases h1 with h1|h1
    · exact .inl (gR h1)
    · exact .inr h1
  · rw[cS] at hj
    split at hj
    · have h1:=b3 j (by simpa using hj)
      exact(hgM j).2 (by simpa using h1.1)
    · cases hj
  · refine .inl ⟨?_,.inl ?_⟩
    · rw[ha.yielded];exact hw
    · rw[ha.eval];exact h w' hw'
  · rw[ck done hlt]
    exact hk _ (ha.put hd v)
theorem bi(i:Nat)(hi:l[i]? =some ⟨dst,op,ty,pos,after,g⟩)(hn:eM l=true)(hc:(qs.contains i&&eC l done i&&fl l done i&&gW n ⟨dst,op,ty,pos,after,g⟩)=true)
    (hw:c9 l ⟨dst,op,ty,pos,after,g⟩ f=true)(h:∀w,(execOp (ev f) ⟨dst,op,ty,pos,after,g⟩).run P w= .ok (.value v) w)(hk:fQ P n l qs K fuel (i::done) (ea f dst v) w):fQ P n l qs K (fuel+1) done f w:=by
  simp only[Bool.and_eq_true] at hc
  obtain⟨⟨⟨hq,hr⟩,hf⟩,hd⟩:=hc
  obtain⟨hlt,hr'⟩:=dT hr
  intro a ha
  refine iU (v:=v) (by simpa using hi) (fm hn) (gR hq) (λc a w h=>by cases h.1) fuel _ a w (ec hi hf) hr' (.inl ⟨by rw[ha.yielded];exact hw,λw=>by rw[ha.eval];exact h w⟩) ?_
  rw[ck done hlt]
  exact hk _ (ha.put hd v)
theorem az(i:Nat)(hi:l[i]? =some ⟨dst,op,ty,pos,after,g⟩)(hn:eM l=true)(hc:(qs.contains i&&eC l done i&&fl l done i&&gW n ⟨dst,op,ty,pos,after,g⟩)=true)
   (hw:c9 l ⟨dst,op,ty,pos,after,g⟩ f=false)(hk:fQ P n l qs K fuel (i::done) (ea f dst undef) w):fQ P n l qs K (fuel+1) done f w:=by
 simp only[Bool.and_eq_true] at hc
 obtain⟨⟨⟨hq,hr⟩,hf⟩,hd⟩:=hc
 obtain⟨hlt,hr'⟩:=dT hr
 intro a ha
 refine iU (v:=undef) (by simpa using hi) (fm hn) (gR hq) (λc a w h=>by cases h.1) fuel _ a w (ec hi hf) hr' (.inr ⟨by rw[ha.yielded];exact hw,rfl⟩) ?_
 rw[ck done hlt]
 exact hk _ (ha.put hd undef)
theorem dN{i:Nat}{o:Oper}{a:Act}{K':Act->World->Prop}{Q:Exit->Act->World->Prop}{N:Value->World->Prop}(ha:Ag n a f)(hi:l[i]? =some o)(hw:c9 l o f=true)(h:e7 P o f w N)(hN:∀v w',N v w'->K' (a.put o.dst v) w'):wpOp P l.toArray Q i K' a w:=by
 unfold wpOp
 have hi':l.toArray[i]? =some o:=by simpa using hi
 simp only[hi']
 have hw':Region.wanted o (yielded l.toArray a.tmps)=true:=by rw[ha.yielded];exact hw
 simp only[hw',if_true]
 refine .inl ?_
 unfold Oper.wp
 rw[ha.eval]
 unfold e7 at h
 generalize(execOp (ev f) o).run P w=r at*
 cases r with
 |halt x w'=>exact h.elim
 |ok nx w'=>
   cases nx<;>simp only[lA] at h<;>simp only[Oper.upon]
   case value v=>exact hN _ _ h
   case skip=>exact hN _ _ h
   case enter g args=>
     refine h.mono λe w'' he=>?_
     cases e with
     |returned v=>exact hN _ _ he
     |panicked c=>exact he.elim
     |outgrown=>exact he.elim
theorem aR(i:Nat)(hi:l[i]? =some ⟨dst,op,ty,pos,after,g⟩)(hc:(decide (Region.ready .any l.toArray (bJ l.length done)=[i])&& !qs.contains i&&gW n ⟨dst,op,ty,pos,after,g⟩)=true)
    (hw:c9 l ⟨dst,op,ty,pos,after,g⟩ f=true)(h:e7 P ⟨dst,op,ty,pos,after,g⟩ f w (λv w'=>fQ P n l qs K fuel (i::done) (ea f dst v) w')):fQ P n l qs K (fuel+1) done f w:=by
  simp only[Bool.and_eq_true,decide_eq_true_eq,Bool.not_eq_true'] at hc
  obtain⟨⟨hr,hq⟩,hd⟩:=hc
  have hlt:i<l.length:=(List.getElem?_eq_some_iff.1 hi).1
  intro a ha
  refine⟨λh0=>(by rw[hr] at h0;cases h0),λj hj=>?_⟩
  rw[hr] at hj
  obtain rfl:j=i:=by simpa using hj
  have hq':decide (j∈qs)=false:=by simpa using hq
  simp only[hq',Bool.false_eq_true,if_false]
  refine dN ha hi hw h λv w' hk=>?_
  rw[ck done hlt]
  exact hk _ (ha.put hd v)
theorem oO(i:Nat)(hi:l[i]? =some ⟨dst,op,ty,pos,after,g⟩)(hc:(decide (Region.ready .any l.toArray (bJ l.length done)=[i])&& !qs.contains i&&gW n ⟨dst,op,ty,pos,after,g⟩)=true)
    (hw:c9 l ⟨dst,op,ty,pos,after,g⟩ f=false)(hk:fQ P n l qs K fuel (i::done) (ea f dst undef) w):fQ P n l qs K (fuel+1) done f w:=by
  simp only[Bool.and_eq_true,decide_eq_true_eq,Bool.not_eq_true'] at hc
  obtain⟨⟨hr,hq⟩,hd⟩:=hc
  have hlt:i<l.length:=(List.getElem?_eq_some_iff.1 hi).1
  intro a ha
  refine⟨λh0=>(by rw[hr] at h0;cases h0),λj hj=>?_⟩
  rw[hr] at hj
  obtain rfl:j=i:=by simpa using hj
  have hq':decide (j∈qs)=false:=by simpa using hq
  simp only[hq',Bool.false_eq_true,if_false]
  unfold wpOp
  have hi':l.toArray[j]? =some ⟨dst,op,ty,pos,after,g⟩:=by simpa using hi
  simp only[hi']
  have hw':Region.wanted ⟨dst,op,ty,pos,after,g⟩ (yielded l.toArray a.tmps)=false:=by rw[ha.yielded];exact hw
  simp only[hw',Bool.false_eq_true,if_false]
  rw[ck done hlt]
  exact hk _ (ha.put hd undef)
theorem dO(i j:Nat){dst':Option Tmp}{op':Op}{ty':TypeId}{pos':String}{after':Array Edge}{g':Option (Nat×Bool)}(hi:l[i]? =some ⟨dst,op,ty,pos,after,g⟩)(hj:l[j]? =some ⟨dst',op',ty',pos',after',g'⟩)
    (hc:(decide (Region.ready .any l.toArray (bJ l.length done)=[i,j])&& !qs.contains i&& !qs.contains j&&gW n ⟨dst,op,ty,pos,after,g⟩&&gW n ⟨dst',op',ty',pos',after',g'⟩)=true)
    (hw:c9 l ⟨dst,op,ty,pos,after,g⟩ f=true)(hw':c9 l ⟨dst',op',ty',pos',after',g'⟩ f=true)
    (h:e7 P ⟨dst,op,ty,pos,after,g⟩ f w (λv w'=>fQ P n l qs K fuel (i::done) (ea f dst v) w'))(h':e7 P ⟨dst',op',ty',pos',after',g'⟩ f w (λv w'=>fQ P n l qs K fuel (j::done) (ea f dst' v) w')):fQ P n l qs K (fuel+1) done f w:=by
  simp only[Bool.and_eq_true,decide_eq_true_eq,Bool.not_eq_true'] at hc
  obtain⟨⟨⟨⟨hr,hq⟩,hq2⟩,hd⟩,hd'⟩:=hc
  have hlt:i<l.length:=(List.getElem?_eq_some_iff.1 hi).1
  have hlt':j<l.length:=(List.getElem?_eq_some_iff.1 hj).1
  intro a ha
  refine⟨λh0=>(by rw[hr] at h0;cases h0),λk hk=>?_⟩
  rw[hr] at hk
  have hk':k=i\/k=j:=by simpa using hk
  rcases hk' with rfl|rfl
  · have hq':decide (k∈qs)=false:=by simpa using hq
    simp only[hq',Bool.false_eq_true,if_false]
    refine dN ha hi hw h λv w' hk=>?_
    rw[ck done hlt]
    exact hk _ (ha.put hd v)
  · have hq':decide (k∈qs)=false:=by simpa using hq2
    simp only[hq',Bool.false_eq_true,if_false]
    refine dN ha hj hw' h' λv w' hk=>?_
    rw[ck done hlt']
    exact hk _ (ha.put hd' v)
theorem bu(hr:decide (Region.ready .any l.toArray (bJ l.length done)=[])=true)(h:K f w):fQ P n l qs K 0 done f w:=λ_ ha=>⟨of_decide_eq_true hr,rfl,f,ha,h⟩
end
end TL
/-
  TlHold: regions that draw their order, where what is read stays: on the kit's OrdersHeld.
  By an AI agent.
-/
set_option linter.all false
namespace TL
open Go
section
variable{P:Program}{n:Nat}{l:List Oper}{S:World->Prop}{K:Fr->World->Prop}{f:Fr}{w:World}{done:List Nat}{fuel:Nat}
def mD(P:Program)(n:Nat)(l:List Oper)(S:World->Prop)(K:Fr->World->Prop)(fuel:Nat)(done:List Nat)(f:Fr)(w:World):Prop:=
  ∀a,Ag n a f->wpAnyH P .any l.toArray (λe a' w'=>e= .normal/\∃f',Ag n a' f'/\K f' w') S fuel (bJ l.length done) a w
theorem aU.same{J:bX->Prop}{γ γ':aC}{w w':World}(h:aU J γ w γ' w'):aU J γ w γ w':=⟨h.os,h.tape,h.output,h.size,λ_ _ _=>rfl,h.keep,h.drawn⟩
theorem ga{fid:Nat}{R:Ending->World->Prop}{k:List Item}{id:Nat}(γ:aC)(J:bX->Prop)(hm:P.follows .mixedOrders=true)
   (h:∀w1,aU no γ w γ w1->mD P n l (λw'=>aU J γ w1 γ w') (dZ P fid n R k) l.length [] f w1):dZ P fid n R (.code (.region id l.toArray true)::k) f w:=
 fC λa ha=>wp_region_held hm (by
   have h0:=h _ (aU.refl _ _ _).drew a ha
   have hmask:bJ l.length []=Array.replicate l.toArray.size false:=by
     apply Array.ext
     · simp[bJ]
     · intro j h1 h2;simp[bJ]
   rw[hmask] at h0
   simpa using h0)
theorem cT{fid:Nat}{R:Ending->World->Prop}{k:List Item}{id:Nat}{σ:Type}(Mid:σ->Fr->World->Prop)(γ:aC)(J:bX->Prop)(hm:P.follows .mixedOrders=true)
    (h:(∀s f w,Mid s f w->dZ P fid n R k f w)->∀w1,aU no γ w γ w1->mD P n l (λw'=>aU J γ w1 γ w') (dZ P fid n R k) l.length [] f w1)(hk:∀s f w,Mid s f w->dZ P fid n R k f w):dZ P fid n R (.code (.region id l.toArray true)::k) f w:=
  ga γ J hm (h hk)
variable{dst:Option Tmp}{op:Op}{ty:TypeId}{pos:String}{after:Array Edge}{g:Option (Nat×Bool)}{v:Value}
theorem q9(i:Nat)(hi:l[i]? =some ⟨dst,op,ty,pos,after,g⟩)(hn:eM l=true)(hc:(eC l done i&&fl l done i&&gW n ⟨dst,op,ty,pos,after,g⟩)=true)
   (hw:c9 l ⟨dst,op,ty,pos,after,g⟩ f=true)(hS:S w)(h:∀w,S w->(execOp (ev f) ⟨dst,op,ty,pos,after,g⟩).run P w= .ok (.value v) w)(hk:mD P n l S K fuel (i::done) (ea f dst v) w):mD P n l S K (fuel+1) done f w:=by
 simp only[Bool.and_eq_true] at hc
 obtain⟨⟨hr,hf⟩,hd⟩:=hc
 obtain⟨hlt,hr'⟩:=dT hr
 intro a ha
 refine wpAnyH_first (v:=v) (by simpa using hi) (fm hn) (λc a w h=>by cases h.1) fuel _ a w (ec hi hf) hr' (.inl ⟨by rw[ha.yielded];exact hw,λw hs=>by rw[ha.eval];exact h w hs⟩) hS ?_
 rw[ck done hlt]
 exact hk _ (ha.put hd v)
def qc(P:Program)(n:Nat)(l:List Oper)(S:World->Prop)(K:Fr->World->Prop)(fuel:Nat)(done:List Nat)(f:Fr)(w:World)(i:Nat):Prop:=
  ∃o,l[i]? =some o/\i<l.length/\(c9 l o f=true/\gW n o=true/\e7 P o f w (λv w'=>S w'/\mD P n l S K fuel (i::done) (ea f o.dst v) w'))
theorem c6(i:Nat)(hi:l[i]? =some ⟨dst,op,ty,pos,after,g⟩)(hc:gW n ⟨dst,op,ty,pos,after,g⟩=true)(hw:c9 l ⟨dst,op,ty,pos,after,g⟩ f=true)
   (h:e7 P ⟨dst,op,ty,pos,after,g⟩ f w (λv w'=>S w'/\mD P n l S K fuel (i::done) (ea f dst v) w')):qc P n l S K fuel done f w i:=
 ⟨_,hi,(List.getElem?_eq_some_iff.1 hi).1,hw,hc,h⟩
def pi(P:Program)(n:Nat)(l:List Oper)(S:World->Prop)(K:Fr->World->Prop)(fuel:Nat)(done:List Nat)(f:Fr)(w:World):List Nat->Prop
 |[]=>True
 |i::r=>qc P n l S K fuel done f w i/\pi P n l S K fuel done f w r
theorem pi.mem{L:List Nat}(h:pi P n l S K fuel done f w L):∀i∈L,qc P n l S K fuel done f w i:=by
 induction L with
 |nil=>intro i hi;cases hi
 |cons j r ih=>
   intro i hi
   rcases List.mem_cons.1 hi with rfl|hi
   · exact h.1
   · exact ih h.2 i hi
theorem cb(i:Nat)(L:List Nat)(hr:decide (Region.ready .any l.toArray (bJ l.length done)=i::L)=true)(h:pi P n l S K fuel done f w (i::L)):mD P n l S K (fuel+1) done f w:=by
 have hr:=of_decide_eq_true hr
 intro a ha
 refine⟨λh0=>(by rw[hr] at h0;cases h0),λk hk=>?_⟩
 rw[hr] at hk
 obtain⟨o,hi,hlt,hw,hd,ho⟩:=h.mem k (by simpa using hk)
 obtain⟨dst,op,ty,pos,after,g⟩:=o
 refine dN ha hi hw ho λv w' hk=>⟨hk.1,?_⟩
 rw[ck done hlt]
 exact hk.2 _ (ha.put hd v)
theorem aN(i:Nat)(hi:l[i]? =some ⟨dst,op,ty,pos,after,g⟩)(hc:(decide (Region.ready .any l.toArray (bJ l.length done)=[i])&&gW n ⟨dst,op,ty,pos,after,g⟩)=true)
   (hw:c9 l ⟨dst,op,ty,pos,after,g⟩ f=true)(h:e7 P ⟨dst,op,ty,pos,after,g⟩ f w (λv w'=>S w'/\mD P n l S K fuel (i::done) (ea f dst v) w')):mD P n l S K (fuel+1) done f w:=by
 simp only[Bool.and_eq_true] at hc
 exact cb i [] hc.1 ⟨c6 i hi hc.2 hw h,trivial⟩
theorem bV(hr:decide (Region.ready .any l.toArray (bJ l.length done)=[])=true)(h:K f w):mD P n l S K 0 done f w:=λ_ ha=>⟨of_decide_eq_true hr,rfl,f,ha,h⟩
end
end TL
namespace TL
open Go
end TL
/-
  TlNet: nets, and what layer 3 says of them, as plain functions.
  By an AI agent.
-/
set_option linter.all false
namespace TL
abbrev bF:=Int×List (Int×Int)
def kn(n:Int)(e:Int×Int):Prop:=(0<=e.1/\e.1<n)/\0<=e.2/\e.2<n
instance (n:Int)(e:Int×Int):Decidable (kn n e):=by unfold kn;infer_instance
def ba(g:bF):Prop:=0<=g.1/\g.1<=1024/\g.2.length<=3072/\∀e∈g.2,kn g.1 e
instance (g:bF):Decidable (ba g):=by unfold ba;infer_instance
def cd(g:bF):Bool:=decide (ba g)
theorem iX{g:bF}(h:ba g):cd g=true:=decide_eq_true h
theorem bY{g:bF}(h:¬ba g):cd g=false:=decide_eq_false h
end TL
namespace TL
theorem bM{α:Type}[Inhabited α]{xs:List α}{i j:Int}{y:α}(hi:0<=i)(hi':i<xs.length)(hj:0<=j):gI (xs.set i.toNat y) j=if j=i then y else gI xs j:=by
 unfold gI
 by_cases h:j=i
 · subst h
   have:j.toNat<xs.length:=by omega
   simp[this]
 · have:i.toNat≠j.toNat:=by omega
   simp[h,List.getElem?_set_ne this]
theorem kr{α:Type}[Inhabited α]{n:Nat}{x:α}{i:Int}(h0:0<=i)(h1:i<n):gI (List.replicate n x) i=x:=by
 have:i.toNat<n:=by omega
 simp[gI,this]
end TL
namespace TL
end TL
namespace TL
end TL
namespace TL
def au(g:bF)(h:Int):Int:=pI (gI g.2 (h/2)) (h%2)
def fO(g:bF)(v:Int)(k:Nat):List Int:=((List.range (2*k)).map (λ(i:Nat)=>(i:Int))).filter λh=>decide (au g h=v)
def e8(g:bF)(v:Int):List Int:=fO g v g.2.length
theorem iA(g:bF)(k:Nat):au g (2*(k:Int))=(gI g.2 k).1:=by
 unfold au
 have h1:2*(k:Int)/2=k:=by omega
 have h2:2*(k:Int)%2=0:=by omega
 rw[h1,h2];rfl
theorem iQ(g:bF)(k:Nat):au g (2*(k:Int)+1)=(gI g.2 k).2:=by
 unfold au
 have h1:(2*(k:Int)+1)/2=k:=by omega
 have h2:(2*(k:Int)+1)%2=1:=by omega
 rw[h1,h2];rfl
theorem kz(g:bF)(v:Int)(k:Nat):fO g v (k+1)=fO g v k++((if(gI g.2 k).1=v then[2*(k:Int)] else[])++(if(gI g.2 k).2=v then[2*(k:Int)+1] else[])):=by
 unfold fO
 rw[show 2*(k+1)=2*k+1+1 by omega,List.range_succ,List.range_succ]
 simp only[List.map_append,List.filter_append,List.map_cons,List.map_nil,List.append_assoc]
 congr 1
 have e1:((2*k:Nat):Int)=2*(k:Int):=by omega
 have e2:((2*k+1:Nat):Int)=2*(k:Int)+1:=by omega
 rw[e1,e2]
 congr 1
 · by_cases h:(gI g.2 (k:Int)).1=v
   · simp[iA,h]
   · simp[iA,h]
 · by_cases h:(gI g.2 (k:Int)).2=v
   · simp[iQ,h]
   · simp[iQ,h]
theorem lS(g:bF)(v:Int)(k:Nat):(fO g v k).length<=2*k:=by
 unfold fO
 have:=List.length_filter_le (λh=>decide (au g h=v)) ((List.range (2*k)).map (λ(i:Nat)=>(i:Int)))
 simpa using this
end TL
namespace TL
theorem jT{α:Type}[Inhabited α]{l l':List α}(hl:l.length=l'.length)(h:∀i:Nat,i<l.length->gI l i=gI l' i):l=l':=by
 apply List.ext_getElem hl
 intro i h1 h2
 have:=h i h1
 simpa[gI,h1,h2] using this
end TL
namespace TL
end TL
namespace TL
end TL
namespace TL
section
variable{l0 l1:Int}{F:Int×Int->Int}{g:bF}{k:Nat}
end
end TL
/-
  TlNetSums: degrees' sum; all edges, all nodes; moved there and back.
  By an AI agent.
-/
set_option linter.all false
namespace TL
def cz(n:Nat):List Int:=(List.range n).map λ(i:Nat)=>(i:Int)
theorem db(n:Nat):cz (n+1)=cz n++[(n:Int)]:=by simp[cz,List.range_succ]
theorem gu{n:Nat}{x:Int}:x∈cz n↔0<=x/\x<n:=by
 unfold cz
 rw[List.mem_map]
 constructor
 · rintro⟨i,hi,rfl⟩
   have:=List.mem_range.1 hi
   omega
 · rintro⟨h1,h2⟩
   exact⟨x.toNat,List.mem_range.2 (by omega),by omega⟩
theorem kF(n:Nat):(cz n).Nodup:=by
 induction n with
 |zero=>simp[cz]
 |succ n ih=>
   rw[db,List.nodup_append]
   refine⟨ih,by simp,λa ha b hb=>?_⟩
   have:=gu.1 ha
   have:=List.mem_singleton.1 hb
   omega
theorem kR:∀(n:Nat) (l:List Int),l.Nodup->(∀x∈l,0<=x/\x<(n:Int))->l.length<=n
 |0,l,_,h=>by
   cases l with
   |nil=>simp
   |cons a l=>have:=h a (by simp);omega
 |n+1,l,hn,h=>by
   have h1:(l.erase (n:Int)).Nodup:=hn.erase _
   have h2:=kR n (l.erase (n:Int)) h1 (λx hx=>by
     have h3:=hn.mem_erase_iff.1 hx
     have:=h x h3.2
     omega)
   by_cases hm:(n:Int)∈l
   · have:=List.length_erase_of_mem hm
     omega
   · rw[List.erase_of_not_mem hm] at h2
     omega
end TL
/-
  TlKeep: rows of an own list given away one by one while the list stays readable; rows with a mark behind each.
  By an AI agent.
-/
set_option linter.all false
namespace TL
open Go
def j3(q i k:Nat):bX->Prop:=λc=>c.1=q\/(c.1=i/\c.2=0)\/c.1=k
theorem aU.l3{L:List Nat}{q i k:Nat}{γ γ':aC}{w w':World}(h:aU (j3 q i k) γ w γ' w')(h1:L.contains q=true)(h2:L.contains i=true)(h3:L.contains k=true):aU (inl L) γ w γ' w':=h.mono λc hc=>by
 unfold inl
 rcases hc with hc|hc|hc
 · rw[hc];exact h1
 · rw[hc.1];exact h2
 · rw[hc];exact h3
section
variable{P:Program}{w:World}{t t':TypeId}{f:Fr}{x y:Operand}{dst:Option Tmp}{ty:TypeId}{pos:String}{after:Array Edge}{g:Option (Nat×Bool)}{N:Value->World->Prop}{α:Type}[Rp α]{γ:aC}{v u:Value}{xss:List (List α)}{l:List α}{i k j:Nat}
end
section
variable{α:Type}[Rp α][Fl α]{γ γ':aC}{w w':World}{v:Value}{us:List Vc}{xss:List (List α)}{i k j q:Nat}
end
inductive Rw where
  |mk (l:List Int) (m:Int)
  |pl (l:List Int)
instance:Inhabited Rw:=⟨.pl []⟩
theorem mt{α:Type}[Rp α]{γ:aC}{S:bX->Prop}{w:World}{v:Value}{xs:List α}{m:α}(h:Sl γ S w (qR v) (xs++[m])):∃a l c,v= .slice a l c:=by
 rcases h with⟨_,h0⟩|⟨b,off,cap,hv,_⟩
 · simp at h0
 · cases v<;>simp[qR] at hv
   exact⟨_,_,_,rfl⟩
def qp(γ:aC)(S:bX->Prop)(w:World)(v:Value):Rw->Prop
  | .mk l m=>Sl γ S w (qR v) (l++[m])
  | .pl l=>Sl γ S w v l
theorem qp.one{γ:aC}{S:bX->Prop}{w:World}{v:Value}{x:Rw}(h:qp γ S w v x):v.oneCell'=true:=by
 cases x with
 |mk l m=>
   obtain⟨a,b,c,rfl⟩:=mt h
   rfl
 |pl l=>
   rcases h with⟨⟨_,rfl⟩,_⟩|⟨b,off,cap,rfl,_⟩<;>rfl
theorem qp.tr{γ γ':aC}{S S':bX->Prop}{w w':World}{v:Value}{x:Rw}(hsz:w.heap.size<=w'.heap.size)(h:∀b,b<w.heap.size->S (γ b)->w'.heap[b]? =w.heap[b]? /\S' (γ' b))(hx:qp γ S w v x):qp γ' S' w' v x:=by
 cases x with
 |mk l m=>exact Sl.tr h hx hsz
 |pl l=>exact Sl.tr h hx hsz
instance:Rp Rw where
 sz:=1
 rep γ S w cs x:=∃v,cs=[v]/\qp γ S w v x
 len:=by rintro _ _ _ _ _ ⟨v,rfl,_⟩;rfl
 one:=by
   rintro _ _ _ _ _ ⟨v,rfl,h⟩ u hu
   obtain rfl:u=v:=by simpa using hu
   exact h.one
 tr:=by
   rintro _ _ _ _ _ _ _ _ hs h ⟨v,rfl,hv⟩
   exact⟨v,rfl,hv.tr hs h⟩
section
variable{P:Program}{w:World}{t t':TypeId}{f:Fr}{x y:Operand}{dst:Option Tmp}{ty:TypeId}{pos:String}{after:Array Edge}{g:Option (Nat×Bool)}{N:Value->World->Prop}{γ:aC}{v u:Value}{xss:List (List Int)}{l:List Int}{i:Nat}
end
end TL
/-
  TlEq: structs compared; a pointer looked at for nil; a bit turned.
  By an AI agent.
-/
set_option linter.all false
namespace TL
open Go
section
variable{P:Program}{f:Fr}{w:World}{dst:Option Tmp}{ty:TypeId}{pos:String}{after:Array Edge}{g:Option (Nat×Bool)}{t t' e:TypeId}{x y:Operand}
theorem ad{a:Addr}(hx:ev f x= .pointer (some a)):(execOp (ev f) ⟨dst,.nilCheck x,ty,pos,after,g⟩).run P w= .ok (.value (.pointer (some a))) w:=by
 simp only[execOp,hx,Sem.run_pure]
end
end TL
namespace TL
open Go
section
variable{P:Program}{f:Fr}{w:World}{dst:Option Tmp}{ty:TypeId}{pos:String}{after:Array Edge}{g:Option (Nat×Bool)}{t:TypeId}{x:Operand}
end
end TL
namespace TL
open Go
section
variable{P:Program}{f:Fr}{w:World}{dst:Option Tmp}{ty:TypeId}{pos:String}{after:Array Edge}{g:Option (Nat×Bool)}{t t':TypeId}{x y:Operand}{m n:Int}
end
end TL
namespace TL
open Go
theorem lY{f:Fr}{x:Operand}{xs:List Operand}{v:Value}{vs:List Value}(h:ev f x=v)(h2:xs.map (ev f)=vs):(x::xs).map (ev f)=v::vs:=by subst h h2;rfl
end TL
/-
  TlRot: rotations: which may be, turned to their least, faces.
  By an AI agent.
-/
set_option linter.all false
namespace TL
abbrev iu:=List (List Int)
def qK(g:bF)(r:iu):Prop:=(r.length:Int)=g.1/\(∀v:Nat,v<r.length->∀h∈gI r (v:Int),(0<=h/\h<2*(g.2.length:Int))/\au g h=v)/\r.flatten.Nodup/\(r.flatten.length:Int)=2*g.2.length
instance (g:bF)(r:iu):Decidable (qK g r):=by unfold qK;infer_instance
theorem nH{n:Int}{l:List Int}(h0:0<=n)(hn:l.Nodup)(h:∀x∈l,0<=x/\x<n):(l.length:Int)<=n:=by
 have:=kR n.toNat l hn (λx hx=>by have:=h x hx;omega)
 omega
section
variable{seen:List Bool}{n:Int}{g:bF}{r:iu}{k i:Nat}
end
end TL
namespace TL
end TL
/-
  TlMap: maps that the call makes.
  By an AI agent.
-/
set_option linter.all false
namespace TL
open Go
class Ky (K:Type) where
  val:K->Value
structure iP(P:Program)(kt:TypeId)(K:Type)[DecidableEq K][Ky K]:Prop where
 check:∀(b:Bool) (k:K) (w:World),(Instr.checkKey b 10000 kt (Ky.val k)).run P w= .ok () w
 find:∀(k:K) (es:List MapEntry) (ks:List K) (w:World),es.map (·.key)=ks.map Ky.val->(Instr.findKey kt (Ky.val k) es).run P w= .ok ((ks.findIdx? (· =k)).bind λi=>(es[i]?).map λe=>(i,e.val)) w
 bits:∀k:K,Instr.sameBits 10000 (Ky.val k) (Ky.val k)=true
structure dc(K:Type) where
  key:K
  val:Int
  born:Nat
def dq{K:Type}[Ky K](e:dc K):MapEntry:={key:=Ky.val e.key,val:=.int .i64 e.val,born:=e.born}
def dX{K:Type}[DecidableEq K](es:List (dc K))(k:K):Int:=((es.find? λe=>decide (e.key=k)).map (·.val)).getD 0
structure qT{K:Type}(es:List (dc K))(clock:Nat):Prop where
 keys:(es.map (·.key)).Nodup
 born:(es.map (·.born)).Nodup
 lt:∀e∈es,e.born<clock
def Mp{K:Type}[DecidableEq K][Ky K](γ:aC)(J:bX->Prop)(w:World)(v:Value)(F:K->Int):Prop:=
  ∃(r:Nat) (es:List (dc K)) (clock:Nat),v= .map (some r)/\J (γ r)/\w.heap[r]? =some (.map (es.map dq).toArray clock)/\qT es clock/\F=dX es
def km{K:Type}[DecidableEq K][Ky K](γ:aC)(J:bX->Prop)(w:World)(v:Value)(F:K->Int)(s:Int)(k:K):Prop:=
  ∃(r:Nat) (es:List (dc K)) (clock:Nat),v= .map (some r)/\J (γ r)/\w.heap[r]? =some (.map (es.map dq).toArray clock)/\qT es clock/\F=dX es/\∃(i:Nat) (e:dc K),es[i]? =some e/\e.key=k/\(e.born:Int)=s
theorem Mp.chg{K:Type}[DecidableEq K][Ky K]{γ γ':aC}{J J':bX->Prop}{w w':World}{v:Value}{F:K->Int}(h:Mp γ J w v F)(hc:aU J' γ w γ' w')(hJ:∀c,J c->¬J' c):Mp γ' J w' v F:=by
 obtain⟨r,es,clock,h1,h2,h3,h4⟩:=h
 exact⟨r,es,clock,h1,by rw[hc.col r (cE h3) (hJ _ h2)];exact h2,by rw[hc.keep r (cE h3) (hJ _ h2)];exact h3,h4⟩
theorem km.chg{K:Type}[DecidableEq K][Ky K]{γ γ':aC}{J J':bX->Prop}{w w':World}{v:Value}{F:K->Int}{s:Int}{k:K}(h:km γ J w v F s k)(hc:aU J' γ w γ' w')(hJ:∀c,J c->¬J' c):km γ' J w' v F s k:=by
 obtain⟨r,es,clock,h1,h2,h3,h4⟩:=h
 exact⟨r,es,clock,h1,by rw[hc.col r (cE h3) (hJ _ h2)];exact h2,by rw[hc.keep r (cE h3) (hJ _ h2)];exact h3,h4⟩
theorem Mp.bel{K:Type}[DecidableEq K][Ky K]{γ:aC}{J:bX->Prop}{w w':World}{v:Value}{F:K->Int}(h:Mp γ J w v F)(hc:dE w.heap.size w w'):Mp γ J w' v F:=by
 obtain⟨r,es,clock,h1,h2,h3,h4⟩:=h
 exact⟨r,es,clock,h1,h2,by rw[hc.block r (cE h3)];exact h3,h4⟩
theorem fA{K:Type}[DecidableEq K][Ky K](es:List (dc K))(k:K):(((es.map (·.key)).findIdx? (· =k)).bind λi=>((es.map dq)[i]?).map λe=>(i,e.val))=((es.map (·.key)).findIdx? (· =k)).map λi=>(i,Value.int .i64 (dX es k)):=by
 cases h:(es.map (·.key)).findIdx? (· =k) with
 |none=>rfl
 |some i=>
   obtain⟨hi,hk,hlt⟩:=List.findIdx?_eq_some_iff_getElem.1 h
   have hi':i<es.length:=by simpa using hi
   have hke:es[i].key=k:=by simpa using hk
   have hf:es.find? (λe=>decide (e.key=k))=some es[i]:=by
     rw[List.find?_eq_some_iff_getElem]
     refine⟨by simpa using hke,i,hi',rfl,λj hj=>?_⟩
     have:=hlt j hj
     simpa using this
   simp[hi',dq,dX,hf]
section
variable{P:Program}{f:Fr}{w:World}{dst:Option Tmp}{ty:TypeId}{pos:String}{after:Array Edge}{g:Option (Nat×Bool)}{t:TypeId}{x y z:Operand}{N:Value->World->Prop}
theorem bR{r:Nat}{es:Array MapEntry}{clock:Nat}(h:w.heap[r]? =some (.map es clock)):(getObj r).run P w= .ok (.map es clock) w:=by
 simp[getObj,Sem.run,h]
theorem dj{r:Nat}{es:Array MapEntry}{clock:Nat}{o:Obj}(h:w.heap[r]? =some (.map es clock)):(setObj r o).run P w= .ok () {w with heap:=w.heap.setIfInBounds r o}:=by
 simp[setObj,Sem.run,h]
theorem ek(γ:aC){r:Nat}(o:Obj){J:bX->Prop}(hJ:J (γ r)):aU J γ w γ {w with heap:=w.heap.setIfInBounds r o}:=
 ⟨rfl,rfl,rfl,by simp,λ_ _ _=>rfl,λk _ hk=>by
   have:r≠k:=λh=>hk (h▸hJ)
   simp[Array.getElem?_setIfInBounds_ne this],Nat.le_refl _⟩
theorem dS{r:Nat}{o o':Obj}(h:w.heap[r]? =some o'):({w with heap:=w.heap.setIfInBounds r o}:World).heap[r]? =some o:=by
 have:=cE h
 simp[this]
theorem lR{K:Type}[DecidableEq K][Ky K](γ:aC)(J:bX->Prop)(c:bX)(hJ:J c)(hk:∀γ' w' v,aU no γ w γ' w'->Mp (K:=K) γ' J w' v (λ_=>0)->N v w'):e7 P ⟨dst,.makeMap t none,ty,pos,after,g⟩ f w N:=by
 refine am (v:=.map (some w.heap.size)) (w':=w.alloc (.map #[] 0)) (by simp[execOp,Instr.makeMap]) (hk (fj γ w.heap.size c) _ _ (eb γ w _ c) ⟨w.heap.size,[],0,rfl,by simpa[fj] using hJ,by rw[cN];rfl,⟨by simp,by simp,by simp⟩,?_⟩)
 funext k;simp[dX]
theorem aQ{K:Type}[DecidableEq K][Ky K]{γ:aC}{J:bX->Prop}{v u:Value}{F:K->Int}{kt et size bytes:Nat}{agg:Bool}(k:K)(ht:P.underlying t=some (.map kt et))(hk:iP P kt K)(he:Tp P et agg size bytes (.int .i64 0))(hx:ev f x=v)(hm:Mp γ J w v F)(hy:ev f y=u)(hu:u=Ky.val k):
   (execOp (ev f) ⟨dst,.lookup t x y false,ty,pos,after,g⟩).run P w= .ok (.value (.int .i64 (F k))) w:=by
 obtain⟨r,es,clock,rfl,hJ,hb,hok,rfl⟩:=hm
 obtain⟨i,hi,_,_,hz⟩:=he.info
 subst hu
 have hf:=hk.find k (es.map dq) (es.map (·.key)) w (by simp[dq,Function.comp_def])
 rw[fA] at hf
 cases h:(es.map (·.key)).findIdx? (· =k) with
 |none=>
   rw[h] at hf
   have h0:dX es k=0:=by
     have hn:es.find? (λe=>decide (e.key=k))=none:=by
       rw[List.find?_eq_none]
       intro e he
       have:=List.findIdx?_eq_none_iff.1 h (e.key) (List.mem_map_of_mem he)
       simpa using this
     simp[dX,hn]
   simp[execOp,hx,hy,Instr.lookup,aG ht,bR hb,hk.check,hf,dy hi hz,h0]
 |some i=>
   rw[h] at hf
   simp[execOp,hx,hy,Instr.lookup,aG ht,bR hb,hk.check,hf]
theorem bx{K:Type}[DecidableEq K][Ky K]{γ:aC}{J:bX->Prop}{v u:Value}{F:K->Int}{kt et size bytes:Nat}{agg:Bool}(k:K)(ht:P.underlying t=some (.map kt et))(hk:iP P kt K)(he:Tp P et agg size bytes (.int .i64 0))(hx:ev f x=v)(hm:Mp γ J w v F)(hy:ev f y=u)(hu:u=Ky.val k)
   (hn:∀w' s,aU J γ w γ w'->km γ J w' v F s k->N (.tuple (List.toArray [.int .i64 (F k),.int .i64 s])) w'):e7 P ⟨dst,.mapEntry t x y,ty,pos,after,g⟩ f w N:=by
 obtain⟨r,es,clock,rfl,hJ,hb,hok,rfl⟩:=hm
 obtain⟨q,hi,_,_,hz⟩:=he.info
 subst hu
 have hf:=hk.find k (es.map dq) (es.map (·.key)) w (by simp[dq,Function.comp_def])
 rw[fA] at hf
 cases h:(es.map (·.key)).findIdx? (· =k) with
 |none=>
   rw[h] at hf
   have hnk:∀e∈es,e.key≠k:=λe he=>by
     have:=List.findIdx?_eq_none_iff.1 h (e.key) (List.mem_map_of_mem he)
     simpa using this
   have h0:dX es k=0:=by
     have hn:es.find? (λe=>decide (e.key=k))=none:=by
       rw[List.find?_eq_none]
       intro e he
       simpa using hnk e he
     simp[dX,hn]
   refine am (v:=.tuple (List.toArray [.int .i64 (dX es k),.int .i64 (clock:Int)])) (w':={w with heap:=w.heap.setIfInBounds r (.map ((es++[(⟨k,0,clock⟩:dc K)]).map dq).toArray (clock+1))}) ?_ ?_
   rotate_left
   · refine hn _ _ (ek γ _ hJ) ⟨r,es++[⟨k,0,clock⟩],clock+1,rfl,hJ,dS hb,⟨?_,?_,?_⟩,?_,es.length,⟨k,0,clock⟩,by simp,rfl,rfl⟩
     rotate_left 3
     · funext k'
       simp only[dX,List.find?_append]
       by_cases hkk:k=k'
       · subst hkk
         have hn:es.find? (λe=>decide (e.key=k))=none:=by
           rw[List.find?_eq_none]
           intro e he
           simpa using hnk e he
         simp[hn]
       · cases es.find? (λe=>decide (e.key=k'))<;>simp[hkk]
     · rw[List.map_append,List.nodup_append]
       refine⟨hok.keys,by simp,λa ha b hb=>?_⟩
       obtain⟨e,he,rfl⟩:=List.mem_map.1 ha
       have:b=k:=by simpa using hb
       subst this;exact hnk e he
     · rw[List.map_append,List.nodup_append]
       refine⟨hok.born,by simp,λa ha b hb=>?_⟩
       obtain⟨e,he,rfl⟩:=List.mem_map.1 ha
       have:b=clock:=by simpa using hb
       subst this;exact Nat.ne_of_lt (hok.lt e he)
     · intro e he
       rcases List.mem_append.1 he with h|h
       · exact Nat.lt_succ_of_lt (hok.lt e h)
       · obtain rfl:=List.mem_singleton.1 h;exact Nat.lt_succ_self _
   · simp[execOp,hx,hy,Instr.mapEntry,aG ht,bR hb,hk.check,hf,dy hi hz,dj hb,h0,dq,goInt]
 |some i=>
   rw[h] at hf
   obtain⟨hil,hke,_⟩:=List.findIdx?_eq_some_iff_getElem.1 h
   have hi':i<es.length:=by simpa using hil
   have hke':es[i].key=k:=by simpa using hke
   have hsame:(es.map dq).modify i (λe=>{e with key:=Ky.val k})=es.map dq:=by
     apply List.ext_getElem?
     intro j
     rw[List.getElem?_modify]
     by_cases hij:i=j
     · subst hij;simp[hi',dq,hke']
     · simp[hij]
   refine am (v:=.tuple (List.toArray [.int .i64 (dX es k),.int .i64 ((es[i].born:Nat):Int)])) (w':={w with heap:=w.heap.setIfInBounds r (.map (es.map dq).toArray clock)}) ?_
     (hn _ _ (ek γ _ hJ) ⟨r,es,clock,rfl,hJ,dS hb,hok,rfl,i,es[i],by simp,hke',rfl⟩)
   have hkb:=hk.bits k
   have hold:(Instr.keyThatStays (Ky.val k) (Ky.val k)).run P w= .ok (Ky.val k) w:=by simp[Instr.keyThatStays,hkb]
   simp[execOp,hx,hy,Instr.mapEntry,aG ht,bR hb,hk.check,hf,hi',dq,hke',hold,dj hb,goInt]
   rw[hsame]
theorem bg{K:Type}[DecidableEq K][Ky K]{γ:aC}{J:bX->Prop}{v:Value}{F:K->Int}{s m:Int}{k:K}(hx:ev f x=v)(hm:km γ J w v F s k)(hy:ev f y= .int .i64 s)(hz:ev f z= .int .i64 m)
   (hn:∀w',aU J γ w γ w'->Mp γ J w' v (λk'=>if k'=k then m else F k')->N undef w'):e7 P ⟨dst,.entryStore t x y z,ty,pos,after,g⟩ f w N:=by
 obtain⟨r,es,clock,rfl,hJ,hb,hok,rfl,i,e,hie,rfl,rfl⟩:=hm
 have hi':i<es.length:=(List.getElem?_eq_some_iff.1 hie).1
 have hei:es[i]=e:=(List.getElem?_eq_some_iff.1 hie).2
 have hfi:((es.map dq).toArray.findIdx? (λq=>(q.born:Int)==(e.born:Int)))=some i:=by
   rw[List.findIdx?_toArray,List.findIdx?_eq_some_iff_getElem]
   refine⟨by simpa using hi',by simp[dq,hei],λj hj=>?_⟩
   have hj':j<es.length:=by omega
   have hne:es[j].born≠e.born:=λh=>by
     have h1:(es.map (·.born))[j]'(by simpa using hj')=(es.map (·.born))[i]'(by simpa using hi'):=by simp[hei,h]
     have:=(List.getElem_inj hok.born).1 h1
     omega
   simp[dq]
   omega
 have hmod:(es.map dq).modify i (λq=>{q with val:=.int .i64 m})=(es.modify i (λq=>{q with val:=m})).map dq:=by
   apply List.ext_getElem?
   intro j
   rw[List.getElem?_modify,List.getElem?_map,List.getElem?_map,List.getElem?_modify]
   by_cases hij:i=j
   · subst hij;simp[hi',dq]
   · simp[hij]
 have hkeys:(es.modify i (λq=>{q with val:=m})).map (·.key)=es.map (·.key):=by
   apply List.ext_getElem?
   intro j
   rw[List.getElem?_map,List.getElem?_map,List.getElem?_modify]
   by_cases hij:i=j
   · subst hij;simp[hi']
   · simp[hij]
 have hborn:(es.modify i (λq=>{q with val:=m})).map (·.born)=es.map (·.born):=by
   apply List.ext_getElem?
   intro j
   rw[List.getElem?_map,List.getElem?_map,List.getElem?_modify]
   by_cases hij:i=j
   · subst hij;simp[hi']
   · simp[hij]
 refine eY (w':={w with heap:=w.heap.setIfInBounds r (.map ((es.modify i (λq=>{q with val:=m})).map dq).toArray clock)}) ?_
   (hn _ (ek γ _ hJ) ⟨r,es.modify i (λq=>{q with val:=m}),clock,rfl,hJ,dS hb,⟨by rw[hkeys];exact hok.keys,by rw[hborn];exact hok.born,λq hq=>?_⟩,?_⟩)
 · simp[execOp,hx,hy,hz,Instr.entryStore,bR hb,asInt,asIntOf,hfi,dj hb]
   rw[<-hmod]
 · have:q.born∈es.map (·.born):=by rw[<-hborn];exact List.mem_map_of_mem hq
   obtain⟨q',hq',he'⟩:=List.mem_map.1 this
   rw[<-he'];exact hok.lt q' hq'
 · funext k'
   -- the entry of k' in the changed list
   have hfind:∀(l:List (dc K)),(l.map (·.key)).Nodup->∀j (hj:j<l.length),dX l l[j].key=l[j].val:=by
     intro l hl j hj
     have hf:l.find? (λe=>decide (e.key=l[j].key))=some l[j]:=by
       rw[List.find?_eq_some_iff_getElem]
       refine⟨by simp,j,hj,rfl,λq hq=>?_⟩
       have hne:l[q].key≠l[j].key:=λh=>by
         have h1:(l.map (·.key))[q]'(by simp;omega)=(l.map (·.key))[j]'(by simpa using hj):=by simp[h]
         have:=(List.getElem_inj hl).1 h1
         omega
       simpa using hne
     simp[dX,hf]
   by_cases hkk:k'=e.key
   · subst hkk
     rw[if_pos rfl]
     have h1:=hfind (es.modify i (λq=>{q with val:=m})) (by rw[hkeys];exact hok.keys) i (by simpa using hi')
     simp[List.getElem_modify,hei] at h1
     exact h1.symm
   · rw[if_neg hkk]
     have hfe:(es.modify i (λq=>{q with val:=m})).find? (λe=>decide (e.key=k'))=es.find? (λe=>decide (e.key=k')):=by
       have hgen:∀(l:List (dc K)) (i:Nat) (e:dc K),l[i]? =some e->k'≠e.key->(l.modify i (λq=>{q with val:=m})).find? (λe=>decide (e.key=k'))=l.find? (λe=>decide (e.key=k')):=by
         intro l
         induction l with
         |nil=>intro i e h;simp at h
         |cons a l ih=>
           intro i e h hne
           cases i with
           |zero=>
             obtain rfl:a=e:=by simpa using h
             have:decide (a.key=k')=false:=by simpa using λh=>hne h.symm
             simp[List.find?_cons,this]
           |succ i=>
             have h':l[i]? =some e:=by simpa using h
             simp only[List.modify_succ_cons,List.find?_cons,ih i e h' hne]
       exact hgen es i e hie hkk
     simp[dX,hfe]
end
instance:Ky Int where
 val k:=.int .i64 k
instance:Ky (Int×Int) where
 val k:=.agg (List.toArray [.int .i64 k.1,.int .i64 k.2])
theorem aJ{P:Program}{kt e bytes:Nat}{z:Value}(ht:P.underlying kt=some (.array 2 e))(he:P.underlying e=some (.int .i64))(hp:Tp P e false 1 bytes z):iP P kt (Int×Int) where
 check b k w:=by
   obtain⟨i,hi,hs,_⟩:=hp.info
   have h0:=λ(x y:Int)=>eQ (P:=P) (w:=w) (cs:= #[.int .i64 x,.int .i64 y]) (o:=0) hp (v:=.int .i64 x) (by rfl)
   have h1:=λ(x y:Int)=>eQ (P:=P) (w:=w) (cs:= #[.int .i64 x,.int .i64 y]) (o:=1) hp (v:=.int .i64 y) (by rfl)
   have hr:(List.range' 0 2 1)=[0,1]:=rfl
   have hc:∀x:Int,(Instr.checkKey b 9999 e (.int .i64 x)).run P w= .ok () w:=λx=>by
     rw[Instr.checkKey]
     simp only[Sem.run_bind,aG he,Result.andThen_ok]
     rfl
   show(Instr.checkKey b (9999+1) kt _).run P w=_
   rw[Instr.checkKey]
   simp only[Ky.val,Sem.run_bind,aG ht,Result.andThen_ok]
   rw[Std.Legacy.Range.forIn_eq_forIn_range']
   simp only[Std.Legacy.Range.size,Nat.sub_zero,Nat.reduceAdd,Nat.reduceSub,Nat.div_one,hr]
   simp[c7 hi,hs,h0,h1,hc]
 find k es ks w hm:=by
   have hfn:∀(es:List MapEntry) (i:Nat),es≠[]->(∀e∈es,∃c,e.key= .agg c)->Instr.findNow (.array 2 e) (Ky.val k) es i=none:=by
     intro es i h0 _
     cases es with
     |nil=>exact absurd rfl h0
     |cons a l=>simp[Instr.findNow,Instr.sameNow]
   have hask:∀(es:List MapEntry) (ks:List (Int×Int)) (i:Nat),es.map (·.key)=ks.map Ky.val->(Instr.findAsking kt (Ky.val k) es i).run P w= .ok ((ks.findIdx? (· =k)).bind λj=>(es[j]?).map λe=>(i+j,e.val)) w:=by
     intro es
     induction es with
     |nil=>
       intro ks i h
       have:ks=[]:=by cases ks<;>simp at h ⊢
       subst this;simp[Instr.findAsking]
     |cons a l ih=>
       intro ks i h
       cases ks with
       |nil=>simp at h
       |cons q ks=>
         simp only[List.map_cons,List.cons.injEq] at h
         obtain⟨ha,hl⟩:=h
         have heq:=jb (P:=P) (w:=w) (a:=k) (b:=q) ht he hp
         have heq':(Op.equal kt (Ky.val k) a.key).run P w= .ok (decide (k=q)) w:=by rw[ha];exact heq
         by_cases hkq:k=q
         · subst hkq
           simp[Instr.findAsking,heq',List.findIdx?_cons]
         · have hqk:¬q=k:=λh=>hkq h.symm
           have ih':=ih ks (i+1) hl
           simp[Instr.findAsking,heq',hkq,List.findIdx?_cons,hqk,ih']
           cases ks.findIdx? (λx=>decide (x=k)) with
           |none=>rfl
           |some j=>simp[Nat.add_comm 1 j,Nat.add_assoc]
   simp only[Instr.findKey,Sem.run_bind,aG ht,Result.andThen_ok]
   cases es with
   |nil=>
     have:ks=[]:=by cases ks<;>simp at hm ⊢
     subst this;simp[Instr.findNow]
   |cons a l=>
     rw[hfn (a::l) 0 (by simp) (λe he=>by
       have:e.key∈(a::l).map (·.key):=List.mem_map_of_mem he
       rw[hm] at this
       obtain⟨q,_,hq⟩:=List.mem_map.1 this
       exact⟨_,hq.symm⟩)]
     simp only[hask (a::l) ks 0 hm,Nat.zero_add]
 bits k:=by
   show Instr.sameBits (9999+1) _ _=true
   simp[Ky.val,Instr.sameBits]
theorem bt{P:Program}{kt:Nat}(ht:P.underlying kt=some (.int .i64)):iP P kt Int where
 check b k w:=by
   show(Instr.checkKey b (9999+1) kt _).run P w=_
   rw[Instr.checkKey]
   simp only[Ky.val,Sem.run_bind,aG ht,Result.andThen_ok]
   rfl
 find k es ks w hm:=by
   have hnow:∀(es:List MapEntry) (ks:List Int) (i:Nat),es.map (·.key)=ks.map Ky.val->Instr.findNow (.int .i64) (Ky.val k) es i=some ((ks.findIdx? (· =k)).bind λj=>(es[j]?).map λe=>(i+j,e.val)):=by
     intro es
     induction es with
     |nil=>
       intro ks i h
       have:ks=[]:=by cases ks<;>simp at h ⊢
       subst this;simp[Instr.findNow]
     |cons a l ih=>
       intro ks i h
       cases ks with
       |nil=>simp at h
       |cons q ks=>
         simp only[List.map_cons,List.cons.injEq] at h
         obtain⟨ha,hl⟩:=h
         have hs:Instr.sameNow (.int .i64) (Ky.val k) a.key=some (k==q):=by rw[ha];simp[Ky.val,Instr.sameNow]
         by_cases hkq:k=q
         · subst hkq
           simp[Instr.findNow,hs,List.findIdx?_cons]
         · have hqk:¬q=k:=λh=>hkq h.symm
           have ih':=ih ks (i+1) hl
           have hb:(k==q)=false:=by simpa using hkq
           simp[Instr.findNow,hs,hb,List.findIdx?_cons,hqk,ih']
           cases ks.findIdx? (λx=>decide (x=k)) with
           |none=>rfl
           |some j=>simp[Nat.add_comm 1 j,Nat.add_assoc]
   simp only[Instr.findKey,Sem.run_bind,aG ht,Result.andThen_ok,hnow es ks 0 hm,Nat.zero_add]
   rfl
 bits k:=by
   show Instr.sameBits (9999+1) _ _=true
   simp[Ky.val,Instr.sameBits]
end TL
namespace TL
open Go
theorem km.mp{K:Type}[DecidableEq K][Ky K]{γ:aC}{J:bX->Prop}{w:World}{v:Value}{F:K->Int}{s:Int}{k:K}(h:km γ J w v F s k):Mp γ J w v F:=by
 obtain⟨r,es,clock,h1,h2,h3,h4,h5,_⟩:=h
 exact⟨r,es,clock,h1,h2,h3,h4,h5⟩
end TL
/-
  TlMapD: maps that the call makes, with the keys that they have.
  By an AI agent.
-/
set_option linter.all false
namespace TL
open Go
def Md{K:Type}[DecidableEq K][Ky K](γ:aC)(J:bX->Prop)(w:World)(v:Value)(F:K->Int)(D:List K):Prop:=
 ∃(r:Nat) (es:List (dc K)) (clock:Nat),v= .map (some r)/\J (γ r)/\w.heap[r]? =some (.map (es.map dq).toArray clock)/\qT es clock/\F=dX es/\D=es.map (·.key)
variable{K:Type}[DecidableEq K][Ky K]
theorem Md.chg{γ γ':aC}{J J':bX->Prop}{w w':World}{v:Value}{F:K->Int}{D:List K}(h:Md γ J w v F D)(hc:aU J' γ w γ' w')(hJ:∀c,J c->¬J' c):Md γ' J w' v F D:=by
 obtain⟨r,es,clock,h1,h2,h3,h4⟩:=h
 exact⟨r,es,clock,h1,by rw[hc.col r (cE h3) (hJ _ h2)];exact h2,by rw[hc.keep r (cE h3) (hJ _ h2)];exact h3,h4⟩
theorem Md.mp{γ:aC}{J:bX->Prop}{w:World}{v:Value}{F:K->Int}{D:List K}(h:Md γ J w v F D):Mp γ J w v F:=by
 obtain⟨r,es,clock,h1,h2,h3,h4,h5,_⟩:=h
 exact⟨r,es,clock,h1,h2,h3,h4,h5⟩
theorem Md.bel{γ:aC}{J:bX->Prop}{w w':World}{v:Value}{F:K->Int}{D:List K}(h:Md γ J w v F D)(hc:dE w.heap.size w w'):Md γ J w' v F D:=by
 obtain⟨r,es,clock,h1,h2,h3,h4⟩:=h
 exact⟨r,es,clock,h1,h2,by rw[hc.block r (cE h3)];exact h3,h4⟩
section
variable{P:Program}{f:Fr}{w:World}{dst:Option Tmp}{ty:TypeId}{pos:String}{after:Array Edge}{g:Option (Nat×Bool)}{t:TypeId}{x y z:Operand}{N:Value->World->Prop}
theorem ic(γ:aC)(J:bX->Prop)(c:bX)(hJ:J c)(hk:∀γ' w' v,aU no γ w γ' w'->Md (K:=K) γ' J w' v (λ_=>0) []->N v w'):e7 P ⟨dst,.makeMap t none,ty,pos,after,g⟩ f w N:=by
 refine am (v:=.map (some w.heap.size)) (w':=w.alloc (.map #[] 0)) (by simp[execOp,Instr.makeMap]) (hk (fj γ w.heap.size c) _ _ (eb γ w _ c) ⟨w.heap.size,[],0,rfl,by simpa[fj] using hJ,by rw[cN];rfl,⟨by simp,by simp,by simp⟩,?_,rfl⟩)
 funext k;simp[dX]
theorem jQ{γ:aC}{J:bX->Prop}{v u:Value}{F:K->Int}{D:List K}{kt et size bytes:Nat}{agg:Bool}(k:K)(ht:P.underlying t=some (.map kt et))(hk:iP P kt K)(he:Tp P et agg size bytes (.int .i64 0))(hx:ev f x=v)(hm:Md γ J w v F D)(hy:ev f y=u)(hu:u=Ky.val k):
   (execOp (ev f) ⟨dst,.lookup t x y true,ty,pos,after,g⟩).run P w= .ok (.value (.tuple #[.int .i64 (F k),.bool (decide (k∈D))])) w:=by
 obtain⟨r,es,clock,rfl,hJ,hb,hok,rfl,rfl⟩:=hm
 obtain⟨i,hi,_,_,hz⟩:=he.info
 subst hu
 have hf:=hk.find k (es.map dq) (es.map (·.key)) w (by simp[dq,Function.comp_def])
 rw[fA] at hf
 cases h:(es.map (·.key)).findIdx? (· =k) with
 |none=>
   rw[h] at hf
   have hnk:k∉es.map (·.key):=λhmm=>by
     have:=List.findIdx?_eq_none_iff.1 h k hmm
     simp at this
   have h0:dX es k=0:=by
     have hn:es.find? (λe=>decide (e.key=k))=none:=by
       rw[List.find?_eq_none]
       intro e he
       have:=List.findIdx?_eq_none_iff.1 h (e.key) (List.mem_map_of_mem he)
       simpa using this
     simp[dX,hn]
   rw[decide_eq_false hnk]
   simp[execOp,hx,hy,Instr.lookup,aG ht,bR hb,hk.check,hf,dy hi hz,h0]
 |some i=>
   rw[h] at hf
   obtain⟨hil,hke,_⟩:=List.findIdx?_eq_some_iff_getElem.1 h
   have hke':(es.map (·.key))[i]=k:=by simpa using hke
   have hmm:k∈es.map (·.key):=by rw[<-hke'];exact List.getElem_mem hil
   rw[decide_eq_true hmm]
   simp[execOp,hx,hy,Instr.lookup,aG ht,bR hb,hk.check,hf]
theorem iW{γ:aC}{J:bX->Prop}{v:Value}{F:K->Int}{D:List K}{kt et:Nat}(ht:P.underlying t=some (.map kt et))(hx:ev f x=v)(hm:Md γ J w v F D):
   (execOp (ev f) ⟨dst,.call {callee:=.builtin .len,args:= #[x],argTypes:= #[t]},ty,pos,after,g⟩).run P w= .ok (.value (.int .i64 (D.length:Int))) w:=by
 obtain⟨r,es,clock,rfl,hJ,hb,hok,rfl,rfl⟩:=hm
 simp[execOp,resolve,invoke,builtin,hx,Builtin.len_,aG ht,bR hb,goInt]
end
end TL
namespace TL
open Go
variable{K:Type}[DecidableEq K][Ky K]
theorem jx{es:List (dc K)}{m:Int}(hn:(es.map (·.key)).Nodup){i:Nat}{e:dc K}(hie:es[i]? =some e):dX (es.modify i (λq=>{q with val:=m}))=λk'=>if k'=e.key then m else dX es k':=by
 have hi':i<es.length:=(List.getElem?_eq_some_iff.1 hie).1
 have hei:es[i]=e:=(List.getElem?_eq_some_iff.1 hie).2
 have hkeys:(es.modify i (λq=>{q with val:=m})).map (·.key)=es.map (·.key):=by
   apply List.ext_getElem?
   intro j
   rw[List.getElem?_map,List.getElem?_map,List.getElem?_modify]
   by_cases hij:i=j
   · subst hij;simp[hi']
   · simp[hij]
 funext k'
 have hfind:∀(l:List (dc K)),(l.map (·.key)).Nodup->∀j (hj:j<l.length),dX l l[j].key=l[j].val:=by
   intro l hl j hj
   have hf:l.find? (λe=>decide (e.key=l[j].key))=some l[j]:=by
     rw[List.find?_eq_some_iff_getElem]
     refine⟨by simp,j,hj,rfl,λq hq=>?_⟩
     have hne:l[q].key≠l[j].key:=λh=>by
       have h1:(l.map (·.key))[q]'(by simp;omega)=(l.map (·.key))[j]'(by simpa using hj):=by simp[h]
       have:=(List.getElem_inj hl).1 h1
       omega
     simpa using hne
   simp[dX,hf]
 by_cases hkk:k'=e.key
 · subst hkk
   rw[if_pos rfl]
   have h1:=hfind (es.modify i (λq=>{q with val:=m})) (by rw[hkeys];exact hn) i (by simpa using hi')
   simp[List.getElem_modify,hei] at h1
   exact h1
 · rw[if_neg hkk]
   have hfe:(es.modify i (λq=>{q with val:=m})).find? (λe=>decide (e.key=k'))=es.find? (λe=>decide (e.key=k')):=by
     have hgen:∀(l:List (dc K)) (i:Nat) (e:dc K),l[i]? =some e->k'≠e.key->(l.modify i (λq=>{q with val:=m})).find? (λe=>decide (e.key=k'))=l.find? (λe=>decide (e.key=k')):=by
       intro l
       induction l with
       |nil=>intro i e h;simp at h
       |cons a l ih=>
         intro i e h hne
         cases i with
         |zero=>
           obtain rfl:a=e:=by simpa using h
           have:decide (a.key=k')=false:=by simpa using λh=>hne h.symm
           simp[List.find?_cons,this]
         |succ i=>
           have h':l[i]? =some e:=by simpa using h
           simp only[List.modify_succ_cons,List.find?_cons,ih i e h' hne]
     exact hgen es i e hie hkk
   simp[dX,hfe]
section
variable{P:Program}{f:Fr}{w:World}{dst:Option Tmp}{ty:TypeId}{pos:String}{after:Array Edge}{g:Option (Nat×Bool)}{t:TypeId}{x y z:Operand}{N:Value->World->Prop}
theorem gB{γ:aC}{J:bX->Prop}{v u:Value}{F:K->Int}{D:List K}{kt et:Nat}{m:Int}(k:K)(ht:P.underlying t=some (.map kt et))(hk:iP P kt K)(hx:ev f x=v)(hm:Md γ J w v F D)(hy:ev f y=u)(hu:u=Ky.val k)(hz:ev f z= .int .i64 m)
   (hn:∀w',aU J γ w γ w'->Md γ J w' v (λk'=>if k'=k then m else F k') (if k∈D then D else D++[k])->N undef w'):e7 P ⟨dst,.mapUpdate t x y z,ty,pos,after,g⟩ f w N:=by
 obtain⟨r,es,clock,rfl,hJ,hb,hok,rfl,rfl⟩:=hm
 subst hu
 have hf:=hk.find k (es.map dq) (es.map (·.key)) w (by simp[dq,Function.comp_def])
 rw[fA] at hf
 cases h:(es.map (·.key)).findIdx? (· =k) with
 |none=>
   rw[h] at hf
   have hnk:∀e∈es,e.key≠k:=λe he=>by
     have:=List.findIdx?_eq_none_iff.1 h (e.key) (List.mem_map_of_mem he)
     simpa using this
   have hnD:k∉es.map (·.key):=λhmm=>by obtain⟨e,he,hke⟩:=List.mem_map.1 hmm;exact hnk e he hke
   refine eY (w':={w with heap:=w.heap.setIfInBounds r (.map ((es++[(⟨k,m,clock⟩:dc K)]).map dq).toArray (clock+1))}) ?_
     (hn _ (ek γ _ hJ) ⟨r,es++[⟨k,m,clock⟩],clock+1,rfl,hJ,dS hb,⟨?_,?_,?_⟩,?_,by rw[if_neg hnD];simp⟩)
   · simp[execOp,hx,hy,hz,Instr.mapUpdate,aG ht,bR hb,hk.check,hf,dj hb,dq]
   · rw[List.map_append,List.nodup_append]
     refine⟨hok.keys,by simp,λa ha b hb=>?_⟩
     have:b=k:=by simpa using hb
     subst this;intro e;subst e;exact hnD ha
   · rw[List.map_append,List.nodup_append]
     refine⟨hok.born,by simp,λa ha b hb=>?_⟩
     obtain⟨e,he,rfl⟩:=List.mem_map.1 ha
     have:b=clock:=by simpa using hb
     subst this;exact Nat.ne_of_lt (hok.lt e he)
   · intro e he
     rcases List.mem_append.1 he with h|h
     · exact Nat.lt_succ_of_lt (hok.lt e h)
     · obtain rfl:=List.mem_singleton.1 h;exact Nat.lt_succ_self _
   · funext k'
     simp only[dX,List.find?_append]
     by_cases hkk:k'=k
     · subst hkk
       have hn:es.find? (λe=>decide (e.key=k'))=none:=by
         rw[List.find?_eq_none]
         intro e he
         simpa using hnk e he
       simp[hn]
     · have hkk':¬k=k':=λe=>hkk e.symm
       rw[if_neg hkk]
       cases es.find? (λe=>decide (e.key=k'))<;>simp[hkk']
 |some i=>
   rw[h] at hf
   obtain⟨hil,hke,_⟩:=List.findIdx?_eq_some_iff_getElem.1 h
   have hi':i<es.length:=by simpa using hil
   have hke':es[i].key=k:=by simpa using hke
   have hmod:(es.map dq).modify i (λq=>{q with key:=Ky.val k,val:=.int .i64 m})=(es.modify i (λq=>{q with val:=m})).map dq:=by
     apply List.ext_getElem?
     intro j
     rw[List.getElem?_modify,List.getElem?_map,List.getElem?_map,List.getElem?_modify]
     by_cases hij:i=j
     · subst hij;simp[hi',dq,hke']
     · simp[hij]
   have hkeys:(es.modify i (λq=>{q with val:=m})).map (·.key)=es.map (·.key):=by
     apply List.ext_getElem?
     intro j
     rw[List.getElem?_map,List.getElem?_map,List.getElem?_modify]
     by_cases hij:i=j
     · subst hij;simp[hi']
     · simp[hij]
   have hborn:(es.modify i (λq=>{q with val:=m})).map (·.born)=es.map (·.born):=by
     apply List.ext_getElem?
     intro j
     rw[List.getElem?_map,List.getElem?_map,List.getElem?_modify]
     by_cases hij:i=j
     · subst hij;simp[hi']
     · simp[hij]
   have hkb:=hk.bits k
   have hold:(Instr.keyThatStays (Ky.val k) (Ky.val k)).run P w= .ok (Ky.val k) w:=by simp[Instr.keyThatStays,hkb]
   refine eY (w':={w with heap:=w.heap.setIfInBounds r (.map ((es.modify i (λq=>{q with val:=m})).map dq).toArray clock)}) ?_
     (hn _ (ek γ _ hJ) ⟨r,es.modify i (λq=>{q with val:=m}),clock,rfl,hJ,dS hb,⟨by rw[hkeys];exact hok.keys,by rw[hborn];exact hok.born,λq hq=>?_⟩,?_,by rw[if_pos (by rw[<-hke'];exact List.mem_map_of_mem (List.getElem_mem hi')),hkeys]⟩)
   · simp[execOp,hx,hy,hz,Instr.mapUpdate,aG ht,bR hb,hk.check,hf,hi',dq,hke',hold,dj hb]
     rw[<-hmod]
   · have:q.born∈es.map (·.born):=by rw[<-hborn];exact List.mem_map_of_mem hq
     obtain⟨q',hq',he'⟩:=List.mem_map.1 this
     rw[<-he'];exact hok.lt q' hq'
   · rw[jx hok.keys (e:=es[i]) (by simp),hke']
end
end TL
/-
  TlShort: short names for the commonest steps (used by packed claims only).
  By an AI agent.
-/
set_option linter.all false
namespace TL
open Go
abbrev vi(x:Int):Value:=Value.int .i64 x
abbrev vp(b o:Nat):Value:=Value.pointer (some ⟨b,o,none⟩)
abbrev vn:Value:=Value.slice none 0 0
abbrev vt(l:List Value):Value:=Value.tuple (List.toArray l)
abbrev vg(l:List Value):Value:=Value.agg (List.toArray l)
theorem cg(L:List Nat){γ γ':aC}{w w':World}(h:aU (inl L) γ w γ' w'):aU (inl L) γ w γ' w':=h
theorem dt{p:Prop}[Decidable p](h:p):decide p=true:=decide_eq_true h
theorem df{p:Prop}[Decidable p](h:¬p):decide p=false:=decide_eq_false h
section
variable{P:Program}{all rest:List Oper}{K:Fr->World->Prop}{f:Fr}{w w':World}{x:Operand}
variable{dst:Option Tmp}{op:Op}{ty:TypeId}{pos:String}{after:Array Edge}{g:Option (Nat×Bool)}{o:Oper}
theorem lv(v:Value)(hw:c9 all ⟨dst,op,ty,pos,after,g⟩ f=true)(h:(execOp (ev f) ⟨dst,op,ty,pos,after,g⟩).run P w= .ok (.value v) w')(hk:fN P all rest K (ea f dst v) w'):fN P all (⟨dst,op,ty,pos,after,g⟩::rest) K f w:=h7 hw h hk
theorem lx{v:Value}(h:(execOp (ev f) ⟨dst,op,ty,pos,after,none⟩).run P w= .ok (.value v) w')(hk:fN P all rest K (ea f dst v) w'):fN P all (⟨dst,op,ty,pos,after,none⟩::rest) K f w:=h7 rfl h hk
theorem lw(v:Value)(h:(execOp (ev f) ⟨dst,op,ty,pos,after,none⟩).run P w= .ok (.value v) w')(hk:fN P all rest K (ea f dst v) w'):fN P all (⟨dst,op,ty,pos,after,none⟩::rest) K f w:=h7 rfl h hk
theorem mv(v:Value)(hk:fN P all rest K (ea f dst v) w)(h:ev f x=v:=by exact rfl):fN P all (⟨dst,.move x,ty,pos,after,none⟩::rest) K f w:=h7 rfl (ak h) hk
theorem ma(v:Value)(hk:fN P all rest K (ea f dst v) w)(h:ev f x=v:=by exact rfl):fN P all (⟨dst,.assign x,ty,pos,after,none⟩::rest) K f w:=h7 rfl (cj h) hk
theorem mi(v:Int)(hk:fN P all rest K (ea f dst (.int .i64 v)) w)(h:ev f x= .int .i64 v:=by exact rfl):fN P all (⟨dst,.move x,ty,pos,after,none⟩::rest) K f w:=h7 rfl (ak h) hk
theorem ai(v:Int)(hk:fN P all rest K (ea f dst (.int .i64 v)) w)(h:ev f x= .int .i64 v:=by exact rfl):fN P all (⟨dst,.assign x,ty,pos,after,none⟩::rest) K f w:=h7 rfl (cj h) hk
theorem mz{v:Value}(h:ev f x=v)(hk:fN P all rest K (ea f dst v) w):fN P all (⟨dst,.move x,ty,pos,after,none⟩::rest) K f w:=h7 rfl (ak h) hk
theorem lo(h:e7 P ⟨dst,op,ty,pos,after,none⟩ f w (λv w'=>fN P all rest K (ea f dst v) w')):fN P all (⟨dst,op,ty,pos,after,none⟩::rest) K f w:=dG rfl h
theorem wy{j:Nat}{x:Bool}{d:Nat}{b:Bool}(hx:b=x)(hg:o.guard=some (j,x):=by exact rfl)(hj:(all[j]?).bind (·.dst)=some d:=by exact rfl)(hb:f d= .bool b:=by exact rfl):c9 all o f=true:=pX hg hj hb hx
theorem wn{j:Nat}{x:Bool}{d:Nat}{b:Bool}(hx:b= !x)(hg:o.guard=some (j,x):=by exact rfl)(hj:(all[j]?).bind (·.dst)=some d:=by exact rfl)(hb:f d= .bool b:=by exact rfl):c9 all o f=false:=qh hg hj hb hx
variable{C:World->Prop}{KQ:Fr->Prop}
theorem qv(v:Value)(h:∀w,C w->(execOp (ev f) ⟨dst,op,ty,pos,after,none⟩).run P w= .ok (.value v) w)(hk:i7 P all C rest KQ (ea f dst v)):i7 P all C (⟨dst,op,ty,pos,after,none⟩::rest) KQ f:=bc rfl h hk
theorem qx{v:Value}(h:∀w,C w->(execOp (ev f) ⟨dst,op,ty,pos,after,none⟩).run P w= .ok (.value v) w)(hk:i7 P all C rest KQ (ea f dst v)):i7 P all C (⟨dst,op,ty,pos,after,none⟩::rest) KQ f:=bc rfl h hk
theorem qm(v:Value)(hk:i7 P all C rest KQ (ea f dst v))(h:ev f x=v:=by exact rfl):i7 P all C (⟨dst,.move x,ty,pos,after,none⟩::rest) KQ f:=bc rfl (λ_ _=>ak h) hk
theorem qz{v:Value}(h:ev f x=v)(hk:i7 P all C rest KQ (ea f dst v)):i7 P all C (⟨dst,.move x,ty,pos,after,none⟩::rest) KQ f:=bc rfl (λ_ _=>ak h) hk
end
section
variable{P:Program}{n:Nat}{l:List Oper}{S:World->Prop}{K:Fr->World->Prop}{f:Fr}{w:World}{done:List Nat}{fuel:Nat}{qs:List Nat}
variable{dst:Option Tmp}{op:Op}{ty:TypeId}{pos:String}{after:Array Edge}{g:Option (Nat×Bool)}{v:Value}
theorem ht(i:Nat)(hi:l[i]? =some ⟨dst,op,ty,pos,after,none⟩)(hS:S w)(h:∀w,S w->(execOp (ev f) ⟨dst,op,ty,pos,after,none⟩).run P w= .ok (.value v) w)(hk:mD P n l S K fuel (i::done) (ea f dst v) w)(hn:eM l=true:=by kernel_rfl)(hc:(eC l done i&&fl l done i&&gW n ⟨dst,op,ty,pos,after,none⟩)=true:=by kernel_rfl):mD P n l S K (fuel+1) done f w:=q9 i hi hn hc rfl hS h hk
theorem xv(i:Nat)(M:List Nat)(hi:l[i]? =some ⟨dst,op,ty,pos,after,none⟩)(h:(execOp (ev f) ⟨dst,op,ty,pos,after,none⟩).run P w= .ok (.value v) w)(hk:fQ P n l qs K fuel (i::done) (ea f dst v) w)(hn:eM l=true:=by kernel_rfl)(hc:(qs.contains i&&eC l done i&&fl l done i&&jk l qs done M i&&gW n ⟨dst,op,ty,pos,after,none⟩)=true:=by kernel_rfl):fQ P n l qs K (fuel+1) done f w:=cA i M hi hn hc rfl h hk
theorem xh(i:Nat)(M:List Nat)(hi:l[i]? =some ⟨dst,op,ty,pos,after,none⟩)(h:∀w',dE w.heap.size w w'->(execOp (ev f) ⟨dst,op,ty,pos,after,none⟩).run P w'= .ok (.value v) w')(hk:fQ P n l qs K fuel (i::done) (ea f dst v) w)(hn:eM l=true:=by kernel_rfl)(hc:(qs.contains i&&eC l done i&&fl l done i&&jp l qs done M i&&gW n ⟨dst,op,ty,pos,after,none⟩)=true:=by kernel_rfl):fQ P n l qs K (fuel+1) done f w:=qn i M hi hn hc rfl h hk
theorem xp(i:Nat)(hi:l[i]? =some ⟨dst,op,ty,pos,after,none⟩)(h:∀w,(execOp (ev f) ⟨dst,op,ty,pos,after,none⟩).run P w= .ok (.value v) w)(hk:fQ P n l qs K fuel (i::done) (ea f dst v) w)(hn:eM l=true:=by kernel_rfl)(hc:(qs.contains i&&eC l done i&&fl l done i&&gW n ⟨dst,op,ty,pos,after,none⟩)=true:=by kernel_rfl):fQ P n l qs K (fuel+1) done f w:=bi i hi hn hc rfl h hk
end
section
variable{γ γ':aC}{w w':World}{v:Value}{j k:Nat}{L:List Nat}
theorem bj.ca{w0:World}(h:bj w0 γ w)(hc:aU (inl L) γ w γ' w')(hj:L.contains 0=false:=by exact rfl):bj w0 γ' w':=h.chg hc (bE hj)
theorem bj.ce{w0:World}(h:bj w0 γ w)(hc:aU (is k) γ w γ' w')(hj:Nat.beq 0 k=false:=by exact rfl):bj w0 γ' w':=h.chg hc (eU hj)
theorem bj.cn{w0:World}(h:bj w0 γ w)(hc:aU no γ w γ' w'):bj w0 γ' w':=h.chg hc (bI _)
theorem Bx.ca{b:Nat}{cs:List Value}(h:Bx γ (is j) w b cs)(hc:aU (inl L) γ w γ' w')(hj:L.contains j=false:=by exact rfl):Bx γ' (is j) w' b cs:=h.chg hc (bE hj)
theorem Bx.ce{b:Nat}{cs:List Value}(h:Bx γ (is j) w b cs)(hc:aU (is k) γ w γ' w')(hj:Nat.beq j k=false:=by exact rfl):Bx γ' (is j) w' b cs:=h.chg hc (eU hj)
theorem Bx.cn{J:bX->Prop}{b:Nat}{cs:List Value}(h:Bx γ J w b cs)(hc:aU no γ w γ' w'):Bx γ' J w' b cs:=h.chg hc (bI _)
theorem Sl.ca{α:Type}[Rp α]{xs:List α}(h:Sl γ (is j) w v xs)(hc:aU (inl L) γ w γ' w')(hj:L.contains j=false:=by exact rfl):Sl γ' (is j) w' v xs:=h.chg hc (bE hj)
theorem Sl.ce{α:Type}[Rp α]{xs:List α}(h:Sl γ (is j) w v xs)(hc:aU (is k) γ w γ' w')(hj:Nat.beq j k=false:=by exact rfl):Sl γ' (is j) w' v xs:=h.chg hc (eU hj)
theorem Sl.cn{α:Type}[Rp α]{S:bX->Prop}{xs:List α}(h:Sl γ S w v xs)(hc:aU no γ w γ' w'):Sl γ' S w' v xs:=h.chg hc (bI _)
theorem Ow.ca{α:Type}[Rp α]{xs:List α}(h:Ow γ (is j) (is j) w v xs)(hc:aU (inl L) γ w γ' w')(hj:L.contains j=false:=by exact rfl):Ow γ' (is j) (is j) w' v xs:=h.chg hc (bE hj) (bE hj)
theorem Ow.ce{α:Type}[Rp α]{xs:List α}(h:Ow γ (is j) (is j) w v xs)(hc:aU (is k) γ w γ' w')(hj:Nat.beq j k=false:=by exact rfl):Ow γ' (is j) (is j) w' v xs:=h.chg hc (eU hj) (eU hj)
theorem Ow.cn{α:Type}[Rp α]{J S:bX->Prop}{xs:List α}(h:Ow γ J S w v xs)(hc:aU no γ w γ' w'):Ow γ' J S w' v xs:=h.chg hc (bI _) (bI _)
theorem cM.ca{α:Type}[Rp α]{xs:List (List α)}(h:cM γ j w v xs)(hc:aU (inl L) γ w γ' w')(hj:L.contains j=false:=by exact rfl):cM γ' j w' v xs:=h.chg hc (bE hj)
theorem cM.ce{α:Type}[Rp α]{xs:List (List α)}(h:cM γ j w v xs)(hc:aU (is k) γ w γ' w')(hj:Nat.beq j k=false:=by exact rfl):cM γ' j w' v xs:=h.chg hc (eU hj)
theorem cM.cn{α:Type}[Rp α]{xs:List (List α)}(h:cM γ j w v xs)(hc:aU no γ w γ' w'):cM γ' j w' v xs:=h.chg hc (bI _)
theorem eJ.ca{α:Type}[Rp α]{h0:Nat}{xs:List (List α)}(h:eJ γ j h0 w v xs)(hc:aU (inl L) γ w γ' w')(hj:L.contains j=false:=by exact rfl):eJ γ' j h0 w' v xs:=h.chg hc (bE hj)
theorem eJ.ce{α:Type}[Rp α]{h0:Nat}{xs:List (List α)}(h:eJ γ j h0 w v xs)(hc:aU (is k) γ w γ' w')(hj:Nat.beq j k=false:=by exact rfl):eJ γ' j h0 w' v xs:=h.chg hc (eU hj)
theorem eJ.cn{α:Type}[Rp α]{h0:Nat}{xs:List (List α)}(h:eJ γ j h0 w v xs)(hc:aU no γ w γ' w'):eJ γ' j h0 w' v xs:=h.chg hc (bI _)
def qX(δ g:aC)(w:World)(ren:Nat->Nat):Prop:=(∀{α:Type} [Rp α] {i:Nat} {v:Value} {xs:List α},Ow δ (is i) (is i) w v xs->∀k:Nat,Nat.beq i 0=false->ren i=k->Ow g (is k) (is k) w v xs)/\(∀{α:Type} [Rp α] {i:Nat} {v:Value} {xs:List (List α)},cM δ i w v xs->∀k:Nat,Nat.beq i 0=false->ren i=k->cM g k w v xs)
theorem js{δ:aC}(γ:aC)(fr:fi w δ w')(ren:Nat->Nat):∃g,aU no γ w g w'/\qX δ g w' ren:=
 ⟨_,np fr.below γ δ ren,λh k hi hr=>h.glue fr.col hi hr,λh k hi hr=>h.glue fr.col hi hr⟩
theorem Ow.gl{α:Type}[Rp α]{δ g:aC}{ren:Nat->Nat}{i:Nat}{xs:List α}(h:Ow δ (is i) (is i) w v xs)(G:qX δ g w ren)(k:Nat)(hi:Nat.beq i 0=false:=by exact rfl)(hr:ren i=k:=by exact rfl):Ow g (is k) (is k) w v xs:=G.1 h k hi hr
theorem cM.gl{α:Type}[Rp α]{δ g:aC}{ren:Nat->Nat}{i:Nat}{xs:List (List α)}(h:cM δ i w v xs)(G:qX δ g w ren)(k:Nat)(hi:Nat.beq i 0=false:=by exact rfl)(hr:ren i=k:=by exact rfl):cM g k w v xs:=G.2 h k hi hr
end
section
variable{K:Type}[DecidableEq K][Ky K]
theorem Md.ca{γ γ':aC}{j:Nat}{L:List Nat}{w w':World}{v:Value}{F:K->Int}{D:List K}(h:Md γ (is j) w v F D)(hc:aU (inl L) γ w γ' w')(hj:L.contains j=false:=by exact rfl):Md γ' (is j) w' v F D:=h.chg hc (bE hj)
theorem Md.ce{γ γ':aC}{j k:Nat}{w w':World}{v:Value}{F:K->Int}{D:List K}(h:Md γ (is j) w v F D)(hc:aU (is k) γ w γ' w')(hj:Nat.beq j k=false:=by exact rfl):Md γ' (is j) w' v F D:=h.chg hc (eU hj)
theorem Md.cn{γ γ':aC}{J:bX->Prop}{w w':World}{v:Value}{F:K->Int}{D:List K}(h:Md γ J w v F D)(hc:aU no γ w γ' w'):Md γ' J w' v F D:=h.chg hc (bI _)
theorem Mp.ca{γ γ':aC}{j:Nat}{L:List Nat}{w w':World}{v:Value}{F:K->Int}(h:Mp γ (is j) w v F)(hc:aU (inl L) γ w γ' w')(hj:L.contains j=false:=by exact rfl):Mp γ' (is j) w' v F:=h.chg hc (bE hj)
theorem Mp.ce{γ γ':aC}{j k:Nat}{w w':World}{v:Value}{F:K->Int}(h:Mp γ (is j) w v F)(hc:aU (is k) γ w γ' w')(hj:Nat.beq j k=false:=by exact rfl):Mp γ' (is j) w' v F:=h.chg hc (eU hj)
theorem Mp.cn{γ γ':aC}{J:bX->Prop}{w w':World}{v:Value}{F:K->Int}(h:Mp γ J w v F)(hc:aU no γ w γ' w'):Mp γ' J w' v F:=h.chg hc (bI _)
theorem km.ca{γ γ':aC}{j:Nat}{L:List Nat}{w w':World}{v:Value}{F:K->Int}{s:Int}{k:K}(h:km γ (is j) w v F s k)(hc:aU (inl L) γ w γ' w')(hj:L.contains j=false:=by exact rfl):km γ' (is j) w' v F s k:=h.chg hc (bE hj)
theorem km.ce{γ γ':aC}{j q:Nat}{w w':World}{v:Value}{F:K->Int}{s:Int}{k:K}(h:km γ (is j) w v F s k)(hc:aU (is q) γ w γ' w')(hj:Nat.beq j q=false:=by exact rfl):km γ' (is j) w' v F s k:=h.chg hc (eU hj)
theorem km.cn{γ γ':aC}{J:bX->Prop}{w w':World}{v:Value}{F:K->Int}{s:Int}{k:K}(h:km γ J w v F s k)(hc:aU no γ w γ' w'):km γ' J w' v F s k:=h.chg hc (bI _)
end
end TL
/-
  TlGeom: points with whole coordinates: turns, segments, how they meet.
  By an AI agent.
-/
set_option linter.all false
namespace TL
abbrev Pt:=Int×Int
def dJ(x y:Int):Int:=if x<y then-1 else if y<x then 1 else 0
def qQ(a b:Pt):Int:=a.1*b.2-a.2*b.1
def qE(b a:Pt):Pt:=(b.1-a.1,b.2-a.2)
def mm(a b c:Pt):Int:=dJ (qQ (qE b a) (qE c a)) 0
def pT(a b p:Pt):Prop:=(min a.1 b.1<=p.1/\p.1<=max a.1 b.1)/\min a.2 b.2<=p.2/\p.2<=max a.2 b.2
instance (a b p:Pt):Decidable (pT a b p):=by unfold pT;infer_instance
def mW(a b p:Pt):Prop:=mm a b p=0/\pT a b p
instance (a b p:Pt):Decidable (mW a b p):=by unfold mW;infer_instance
def ki(a b:Pt):Int:=if dJ a.1 b.1≠0 then dJ a.1 b.1 else dJ a.2 b.2
def qJ(a b c d:Pt):Int:=
 let a':=if 0<ki a b then b else a
 let b':=if 0<ki a b then a else b
 let c':=if 0<ki c d then d else c
 let d':=if 0<ki c d then c else d
 let low:=if 0<ki c' a' then c' else a'
 let high:=if ki d' b'<0 then d' else b'
 if 0<ki low high then 0 else if ki low high=0 then 2 else 3
def fS(a b c d:Pt):Int:=
 if mm a b c=0/\mm a b d=0/\mm c d a=0/\mm c d b=0 then qJ a b c d
 else if mm a b c*mm a b d<0/\mm c d a*mm c d b<0 then 1
 else if mW a b c\/mW a b d\/mW c d a\/mW c d b then 2 else 0
def key(p:Pt):Int:=p.1*1073741824+p.2
end TL
namespace TL
def qY(p:Pt):Prop:=(-1048576<=p.1/\p.1<=1048576)/\ -1048576<=p.2/\p.2<=1048576
instance (p:Pt):Decidable (qY p):=by unfold qY;infer_instance
def qW(ps:List Pt):Prop:=ps.length<=4096/\∀p∈ps,qY p
instance (ps:List Pt):Decidable (qW ps):=by unfold qW;infer_instance
def lM(p:Pt):Int:=if 0<p.1\/p.1=0/\0<p.2 then 0 else 1
section
variable{a b c d:Pt}
end
end TL
/-
  TlGeomR: what is told of many points: areas, boxes, whether a polyline is simple.
  By an AI agent.
-/
set_option linter.all false
namespace TL
def jm(ps:List Pt):Prop:=4<=(ps.length:Int)/\gI ps 0=gI ps ((ps.length:Int)-1)
instance (ps:List Pt):Decidable (jm ps):=by unfold jm;infer_instance
def kU(ps:List Pt)(i k:Nat):Prop:=k=i+1\/i=0/\(k:Int)=(ps.length:Int)-2/\jm ps
instance (ps:List Pt)(i k:Nat):Decidable (kU ps i k):=by unfold kU;infer_instance
def r7(ps:List Pt)(i k:Nat):Int:=fS (gI ps (i:Int)) (gI ps ((i:Int)+1)) (gI ps (k:Int)) (gI ps ((k:Int)+1))
def qk(ps:List Pt)(i k:Nat):Prop:=kU ps i k/\r7 ps i k=3\/¬kU ps i k/\r7 ps i k≠0
instance (ps:List Pt)(i k:Nat):Decidable (qk ps i k):=by unfold qk;infer_instance
def pR(ps:List Pt)(i:Nat):Prop:=gI ps (i:Int)≠gI ps ((i:Int)+1)/\∀k<ps.length,i<k->(k:Int)<=(ps.length:Int)-2->¬qk ps i k
instance (ps:List Pt)(i:Nat):Decidable (pR ps i):=by unfold pR;infer_instance
def qw(ps:List Pt):Prop:=∀i<ps.length,(i:Int)<=(ps.length:Int)-2->pR ps i
instance (ps:List Pt):Decidable (qw ps):=by unfold qw;infer_instance
section
variable{ps:List Pt}
variable{i k:Nat}
end
end TL
/-
  TlConv: whole numbers turned to another kind, a string's byte, functions that bear values.
  By an AI agent.
-/
set_option linter.all false
namespace TL
open Go
section
variable{P:Program}{w:World}{f:Fr}{dst:Option Tmp}{ty:TypeId}{pos:String}{after:Array Edge}{g:Option (Nat×Bool)}{x y:Operand}{s d t:TypeId}{m:Int}{k k0:IntKind}
theorem kK{us:TypeDesc}(hs:P.underlying s=some us)(hd:P.underlying d=some (.int k))(hx:ev f x= .int k0 m)(hw:k.wrap m=m):(execOp (ev f) ⟨dst,.convert s d x,ty,pos,after,g⟩).run P w= .ok (.value (.int k m)) w:=by
 simp[execOp,convert,hx,aG hs,aG hd,Conv.intToInt,hw]
theorem jZ{i r:Int}{b:UInt8}{str:ByteArray}(ht:P.underlying t=some .string)(hx:ev f x= .string str)(hy:ev f y= .int k i)(h0:0<=i)(hb:str[i.toNat]? =some b)(hr:(b.toNat:Int)=r):(execOp (ev f) ⟨dst,.index t x y,ty,pos,after,g⟩).run P w= .ok (.value (.int .u8 r)) w:=by
 simp[execOp,Instr.index,asIntOf,hx,hy,aG ht,h0,hb,hr]
theorem ii{fid:Nat}{cs:List Operand}{vals:List Value}(h:cs.map (ev f)=vals):(execOp (ev f) ⟨dst,.makeFunc (.func fid) #[] cs.toArray,ty,pos,after,g⟩).run P w= .ok (.value (.func (.func fid) #[] vals.toArray)) w:=by
 have h:cs.toArray.map (ev f)=vals.toArray:=by rw[<-h];simp
 simp[execOp,Instr.makeFunc,h]
theorem i6{fid:Nat}{fn:Func}{c:Operand}{args:List Operand}{at_:Array TypeId}{vals caps:List Value}(hc:ev f c= .func (.func fid) #[] caps.toArray)(hf:P.funcs[fid]? =some fn)(hb:fn.body.isNone=false)(hn:(fn.name== "runtime.NumGoroutine")=false)(ha:args.map (ev f)=vals):
   (execOp (ev f) ⟨dst,.call {callee:=.value c,args:=args.toArray,argTypes:=at_},ty,pos,after,g⟩).run P w= .ok (.enter fid (vals++caps).toArray) w:=by
 have ha:args.toArray.map (ev f)=vals.toArray:=by rw[<-ha];simp
 simp only[execOp,resolve,hc,Deferred.ofValue,invoke,callFunc,ha,Sem.run_bind,Sem.run_pure,Result.andThen_ok,run_program,hf,hn,hb,Bool.false_eq_true,if_false,Array.append_empty,Array.empty_append]
 simp
end
end TL
namespace TL
open Go
section
variable{P:Program}{w:World}{f:Fr}{dst:Option Tmp}{ty:TypeId}{pos:String}{after:Array Edge}{g:Option (Nat×Bool)}{x y:Operand}{t t':TypeId}
end
end TL
namespace TL
open Go
section
variable{P:Program}{w:World}{f:Fr}{dst:Option Tmp}{ty:TypeId}{pos:String}{after:Array Edge}{g:Option (Nat×Bool)}{x y:Operand}{t t':TypeId}
end
end TL
/-
  TlGeomM: meeting segments: moved, turned, named another way about; what ends they share.
  By an AI agent.
-/
set_option linter.all false
namespace TL
section
variable{a b c d:Pt}
def jL(a b c d e:Pt):Prop:=mW a b e/\mW c d e
instance (a b c d e:Pt):Decidable (jL a b c d e):=by unfold jL;infer_instance
def nt(a b c d:Pt):Prop:=mm a b c*mm a b d<0/\mm c d a*mm c d b<0
instance (a b c d:Pt):Decidable (nt a b c d):=by unfold nt;infer_instance
end
end TL
/-
  TlGeomS: polylines gone back, and two of them named the other way about.
  By an AI agent.
-/
set_option linter.all false
namespace TL
abbrev Sg:=Pt×Pt
def mP(ps:List Pt):Nat->List Sg
 |0=>[]
 |k+1=>mP ps k++[(gI ps (k:Int),gI ps ((k:Int)+1))]
def oR(ps:List Pt):List Sg:=if ps.length=1 then[(gI ps 0,gI ps 0)] else mP ps (ps.length-1)
def pA(ps:List Pt):Pt:=gI ps ((ps.length:Int)-1)
def qd(ps:List Pt)(p:Pt):Prop:=p=gI ps 0\/p=pA ps
instance (ps:List Pt)(p:Pt):Decidable (qd ps p):=by unfold qd;infer_instance
def ob(q:List Pt)(s t:Sg)(x:Pt):Prop:=qd q x/\mW s.1 s.2 x/\mW t.1 t.2 x
instance (q:List Pt)(s t:Sg)(x:Pt):Decidable (ob q s t x):=by unfold ob;infer_instance
def nC(p q:List Pt)(s t:Sg):Prop:=ob q s t (gI p 0)\/ob q s t (pA p)
instance (p q:List Pt)(s t:Sg):Decidable (nC p q s t):=by unfold nC;infer_instance
def qe(p q:List Pt)(s t:Sg):Prop:=fS s.1 s.2 t.1 t.2=3\/fS s.1 s.2 t.1 t.2≠0/\¬nC p q s t
instance (p q:List Pt)(s t:Sg):Decidable (qe p q s t):=by unfold qe;infer_instance
def qA(p q:List Pt):Prop:=∀s∈oR p,∀t∈oR q,¬qe p q s t
instance (p q:List Pt):Decidable (qA p q):=by unfold qA;infer_instance
section
variable{p q:List Pt}
end
end TL
namespace TL
section
variable{p q:List Pt}{i k:Nat}
variable{s t:Sg}
end
end TL
namespace TL
section
variable{p q:List Pt}{s t:Sg}{i:Nat}
end
end TL
/-
  TlGeomX: polylines: the document's way and the code's.
  By an AI agent.
-/
set_option linter.all false
namespace TL
section
variable{a b c d:Pt}
end
section
variable{ps:List Pt}{i k:Nat}
end
def qS(but:List Pt)(s t:Sg):Prop:=fS s.1 s.2 t.1 t.2=3\/(fS s.1 s.2 t.1 t.2=1/\¬∃x∈but,jL s.1 s.2 t.1 t.2 x)\/((fS s.1 s.2 t.1 t.2≠0/\fS s.1 s.2 t.1 t.2≠1)/\∃e∈[s.1,s.2,t.1,t.2],jL s.1 s.2 t.1 t.2 e/\e∉but)
instance (but:List Pt)(s t:Sg):Decidable (qS but s t):=by unfold qS;infer_instance
def qD(p q but:List Pt):Prop:=∃s∈oR p,∃t∈oR q,qS but s t
instance (p q but:List Pt):Decidable (qD p q but):=by unfold qD;infer_instance
section
variable{p q B:List Pt}
end
end TL
namespace TL
section
variable{p q but:List Pt}{i k:Nat}
variable{s t:Sg}
end
end TL
/-
  TlAround: points round another one: the order, its laws, the list that is sorted by it.
  By an AI agent.
-/
set_option linter.all false
namespace TL
def qP(p:Pt):Int:=p.1*p.1+p.2*p.2
def rm(a b:Pt)(i k:Int):Prop:=lM a<lM b\/lM a=lM b/\(qQ a b<0\/qQ a b=0/\(qP a<qP b\/qP a=qP b/\i<k))
def vA(o:Pt)(ps:List Pt)(i:Int):Pt:=qE (gI ps i) o
def rh(o:Pt)(ps:List Pt)(i k:Int):Prop:=rm (vA o ps i) (vA o ps k) i k
def rp(o:Pt)(ps:List Pt)(k:Nat)(l:List Int):Prop:=l.Pairwise (rh o ps)/\∀x,x∈l↔0<=x/\x<(k:Int)
section
variable{o:Pt}{ps:List Pt}{k:Nat}{l l':List Int}
open Classical in
noncomputable def arL (o:Pt) (ps:List Pt):List Int:=if h:∃l,rp o ps ps.length l then choose h else[]
end
section
variable{o:Pt}{ps:List Pt}{k:Nat}{l:List Int}{q:Int}
end
section
variable{o:Pt}{ps:List Pt}
end
end TL
/-
  TlFace: half-edges' next ones, faces.
  By an AI agent.
-/
set_option linter.all false
namespace TL
end TL
namespace TL
structure cC(out:List (List Int))(g:bF)(k:Nat):Prop where
  len:(out.length:Int)=g.1
  at_:∀v,0<=v->v<g.1->gI out v=fO g v k
theorem cC.start{g:bF}(h:0<=g.1):cC (List.replicate g.1.toNat []) g 0:=⟨by simp;omega,λv h0 h1=>by rw[kr h0 (by omega)];simp[fO]⟩
theorem cC.next{out:List (List Int)}{g:bF}{k:Nat}(h:cC out g k)(h1:0<=(gI g.2 k).1)(h2:(gI g.2 k).1<g.1)(h3:0<=(gI g.2 k).2)(h4:(gI g.2 k).2<g.1){a b:Int}(ha:a=2*(k:Int))(hb:b=2*(k:Int)+1):
   cC ((out.set (gI g.2 k).1.toNat (gI out (gI g.2 k).1++[a])).set (gI g.2 k).2.toNat (gI (out.set (gI g.2 k).1.toNat (gI out (gI g.2 k).1++[a])) (gI g.2 k).2++[b])) g (k+1):=by
 have hl:=h.len
 refine⟨by simpa using hl,λv h5 h6=>?_⟩
 rw[bM h3 (by simp;omega) h5,bM h1 (by omega) h3,bM h1 (by omega) h5,kz,h.at_ _ h1 h2,h.at_ _ h3 h4,h.at_ v h5 h6,ha,hb]
 by_cases e2:v=(gI g.2 (k:Int)).2
 · by_cases e1:v=(gI g.2 (k:Int)).1
   · rw[<-e1,<-e2];simp
   · have e3:¬(gI g.2 (k:Int)).2=(gI g.2 (k:Int)).1:=λh=>e1 (e2.trans h)
     have e6:¬(gI g.2 (k:Int)).1=(gI g.2 (k:Int)).2:=λh=>e3 h.symm
     simp[e2,e3,e6]
 · have e4:¬(gI g.2 (k:Int)).2=v:=λh=>e2 h.symm
   by_cases e1:v=(gI g.2 (k:Int)).1
   · rw[if_neg e2,if_pos e1,if_neg e4,if_pos e1.symm,<-e1];simp
   · have e5:¬(gI g.2 (k:Int)).1=v:=λh=>e1 h.symm
     rw[if_neg e2,if_neg e1,if_neg e4,if_neg e5];simp
end TL
namespace TL
end TL
/-
  TlWalk: going through a net breadth first, and its components, as the program does.
  By an AI agent.
-/
set_option linter.all false
namespace TL
def bA(g:bF)(h:Int):Int:=pI (gI g.2 (h/2)) (1-h%2)
theorem eB{g:bF}(hm:ba g){h:Int}(h0:0<=h)(h1:h<2*(g.2.length:Int)):0<=bA g h/\bA g h<g.1:=by
 have hok:=hm.2.2.2 _ (bO (xs:=g.2) (i:=h/2) (by omega) (by omega))
 unfold kn at hok
 unfold bA pI
 split<;>omega
structure Bf where
 order:List Int
 by_:List Int
 far:List Int
def dz(g:bF)(v:Int)(s:Bf)(h:Int):Bf:=
 if gI s.far (bA g h)<0 then⟨s.order++[bA g h],s.by_.set (bA g h).toNat h,s.far.set (bA g h).toNat (gI s.far v+1)⟩ else s
def fh(g:bF)(v:Int)(s:Bf):Bf:=(e8 g v).foldl (dz g v) s
def iZ(g:bF):Nat->Nat->Bf->Bf
 |0,_,s=>s
 |n+1,i,s=>if i<s.order.length then iZ g n (i+1) (fh g (gI s.order (i:Int)) s) else s
def de(g:bF)(s0:Int):Bf:=⟨[s0],List.replicate g.1.toNat (-1),(List.replicate g.1.toNat (-1)).set s0.toNat 0⟩
def b7(g:bF)(s0:Int):Bf:=iZ g g.1.toNat 0 (de g s0)
structure gV(g:bF)(s:Bf):Prop where
 far:(s.far.length:Int)=g.1
 by_:(s.by_.length:Int)=g.1
 nodup:s.order.Nodup
 rng:∀x∈s.order,0<=x/\x<g.1
 iff:∀w,0<=w->w<g.1->(gI s.far w<0↔w∉s.order)
 le:∀w,0<=w->w<g.1->gI s.far w<=s.order.length
theorem gV.start{g:bF}{s0:Int}(h0:0<=s0)(h1:s0<g.1):gV g (de g s0):=by
 refine⟨by simp[de];omega,by simp[de];omega,by simp[de],by simp[de];omega,λw hw0 hw1=>?_,λw hw0 hw1=>?_⟩
 · simp only[de]
   rw[bM h0 (by simp;omega) hw0]
   by_cases e:w=s0
   · subst e;simp
   · rw[if_neg e,kr hw0 (by omega)];simp[e]
 · simp only[de]
   rw[bM h0 (by simp;omega) hw0]
   by_cases e:w=s0
   · subst e;simp
   · rw[if_neg e,kr hw0 (by omega)];simp
theorem gV.len{g:bF}{s:Bf}(h:gV g s)(hg:0<=g.1):(s.order.length:Int)<=g.1:=nH hg h.nodup h.rng
theorem gV.one{g:bF}{s:Bf}{v h:Int}(hs:gV g s)(hv:v∈s.order)(h0:0<=bA g h)(h1:bA g h<g.1):gV g (dz g v s h):=by
 obtain⟨hv0,hv1⟩:=hs.rng v hv
 unfold dz
 by_cases c:gI s.far (bA g h)<0
 · rw[if_pos c]
   have hn:=(hs.iff _ h0 h1).1 c
   have hf:=hs.far
   have hlv:=hs.le v hv0 hv1
   refine⟨by simpa using hs.far,by simpa using hs.by_,?_,λx hx=>?_,λw hw0 hw1=>?_,λw hw0 hw1=>?_⟩
   · rw[List.nodup_append]
     refine⟨hs.nodup,by simp,λa ha b hb=>?_⟩
     obtain rfl:=List.mem_singleton.1 hb
     intro e;subst e;exact hn ha
   · rcases List.mem_append.1 hx with hx|hx
     · exact hs.rng x hx
     · obtain rfl:=List.mem_singleton.1 hx;exact⟨h0,h1⟩
   · simp only
     rw[bM h0 (by omega) hw0]
     by_cases e:w=bA g h
     · subst e
       rw[if_pos rfl]
       have hx:¬gI s.far v<0:=λhh=>(hs.iff v hv0 hv1).1 hh hv
       constructor
       · intro hh;omega
       · intro hh;simp at hh
     · rw[if_neg e,hs.iff w hw0 hw1];simp[e]
   · simp only
     rw[bM h0 (by omega) hw0]
     by_cases e:w=bA g h
     · subst e;rw[if_pos rfl];simp;omega
     · rw[if_neg e]
       have:=hs.le w hw0 hw1
       simp;omega
 · rw[if_neg c];exact hs
end TL
namespace TL
theorem eF{g:bF}{v h:Int}(hh:h∈e8 g v):(0<=h/\h<2*(g.2.length:Int))/\au g h=v:=by
 unfold e8 fO at hh
 obtain⟨h1,h2⟩:=List.mem_filter.1 hh
 obtain⟨k,hk,rfl⟩:=List.mem_map.1 h1
 have:=List.mem_range.1 hk
 exact⟨by omega,by simpa using h2⟩
theorem my(g:bF)(v:Int)(s:Bf)(h:Int):∃t,(dz g v s h).order=s.order++t:=by
 unfold dz
 split
 · exact⟨_,rfl⟩
 · exact⟨[],by simp⟩
structure cV(s:Bf)(g:bF)(s0:Bf)(v:Int)(j:Nat):Prop where
  eq:s=((e8 g v).take j).foldl (dz g v) s0
  ok:gV g s
  mem:v∈s.order
  pre:∃t,s.order=s0.order++t
theorem cV.start{g:bF}{s0:Bf}{v:Int}(h:gV g s0)(hv:v∈s0.order):cV s0 g s0 v 0:=⟨rfl,h,hv,[],by simp⟩
theorem cV.next{s s0:Bf}{g:bF}{v:Int}{j:Nat}(h:cV s g s0 v j)(hm:ba g)(hj:(j:Int)<(e8 g v).length):cV (dz g v s (gI (e8 g v) (j:Int))) g s0 v (j+1):=by
 have hin:=(eF (bO (xs:=e8 g v) (i:=(j:Int)) (by omega) hj)).1
 have ht:=eB hm hin.1 hin.2
 obtain⟨t,ht2⟩:=h.pre
 obtain⟨t',ht3⟩:=my g v s (gI (e8 g v) (j:Int))
 refine⟨by rw[ff hj,List.foldl_append,<-h.eq];rfl,h.ok.one h.mem ht.1 ht.2,by rw[ht3];simp[h.mem],t++t',by rw[ht3,ht2,List.append_assoc]⟩
theorem cV.done{s s0:Bf}{g:bF}{v:Int}{j:Nat}(h:cV s g s0 v j)(hj:¬(j:Int)<(e8 g v).length):s=fh g v s0:=by
 rw[h.eq,List.take_of_length_le (by omega)];rfl
structure dY(s:Bf)(g:bF)(s0:Int)(i:Nat):Prop where
  ok:gV g s
  le:(i:Int)<=s.order.length
  eq:iZ g (g.1.toNat-i) i s=b7 g s0
theorem dY.start{g:bF}{s0:Int}(h0:0<=s0)(h1:s0<g.1):dY (de g s0) g s0 0:=⟨gV.start h0 h1,by omega,rfl⟩
theorem dY.next{s s':Bf}{g:bF}{s0:Int}{i j:Nat}(h:dY s g s0 i)(hg:0<=g.1)(hi:(i:Int)<s.order.length)(hr:cV s' g s (gI s.order (i:Int)) j)(hj:¬(j:Int)<(e8 g (gI s.order (i:Int))).length):dY s' g s0 (i+1):=by
 obtain⟨t,ht⟩:=hr.pre
 have hl:=h.ok.len hg
 refine⟨hr.ok,by rw[ht];simp;omega,?_⟩
 rw[<-h.eq,show g.1.toNat-i=(g.1.toNat-(i+1))+1 by omega]
 simp only[iZ]
 rw[if_pos (by omega),hr.done hj]
theorem dY.done{s:Bf}{g:bF}{s0:Int}{i:Nat}(h:dY s g s0 i)(hi:¬(i:Int)<s.order.length):s=b7 g s0:=by
 rw[<-h.eq]
 cases g.1.toNat-i with
 |zero=>rfl
 |succ n=>simp only[iZ];rw[if_neg (by omega)]
end TL
namespace TL
theorem mu{k n:Nat}{x:Int}(hk:k<n):(List.replicate k x++List.replicate (n-k) 0).set (k:Int).toNat x=List.replicate (k+1) x++List.replicate (n-(k+1)) (0:Int):=by
 have e:n-k=(n-(k+1))+1:=by omega
 rw[e,List.replicate_succ]
 simp only[Int.toNat_natCast]
 rw[List.set_append_right _ _ (by simp)]
 simp only[List.length_replicate,Nat.sub_self,List.set_cons_zero]
 rw[List.replicate_succ']
 simp
theorem cC.rl{out:List (List Int)}{g:bF}{k:Nat}(h:cC out g k){v:Int}(h0:0<=v)(h1:v<g.1):((gI out v).length:Int)<=2*(k:Int):=by
 rw[h.at_ v h0 h1]
 have:=lS g v k
 omega
theorem cC.rl2{out:List (List Int)}{g:bF}{k:Nat}(h:cC out g k){u v:Int}(h2:0<=u)(h3:u<g.1)(h0:0<=v)(h1:v<g.1)(a:Int):((gI (out.set u.toNat (gI out u++[a])) v).length:Int)<=2*(k:Int)+1:=by
 have hl:=h.len
 rw[bM h2 (by omega) h0]
 split
 · have:=h.rl h2 h3;simp;omega
 · have:=h.rl h0 h1;omega
theorem cC.done{out:List (List Int)}{g:bF}{k:Nat}(h:cC out g k)(hk:k=g.2.length):∀v,0<=v->v<g.1->gI out v=e8 g v:=λv h0 h1=>by
 subst hk;exact h.at_ v h0 h1
theorem cV.yes{O B F:List Int}{s0:Bf}{g:bF}{v h:Int}{j:Nat}(hr:cV ⟨O,B,F⟩ g s0 v j)(hm:ba g)(hj:(j:Int)<(e8 g v).length)(hh:h=gI (e8 g v) (j:Int))(c:gI F (bA g h)<0):cV ⟨O++[bA g h],B.set (bA g h).toNat h,F.set (bA g h).toNat (gI F v+1)⟩ g s0 v (j+1):=by
 have h1:=hr.next hm hj
 rw[<-hh] at h1
 unfold dz at h1
 rw[if_pos (show gI (Bf.mk O B F).far (bA g h)<0 from c)] at h1
 exact h1
theorem cV.no{O B F:List Int}{s0:Bf}{g:bF}{v h:Int}{j:Nat}(hr:cV ⟨O,B,F⟩ g s0 v j)(hm:ba g)(hj:(j:Int)<(e8 g v).length)(hh:h=gI (e8 g v) (j:Int))(c:¬gI F (bA g h)<0):cV ⟨O,B,F⟩ g s0 v (j+1):=by
 have h1:=hr.next hm hj
 rw[<-hh] at h1
 unfold dz at h1
 rw[if_neg (show¬gI (Bf.mk O B F).far (bA g h)<0 from c)] at h1
 exact h1
theorem cV.facts{O B F:List Int}{s0:Bf}{g:bF}{v:Int}{j:Nat}(hr:cV ⟨O,B,F⟩ g s0 v j)(hg:0<=g.1):(F.length:Int)=g.1/\(B.length:Int)=g.1/\(O.length:Int)<=g.1/\(0<=v/\v<g.1)/\gI F v<=O.length/\¬gI F v<0:=by
 have h1:=hr.ok
 have hv:=h1.rng v hr.mem
 exact⟨h1.far,h1.by_,h1.len hg,hv,h1.le v hv.1 hv.2,λhh=>(h1.iff v hv.1 hv.2).1 hh hr.mem⟩
theorem dY.facts{O B F:List Int}{g:bF}{s0:Int}{i:Nat}(hr:dY ⟨O,B,F⟩ g s0 i)(hg:0<=g.1):(F.length:Int)=g.1/\(B.length:Int)=g.1/\(O.length:Int)<=g.1/\(i:Int)<=O.length:=⟨hr.ok.far,hr.ok.by_,hr.ok.len hg,hr.le⟩
theorem dY.node{O B F:List Int}{g:bF}{s0:Int}{i:Nat}(hr:dY ⟨O,B,F⟩ g s0 i)(hi:(i:Int)<O.length):0<=gI O (i:Int)/\gI O (i:Int)<g.1:=hr.ok.rng _ (bO (by omega) hi)
theorem dY.row{O B F:List Int}{g:bF}{s0:Int}{i:Nat}(hr:dY ⟨O,B,F⟩ g s0 i)(hi:(i:Int)<O.length):cV ⟨O,B,F⟩ g ⟨O,B,F⟩ (gI O (i:Int)) 0:=cV.start hr.ok (bO (by omega) hi)
end TL
namespace TL
end TL
namespace TL
end TL
/-
  TlRot2: rotations: faces of half-edges, first ones, parts, moved ones.
  By an AI agent.
-/
set_option linter.all false
namespace TL
def aT(g:bF):iu:=(List.range g.1.toNat).map λ(v:Nat)=>e8 g (v:Int)
theorem cC.first{out:iu}{g:bF}{k:Nat}(h:cC out g k)(hk:k=g.2.length):out=aT g:=by
 have hl:=h.len
 apply jT
 · simp[aT];omega
 · intro i hi
   rw[h.done hk _ (by omega) (by omega)]
   have:i<g.1.toNat:=by omega
   simp[aT,gI,this]
end TL
/-
  TlJudge: plots: their flaws, as the code and the document gather them.
  By an AI agent.
-/
set_option linter.all false
namespace TL
abbrev rc:=Int×Int×Int
abbrev iC:=List Pt×List (List Pt)
section
variable{β:Type}{f h:Nat->List β}{k n:Nat}{x:β}{F B:List β}
end
section
variable{β:Type}{p:Prop}[Decidable p]{x:β}
end
def r6(l:List Pt):Prop:=2<=(l.length:Int)/\qW l
instance (l:List Pt):Decidable (r6 l):=by unfold r6;infer_instance
def pD(g:bF)(p:iC)(e:Int):Prop:=gI (gI p.2 e) 0=gI p.1 (gI g.2 e).1/\gI (gI p.2 e) (((gI p.2 e).length:Int)-1)=gI p.1 (gI g.2 e).2
instance (g:bF)(p:iC)(e:Int):Decidable (pD g p e):=by unfold pD;infer_instance
def pG(l:List Pt)(q:Pt):Prop:=∃s∈mP l (l.length-1),mW s.1 s.2 q
instance (l:List Pt)(q:Pt):Decidable (pG l q):=by unfold pG;infer_instance
def nr(s t:Sg)(but:List Pt):Prop:=fS s.1 s.2 t.1 t.2=0\/(fS s.1 s.2 t.1 t.2=1\/fS s.1 s.2 t.1 t.2=2)/\∃x∈but,jL s.1 s.2 t.1 t.2 x
instance (s t:Sg)(but:List Pt):Decidable (nr s t but):=by unfold nr;infer_instance
def qr(a b but:List Pt):Prop:=∀s∈mP a (a.length-1),∀t∈mP b (b.length-1),nr s t but
instance (a b but:List Pt):Decidable (qr a b but):=by unfold qr;infer_instance
section
variable{g:bF}{p:iC}
end
end TL
namespace TL
section
variable{l:List Pt}{p:Pt}{i:Nat}
end
section
variable{a b c d:Pt}{but:List Pt}{k:Nat}{m:Int}
end
def r5(p:iC)(h:Int):Pt:=if h%2=0 then gI (gI p.2 (h/2)) 1 else gI (gI p.2 (h/2)) (((gI p.2 (h/2)).length:Int)-2)
def qU(u v:Pt):Int:=u.1*v.1+u.2*v.2
def nv(u v:Pt):Prop:=qQ u v=0/\0<qU u v
instance (u v:Pt):Decidable (nv u v):=by unfold nv;infer_instance
end TL
namespace TL
end TL
namespace TL
section
variable{g:bF}{p:iC}{F G B:List rc}{v e k i:Nat}
end
section
variable{g:bF}{p:iC}{e f:Int}
end
section
variable{a b but:List Pt}{i k:Nat}
end
section
variable{g:bF}{p:iC}{e f:Nat}{b:Bool}
end
end TL
/-
  TlFloat: floating numbers that are no NaN and have no sign: their bits, as a natural number, stand as they do; sums, roots and quotients of such.
  By an AI agent.
-/
set_option linter.all false
namespace TL
open Ieee
def pl(x:Nat):Nat:=x/4503599627370496-1
end TL
/-
  TlFl: floating numbers in a walk: what each operation comes to.
  By an AI agent.
-/
set_option linter.all false
namespace TL
open Go
instance:Rp Nat where
 sz:=1
 rep _ _ _ cs x:=cs=[.float .f64 x]
 len h:=by subst h;rfl
 one h:=by subst h;simp[Value.oneCell']
 tr _ _ h:=h
instance:Fl Nat where
 cells x:=[.float .f64 x]
 rep_iff:=Iff.rfl
section
variable{P:Program}{f:Fr}{w:World}{dst:Option Tmp}{ty:TypeId}{pos:String}{after:Array Edge}{g:Option (Nat×Bool)}{t t' s d:TypeId}{x y:Operand}{a b r:Nat}
variable{N:Value->World->Prop}
end
end TL
/-
  TlJudge2: what is told of a plot; its rotation.
  By an AI agent.
-/
set_option linter.all false
namespace TL
section
variable{p:iC}{l:List Pt}{a b:Bool}{i k:Nat}
end
section
variable{g:bF}{p:iC}
end
def qM(p:iC)(l:List Int):List Pt:=l.map (r5 p)
def qa(p:iC)(o:Pt)(l:List Int):Prop:=∃j:Nat,j<l.length/\0<j/\nv (qE (gI (qM p l) (gI (arL o (qM p l)) ((j:Int)-1))) o) (qE (gI (qM p l) (gI (arL o (qM p l)) (j:Int))) o)
noncomputable instance (p:iC) (o:Pt) (l:List Int):Decidable (qa p o l):=by unfold qa;infer_instance
def qL(g:bF)(p:iC):Prop:=∃v:Nat,v<g.1.toNat/\qa p (gI p.1 (v:Int)) (e8 g (v:Int))
noncomputable instance (g:bF) (p:iC):Decidable (qL g p):=by unfold qL;infer_instance
end TL
/-
  TlZf: weights: floating numbers that are at least 0, of either sign of 0: in sums and comparisons such a one stands for its magnitude (zf).
  By an AI agent.
-/
set_option linter.all false
namespace TL
open Ieee
def zf(x:Nat):Nat:=x%9223372036854775808
open Go
end TL
/-
  TlPq: a heap of places (how far, which node), as container/heap keeps it: what is taken is the least, and nothing else is lost.
  By an AI agent.
-/
set_option linter.all false
namespace TL
abbrev Pl:=Nat×Int
def qO(a b:Pl):Prop:=a.1<b.1\/a.1=b.1/\a.2<b.2
instance (a b:Pl):Decidable (qO a b):=by unfold qO;infer_instance
def qN(xs:List Pl)(i:Nat):Pl:=gI xs (i:Int)
def rf(xs:List Pl)(i j:Nat):List Pl:=(xs.set i (qN xs j)).set j (qN xs i)
def up:Nat->List Pl->Nat->List Pl
 |0,xs,_=>xs
 |k+1,xs,j=>if(j-1)/2=j\/¬qO (qN xs j) (qN xs ((j-1)/2)) then xs else up k (rf xs ((j-1)/2) j) ((j-1)/2)
end TL
namespace TL
end TL
/-
  TlWay: ways of the least weight (package path): what From tells, as the document does it (the nearest node that is not settled, again and again), and that a heap of waiting nodes finds the same.
  By an AI agent.
-/
set_option linter.all false
namespace TL
abbrev FS:=List Nat×List Int
-- what is picked
-- once all are settled no more rounds matter
end TL
namespace TL
end TL
/-
  TlDfs: components found by a stack: the document's way.
  By an AI agent.
-/
set_option linter.all false
namespace TL
theorem dM{g:bF}{v:Int}(h0:0<=v)(h1:v<g.1):gI (aT g) v=e8 g v:=by
 unfold aT gI
 have:v.toNat<g.1.toNat:=by omega
 simp[List.getD_eq_getElem?_getD,this]
 congr 1
 omega
section
variable{g:bF}{c0 c todo x:List Int}{n s:Int}
variable{v:Int}{k M:Nat}
end
end TL
