/- Plain texts of this claim, part 1. By an AI agent. -/
import Derived.Test.YtmaclbnodbcniaaFmTlP0
import Derived.Carry
import Derived.Deep.Slices
import Derived.Laws.Externs
import Derived.Laws.FloatArith
import Derived.Laws.FloatBits
import Derived.Laws.NewFold
import Derived.Laws.StructEq
import Derived.Lib.SmallJoins
import Derived.OrdersHeld
/-
  TlDraw: regions that draw their order, taken operation by operation.
  By an AI agent.
-/
set_option linter.all false
namespace TL
open Go
def bO(n:Nat)(done:List Nat):Array Bool:=((List.range n).map λi=>decide (i∈done)).toArray
theorem cH(n:Nat)(done:List Nat)(j:Nat)(d:Bool):(bO n done).getD j d=if j<n then decide (j∈done) else d:=by
 unfold bO
 by_cases h:j<n
 · simp[h]
 · simp[h]
theorem cG{n i:Nat}(done:List Nat)(hi:i<n):(bO n done).setIfInBounds i true=bO n (i::done):=by
 apply Array.ext
 · simp[bO]
 · intro j h1 h2
   have hj:j<n:=by simpa[bO] using h2
   simp only[bO]
   by_cases hij:i=j
   · subst hij;simp
   · have:¬j=i:=λh=>hij h.symm
     simp[Array.getElem_setIfInBounds,hij,this]
section
variable{P:Program}{ops:Array Oper}{Q:Exit->Act->World->Prop}{md:Region.Mode}{qs:Nat->Bool}
def jH(P:Program)(md:Region.Mode)(ops:Array Oper)(qs:Nat->Bool)(Q:Exit->Act->World->Prop):Nat->Array Bool->Act->World->Prop
  |0,listed,a,w=>Region.ready md ops listed=[]/\Q .normal a w
  |fuel+1,listed,a,w=>(Region.ready md ops listed=[]->Q .normal a w)/\
    ∀i∈Region.ready md ops listed,if qs i then stOp P ops w i (λa'=>jH P md ops qs Q fuel (listed.setIfInBounds i true) a' w) a
      else wpOp P ops Q i (jH P md ops qs Q fuel (listed.setIfInBounds i true)) a w
theorem eG:∀(fuel:Nat) (listed:Array Bool) (a:Act) (w:World),jH P md ops qs Q fuel listed a w->wpAny P md ops Q fuel listed a w
 |0,_,_,_,h=>h
 |fuel+1,listed,a,w,h=>by
   refine⟨h.1,λi hi=>?_⟩
   have h2:=h.2 i hi
   cases hq:qs i with
   |true=>
     simp only[hq,if_true] at h2
     exact wpOp_of_stOp (λa' h'=>eG fuel _ a' w h') h2
   |false=>
     simp only[hq,Bool.false_eq_true,if_false] at h2
     exact wpOp_mono (λa' w' h'=>eG fuel _ a' w' h') h2
theorem mm{i:Nat}{oi:Oper}{v:Value}{w:World}{M D:Array Bool}(hi:ops[i]? =some oi)(hsel:∀(j:Nat) (o:Oper) cs b,ops[j]? =some o->o.op≠ .select cs b)(hqi:qs i=true)
    (hM:∀j oj,ops[j]? =some oj->M.getD j false=false->j≠i->∃e∈oj.after,Region.binds md e=true/\M.getD e.on false=false)
    (hMq:∀j oj,ops[j]? =some oj->M.getD j false=true->D.getD j true=false->j≠i->qs j=true):
    ∀(fuel:Nat) (listed:Array Bool) (a:Act),listed.size=ops.size->(∀j,listed.getD j false=true->M.getD j false=true)->(∀j,listed.getD j true=false->D.getD j true=false)->
      (∀j oj,ops[j]? =some oj->j≠i->listed.getD j true=false->(∀e∈oj.after,Region.binds md e=true->e.on≠i)->oi.apart ops oj=true)->
      i∈Region.ready md ops listed->YieldsAt P ops w oi v a->
      jH P md ops qs Q fuel (listed.setIfInBounds i true) (a.put oi.dst v) w->jH P md ops qs Q (fuel+1) listed a w:=by
  intro fuel
  induction fuel with
  |zero=>
    intro listed a _ _ _ _ hr hy H
    refine⟨λh=>(by rw[h] at hr;cases hr),λj hj=>?_⟩
    by_cases hji:j=i
    · subst hji;rw[if_pos hqi];exact hy.stOp hi H
    · have:=ready_mono hj hji
      rw[H.1] at this
      cases this
  |succ fuel ih=>
    intro listed a hsz hsub hD hfree hr hy H
    refine⟨λh=>(by rw[h] at hr;cases hr),λj hj=>?_⟩
    by_cases hji:j=i
    · subst hji;rw[if_pos hqi];exact hy.stOp hi H
    · obtain⟨hjun,oj,hoj,hall⟩:=mem_ready.1 hj
      have hMj:M.getD j false=true:=by
        cases hm:M.getD j false with
        |true=>rfl
        |false=>
          obtain⟨e,he,hb,hn⟩:=hM j oj hoj hm hji
          have:=hsub _ (hall e he hb)
          rw[hn] at this;cases this
      have hqj:=hMq j oj hoj hMj (hD j hjun) hji
      have h1:=H.2 j (ready_mono hj hji)
      rw[if_pos hqj] at h1 ⊢
      have hnot:∀e∈oj.after,Region.binds md e=true->e.on≠i:=λe he hb heq=>by
        have h1:=hall e he hb
        have h0:=(mem_ready.1 hr).1
        rw[heq] at h1
        rw[getD_both h0] at h1
        cases h1
      have h2:=stOp_put hoj (hfree j oj hoj hji hjun hnot) (λcs b=>hsel i oi cs b hi) (λcs b=>hsel j oj cs b hoj) hy h1
      have hfree':∀k ok,ops[k]? =some ok->k≠i->(listed.setIfInBounds j true).getD k true=false->
          (∀e∈ok.after,Region.binds md e=true->e.on≠i)->oi.apart ops ok=true:=λk ok hk hki hun hno=>by
        refine hfree k ok hk hki ?_ hno
        by_cases hjk:j=k
        · subst hjk;exact hjun
        · rw[getD_set_ne true hjk] at hun;exact hun
      have hsub':∀k,(listed.setIfInBounds j true).getD k false=true->M.getD k false=true:=λk hk=>by
        by_cases hjk:j=k
        · subst hjk;exact hMj
        · rw[getD_set_ne false hjk] at hk;exact hsub k hk
      have hD':∀k,(listed.setIfInBounds j true).getD k true=false->D.getD k true=false:=λk hk=>by
        by_cases hjk:j=k
        · subst hjk;exact hD j hjun
        · rw[getD_set_ne true hjk] at hk;exact hD k hk
      refine stOp_mono (λa' h3=>ih (listed.setIfInBounds j true) a' (by simpa using hsz) hsub' hD' hfree' (ready_mono hr (Ne.symm hji)) h3.1 ?_) h2
      rw[Array.setIfInBounds_comm _ _ hji]
      exact h3.2
def aI{α:Type}(s:Sem α):Prop:=∀(P:Program) (w:World) (x:α) (w':World),s.run P w= .ok x w'->dC w.heap.size w w'
theorem aI.bind{α β:Type}{s:Sem α}{f:α->Sem β}(h:aI s)(hf:∀a,aI (f a)):aI (s>>=f):=by
 intro P w x w' hr
 rw[Sem.run_bind] at hr
 cases h1:s.run P w with
 |halt e w1=>rw[h1] at hr;cases hr
 |ok a w1=>
   rw[h1] at hr
   have k1:=h P w a w1 h1
   have k2:=hf a P w1 x w' hr
   exact k1.trans (k2.mono k1.size)
theorem aI.pure{α:Type}(a:α):aI (Pure.pure a:Sem α):=λP w x w' h=>by
 simp only[Sem.run_pure] at h
 cases h;exact dC.refl _ _
theorem aI.halt{α:Type}(e:Halt):aI (Sem.halt e:Sem α):=λP w x w' h=>by cases h
theorem aI.stuck{α:Type}(e:String):aI (Go.stuck e:Sem α):=aI.halt _
theorem aI.unsupported{α:Type}(e:Unsupported):aI (Go.unsupported e:Sem α):=aI.halt _
theorem aI.program:aI Go.program:=λP w x w' h=>by
 simp only[run_program] at h
 cases h;exact dC.refl _ _
theorem aI.new(o:Obj):aI (newObj o):=λP w x w' h=>by
 simp only[run_newObj] at h
 cases h
 exact(dC.refl _ w).alloc (Nat.le_refl _) o
theorem aI.typeInfo(t:TypeId):aI (Go.typeInfo t):=aI.bind aI.program λp=>by
 cases p.info? t with
 |some i=>exact aI.pure i
 |none=>exact aI.stuck _
theorem aI.underlying(t:TypeId):aI (Go.underlying t):=aI.bind aI.program λp=>by
 cases p.underlying t with
 |some i=>exact aI.pure i
 |none=>exact aI.stuck _
theorem aI.sizeOf(t:TypeId):aI (Go.sizeOf t):=aI.bind (aI.typeInfo t) λi=>aI.pure _
theorem aI.zeroValue(t:TypeId):aI (Go.zeroValue t):=aI.bind (aI.typeInfo t) λi=>by
 cases i.zero with
 |some v=>exact aI.pure v
 |none=>exact aI.unsupported _
theorem aI.newVar(t:TypeId)(v:Value):aI (Go.newVar t v):=aI.bind (aI.new _) λ_=>aI.pure _
theorem ia(t:TypeId)(len:Nat)(parts:Array (Nat×Value)):aI (Instr.buildSlice t len parts):=by
 unfold Instr.buildSlice
 refine aI.bind (aI.underlying t) λd=>?_
 split
 · refine aI.bind (aI.sizeOf _) λsize=>?_
   have tail:∀(elem:TypeId) (zero:Array Value),aI (match Instr.fill (λi=>some (i*size,size)) ((Array.range (len*size)).map (zero[· %zero.size]!)) parts.toList with
       |some cells=>(do pure (Value.slice (some (<-newRow elem cells)) len len):Sem Value)
       |_=>Go.stuck "buildSlice: a part of the wrong size"):=λelem zero=>by
     split
     · exact aI.bind (aI.bind (aI.new _) λ_=>aI.pure _) λ_=>aI.pure _
     · exact aI.stuck _
   by_cases h1:len*size>2^24
   · simp only[h1,if_true]
     refine aI.bind (aI.unsupported _) λx=>?_
     by_cases h2:len*size=0
     · rw[if_pos h2]
       exact aI.bind (aI.pure _) λzero=>tail _ zero
     · simp only[h2,if_false]
       exact aI.bind (aI.zeroValue _) λ_=>aI.bind (aI.pure _) λzero=>tail _ zero
   · simp only[h1,if_false]
     by_cases h2:len*size=0
     · rw[if_pos h2]
       exact aI.bind (aI.pure _) λzero=>tail _ zero
     · simp only[h2,if_false]
       exact aI.bind (aI.zeroValue _) λ_=>aI.bind (aI.pure _) λzero=>tail _ zero
 · exact aI.stuck _
theorem oF{P:Program}{w w':World}{s:Sem Value}{nx:Next}(h:(do pure (Next.value (<-s)):Sem Next).run P w= .ok nx w'):∃u,nx= .value u:=by
 rw[Sem.run_bind] at h
 cases hs:s.run P w with
 |ok a w1=>rw[hs] at h;cases h;exact⟨a,rfl⟩
 |halt e w1=>rw[hs] at h;cases h
theorem aI.load(a:Addr)(m:Mode):aI (Go.load a m):=λP w x w' h=>by
 simp only[Go.load,Sem.run] at h
 split at h
 · cases h;exact dC.refl _ _
 · split at h
   · cases h;exact dC.refl _ _
   · cases h
theorem aI.cells(a:Addr):∀(n i:Nat) (acc:Array Value),aI (loadCellsFrom a i n acc)
 |0,_,_=>aI.pure _
 |n+1,i,_=>aI.bind (aI.load _ _) λ_=>aI.cells a n (i+1) _
theorem aI.isAgg(t:TypeId):aI (Go.isAgg t):=aI.bind (aI.underlying t) λd=>by
 split<;>exact aI.pure _
theorem aI.error{α:Type}(m:String):aI (runtimePanic (.error m):Sem α):=aI.bind aI.program λp=>aI.halt _
theorem aI.asIntOf(v:Value):aI (Go.asIntOf v):=by
 unfold Go.asIntOf
 split
 · exact aI.pure _
 · exact aI.unsupported _
 · exact aI.stuck _
theorem aI.asInt(v:Value):aI (Go.asInt v):=aI.bind (aI.asIntOf v) λ_=>aI.pure _
theorem aI.choose(q:Question):aI (Go.choose q):=λP w x w' h=>by
 simp only[Go.choose,Sem.run] at h
 split at h
 · cases h;exact dC.refl _ _
 · cases h;exact⟨rfl,rfl,rfl,Nat.le_refl _,λ_ _=>rfl,Nat.le_succ _⟩
theorem aI.room(n:Nat):aI (askRoom n):=λP w x w' h=>by
 unfold askRoom at h
 split at h
 · simp only[Go.mark,Sem.run] at h
   cases h;exact⟨rfl,rfl,rfl,Nat.le_refl _,λ_ _=>rfl,Nat.le_refl _⟩
 · cases h;exact dC.refl _ _
theorem ko(t:TypeId)(a:Value):aI (Instr.loadAt t a):=by
 unfold Instr.loadAt
 refine aI.bind ?_ λb=>?_
 · unfold Instr.sureAddr
   split
   · exact aI.pure _
   · exact aI.stuck _
 · unfold loadVar
   refine aI.bind (aI.isAgg t) λc=>?_
   split
   · exact aI.bind (aI.sizeOf t) λn=>aI.bind (aI.cells _ _ _ _) λ_=>aI.pure _
   · exact aI.load _ _
theorem iz(t:TypeId)(a b:Value):aI (Instr.makeSlice t a b):=by
 unfold Instr.makeSlice
 refine aI.bind (aI.underlying t) λd=>?_
 split
 · refine aI.bind (aI.asInt _) λl=>aI.bind (aI.asInt _) λc=>aI.bind (aI.typeInfo _) λi=>?_
   have tail:∀(c:Int) (l:Int) (elem:TypeId),aI (do
       let n:=c.toNat*(<-sizeOf elem)
       let zero<-if n=0 then pure #[] else do pure (<-zeroValue elem).cells
       let a<-newRow elem ((Array.range n).map (zero[· %zero.size]!))
       pure (Value.slice (some a) l.toNat c.toNat)):=λc l elem=>by
     refine aI.bind (aI.sizeOf _) λn=>?_
     have last:∀zero:Array Value,aI (do
       let a<-newRow elem ((Array.range (c.toNat*n)).map (zero[· %zero.size]!))
       pure (Value.slice (some a) l.toNat c.toNat)):=λzero=>aI.bind (aI.bind (aI.new _) λ_=>aI.pure _) λ_=>aI.pure _
     by_cases h:c.toNat*n=0
     · simp only[h,if_true]
       have:=last #[]
       simp only[h] at this
       exact aI.bind (aI.pure _) λ_=>aI.bind (aI.bind (aI.new _) λ_=>aI.pure _) λ_=>aI.pure _
     · simp only[h,if_false]
       exact aI.bind (aI.zeroValue _) λ_=>aI.bind (aI.pure _) λz=>last z
   dsimp only
   repeat' (first
     |exact aI.error _
     |exact aI.choose _
     |exact aI.room _
     |exact tail _ _ _
     |exact aI.pure _
     |refine aI.bind ?_ λ_=>?_
     |split)
 · exact aI.stuck _
def fj:Op->Bool
 | .alloc _| .box .. | .buildSlice .. | .load .. | .makeSlice .. =>true
 |_=>false
theorem mg{ρ:Operand->Value}{o:Oper}(h:fj o.op=true):aI (execOp ρ o):=by
 obtain⟨dst,op,ty,pos,after,g⟩:=o
 cases op<;>simp only[fj,Bool.false_eq_true] at h
 case alloc e=>exact aI.bind (aI.bind (aI.zeroValue _) λ_=>aI.bind (aI.newVar _ _) λ_=>aI.pure _) λ_=>aI.pure _
 case box e x=>exact aI.bind (aI.bind (aI.newVar _ _) λ_=>aI.pure _) λ_=>aI.pure _
 case buildSlice t n ps=>exact aI.bind (ia _ _ _) λ_=>aI.pure _
 case load t a=>exact aI.bind (ko _ _) λ_=>aI.pure _
 case makeSlice t a b=>exact aI.bind (iz _ _ _) λ_=>aI.pure _
theorem nu{i:Nat}{oi:Oper}{v:Value}{w0:World}{M D:Array Bool}(hi:ops[i]? =some oi)(hsel:∀(j:Nat) (o:Oper) cs b,ops[j]? =some o->o.op≠ .select cs b)(hqi:qs i=true)
    (hQ:∀c a w,Q (.panic c) (a.put oi.dst v) w->Q (.panic c) a w)
    (hM:∀j oj,ops[j]? =some oj->M.getD j false=false->j≠i->∃e∈oj.after,Region.binds md e=true/\M.getD e.on false=false)
    (hMq:∀j oj,ops[j]? =some oj->M.getD j false=true->D.getD j true=false->j≠i->qs j=true\/fj oj.op=true):
    ∀(fuel:Nat) (listed:Array Bool) (a:Act) (w:World),dC w0.heap.size w0 w->(∀j,listed.getD j false=true->M.getD j false=true)->(∀j,listed.getD j true=false->D.getD j true=false)->
      (∀j oj,ops[j]? =some oj->j≠i->listed.getD j true=false->(∀e∈oj.after,Region.binds md e=true->e.on≠i)->oi.apart ops oj=true)->
      i∈Region.ready md ops listed->(∀w,dC w0.heap.size w0 w->YieldsAt P ops w oi v a)->
      jH P md ops qs Q fuel (listed.setIfInBounds i true) (a.put oi.dst v) w->jH P md ops qs Q (fuel+1) listed a w:=by
  intro fuel
  induction fuel with
  |zero=>
    intro listed a w hw _ _ _ hr hy H
    refine⟨λh=>(by rw[h] at hr;cases hr),λj hj=>?_⟩
    by_cases hji:j=i
    · subst hji;rw[if_pos hqi];exact(hy w hw).stOp hi H
    · have:=ready_mono hj hji
      rw[H.1] at this
      cases this
  |succ fuel ih=>
    intro listed a w hw hsub hD hfree hr hy H
    refine⟨λh=>(by rw[h] at hr;cases hr),λj hj=>?_⟩
    by_cases hji:j=i
    · subst hji;rw[if_pos hqi];exact(hy w hw).stOp hi H
    · obtain⟨hjun,oj,hoj,hall⟩:=mem_ready.1 hj
      have hMj:M.getD j false=true:=by
        cases hm:M.getD j false with
        |true=>rfl
        |false=>
          obtain⟨e,he,hb,hn⟩:=hM j oj hoj hm hji
          have:=hsub _ (hall e he hb)
          rw[hn] at this;cases this
      have hqj:=hMq j oj hoj hMj (hD j hjun) hji
      have h1:=H.2 j (ready_mono hj hji)
      have hnot:∀e∈oj.after,Region.binds md e=true->e.on≠i:=λe he hb heq=>by
        have h1:=hall e he hb
        have h0:=(mem_ready.1 hr).1
        rw[heq] at h1
        rw[getD_both h0] at h1
        cases h1
      have hap:=hfree j oj hoj hji hjun hnot
      have hfree':∀k ok,ops[k]? =some ok->k≠i->(listed.setIfInBounds j true).getD k true=false->
          (∀e∈ok.after,Region.binds md e=true->e.on≠i)->oi.apart ops ok=true:=λk ok hk hki hun hno=>by
        refine hfree k ok hk hki ?_ hno
        by_cases hjk:j=k
        · subst hjk;exact hjun
        · rw[getD_set_ne true hjk] at hun;exact hun
      have hsub':∀k,(listed.setIfInBounds j true).getD k false=true->M.getD k false=true:=λk hk=>by
        by_cases hjk:j=k
        · subst hjk;exact hMj
        · rw[getD_set_ne false hjk] at hk;exact hsub k hk
      have hD':∀k,(listed.setIfInBounds j true).getD k true=false->D.getD k true=false:=λk hk=>by
        by_cases hjk:j=k
        · subst hjk;exact hD j hjun
        · rw[getD_set_ne true hjk] at hk;exact hD k hk
      obtain⟨g1,g2,g3⟩:=Oper.apart_spec hap
      have keep:∀u w,dC w0.heap.size w0 w->YieldsAt P ops w oi v (a.put oj.dst u):=λu w hw=>
        (hy w hw).of_same (execOp_put oi (λcs b=>hsel i oi cs b hi) a oj.dst u g3) (wanted_put oi a oj.dst u g3)
      cases hqj':qs j with
      |true=>
        simp only[hqj',if_true] at h1 ⊢
        obtain⟨u,hyu,hK⟩:=yieldsAt_of_stOp hoj h1
        have hyj:YieldsAt P ops w oj u a:=by
          rcases hyu with⟨k1,k2⟩|⟨k1,k2⟩
          · refine .inl ⟨by rw[<-wanted_put oj a oi.dst v g1];exact k1,?_⟩
            rw[execOp_put oj (λcs b=>hsel j oj cs b hoj) a oi.dst v g1] at k2
            exact k2
          · exact .inr ⟨by rw[<-wanted_put oj a oi.dst v g1];exact k1,k2⟩
        refine hyj.stOp hoj (ih (listed.setIfInBounds j true) (a.put oj.dst u) w hw hsub' hD' hfree' (ready_mono hr (Ne.symm hji)) (keep u) ?_)
        rw[<-Act.put_comm a v u g2,Array.setIfInBounds_comm _ _ hji]
        exact hK
      |false=>
        have hkk:=hqj.resolve_left (by rw[hqj'];simp)
        simp only[hqj',Bool.false_eq_true,if_false] at h1 ⊢
        unfold wpOp at h1 ⊢
        simp only[hoj] at h1 ⊢
        rw[wanted_put oj a oi.dst v g1] at h1
        cases hwt:Region.wanted oj (yielded ops a.tmps) with
        |false=>
          simp only[hwt,Bool.false_eq_true,if_false] at h1 ⊢
          refine ih (listed.setIfInBounds j true) (a.put oj.dst undef) w hw hsub' hD' hfree' (ready_mono hr (Ne.symm hji)) (keep undef) ?_
          rw[<-Act.put_comm a v undef g2,Array.setIfInBounds_comm _ _ hji]
          exact h1
        |true=>
          simp only[hwt,if_true] at h1 ⊢
          have hke:=mg (ρ:=a.eval) hkk P w
          rcases h1 with h1|⟨h1,h2⟩
          · left
            unfold Oper.wp at h1 ⊢
            rw[execOp_put oj (λcs b=>hsel j oj cs b hoj) a oi.dst v g1] at h1
            obtain⟨dst,op,ty,pos,after,gd⟩:=oj
            cases hrun:(execOp a.eval ⟨dst,op,ty,pos,after,gd⟩).run P w with
            |halt x w'=>
              rw[hrun] at h1
              cases x<;>simp only[Oper.upon] at h1 ⊢
              case panic u=>exact hQ _ _ _ h1
            |ok nx w'=>
              rw[hrun] at h1
              have hb:=hke nx w' hrun
              have hw':dC w0.heap.size w0 w':=hw.trans (hb.mono hw.size)
              -- these operations yield values alone
              have hval:∃u,nx= .value u:=by
                cases op<;>simp only[fj,Bool.false_eq_true] at hkk
                all_goals exact oF hrun
              obtain⟨u,rfl⟩:=hval
              simp only[Oper.upon] at h1 ⊢
              refine ih (listed.setIfInBounds j true) (a.put dst u) w' hw' hsub' hD' hfree' (ready_mono hr (Ne.symm hji)) (keep u) ?_
              have h3:=h1
              rw[show(a.put oi.dst v).put dst u=(a.put dst u).put oi.dst v from Act.put_comm a v u g2,Array.setIfInBounds_comm _ _ (Ne.symm hji)] at h3
              exact h3
          · right
            refine⟨?_,h2⟩
            unfold Oper.asks at*
            rw[execOp_put oj (λcs b=>hsel j oj cs b hoj) a oi.dst v g1] at h1
            exact h1
theorem ny{i:Nat}{oi:Oper}{v:Value}(hi:ops[i]? =some oi)(hsel:∀(j:Nat) (o:Oper) cs b,ops[j]? =some o->o.op≠ .select cs b)(hqi:qs i=true)
    (hQ:∀c a w,Q (.panic c) (a.put oi.dst v) w->Q (.panic c) a w):
    ∀(fuel:Nat) (listed:Array Bool) (a:Act) (w:World),
      (∀j oj,ops[j]? =some oj->j≠i->listed.getD j true=false->(∀e∈oj.after,Region.binds md e=true->e.on≠i)->oi.apart ops oj=true)->
      i∈Region.ready md ops listed->Yields P ops oi v a->
      jH P md ops qs Q fuel (listed.setIfInBounds i true) (a.put oi.dst v) w->jH P md ops qs Q (fuel+1) listed a w:=by
  have hat:∀{a:Act} {w:World},Yields P ops oi v a->YieldsAt P ops w oi v a:=λ {a w} hy=>by
    rcases hy with⟨h1,h2⟩|⟨h1,h2⟩
    · exact .inl ⟨h1,.inl (h2 w)⟩
    · exact .inr ⟨h1,h2⟩
  intro fuel
  induction fuel with
  |zero=>
    intro listed a w _ hr hy H
    refine⟨λh=>(by rw[h] at hr;cases hr),λj hj=>?_⟩
    by_cases hji:j=i
    · subst hji;rw[if_pos hqi];exact(hat hy).stOp hi H
    · have:=ready_mono hj hji
      rw[H.1] at this
      cases this
  |succ fuel ih=>
    intro listed a w hfree hr hy H
    refine⟨λh=>(by rw[h] at hr;cases hr),λj hj=>?_⟩
    by_cases hji:j=i
    · subst hji;rw[if_pos hqi];exact(hat hy).stOp hi H
    · obtain⟨hjun,oj,hoj,hall⟩:=mem_ready.1 hj
      have h1:=H.2 j (ready_mono hj hji)
      have hnot:∀e∈oj.after,Region.binds md e=true->e.on≠i:=λe he hb heq=>by
        have h1:=hall e he hb
        have h0:=(mem_ready.1 hr).1
        rw[heq] at h1
        rw[getD_both h0] at h1
        cases h1
      have hap:=hfree j oj hoj hji hjun hnot
      have hfree':∀k ok,ops[k]? =some ok->k≠i->(listed.setIfInBounds j true).getD k true=false->
          (∀e∈ok.after,Region.binds md e=true->e.on≠i)->oi.apart ops ok=true:=λk ok hk hki hun hno=>by
        refine hfree k ok hk hki ?_ hno
        by_cases hjk:j=k
        · subst hjk;exact hjun
        · rw[getD_set_ne true hjk] at hun;exact hun
      cases hqj:qs j with
      |true=>
        simp only[hqj,if_true] at h1 ⊢
        -- a step that leaves the world
        have hy':=hy
        obtain⟨g1,g2,g3⟩:=Oper.apart_spec hap
        have keep:∀(a:Act),Yields P ops oi v a->∀u,Yields P ops oi v (a.put oj.dst u):=λa hy u=>
          hy.of_same (execOp_put oi (λcs b=>hsel i oi cs b hi) a oj.dst u g3) (wanted_put oi a oj.dst u g3)
        obtain⟨u,hyu,hK⟩:=yieldsAt_of_stOp hoj h1
        have hyj:YieldsAt P ops w oj u a:=by
          rcases hyu with⟨k1,k2⟩|⟨k1,k2⟩
          · refine .inl ⟨by rw[<-wanted_put oj a oi.dst v g1];exact k1,?_⟩
            rw[execOp_put oj (λcs b=>hsel j oj cs b hoj) a oi.dst v g1] at k2
            exact k2
          · exact .inr ⟨by rw[<-wanted_put oj a oi.dst v g1];exact k1,k2⟩
        refine hyj.stOp hoj (ih (listed.setIfInBounds j true) (a.put oj.dst u) w hfree' (ready_mono hr (Ne.symm hji)) (keep a hy u) ?_)
        rw[<-Act.put_comm a v u g2,Array.setIfInBounds_comm _ _ hji]
        exact hK
      |false=>
        simp only[hqj,Bool.false_eq_true,if_false] at h1 ⊢
        have h2:=wpOp_put hoj hap (λcs b=>hsel i oi cs b hi) (λcs b=>hsel j oj cs b hoj) hQ hy h1
        refine wpOp_mono (λa' w' h3=>ih (listed.setIfInBounds j true) a' w' hfree' (ready_mono hr (Ne.symm hji)) h3.1 ?_) h2
        rw[Array.setIfInBounds_comm _ _ hji]
        exact h3.2
end
section
variable{P:Program}{n:Nat}{l:List Oper}{qs:List Nat}{K:Fr->World->Prop}{f:Fr}{w:World}{done:List Nat}{fuel:Nat}
def hE(P:Program)(n:Nat)(l:List Oper)(qs:List Nat)(K:Fr->World->Prop)(fuel:Nat)(done:List Nat)(f:Fr)(w:World):Prop:=
  ∀a,Ag n a f->jH P .any l.toArray (λi=>decide (i∈qs)) (λe a' w'=>e= .normal/\∃f',Ag n a' f'/\K f' w') fuel (bO l.length done) a w
theorem aL{fid:Nat}{R:Ending->World->Prop}{k:List Item}{id:Nat}(γ:aG)(qs:List Nat)(hm:P.follows .mixedOrders=true)
   (h:∀w1,bZ no γ w γ w1->hE P n l qs (dT P fid n R k) l.length [] f w1):dT P fid n R (.code (.region id l.toArray true)::k) f w:=
 fS λa ha=>wp_region_any hm (by
   have h0:=eG _ _ _ _ (h _ (bZ.refl _ _ _).drew a ha)
   have hmask:bO l.length []=Array.replicate l.toArray.size false:=by
     apply Array.ext
     · simp[bO]
     · intro j h1 h2;simp[bO]
   rw[hmask] at h0
   simpa using h0)
theorem bS{fid:Nat}{R:Ending->World->Prop}{k:List Item}{id:Nat}{σ:Type}(Mid:σ->Fr->World->Prop)(γ:aG)(qs:List Nat)(hm:P.follows .mixedOrders=true)
    (h:(∀s f w,Mid s f w->dT P fid n R k f w)->∀w1,bZ no γ w γ w1->hE P n l qs (dT P fid n R k) l.length [] f w1)(hk:∀s f w,Mid s f w->dT P fid n R k f w):dT P fid n R (.code (.region id l.toArray true)::k) f w:=
  aL γ qs hm (h hk)
def eI(l:List Oper)(done:List Nat)(i:Nat):Bool:=
 !done.contains i&&match l[i]? with
   |some o=>o.after.all λe=> !Region.binds .any e||done.contains e.on&&decide (e.on<l.length)
   |none=>false
def g7(l:List Oper)(done:List Nat)(i:Nat):Bool:=
 match l[i]? with
 |none=>false
 |some oi=>(List.range l.length).all λj=>j==i||done.contains j||match l[j]? with
     |some oj=>oj.after.any (λe=>Region.binds .any e&&e.on==i)||oi.apart l.toArray oj
     |none=>true
def kJ(l:List Oper)(qs done M:List Nat)(i:Nat):Bool:=
  ((List.range l.length).all λj=>M.contains j||j==i||match l[j]? with
      |some oj=>oj.after.any λe=>Region.binds .any e&& !M.contains e.on
      |none=>true)&&
  (M.all λj=>j==i||done.contains j||qs.contains j)&&(done.all λj=>M.contains j&&decide (j<l.length))&&M.all λj=>decide (j<l.length)
def eU(l:List Oper):Bool:=Region.noSelect l.toArray
theorem ez{i:Nat}(h:eI l done i=true):i<l.length/\i∈Region.ready .any l.toArray (bO l.length done):=by
 unfold eI at h
 simp only[Bool.and_eq_true,Bool.not_eq_true'] at h
 obtain⟨h1,h2⟩:=h
 split at h2
 · rename_i o ho
   have hlt:i<l.length:=(List.getElem?_eq_some_iff.1 ho).1
   refine⟨hlt,mem_ready.2 ⟨by rw[cH];simp[hlt];simpa using h1,o,by simpa using ho,λe he hb=>?_⟩⟩
   have h3:=Array.all_eq_true_iff_forall_mem.1 h2 e he
   simp only[hb,Bool.not_true,Bool.false_or,Bool.and_eq_true,decide_eq_true_eq] at h3
   rw[cH,if_pos h3.2]
   simpa using h3.1
 · cases h2
theorem eY{i:Nat}{oi:Oper}(hi:l[i]? =some oi)(h:g7 l done i=true)(j:Nat)(oj:Oper)(hj:l.toArray[j]? =some oj)(hne:j≠i)(hun:(bO l.length done).getD j true=false)
   (hno:∀e∈oj.after,Region.binds .any e=true->e.on≠i):oi.apart l.toArray oj=true:=by
 have hj':l[j]? =some oj:=by simpa using hj
 have hlt:j<l.length:=(List.getElem?_eq_some_iff.1 hj').1
 unfold g7 at h
 simp only[hi,List.all_eq_true,List.mem_range] at h
 have h1:=h j hlt
 rw[cH,if_pos hlt] at hun
 have hd:done.contains j=false:=by simpa using hun
 simp only[hj',Bool.or_eq_true,beq_iff_eq,hne,false_or,hd,Bool.false_eq_true] at h1
 rcases h1 with h1|h1
 · obtain⟨e,he,hb⟩:=Array.any_eq_true'.1 h1
   simp only[Bool.and_eq_true,beq_iff_eq] at hb
   exact absurd hb.2 (hno e he hb.1)
 · exact h1
theorem gK(h:eU l=true):∀(j:Nat) (o:Oper) cs b,l.toArray[j]? =some o->o.op≠ .select cs b:=Region.noSelect_spec h
theorem ji{i:Nat}(h:qs.contains i=true):decide (i∈qs)=true:=by simpa using h
variable{dst:Option Tmp}{op:Op}{ty:TypeId}{pos:String}{after:Array Edge}{g:Option (Nat×Bool)}{v:Value}
theorem sM(i:Nat)(M:List Nat)(hi:l[i]? =some ⟨dst,op,ty,pos,after,g⟩)(hn:eU l=true)(hc:(qs.contains i&&eI l done i&&g7 l done i&&kJ l qs done M i&&iv n ⟨dst,op,ty,pos,after,g⟩)=true)
    (hw:cm l ⟨dst,op,ty,pos,after,g⟩ f=true)(h:(execOp (ev f) ⟨dst,op,ty,pos,after,g⟩).run P w= .ok (.value v) w)(hk:hE P n l qs K fuel (i::done) (ep f dst v) w):hE P n l qs K (fuel+1) done f w:=by
  simp only[Bool.and_eq_true] at hc
  obtain⟨⟨⟨⟨hq,hr⟩,hf⟩,hb⟩,hd⟩:=hc
  obtain⟨hlt,hr'⟩:=ez hr
  intro a ha
  unfold kJ at hb
  simp only[Bool.and_eq_true,List.all_eq_true,List.mem_range] at hb
  obtain⟨⟨⟨b1,b2⟩,b3⟩,b4⟩:=hb
  have hgM:∀j,(bO l.length M).getD j false=true↔j∈M:=λj=>by
    rw[cH]
    by_cases hjl:j<l.length
    · simp[hjl]
    · simp only[hjl,if_false,Bool.false_eq_true,false_iff]
      exact λhm=>hjl (by simpa using b4 j hm)
  refine mm (v:=v) (M:=bO l.length M) (D:=bO l.length done) (by simpa using hi) (gK hn) (ji hq) (λj oj hj hm hne=>?_) (λj oj hj hm hD hne=>?_) fuel _ a (by simp[bO]) (λj hj=>?_) (λj hj=>hj) (eY hi hf) hr' ?_ ?_
  · have hj':l[j]? =some oj:=by simpa using hj
    have hjl:j<l.length:=(List.getElem?_eq_some_iff.1 hj').1
    have h1:=b1 j hjl
    have hmM:M.contains j=false:=by
      cases hc:M.contains j with
      |false=>rfl
      |true=>have h9:=(hgM j).2 (by simpa using hc);rw[hm] at h9;cases h9
    simp only[hmM,hj',Bool.false_or,Bool.or_eq_true,beq_iff_eq,hne,false_or] at h1
    obtain⟨e,he,hbb⟩:=Array.any_eq_true'.1 h1
    simp only[Bool.and_eq_true,Bool.not_eq_true'] at hbb
    refine⟨e,he,hbb.1,?_⟩
    cases hc:(bO l.length M).getD e.on false with
    |false=>rfl
    |true=>
      have:=(hgM _).1 hc
      have h2:=hbb.2
      simp[this] at h2
  · have h1:=b2 j ((hgM j).1 hm)
    have hj':l[j]? =some oj:=by simpa using hj
    have hjl:j<l.length:=(List.getElem?_eq_some_iff.1 hj').1
    rw[cH,if_pos hjl] at hD
    have hd:done.contains j=false:=by simpa using hD
    simp only[Bool.or_eq_true,beq_iff_eq,hne,hd,false_or,Bool.false_eq_true] at h1
    exact ji h1
  · rw[cH] at hj
    split at hj
    · have h1:=b3 j (by simpa using hj)
      exact(hgM j).2 (by simpa using h1.1)
    · cases hj
  · refine .inl ⟨?_,.inl ?_⟩
    · rw[ha.yielded];exact hw
    · rw[ha.eval];exact h
  · rw[cG done hlt]
    exact hk _ (ha.put hd v)
def kT(l:List Oper)(qs done M:List Nat)(i:Nat):Bool:=
 ((List.range l.length).all λj=>M.contains j||j==i||match l[j]? with
     |some oj=>oj.after.any λe=>Region.binds .any e&& !M.contains e.on
     |none=>true)&&
 (M.all λj=>j==i||done.contains j||qs.contains j||match l[j]? with
     |some oj=>fj oj.op
     |none=>false)&&(done.all λj=>M.contains j&&decide (j<l.length))&&M.all λj=>decide (j<l.length)
theorem rW(i:Nat)(M:List Nat)(hi:l[i]? =some ⟨dst,op,ty,pos,after,g⟩)(hn:eU l=true)(hc:(qs.contains i&&eI l done i&&g7 l done i&&kT l qs done M i&&iv n ⟨dst,op,ty,pos,after,g⟩)=true)
    (hw:cm l ⟨dst,op,ty,pos,after,g⟩ f=true)(h:∀w',dC w.heap.size w w'->(execOp (ev f) ⟨dst,op,ty,pos,after,g⟩).run P w'= .ok (.value v) w')(hk:hE P n l qs K fuel (i::done) (ep f dst v) w):hE P n l qs K (fuel+1) done f w:=by
  simp only[Bool.and_eq_true] at hc
  obtain⟨⟨⟨⟨hq,hr⟩,hf⟩,hb⟩,hd⟩:=hc
  obtain⟨hlt,hr'⟩:=ez hr
  intro a ha
  unfold kT at hb
  simp only[Bool.and_eq_true,List.all_eq_true,List.mem_range] at hb
  obtain⟨⟨⟨b1,b2⟩,b3⟩,b4⟩:=hb
  have hgM:∀j,(bO l.length M).getD j false=true↔j∈M:=λj=>by
    rw[cH]
    by_cases hjl:j<l.length
    · simp[hjl]
    · simp only[hjl,if_false,Bool.false_eq_true,false_iff]
      exact λhm=>hjl (by simpa using b4 j hm)
  refine nu (v:=v) (w0:=w) (M:=bO l.length M) (D:=bO l.length done) (by simpa using hi) (gK hn) (ji hq) (λc a w h=>by cases h.1) (λj oj hj hm hne=>?_) (λj oj hj hm hD hne=>?_) fuel _ a w (dC.refl _ _) (λj hj=>?_) (λj hj=>hj) (eY hi hf) hr' (λw' hw'=>?_) ?_
  · have hj':l[j]? =some oj:=by simpa using hj
    have hjl:j<l.length:=(List.getElem?_eq_some_iff.1 hj').1
    have h1:=b1 j hjl
    have hmM:M.contains j=false:=by
      cases hc:M.contains j with
      |false=>rfl
      |true=>have h9:=(hgM j).2 (by simpa using hc);rw[hm] at h9;cases h9
    simp only[hmM,hj',Bool.false_or,Bool.or_eq_true,beq_iff_eq,hne,false_or] at h1
    obtain⟨e,he,hbb⟩:=Array.any_eq_true'.1 h1
    simp only[Bool.and_eq_true,Bool.not_eq_true'] at hbb
    refine⟨e,he,hbb.1,?_⟩
    cases hc:(bO l.length M).getD e.on false with
    |false=>rfl
    |true=>
      have:=(hgM _).1 hc
      have h2:=hbb.2
      simp[this] at h2
  · have h1:=b2 j ((hgM j).1 hm)
    have hj':l[j]? =some oj:=by simpa using hj
    have hjl:j<l.length:=(List.getElem?_eq_some_iff.1 hj').1
    rw[cH,if_pos hjl] at hD
    have hd:done.contains j=false:=by simpa using hD
    simp only[hj',Bool.or_eq_true,beq_iff_eq,hne,hd,false_or,Bool.false_eq_true] at h1
    rcases h1 with h1|h1
    · exact .inl (ji h1)
    · exact .inr h1
  · rw[cH] at hj
    split at hj
    · have h1:=b3 j (by simpa using hj)
      exact(hgM j).2 (by simpa using h1.1)
    · cases hj
  · refine .inl ⟨?_,.inl ?_⟩
    · rw[ha.yielded];exact hw
    · rw[ha.eval];exact h w' hw'
  · rw[cG done hlt]
    exact hk _ (ha.put hd v)
theorem sb(i:Nat)(hi:l[i]? =some ⟨dst,op,ty,pos,after,g⟩)(hn:eU l=true)(hc:(qs.contains i&&eI l done i&&g7 l done i&&iv n ⟨dst,op,ty,pos,after,g⟩)=true)
    (hw:cm l ⟨dst,op,ty,pos,after,g⟩ f=true)(h:∀w,(execOp (ev f) ⟨dst,op,ty,pos,after,g⟩).run P w= .ok (.value v) w)(hk:hE P n l qs K fuel (i::done) (ep f dst v) w):hE P n l qs K (fuel+1) done f w:=by
  simp only[Bool.and_eq_true] at hc
  obtain⟨⟨⟨hq,hr⟩,hf⟩,hd⟩:=hc
  obtain⟨hlt,hr'⟩:=ez hr
  intro a ha
  refine ny (v:=v) (by simpa using hi) (gK hn) (ji hq) (λc a w h=>by cases h.1) fuel _ a w (eY hi hf) hr' (.inl ⟨by rw[ha.yielded];exact hw,λw=>by rw[ha.eval];exact h w⟩) ?_
  rw[cG done hlt]
  exact hk _ (ha.put hd v)
theorem dY{i:Nat}{o:Oper}{a:Act}{K':Act->World->Prop}{Q:Exit->Act->World->Prop}{N:Value->World->Prop}(ha:Ag n a f)(hi:l[i]? =some o)(hw:cm l o f=true)(h:eH P o f w N)(hN:∀v w',N v w'->K' (a.put o.dst v) w'):wpOp P l.toArray Q i K' a w:=by
 unfold wpOp
 have hi':l.toArray[i]? =some o:=by simpa using hi
 simp only[hi']
 have hw':Region.wanted o (yielded l.toArray a.tmps)=true:=by rw[ha.yielded];exact hw
 simp only[hw',if_true]
 refine .inl ?_
 unfold Oper.wp
 rw[ha.eval]
 unfold eH at h
 generalize(execOp (ev f) o).run P w=r at*
 cases r with
 |halt x w'=>exact h.elim
 |ok nx w'=>
   cases nx<;>simp only[mL] at h<;>simp only[Oper.upon]
   case value v=>exact hN _ _ h
   case skip=>exact hN _ _ h
   case enter g args=>
     refine h.mono λe w'' he=>?_
     cases e with
     |returned v=>exact hN _ _ he
     |panicked c=>exact he.elim
     |outgrown=>exact he.elim
theorem aD(i:Nat)(hi:l[i]? =some ⟨dst,op,ty,pos,after,g⟩)(hc:(decide (Region.ready .any l.toArray (bO l.length done)=[i])&& !qs.contains i&&iv n ⟨dst,op,ty,pos,after,g⟩)=true)
    (hw:cm l ⟨dst,op,ty,pos,after,g⟩ f=true)(h:eH P ⟨dst,op,ty,pos,after,g⟩ f w (λv w'=>hE P n l qs K fuel (i::done) (ep f dst v) w')):hE P n l qs K (fuel+1) done f w:=by
  simp only[Bool.and_eq_true,decide_eq_true_eq,Bool.not_eq_true'] at hc
  obtain⟨⟨hr,hq⟩,hd⟩:=hc
  have hlt:i<l.length:=(List.getElem?_eq_some_iff.1 hi).1
  intro a ha
  refine⟨λh0=>(by rw[hr] at h0;cases h0),λj hj=>?_⟩
  rw[hr] at hj
  obtain rfl:j=i:=by simpa using hj
  have hq':decide (j∈qs)=false:=by simpa using hq
  simp only[hq',Bool.false_eq_true,if_false]
  refine dY ha hi hw h λv w' hk=>?_
  rw[cG done hlt]
  exact hk _ (ha.put hd v)
theorem cq(i j:Nat){dst':Option Tmp}{op':Op}{ty':TypeId}{pos':String}{after':Array Edge}{g':Option (Nat×Bool)}(hi:l[i]? =some ⟨dst,op,ty,pos,after,g⟩)(hj:l[j]? =some ⟨dst',op',ty',pos',after',g'⟩)
    (hc:(decide (Region.ready .any l.toArray (bO l.length done)=[i,j])&& !qs.contains i&& !qs.contains j&&iv n ⟨dst,op,ty,pos,after,g⟩&&iv n ⟨dst',op',ty',pos',after',g'⟩)=true)
    (hw:cm l ⟨dst,op,ty,pos,after,g⟩ f=true)(hw':cm l ⟨dst',op',ty',pos',after',g'⟩ f=true)
    (h:eH P ⟨dst,op,ty,pos,after,g⟩ f w (λv w'=>hE P n l qs K fuel (i::done) (ep f dst v) w'))(h':eH P ⟨dst',op',ty',pos',after',g'⟩ f w (λv w'=>hE P n l qs K fuel (j::done) (ep f dst' v) w')):hE P n l qs K (fuel+1) done f w:=by
  simp only[Bool.and_eq_true,decide_eq_true_eq,Bool.not_eq_true'] at hc
  obtain⟨⟨⟨⟨hr,hq⟩,hq2⟩,hd⟩,hd'⟩:=hc
  have hlt:i<l.length:=(List.getElem?_eq_some_iff.1 hi).1
  have hlt':j<l.length:=(List.getElem?_eq_some_iff.1 hj).1
  intro a ha
  refine⟨λh0=>(by rw[hr] at h0;cases h0),λk hk=>?_⟩
  rw[hr] at hk
  have hk':k=i\/k=j:=by simpa using hk
  rcases hk' with rfl|rfl
  · have hq':decide (k∈qs)=false:=by simpa using hq
    simp only[hq',Bool.false_eq_true,if_false]
    refine dY ha hi hw h λv w' hk=>?_
    rw[cG done hlt]
    exact hk _ (ha.put hd v)
  · have hq':decide (k∈qs)=false:=by simpa using hq2
    simp only[hq',Bool.false_eq_true,if_false]
    refine dY ha hj hw' h' λv w' hk=>?_
    rw[cG done hlt']
    exact hk _ (ha.put hd' v)
theorem bc(hr:decide (Region.ready .any l.toArray (bO l.length done)=[])=true)(h:K f w):hE P n l qs K 0 done f w:=λ_ ha=>⟨of_decide_eq_true hr,rfl,f,ha,h⟩
end
end TL
/-
  TlHold: regions that draw their order, where what is read stays: on the kit's OrdersHeld.
  By an AI agent.
-/
set_option linter.all false
namespace TL
open Go
section
variable{P:Program}{n:Nat}{l:List Oper}{S:World->Prop}{K:Fr->World->Prop}{f:Fr}{w:World}{done:List Nat}{fuel:Nat}
def nI(P:Program)(n:Nat)(l:List Oper)(S:World->Prop)(K:Fr->World->Prop)(fuel:Nat)(done:List Nat)(f:Fr)(w:World):Prop:=
  ∀a,Ag n a f->wpAnyH P .any l.toArray (λe a' w'=>e= .normal/\∃f',Ag n a' f'/\K f' w') S fuel (bO l.length done) a w
theorem bZ.same{J:cv->Prop}{γ γ':aG}{w w':World}(h:bZ J γ w γ' w'):bZ J γ w γ w':=⟨h.os,h.tape,h.output,h.size,λ_ _ _=>rfl,h.keep,h.drawn⟩
theorem gz{fid:Nat}{R:Ending->World->Prop}{k:List Item}{id:Nat}(γ:aG)(J:cv->Prop)(hm:P.follows .mixedOrders=true)
   (h:∀w1,bZ no γ w γ w1->nI P n l (λw'=>bZ J γ w1 γ w') (dT P fid n R k) l.length [] f w1):dT P fid n R (.code (.region id l.toArray true)::k) f w:=
 fS λa ha=>wp_region_held hm (by
   have h0:=h _ (bZ.refl _ _ _).drew a ha
   have hmask:bO l.length []=Array.replicate l.toArray.size false:=by
     apply Array.ext
     · simp[bO]
     · intro j h1 h2;simp[bO]
   rw[hmask] at h0
   simpa using h0)
theorem ie{fid:Nat}{R:Ending->World->Prop}{k:List Item}{id:Nat}{σ:Type}(Mid:σ->Fr->World->Prop)(γ:aG)(J:cv->Prop)(hm:P.follows .mixedOrders=true)
    (h:(∀s f w,Mid s f w->dT P fid n R k f w)->∀w1,bZ no γ w γ w1->nI P n l (λw'=>bZ J γ w1 γ w') (dT P fid n R k) l.length [] f w1)(hk:∀s f w,Mid s f w->dT P fid n R k f w):dT P fid n R (.code (.region id l.toArray true)::k) f w:=
  gz γ J hm (h hk)
variable{dst:Option Tmp}{op:Op}{ty:TypeId}{pos:String}{after:Array Edge}{g:Option (Nat×Bool)}{v:Value}
theorem dg(i:Nat)(hi:l[i]? =some ⟨dst,op,ty,pos,after,g⟩)(hn:eU l=true)(hc:(eI l done i&&g7 l done i&&iv n ⟨dst,op,ty,pos,after,g⟩)=true)
   (hw:cm l ⟨dst,op,ty,pos,after,g⟩ f=true)(hS:S w)(h:∀w,S w->(execOp (ev f) ⟨dst,op,ty,pos,after,g⟩).run P w= .ok (.value v) w)(hk:nI P n l S K fuel (i::done) (ep f dst v) w):nI P n l S K (fuel+1) done f w:=by
 simp only[Bool.and_eq_true] at hc
 obtain⟨⟨hr,hf⟩,hd⟩:=hc
 obtain⟨hlt,hr'⟩:=ez hr
 intro a ha
 refine wpAnyH_first (v:=v) (by simpa using hi) (gK hn) (λc a w h=>by cases h.1) fuel _ a w (eY hi hf) hr' (.inl ⟨by rw[ha.yielded];exact hw,λw hs=>by rw[ha.eval];exact h w hs⟩) hS ?_
 rw[cG done hlt]
 exact hk _ (ha.put hd v)
def rX(P:Program)(n:Nat)(l:List Oper)(S:World->Prop)(K:Fr->World->Prop)(fuel:Nat)(done:List Nat)(f:Fr)(w:World)(i:Nat):Prop:=
  ∃o,l[i]? =some o/\i<l.length/\(cm l o f=true/\iv n o=true/\eH P o f w (λv w'=>S w'/\nI P n l S K fuel (i::done) (ep f o.dst v) w'))
theorem dR(i:Nat)(hi:l[i]? =some ⟨dst,op,ty,pos,after,g⟩)(hc:iv n ⟨dst,op,ty,pos,after,g⟩=true)(hw:cm l ⟨dst,op,ty,pos,after,g⟩ f=true)
   (h:eH P ⟨dst,op,ty,pos,after,g⟩ f w (λv w'=>S w'/\nI P n l S K fuel (i::done) (ep f dst v) w')):rX P n l S K fuel done f w i:=
 ⟨_,hi,(List.getElem?_eq_some_iff.1 hi).1,hw,hc,h⟩
def qa(P:Program)(n:Nat)(l:List Oper)(S:World->Prop)(K:Fr->World->Prop)(fuel:Nat)(done:List Nat)(f:Fr)(w:World):List Nat->Prop
 |[]=>True
 |i::r=>rX P n l S K fuel done f w i/\qa P n l S K fuel done f w r
theorem qa.mem{L:List Nat}(h:qa P n l S K fuel done f w L):∀i∈L,rX P n l S K fuel done f w i:=by
 induction L with
 |nil=>intro i hi;cases hi
 |cons j r ih=>
   intro i hi
   rcases List.mem_cons.1 hi with rfl|hi
   · exact h.1
   · exact ih h.2 i hi
theorem dN(i:Nat)(L:List Nat)(hr:decide (Region.ready .any l.toArray (bO l.length done)=i::L)=true)(h:qa P n l S K fuel done f w (i::L)):nI P n l S K (fuel+1) done f w:=by
 have hr:=of_decide_eq_true hr
 intro a ha
 refine⟨λh0=>(by rw[hr] at h0;cases h0),λk hk=>?_⟩
 rw[hr] at hk
 obtain⟨o,hi,hlt,hw,hd,ho⟩:=h.mem k (by simpa using hk)
 obtain⟨dst,op,ty,pos,after,g⟩:=o
 refine dY ha hi hw ho λv w' hk=>⟨hk.1,?_⟩
 rw[cG done hlt]
 exact hk.2 _ (ha.put hd v)
theorem bL(i:Nat)(hi:l[i]? =some ⟨dst,op,ty,pos,after,g⟩)(hc:(decide (Region.ready .any l.toArray (bO l.length done)=[i])&&iv n ⟨dst,op,ty,pos,after,g⟩)=true)
   (hw:cm l ⟨dst,op,ty,pos,after,g⟩ f=true)(h:eH P ⟨dst,op,ty,pos,after,g⟩ f w (λv w'=>S w'/\nI P n l S K fuel (i::done) (ep f dst v) w')):nI P n l S K (fuel+1) done f w:=by
 simp only[Bool.and_eq_true] at hc
 exact dN i [] hc.1 ⟨dR i hi hc.2 hw h,trivial⟩
theorem dV(hr:decide (Region.ready .any l.toArray (bO l.length done)=[])=true)(h:K f w):nI P n l S K 0 done f w:=λ_ ha=>⟨of_decide_eq_true hr,rfl,f,ha,h⟩
end
end TL
namespace TL
open Go
end TL
/-
  TlNet: nets, and what layer 3 says of them, as plain functions.
  By an AI agent.
-/
set_option linter.all false
namespace TL
abbrev eq:=Int×List (Int×Int)
def tA(n:Int)(e:Int×Int):Prop:=(0<=e.1/\e.1<n)/\0<=e.2/\e.2<n
instance (n:Int)(e:Int×Int):Decidable (tA n e):=by unfold tA;infer_instance
def r8(g:eq):Prop:=0<=g.1/\g.1<=1024/\g.2.length<=3072/\∀e∈g.2,tA g.1 e
instance (g:eq):Decidable (r8 g):=by unfold r8;infer_instance
end TL
namespace TL
theorem oS{α:Type}[Inhabited α](xs:List α)(k:Nat):gI xs (k:Int)=xs.getD k default:=by simp[gI]
theorem fU{α:Type}[Inhabited α]{xs:List α}{k:Nat}(h:(k:Int)<xs.length):xs.drop k=gI xs k::xs.drop (k+1):=by
 have h':k<xs.length:=by omega
 rw[List.drop_eq_getElem_cons h']
 simp[gI,h']
theorem cJ{α:Type}[Inhabited α]{xs:List α}{i j:Int}{y:α}(hi:0<=i)(hi':i<xs.length)(hj:0<=j):gI (xs.set i.toNat y) j=if j=i then y else gI xs j:=by
 unfold gI
 by_cases h:j=i
 · subst h
   have:j.toNat<xs.length:=by omega
   simp[this]
 · have:i.toNat≠j.toNat:=by omega
   simp[h,List.getElem?_set_ne this]
theorem dP{α:Type}[Inhabited α]{n:Nat}{x:α}{i:Int}(h0:0<=i)(h1:i<n):gI (List.replicate n x) i=x:=by
 have:i.toNat<n:=by omega
 simp[gI,this]
end TL
namespace TL
end TL
namespace TL
end TL
namespace TL
def rB(g:eq)(h:Int):Int:=pI (gI g.2 (h/2)) (h%2)
def sV(g:eq)(v:Int)(k:Nat):List Int:=((List.range (2*k)).map (λ(i:Nat)=>(i:Int))).filter λh=>decide (rB g h=v)
def tB(g:eq)(v:Int):List Int:=sV g v g.2.length
end TL
namespace TL
end TL
namespace TL
end TL
namespace TL
end TL
namespace TL
section
variable{l0 l1:Int}{F:Int×Int->Int}{g:eq}{k:Nat}
end
end TL
/-
  TlNetSums: degrees' sum; all edges, all nodes; moved there and back.
  By an AI agent.
-/
set_option linter.all false
namespace TL
def dm(n:Nat):List Int:=(List.range n).map λ(i:Nat)=>(i:Int)
theorem kg(n:Nat):dm (n+1)=dm n++[(n:Int)]:=by simp[dm,List.range_succ]
theorem fv{n:Nat}{x:Int}:x∈dm n↔0<=x/\x<n:=by
 unfold dm
 rw[List.mem_map]
 constructor
 · rintro⟨i,hi,rfl⟩
   have:=List.mem_range.1 hi
   omega
 · rintro⟨h1,h2⟩
   exact⟨x.toNat,List.mem_range.2 (by omega),by omega⟩
theorem np{n:Nat}{i:Int}(h0:0<=i)(h1:i<n):gI (dm n) i=i:=by
 have:i.toNat<n:=by omega
 simp[gI,dm,this]
 omega
theorem i8:∀(n:Nat) (l:List Int),l.Nodup->(∀x∈l,0<=x/\x<(n:Int))->l.length<=n
 |0,l,_,h=>by
   cases l with
   |nil=>simp
   |cons a l=>have:=h a (by simp);omega
 |n+1,l,hn,h=>by
   have h1:(l.erase (n:Int)).Nodup:=hn.erase _
   have h2:=i8 n (l.erase (n:Int)) h1 (λx hx=>by
     have h3:=hn.mem_erase_iff.1 hx
     have:=h x h3.2
     omega)
   by_cases hm:(n:Int)∈l
   · have:=List.length_erase_of_mem hm
     omega
   · rw[List.erase_of_not_mem hm] at h2
     omega
theorem nC{n:Nat}{l:List Int}(hn:l.Nodup)(h:∀x∈l,0<=x/\x<(n:Int))(hl:l.length=n){u:Int}(h0:0<=u)(h1:u<n):u∈l:=by
 by_cases hu:u∈l
 · exact hu
 · have:=i8 n (u::l) (List.nodup_cons.2 ⟨hu,hn⟩) (λx hx=>by
     rcases List.mem_cons.1 hx with rfl|hx
     · exact⟨h0,h1⟩
     · exact h x hx)
   simp at this
   omega
end TL
/-
  TlInts: lists that are kept, written t3, and read again.
  By an AI agent.
-/
set_option linter.all false
namespace TL
def cA(K:List (List Int))(s:Int):Prop:=(K.length:Int)<=s/\s<=1048576/\∀l∈K,l.length<=1048576
theorem cA.nil:cA [] 0:=⟨by simp,by omega,by simp⟩
theorem cA.add{K:List (List Int)}{s n:Int}{l:List Int}(h:cA K s)(h0:0<n)(h1:s+n<=1048576)(hl:(l.length:Int)<=n):cA (K++[l]) (s+n):=by
 obtain⟨a,b,c⟩:=h
 refine⟨by simp;omega,h1,λx hx=>?_⟩
 rcases List.mem_append.1 hx with hx|hx
 · exact c x hx
 · obtain rfl:=List.mem_singleton.1 hx
   omega
theorem cA.len{K:List (List Int)}{s:Int}(h:cA K s):(K.length:Int)<=s/\s<=1048576/\0<=s:=by
 obtain⟨a,b,c⟩:=h
 omega
structure gg(L:List (List Int))(i:Nat):Prop where
  le:(i:Int)<=L.length
  few:L.length<=1048576
  done:∀r:Nat,r<i->∀q:Nat,q<(gI L r).length->gI (gI L (r:Int)) (q:Int)= -1000-(r:Int)
  rest:∀r:Nat,i<=r->r<L.length->(gI L (r:Int)).length<=1048576
theorem cA.ap{K:List (List Int)}{s:Int}(h:cA K s):gg K 0:=by
 obtain⟨a,b,c⟩:=h
 refine⟨by simp,by omega,λr hr=>by omega,λr _ hr=>c _ (bx (by omega) (by omega))⟩
structure eh(L1 L:List (List Int))(i:Nat)(n:Int):Prop where
  len:L1.length=L.length
  le:((gI L1 i).length:Int)<=1050577
  other:∀r:Nat,r≠i->gI L1 (r:Int)=gI L (r:Int)
theorem eh.start{L:List (List Int)}{i:Nat}{n:Int}(h:gg L i)(hi:(i:Int)<L.length):eh L L i n:=⟨rfl,by have:=h.rest i (Nat.le_refl _) (by omega);omega,λr _=>rfl⟩
theorem f4{α:Type}[Inhabited α]{L:List α}{i r:Nat}{x:α}(h:r≠i):gI (L.set i x) (r:Int)=gI L (r:Int):=by
 simp[gI,List.getElem?_set_ne (Ne.symm h)]
theorem eC{α:Type}[Inhabited α]{L:List α}{i:Nat}{x:α}(h:(i:Int)<L.length):gI (L.set i x) (i:Int)=x:=by
 simp[gI,show i<L.length by omega]
theorem eh.next{L1 L:List (List Int)}{i:Nat}{n:Int}(h:eh L1 L i n)(hi:(i:Int)<L.length)(hn:((gI L1 i).length:Int)<n)(hb:n<=1050577):eh (L1.set (i:Int).toNat (gI L1 i++[0])) L i n:=by
 have hl:=h.len
 refine⟨by simpa using hl,?_,λr hr=>?_⟩
 · simp only[Int.toNat_natCast]
   rw[eC (by omega)];simp;omega
 · simp only[Int.toNat_natCast]
   rw[f4 hr,h.other r hr]
theorem eh.meas{L1 L:List (List Int)}{i:Nat}{n:Int}(h:eh L1 L i n)(hi:(i:Int)<L.length):((gI (L1.set (i:Int).toNat (gI L1 i++[0])) i).length:Int)=(gI L1 i).length+1:=by
 have hl:=h.len
 simp only[Int.toNat_natCast]
 rw[eC (by omega)];simp
structure gf(L2 L:List (List Int))(i:Nat)(k:Nat):Prop where
  len:L2.length=L.length
  le:(k:Int)<=(gI L2 (i:Int)).length
  few:((gI L2 i).length:Int)<=1050577
  done:∀q:Nat,q<k->gI (gI L2 (i:Int)) (q:Int)= -1000-(i:Int)
  other:∀r:Nat,r≠i->gI L2 (r:Int)=gI L (r:Int)
theorem eh.wr{L1 L:List (List Int)}{i:Nat}{n:Int}(h:eh L1 L i n):gf L1 L i 0:=⟨h.len,by simp,h.le,λq hq=>by omega,h.other⟩
theorem gf.next{L2 L:List (List Int)}{i k:Nat}(h:gf L2 L i k)(hi:(i:Int)<L.length)(hk:(k:Int)<(gI L2 i).length):gf (L2.set (i:Int).toNat ((gI L2 i).set (k:Int).toNat (-1000-(i:Int)))) L i (k+1)/\(gI (L2.set (i:Int).toNat ((gI L2 i).set (k:Int).toNat (-1000-(i:Int)))) (i:Int)).length=(gI L2 (i:Int)).length:=by
 have hl:=h.len
 simp only[Int.toNat_natCast]
 have e:gI (L2.set i ((gI L2 (i:Int)).set k (-1000-(i:Int)))) (i:Int)=(gI L2 (i:Int)).set k (-1000-(i:Int)):=eC (by omega)
 refine⟨⟨by simpa using hl,by rw[e];simp;omega,by rw[e];simpa using h.few,λq hq=>?_,λr hr=>by rw[f4 hr,h.other r hr]⟩,by rw[e];simp⟩
 rw[e]
 by_cases hq2:q=k
 · subst hq2;exact eC hk
 · rw[f4 hq2];exact h.done q (by omega)
theorem gf.fin{L2 L:List (List Int)}{i k:Nat}(h:gf L2 L i k)(ha:gg L i)(hi:(i:Int)<L.length)(hk:¬(k:Int)<(gI L2 i).length):gg L2 (i+1):=by
 have hl:=h.len
 have hle:=h.le
 refine⟨by omega,by have:=ha.few;omega,λr hr q hq=>?_,λr h1 h2=>?_⟩
 · by_cases e:r=i
   · subst e;exact h.done q (by omega)
   · rw[h.other r e] at hq ⊢;exact ha.done r (by omega) q hq
 · rw[h.other r (by omega)];exact ha.rest r (by omega) (by omega)
theorem gg.read{L:List (List Int)}{m i k:Nat}(h:gg L m)(hm:(m:Int)=L.length)(hi:(i:Int)<L.length)(hk:(k:Int)<(gI L i).length):gI (gI L (i:Int)) (k:Int)= -1000-(i:Int):=h.done i (by omega) k (by omega)
end TL
namespace TL
end TL
namespace TL
end TL
/-
  TlKeep: rows of an own list given away one by one while the list stays readable; rows with a mark behind each.
  By an AI agent.
-/
set_option linter.all false
namespace TL
open Go
section
variable{P:Program}{w:World}{t t':TypeId}{f:Fr}{x y:Operand}{dst:Option Tmp}{ty:TypeId}{pos:String}{after:Array Edge}{g:Option (Nat×Bool)}{N:Value->World->Prop}{α:Type}[Rp α]{γ:aG}{v u:Value}{xss:List (List α)}{l:List α}{i k j:Nat}
end
section
variable{α:Type}[Rp α][Fl α]{γ γ':aG}{w w':World}{v:Value}{us:List Vc}{xss:List (List α)}{i k j q:Nat}
end
inductive Rw where
  |mk (l:List Int) (m:Int)
  |pl (l:List Int)
instance:Inhabited Rw:=⟨.pl []⟩
theorem nE{α:Type}[Rp α]{γ:aG}{S:cv->Prop}{w:World}{v:Value}{xs:List α}{m:α}(h:Sl γ S w (db v) (xs++[m])):∃a l c,v= .slice a l c:=by
 rcases h with⟨_,h0⟩|⟨b,off,cap,hv,_⟩
 · simp at h0
 · cases v<;>simp[db] at hv
   exact⟨_,_,_,rfl⟩
def sG(γ:aG)(S:cv->Prop)(w:World)(v:Value):Rw->Prop
  | .mk l m=>Sl γ S w (db v) (l++[m])
  | .pl l=>Sl γ S w v l
theorem sG.one{γ:aG}{S:cv->Prop}{w:World}{v:Value}{x:Rw}(h:sG γ S w v x):v.oneCell'=true:=by
 cases x with
 |mk l m=>
   obtain⟨a,b,c,rfl⟩:=nE h
   rfl
 |pl l=>
   rcases h with⟨⟨_,rfl⟩,_⟩|⟨b,off,cap,rfl,_⟩<;>rfl
theorem sG.tr{γ γ':aG}{S S':cv->Prop}{w w':World}{v:Value}{x:Rw}(hsz:w.heap.size<=w'.heap.size)(h:∀b,b<w.heap.size->S (γ b)->w'.heap[b]? =w.heap[b]? /\S' (γ' b))(hx:sG γ S w v x):sG γ' S' w' v x:=by
 cases x with
 |mk l m=>exact Sl.tr h hx hsz
 |pl l=>exact Sl.tr h hx hsz
instance:Rp Rw where
 sz:=1
 rep γ S w cs x:=∃v,cs=[v]/\sG γ S w v x
 len:=by rintro _ _ _ _ _ ⟨v,rfl,_⟩;rfl
 one:=by
   rintro _ _ _ _ _ ⟨v,rfl,h⟩ u hu
   obtain rfl:u=v:=by simpa using hu
   exact h.one
 tr:=by
   rintro _ _ _ _ _ _ _ _ hs h ⟨v,rfl,hv⟩
   exact⟨v,rfl,hv.tr hs h⟩
section
variable{P:Program}{w:World}{t t':TypeId}{f:Fr}{x y:Operand}{dst:Option Tmp}{ty:TypeId}{pos:String}{after:Array Edge}{g:Option (Nat×Bool)}{N:Value->World->Prop}{γ:aG}{v u:Value}{xss:List (List Int)}{l:List Int}{i:Nat}
end
end TL
/-
  TlEq: structs compared; a pointer looked at for nil; a bit turned.
  By an AI agent.
-/
set_option linter.all false
namespace TL
open Go
section
variable{P:Program}{f:Fr}{w:World}{dst:Option Tmp}{ty:TypeId}{pos:String}{after:Array Edge}{g:Option (Nat×Bool)}{t t' e:TypeId}{x y:Operand}
theorem ad{a:Addr}(hx:ev f x= .pointer (some a)):(execOp (ev f) ⟨dst,.nilCheck x,ty,pos,after,g⟩).run P w= .ok (.value (.pointer (some a))) w:=by
 simp only[execOp,hx,Sem.run_pure]
inductive EqV (P:Program) (t:TypeId):Value->Value->Bool->Prop
 |int {a b:Int} (h:P.underlying t=some (.int .i64)):EqV P t (.int .i64 a) (.int .i64 b) (decide (a=b))
 |bool {a b:Bool} (h:P.underlying t=some .bool):EqV P t (.bool a) (.bool b) (decide (a=b))
inductive EqF (P:Program) (xs ys:Array Value):List Field->List Bool->Prop
 |nil:EqF P xs ys [] []
 |cons {fd:Field} {fs:List Field} {bs:List Bool} {a b z:Value} {r:Bool} {size bytes:Nat} (hn:(fd.name != "_")=true) (he:Tp P fd.type false size bytes z) (ha:xs[fd.offset]? =some a) (hb:ys[fd.offset]? =some b) (hq:EqV P fd.type a b r) (hr:EqF P xs ys fs bs):EqF P xs ys (fd::fs) (r::bs)
theorem kR{xs ys:Array Value}{fs:List Field}{bs:List Bool}(h:EqF P xs ys fs bs)(d:Nat):(Op.eqFields (d+1) xs ys fs).run P w= .ok (bs.all id) w:=by
 induction h with
 |nil=>simp[Op.eqFields,Sem.run_pure]
 | @cons fd fs bs a b z r size bytes hn he ha hb hq hr ih=>
   have hn':fd.name≠ "_" :=by simpa using hn
   have h1:=lN (P:=P) (w:=w) he ha
   have h2:=lN (P:=P) (w:=w) he hb
   have h3:(Op.equalIn (d+1) fd.type a b).run P w= .ok r w:=by
     cases hq with
     |int h=>simp[Op.equalIn,bn h,Sem.run_pure];rfl
     |bool h=>simp[Op.equalIn,bn h,Sem.run_pure];rfl
   simp only[Op.eqFields,if_pos hn',Sem.run_bind,h1,h2,h3,Result.andThen_ok]
   cases r with
   |true=>simp[ih]
   |false=>simp[Sem.run_pure]
end
end TL
namespace TL
open Go
section
variable{P:Program}{f:Fr}{w:World}{dst:Option Tmp}{ty:TypeId}{pos:String}{after:Array Edge}{g:Option (Nat×Bool)}{t:TypeId}{x:Operand}
end
end TL
namespace TL
open Go
section
variable{P:Program}{f:Fr}{w:World}{dst:Option Tmp}{ty:TypeId}{pos:String}{after:Array Edge}{g:Option (Nat×Bool)}{t t':TypeId}{x y:Operand}{m n:Int}
theorem nS(hx:ev f x= .int .i64 m)(hy:ev f y= .int .i64 n)(hn:0<n)(hm: -4611686018427387904<=m/\m<=4611686018427387904):(execOp (ev f) ⟨dst,.binOp .quo t x y t',ty,pos,after,g⟩).run P w= .ok (.value (.int .i64 (Int.tdiv m n))) w:=by
 refine cu .quo x y hx hy ?_
 have h0:¬n=0:=by omega
 have h1:rD (Int.tdiv m n):=by
   have h2:=Int.natAbs_tdiv_le_natAbs m n
   constructor<;>omega
 simp[binOp,Op.intDiv,h0,fP h1]
end
end TL
namespace TL
open Go
end TL
/-
  TlRot: rotations: which may be, turned to their least, faces.
  By an AI agent.
-/
set_option linter.all false
namespace TL
abbrev eZ:=List (List Int)
def sZ(g:eq)(r:eZ):Prop:=(r.length:Int)=g.1/\(∀v:Nat,v<r.length->∀h∈gI r (v:Int),(0<=h/\h<2*(g.2.length:Int))/\rB g h=v)/\r.flatten.Nodup/\(r.flatten.length:Int)=2*g.2.length
instance (g:eq)(r:eZ):Decidable (sZ g r):=by unfold sZ;infer_instance
section
variable{seen:List Bool}{n:Int}{g:eq}{r:eZ}{k i:Nat}
end
end TL
namespace TL
end TL
/-
  TlMap: maps that the call makes.
  By an AI agent.
-/
set_option linter.all false
namespace TL
open Go
class Ky (K:Type) where
  val:K->Value
section
variable{P:Program}{f:Fr}{w:World}{dst:Option Tmp}{ty:TypeId}{pos:String}{after:Array Edge}{g:Option (Nat×Bool)}{t:TypeId}{x y z:Operand}{N:Value->World->Prop}
end
instance:Ky Int where
 val k:=.int .i64 k
instance:Ky (Int×Int) where
 val k:=.agg (List.toArray [.int .i64 k.1,.int .i64 k.2])
end TL
namespace TL
open Go
end TL
/-
  TlShort: short names for the commonest steps (used by packed claims only).
  By an AI agent.
-/
set_option linter.all false
namespace TL
open Go
abbrev vi(x:Int):Value:=Value.int .i64 x
abbrev vp(b o:Nat):Value:=Value.pointer (some ⟨b,o,none⟩)
abbrev vn:Value:=Value.slice none 0 0
abbrev vt(l:List Value):Value:=Value.tuple (List.toArray l)
abbrev vg(l:List Value):Value:=Value.agg (List.toArray l)
theorem cg(L:List Nat){γ γ':aG}{w w':World}(h:bZ (inl L) γ w γ' w'):bZ (inl L) γ w γ' w':=h
theorem dt{p:Prop}[Decidable p](h:p):decide p=true:=decide_eq_true h
theorem df{p:Prop}[Decidable p](h:¬p):decide p=false:=decide_eq_false h
section
variable{P:Program}{all rest:List Oper}{K:Fr->World->Prop}{f:Fr}{w w':World}{x:Operand}
variable{dst:Option Tmp}{op:Op}{ty:TypeId}{pos:String}{after:Array Edge}{g:Option (Nat×Bool)}{o:Oper}
theorem lv(v:Value)(hw:cm all ⟨dst,op,ty,pos,after,g⟩ f=true)(h:(execOp (ev f) ⟨dst,op,ty,pos,after,g⟩).run P w= .ok (.value v) w')(hk:gh P all rest K (ep f dst v) w'):gh P all (⟨dst,op,ty,pos,after,g⟩::rest) K f w:=im hw h hk
theorem lx{v:Value}(h:(execOp (ev f) ⟨dst,op,ty,pos,after,none⟩).run P w= .ok (.value v) w')(hk:gh P all rest K (ep f dst v) w'):gh P all (⟨dst,op,ty,pos,after,none⟩::rest) K f w:=im rfl h hk
theorem lw(v:Value)(h:(execOp (ev f) ⟨dst,op,ty,pos,after,none⟩).run P w= .ok (.value v) w')(hk:gh P all rest K (ep f dst v) w'):gh P all (⟨dst,op,ty,pos,after,none⟩::rest) K f w:=im rfl h hk
theorem mv(v:Value)(hk:gh P all rest K (ep f dst v) w)(h:ev f x=v:=by exact rfl):gh P all (⟨dst,.move x,ty,pos,after,none⟩::rest) K f w:=im rfl (ah h) hk
theorem ma(v:Value)(hk:gh P all rest K (ep f dst v) w)(h:ev f x=v:=by exact rfl):gh P all (⟨dst,.assign x,ty,pos,after,none⟩::rest) K f w:=im rfl (bD h) hk
theorem mi(v:Int)(hk:gh P all rest K (ep f dst (.int .i64 v)) w)(h:ev f x= .int .i64 v:=by exact rfl):gh P all (⟨dst,.move x,ty,pos,after,none⟩::rest) K f w:=im rfl (ah h) hk
theorem ai(v:Int)(hk:gh P all rest K (ep f dst (.int .i64 v)) w)(h:ev f x= .int .i64 v:=by exact rfl):gh P all (⟨dst,.assign x,ty,pos,after,none⟩::rest) K f w:=im rfl (bD h) hk
theorem mz{v:Value}(h:ev f x=v)(hk:gh P all rest K (ep f dst v) w):gh P all (⟨dst,.move x,ty,pos,after,none⟩::rest) K f w:=im rfl (ah h) hk
theorem lo(h:eH P ⟨dst,op,ty,pos,after,none⟩ f w (λv w'=>gh P all rest K (ep f dst v) w')):gh P all (⟨dst,op,ty,pos,after,none⟩::rest) K f w:=cQ rfl h
theorem wy{j:Nat}{x:Bool}{d:Nat}{b:Bool}(hx:b=x)(hg:o.guard=some (j,x):=by exact rfl)(hj:(all[j]?).bind (·.dst)=some d:=by exact rfl)(hb:f d= .bool b:=by exact rfl):cm all o f=true:=sB hg hj hb hx
theorem wn{j:Nat}{x:Bool}{d:Nat}{b:Bool}(hx:b= !x)(hg:o.guard=some (j,x):=by exact rfl)(hj:(all[j]?).bind (·.dst)=some d:=by exact rfl)(hb:f d= .bool b:=by exact rfl):cm all o f=false:=sd hg hj hb hx
variable{C:World->Prop}{KQ:Fr->Prop}
theorem qv(v:Value)(h:∀w,C w->(execOp (ev f) ⟨dst,op,ty,pos,after,none⟩).run P w= .ok (.value v) w)(hk:iT P all C rest KQ (ep f dst v)):iT P all C (⟨dst,op,ty,pos,after,none⟩::rest) KQ f:=aQ rfl h hk
theorem qx{v:Value}(h:∀w,C w->(execOp (ev f) ⟨dst,op,ty,pos,after,none⟩).run P w= .ok (.value v) w)(hk:iT P all C rest KQ (ep f dst v)):iT P all C (⟨dst,op,ty,pos,after,none⟩::rest) KQ f:=aQ rfl h hk
theorem qm(v:Value)(hk:iT P all C rest KQ (ep f dst v))(h:ev f x=v:=by exact rfl):iT P all C (⟨dst,.move x,ty,pos,after,none⟩::rest) KQ f:=aQ rfl (λ_ _=>ah h) hk
theorem qz{v:Value}(h:ev f x=v)(hk:iT P all C rest KQ (ep f dst v)):iT P all C (⟨dst,.move x,ty,pos,after,none⟩::rest) KQ f:=aQ rfl (λ_ _=>ah h) hk
end
section
variable{P:Program}{n:Nat}{l:List Oper}{S:World->Prop}{K:Fr->World->Prop}{f:Fr}{w:World}{done:List Nat}{fuel:Nat}{qs:List Nat}
variable{dst:Option Tmp}{op:Op}{ty:TypeId}{pos:String}{after:Array Edge}{g:Option (Nat×Bool)}{v:Value}
theorem ht(i:Nat)(hi:l[i]? =some ⟨dst,op,ty,pos,after,none⟩)(hS:S w)(h:∀w,S w->(execOp (ev f) ⟨dst,op,ty,pos,after,none⟩).run P w= .ok (.value v) w)(hk:nI P n l S K fuel (i::done) (ep f dst v) w)(hn:eU l=true:=by kernel_rfl)(hc:(eI l done i&&g7 l done i&&iv n ⟨dst,op,ty,pos,after,none⟩)=true:=by kernel_rfl):nI P n l S K (fuel+1) done f w:=dg i hi hn hc rfl hS h hk
theorem xv(i:Nat)(M:List Nat)(hi:l[i]? =some ⟨dst,op,ty,pos,after,none⟩)(h:(execOp (ev f) ⟨dst,op,ty,pos,after,none⟩).run P w= .ok (.value v) w)(hk:hE P n l qs K fuel (i::done) (ep f dst v) w)(hn:eU l=true:=by kernel_rfl)(hc:(qs.contains i&&eI l done i&&g7 l done i&&kJ l qs done M i&&iv n ⟨dst,op,ty,pos,after,none⟩)=true:=by kernel_rfl):hE P n l qs K (fuel+1) done f w:=sM i M hi hn hc rfl h hk
theorem xh(i:Nat)(M:List Nat)(hi:l[i]? =some ⟨dst,op,ty,pos,after,none⟩)(h:∀w',dC w.heap.size w w'->(execOp (ev f) ⟨dst,op,ty,pos,after,none⟩).run P w'= .ok (.value v) w')(hk:hE P n l qs K fuel (i::done) (ep f dst v) w)(hn:eU l=true:=by kernel_rfl)(hc:(qs.contains i&&eI l done i&&g7 l done i&&kT l qs done M i&&iv n ⟨dst,op,ty,pos,after,none⟩)=true:=by kernel_rfl):hE P n l qs K (fuel+1) done f w:=rW i M hi hn hc rfl h hk
theorem xp(i:Nat)(hi:l[i]? =some ⟨dst,op,ty,pos,after,none⟩)(h:∀w,(execOp (ev f) ⟨dst,op,ty,pos,after,none⟩).run P w= .ok (.value v) w)(hk:hE P n l qs K fuel (i::done) (ep f dst v) w)(hn:eU l=true:=by kernel_rfl)(hc:(qs.contains i&&eI l done i&&g7 l done i&&iv n ⟨dst,op,ty,pos,after,none⟩)=true:=by kernel_rfl):hE P n l qs K (fuel+1) done f w:=sb i hi hn hc rfl h hk
end
section
variable{γ γ':aG}{w w':World}{v:Value}{j k:Nat}{L:List Nat}
theorem b9.ca{w0:World}(h:b9 w0 γ w)(hc:bZ (inl L) γ w γ' w')(hj:L.contains 0=false:=by exact rfl):b9 w0 γ' w':=h.chg hc (dF hj)
theorem b9.ce{w0:World}(h:b9 w0 γ w)(hc:bZ (is k) γ w γ' w')(hj:Nat.beq 0 k=false:=by exact rfl):b9 w0 γ' w':=h.chg hc (fa hj)
theorem b9.cn{w0:World}(h:b9 w0 γ w)(hc:bZ no γ w γ' w'):b9 w0 γ' w':=h.chg hc (cK _)
theorem Bx.ca{b:Nat}{cs:List Value}(h:Bx γ (is j) w b cs)(hc:bZ (inl L) γ w γ' w')(hj:L.contains j=false:=by exact rfl):Bx γ' (is j) w' b cs:=h.chg hc (dF hj)
theorem Bx.ce{b:Nat}{cs:List Value}(h:Bx γ (is j) w b cs)(hc:bZ (is k) γ w γ' w')(hj:Nat.beq j k=false:=by exact rfl):Bx γ' (is j) w' b cs:=h.chg hc (fa hj)
theorem Bx.cn{J:cv->Prop}{b:Nat}{cs:List Value}(h:Bx γ J w b cs)(hc:bZ no γ w γ' w'):Bx γ' J w' b cs:=h.chg hc (cK _)
theorem Sl.ca{α:Type}[Rp α]{xs:List α}(h:Sl γ (is j) w v xs)(hc:bZ (inl L) γ w γ' w')(hj:L.contains j=false:=by exact rfl):Sl γ' (is j) w' v xs:=h.chg hc (dF hj)
theorem Sl.ce{α:Type}[Rp α]{xs:List α}(h:Sl γ (is j) w v xs)(hc:bZ (is k) γ w γ' w')(hj:Nat.beq j k=false:=by exact rfl):Sl γ' (is j) w' v xs:=h.chg hc (fa hj)
theorem Sl.cn{α:Type}[Rp α]{S:cv->Prop}{xs:List α}(h:Sl γ S w v xs)(hc:bZ no γ w γ' w'):Sl γ' S w' v xs:=h.chg hc (cK _)
theorem Ow.ca{α:Type}[Rp α]{xs:List α}(h:Ow γ (is j) (is j) w v xs)(hc:bZ (inl L) γ w γ' w')(hj:L.contains j=false:=by exact rfl):Ow γ' (is j) (is j) w' v xs:=h.chg hc (dF hj) (dF hj)
theorem Ow.ce{α:Type}[Rp α]{xs:List α}(h:Ow γ (is j) (is j) w v xs)(hc:bZ (is k) γ w γ' w')(hj:Nat.beq j k=false:=by exact rfl):Ow γ' (is j) (is j) w' v xs:=h.chg hc (fa hj) (fa hj)
theorem Ow.cn{α:Type}[Rp α]{J S:cv->Prop}{xs:List α}(h:Ow γ J S w v xs)(hc:bZ no γ w γ' w'):Ow γ' J S w' v xs:=h.chg hc (cK _) (cK _)
theorem bN.ca{α:Type}[Rp α]{xs:List (List α)}(h:bN γ j w v xs)(hc:bZ (inl L) γ w γ' w')(hj:L.contains j=false:=by exact rfl):bN γ' j w' v xs:=h.chg hc (dF hj)
theorem bN.ce{α:Type}[Rp α]{xs:List (List α)}(h:bN γ j w v xs)(hc:bZ (is k) γ w γ' w')(hj:Nat.beq j k=false:=by exact rfl):bN γ' j w' v xs:=h.chg hc (fa hj)
theorem bN.cn{α:Type}[Rp α]{xs:List (List α)}(h:bN γ j w v xs)(hc:bZ no γ w γ' w'):bN γ' j w' v xs:=h.chg hc (cK _)
theorem eu.ca{α:Type}[Rp α]{h0:Nat}{xs:List (List α)}(h:eu γ j h0 w v xs)(hc:bZ (inl L) γ w γ' w')(hj:L.contains j=false:=by exact rfl):eu γ' j h0 w' v xs:=h.chg hc (dF hj)
theorem eu.ce{α:Type}[Rp α]{h0:Nat}{xs:List (List α)}(h:eu γ j h0 w v xs)(hc:bZ (is k) γ w γ' w')(hj:Nat.beq j k=false:=by exact rfl):eu γ' j h0 w' v xs:=h.chg hc (fa hj)
theorem eu.cn{α:Type}[Rp α]{h0:Nat}{xs:List (List α)}(h:eu γ j h0 w v xs)(hc:bZ no γ w γ' w'):eu γ' j h0 w' v xs:=h.chg hc (cK _)
def tG(δ g:aG)(w:World)(ren:Nat->Nat):Prop:=(∀{α:Type} [Rp α] {i:Nat} {v:Value} {xs:List α},Ow δ (is i) (is i) w v xs->∀k:Nat,Nat.beq i 0=false->ren i=k->Ow g (is k) (is k) w v xs)/\(∀{α:Type} [Rp α] {i:Nat} {v:Value} {xs:List (List α)},bN δ i w v xs->∀k:Nat,Nat.beq i 0=false->ren i=k->bN g k w v xs)
theorem oU{δ:aG}(γ:aG)(fr:jY w δ w')(ren:Nat->Nat):∃g,bZ no γ w g w'/\tG δ g w' ren:=
 ⟨_,pO fr.below γ δ ren,λh k hi hr=>h.glue fr.col hi hr,λh k hi hr=>h.glue fr.col hi hr⟩
theorem Ow.gl{α:Type}[Rp α]{δ g:aG}{ren:Nat->Nat}{i:Nat}{xs:List α}(h:Ow δ (is i) (is i) w v xs)(G:tG δ g w ren)(k:Nat)(hi:Nat.beq i 0=false:=by exact rfl)(hr:ren i=k:=by exact rfl):Ow g (is k) (is k) w v xs:=G.1 h k hi hr
theorem bN.gl{α:Type}[Rp α]{δ g:aG}{ren:Nat->Nat}{i:Nat}{xs:List (List α)}(h:bN δ i w v xs)(G:tG δ g w ren)(k:Nat)(hi:Nat.beq i 0=false:=by exact rfl)(hr:ren i=k:=by exact rfl):bN g k w v xs:=G.2 h k hi hr
end
section
variable{K:Type}[DecidableEq K][Ky K]
end
end TL
/-
  TlFloat: floating numbers that are no NaN and have no sign: their bits, as a natural number, stand as they do; sums, roots and quotients of such.
  By an AI agent.
-/
set_option linter.all false
namespace TL
open Ieee
abbrev tE:Nat:=9218868437227405312
def pl(x:Nat):Nat:=x/4503599627370496-1
end TL
/-
  TlFloat2: how far a rounded number lies from what is rounded; sums and roots that are finite; sums with nought.
  By an AI agent.
-/
set_option linter.all false
namespace TL
open Ieee
def tC(n d:Nat):Nat:=n/2^d+(if 2^d<2*(n%2^d)\/2^d=2*(n%2^d)/\n/2^d%2=1 then 1 else 0)
def rd(T:Nat):Nat:=if T=0 then 0 else min ((T.log2-52)*4503599627370496+tC T (T.log2-52)) tE
end TL
/-
  TlFl: floating numbers in a walk: what each operation comes to.
  By an AI agent.
-/
set_option linter.all false
namespace TL
open Go
instance:Rp Nat where
 sz:=1
 rep _ _ _ cs x:=cs=[.float .f64 x]
 len h:=by subst h;rfl
 one h:=by subst h;simp[Value.oneCell']
 tr _ _ h:=h
instance:Fl Nat where
 cells x:=[.float .f64 x]
 rep_iff:=Iff.rfl
section
variable{P:Program}{f:Fr}{w:World}{dst:Option Tmp}{ty:TypeId}{pos:String}{after:Array Edge}{g:Option (Nat×Bool)}{t t' s d:TypeId}{x y:Operand}{a b r:Nat}
variable{N:Value->World->Prop}
end
end TL
/-
  TlGeom: points with whole coordinates: turns, segments, how they meet.
  By an AI agent.
-/
set_option linter.all false
namespace TL
abbrev Pt:=Int×Int
def rn(x y:Int):Int:=if x<y then-1 else if y<x then 1 else 0
def tu(a b:Pt):Int:=a.1*b.2-a.2*b.1
def sU(b a:Pt):Pt:=(b.1-a.1,b.2-a.2)
def nH(a b c:Pt):Int:=rn (tu (sU b a) (sU c a)) 0
def sv(a b p:Pt):Prop:=(min a.1 b.1<=p.1/\p.1<=max a.1 b.1)/\min a.2 b.2<=p.2/\p.2<=max a.2 b.2
instance (a b p:Pt):Decidable (sv a b p):=by unfold sv;infer_instance
def oq(a b p:Pt):Prop:=nH a b p=0/\sv a b p
instance (a b p:Pt):Decidable (oq a b p):=by unfold oq;infer_instance
def lu(a b:Pt):Int:=if rn a.1 b.1≠0 then rn a.1 b.1 else rn a.2 b.2
def t8(a b c d:Pt):Int:=
 let a':=if 0<lu a b then b else a
 let b':=if 0<lu a b then a else b
 let c':=if 0<lu c d then d else c
 let d':=if 0<lu c d then c else d
 let low:=if 0<lu c' a' then c' else a'
 let high:=if lu d' b'<0 then d' else b'
 if 0<lu low high then 0 else if lu low high=0 then 2 else 3
def fY(a b c d:Pt):Int:=
 if nH a b c=0/\nH a b d=0/\nH c d a=0/\nH c d b=0 then t8 a b c d
 else if nH a b c*nH a b d<0/\nH c d a*nH c d b<0 then 1
 else if oq a b c\/oq a b d\/oq c d a\/oq c d b then 2 else 0
def oL(p:Pt):Int:=p.1*1073741824+p.2
def tM(p:Pt):Prop:=(-4194304<=p.1/\p.1<=4194304)/\ -4194304<=p.2/\p.2<=4194304
end TL
namespace TL
def sD(p:Pt):Prop:=(-1048576<=p.1/\p.1<=1048576)/\ -1048576<=p.2/\p.2<=1048576
instance (p:Pt):Decidable (sD p):=by unfold sD;infer_instance
theorem sD.bd{p:Pt}(h:sD p):tM p:=by unfold sD at h;unfold tM;omega
def tx(ps:List Pt):Prop:=ps.length<=4096/\∀p∈ps,sD p
instance (ps:List Pt):Decidable (tx ps):=by unfold tx;infer_instance
def nc(p:Pt):Int:=if 0<p.1\/p.1=0/\0<p.2 then 0 else 1
section
variable{a b c d:Pt}
end
end TL
/-
  TlGeomL: how segments meet, moved, turned, named another way about.
  By an AI agent.
-/
set_option linter.all false
namespace TL
def par(u w:Pt):Prop:=u.1*w.2=u.2*w.1
end TL
/-
  TlGeomM: meeting segments: moved, turned, named another way about; what ends they share.
  By an AI agent.
-/
set_option linter.all false
namespace TL
section
variable{a b c d:Pt}
def lz(a b c d e:Pt):Prop:=oq a b e/\oq c d e
instance (a b c d e:Pt):Decidable (lz a b c d e):=by unfold lz;infer_instance
def nZ(a b c d:Pt):Prop:=nH a b c*nH a b d<0/\nH c d a*nH c d b<0
instance (a b c d:Pt):Decidable (nZ a b c d):=by unfold nZ;infer_instance
end
end TL
/-
  TlGeomR: what is told of many points: areas, boxes, whether a polyline is simple.
  By an AI agent.
-/
set_option linter.all false
namespace TL
def ky(ps:List Pt):Prop:=4<=(ps.length:Int)/\gI ps 0=gI ps ((ps.length:Int)-1)
instance (ps:List Pt):Decidable (ky ps):=by unfold ky;infer_instance
def mY(ps:List Pt)(i k:Nat):Prop:=k=i+1\/i=0/\(k:Int)=(ps.length:Int)-2/\ky ps
instance (ps:List Pt)(i k:Nat):Decidable (mY ps i k):=by unfold mY;infer_instance
def tR(ps:List Pt)(i k:Nat):Int:=fY (gI ps (i:Int)) (gI ps ((i:Int)+1)) (gI ps (k:Int)) (gI ps ((k:Int)+1))
def rS(ps:List Pt)(i k:Nat):Prop:=mY ps i k/\tR ps i k=3\/¬mY ps i k/\tR ps i k≠0
instance (ps:List Pt)(i k:Nat):Decidable (rS ps i k):=by unfold rS;infer_instance
def sa(ps:List Pt)(i:Nat):Prop:=gI ps (i:Int)≠gI ps ((i:Int)+1)/\∀k<ps.length,i<k->(k:Int)<=(ps.length:Int)-2->¬rS ps i k
instance (ps:List Pt)(i:Nat):Decidable (sa ps i):=by unfold sa;infer_instance
def sS(ps:List Pt):Prop:=∀i<ps.length,(i:Int)<=(ps.length:Int)-2->sa ps i
instance (ps:List Pt):Decidable (sS ps):=by unfold sS;infer_instance
section
variable{ps:List Pt}
variable{i k:Nat}
end
end TL
/-
  TlGeomS: polylines gone back, and two of them named the other way about.
  By an AI agent.
-/
set_option linter.all false
namespace TL
abbrev Sg:=Pt×Pt
def pS(ps:List Pt):Nat->List Sg
 |0=>[]
 |k+1=>pS ps k++[(gI ps (k:Int),gI ps ((k:Int)+1))]
def qh(ps:List Pt):List Sg:=if ps.length=1 then[(gI ps 0,gI ps 0)] else pS ps (ps.length-1)
def rC(ps:List Pt):Pt:=gI ps ((ps.length:Int)-1)
def sn(ps:List Pt)(p:Pt):Prop:=p=gI ps 0\/p=rC ps
instance (ps:List Pt)(p:Pt):Decidable (sn ps p):=by unfold sn;infer_instance
def rc(q:List Pt)(s t:Sg)(x:Pt):Prop:=sn q x/\oq s.1 s.2 x/\oq t.1 t.2 x
instance (q:List Pt)(s t:Sg)(x:Pt):Decidable (rc q s t x):=by unfold rc;infer_instance
def oQ(p q:List Pt)(s t:Sg):Prop:=rc q s t (gI p 0)\/rc q s t (rC p)
instance (p q:List Pt)(s t:Sg):Decidable (oQ p q s t):=by unfold oQ;infer_instance
def sj(p q:List Pt)(s t:Sg):Prop:=fY s.1 s.2 t.1 t.2=3\/fY s.1 s.2 t.1 t.2≠0/\¬oQ p q s t
instance (p q:List Pt)(s t:Sg):Decidable (sj p q s t):=by unfold sj;infer_instance
def tg(p q:List Pt):Prop:=∀s∈qh p,∀t∈qh q,¬sj p q s t
instance (p q:List Pt):Decidable (tg p q):=by unfold tg;infer_instance
section
variable{p q:List Pt}
end
end TL
namespace TL
section
variable{p q:List Pt}{i k:Nat}
variable{s t:Sg}
end
end TL
namespace TL
section
variable{p q:List Pt}{s t:Sg}{i:Nat}
end
end TL
/-
  TlGeomX: polylines: the document's way and the code's.
  By an AI agent.
-/
set_option linter.all false
namespace TL
section
variable{a b c d:Pt}
end
section
variable{ps:List Pt}{i k:Nat}
end
def tI(but:List Pt)(s t:Sg):Prop:=fY s.1 s.2 t.1 t.2=3\/(fY s.1 s.2 t.1 t.2=1/\¬∃x∈but,lz s.1 s.2 t.1 t.2 x)\/((fY s.1 s.2 t.1 t.2≠0/\fY s.1 s.2 t.1 t.2≠1)/\∃e∈[s.1,s.2,t.1,t.2],lz s.1 s.2 t.1 t.2 e/\e∉but)
instance (but:List Pt)(s t:Sg):Decidable (tI but s t):=by unfold tI;infer_instance
def sL(p q but:List Pt):Prop:=∃s∈qh p,∃t∈qh q,tI but s t
instance (p q but:List Pt):Decidable (sL p q but):=by unfold sL;infer_instance
section
variable{p q B:List Pt}
end
end TL
namespace TL
section
variable{p q but:List Pt}{i k:Nat}
variable{s t:Sg}
theorem mH{α:Type}[Inhabited α](xs:List α)(m:α):gI (xs++[m]) (xs.length:Int)=m:=by
 unfold gI;simp[List.getD_eq_getElem?_getD]
end
end TL
/-
  TlAround: points round another one: the order, its laws, the list that is sorted by it.
  By an AI agent.
-/
set_option linter.all false
namespace TL
def tq(p:Pt):Int:=p.1*p.1+p.2*p.2
def neg(p:Pt):Pt:=(-p.1,-p.2)
def tT(a b:Pt)(i k:Int):Prop:=nc a<nc b\/nc a=nc b/\(tu a b<0\/tu a b=0/\(tq a<tq b\/tq a=tq b/\i<k))
def vA(o:Pt)(ps:List Pt)(i:Int):Pt:=sU (gI ps i) o
def tU(o:Pt)(ps:List Pt)(i k:Int):Prop:=tT (vA o ps i) (vA o ps k) i k
def tY(o:Pt)(ps:List Pt)(k:Nat)(l:List Int):Prop:=l.Pairwise (tU o ps)/\∀x,x∈l↔0<=x/\x<(k:Int)
section
variable{o:Pt}{ps:List Pt}{k:Nat}{l l':List Int}
open Classical in
noncomputable def arL (o:Pt) (ps:List Pt):List Int:=if h:∃l,tY o ps ps.length l then choose h else[]
end
section
variable{o:Pt}{ps:List Pt}{k:Nat}{l:List Int}{q:Int}
end
section
variable{o:Pt}{ps:List Pt}
end
end TL
/-
  TlWalk: going through a net breadth first, and its components, as the program does.
  By an AI agent.
-/
set_option linter.all false
namespace TL
structure Bf where
 order:List Int
 by_:List Int
 far:List Int
end TL
namespace TL
end TL
namespace TL
end TL
namespace TL
end TL
namespace TL
end TL
/-
  TlJudge: plots: their flaws, as the code and the document gather them.
  By an AI agent.
-/
set_option linter.all false
namespace TL
abbrev bq:=Int×Int×Int
abbrev j5:=List Pt×List (List Pt)
section
variable{β:Type}{f h:Nat->List β}{k n:Nat}{x:β}{F B:List β}
end
def fl{β:Type}(p:Prop)[Decidable p](x:β):List β:=if p then[x] else[]
section
variable{β:Type}{p:Prop}[Decidable p]{x:β}
end
def tQ(l:List Pt):Prop:=2<=(l.length:Int)/\tx l
instance (l:List Pt):Decidable (tQ l):=by unfold tQ;infer_instance
def rJ(g:eq)(p:j5)(e:Int):Prop:=gI (gI p.2 e) 0=gI p.1 (gI g.2 e).1/\gI (gI p.2 e) (((gI p.2 e).length:Int)-1)=gI p.1 (gI g.2 e).2
instance (g:eq)(p:j5)(e:Int):Decidable (rJ g p e):=by unfold rJ;infer_instance
def rz(l:List Pt)(q:Pt):Prop:=∃s∈pS l (l.length-1),oq s.1 s.2 q
instance (l:List Pt)(q:Pt):Decidable (rz l q):=by unfold rz;infer_instance
def oR(s t:Sg)(but:List Pt):Prop:=fY s.1 s.2 t.1 t.2=0\/(fY s.1 s.2 t.1 t.2=1\/fY s.1 s.2 t.1 t.2=2)/\∃x∈but,lz s.1 s.2 t.1 t.2 x
instance (s t:Sg)(but:List Pt):Decidable (oR s t but):=by unfold oR;infer_instance
def th(a b but:List Pt):Prop:=∀s∈pS a (a.length-1),∀t∈pS b (b.length-1),oR s t but
instance (a b but:List Pt):Decidable (th a b but):=by unfold th;infer_instance
section
variable{g:eq}{p:j5}
end
end TL
namespace TL
section
variable{l:List Pt}{p:Pt}{i:Nat}
end
section
variable{a b c d:Pt}{but:List Pt}{k:Nat}{m:Int}
end
def tF(p:j5)(h:Int):Pt:=if h%2=0 then gI (gI p.2 (h/2)) 1 else gI (gI p.2 (h/2)) (((gI p.2 (h/2)).length:Int)-2)
def tD(u v:Pt):Int:=u.1*v.1+u.2*v.2
def pm(u v:Pt):Prop:=tu u v=0/\0<tD u v
instance (u v:Pt):Decidable (pm u v):=by unfold pm;infer_instance
end TL
namespace TL
end TL
namespace TL
section
variable{g:eq}{p:j5}{F G B:List bq}{v e k i:Nat}
end
section
variable{g:eq}{p:j5}{e f:Int}
end
section
variable{a b but:List Pt}{i k:Nat}
end
section
variable{g:eq}{p:j5}{e f:Nat}{b:Bool}
end
end TL
/-
  TlJudge2: what is told of a plot; its rotation.
  By an AI agent.
-/
set_option linter.all false
namespace TL
section
variable{p:j5}{l:List Pt}{a b:Bool}{i k:Nat}
end
section
variable{g:eq}{p:j5}
end
def tk(p:j5)(l:List Int):List Pt:=l.map (tF p)
def s5(p:j5)(o:Pt)(l:List Int):Prop:=∃j:Nat,j<l.length/\0<j/\pm (sU (gI (tk p l) (gI (arL o (tk p l)) ((j:Int)-1))) o) (sU (gI (tk p l) (gI (arL o (tk p l)) (j:Int))) o)
noncomputable instance (p:j5) (o:Pt) (l:List Int):Decidable (s5 p o l):=by unfold s5;infer_instance
def sY(g:eq)(p:j5):Prop:=∃v:Nat,v<g.1.toNat/\s5 p (gI p.1 (v:Int)) (tB g (v:Int))
noncomputable instance (g:eq) (p:j5):Decidable (sY g p):=by unfold sY;infer_instance
end TL
/-
  TlZf: weights: floating numbers that are at least 0, of either sign of 0: in sums and comparisons such a one stands for its magnitude (zf).
  By an AI agent.
-/
set_option linter.all false
namespace TL
open Ieee
def zf(x:Nat):Nat:=x%9223372036854775808
open Go
end TL
/-
  TlPq: a heap of places (how far, which node), as container/heap keeps it: what is taken is the least, and nothing else is lost.
  By an AI agent.
-/
set_option linter.all false
namespace TL
abbrev Pl:=Nat×Int
def t9(a b:Pl):Prop:=a.1<b.1\/a.1=b.1/\a.2<b.2
instance (a b:Pl):Decidable (t9 a b):=by unfold t9;infer_instance
def sI(xs:List Pl)(i:Nat):Pl:=gI xs (i:Int)
def tX(xs:List Pl)(i j:Nat):List Pl:=(xs.set i (sI xs j)).set j (sI xs i)
def tz(xs:List Pl)(i n:Nat):Nat:=if 2*i+1+1<n/\t9 (sI xs (2*i+1+1)) (sI xs (2*i+1)) then 2*i+1+1 else 2*i+1
def dn:Nat->List Pl->Nat->Nat->List Pl
 |0,xs,_,_=>xs
 |k+1,xs,i,n=>if n<=2*i+1 then xs else if t9 (sI xs (tz xs i n)) (sI xs i) then dn k (tX xs i (tz xs i n)) (tz xs i n) n else xs
end TL
namespace TL
end TL
/-
  TlWay: ways of the least weight (package path): what From tells, as the document does it (the nearest node that is not settled, again and again), and that a heap of waiting nodes finds the same.
  By an AI agent.
-/
set_option linter.all false
namespace TL
abbrev FS:=List Nat×List Int
-- what is picked
-- once all are settled no more rounds matter
end TL
namespace TL
end TL
/-
  TlWayT: the way that leads to a node, from how the nodes were reached (package path's To), as the document has it.
  By an AI agent.
-/
set_option linter.all false
namespace TL
def pW(fs:FS)(g:eq):Prop:=r8 g/\(fs.1.length:Int)=g.1/\(fs.2.length:Int)=g.1
instance (fs:FS)(g:eq):Decidable (pW fs g):=by unfold pW;infer_instance
variable{fs:FS}{g:eq}{t v:Int}{l:List Int}{n:Nat}
variable{by_:List Int}
end TL
/-
  TlDij: what the document's From comes to: each length is that of the way found; no half-edge of a reached node leads nearer.
  By an AI agent.
-/
set_option linter.all false
namespace TL
abbrev hf(g:eq)(h:Int):Prop:=0<=h/\h<2*(g.2.length:Int)
abbrev nd(g:eq)(v:Int):Prop:=0<=v/\v<g.1
variable{g:eq}{ws:List Nat}{s p:Int}{far:List Nat}{by_:List Int}{se:List Bool}{rk:Int->Nat}{n:Nat}{done:List Int}
end TL
/-
  TlOpen: arguments opened: what a law's reader says of a slice is what a walk wants of it.
  By an AI agent.
-/
namespace TL
open Go Go.Proofs Go.ChangeShapes Go.WideShapes Go.Joins Go.Deep
structure mx{H:Type}(f:DataW H->Nat):Prop where
 slice:∀l s:List (DataW H),l.length<=f (.slice l s)
 elem:∀l s:List (DataW H),∀d∈l,f d<=f (.slice l s)
 part:∀l:List (DataW H),∀d∈l,f d<=f (.agg l)
def ra(α:Type)[Rp α](P:Program)(t:TypeId):Prop:=
  ∀{H:Type} (enc:TypeId×Value->H) (w:World) (fuel:Nat) (cs:List Value) (x:DataW H×List MemPlace),DataW.trod enc P w 0 (λ_=>true) true fuel t cs=some x->∃y:α,Rp.rep c0 any w cs y
theorem gR{P:Program}{t:TypeId}(ht:P.underlying t=some (.int .i64)):ra Int P t:=by
 intro H enc w fuel cs x h
 obtain⟨n,rfl,_,_⟩:=DataW.trod_int ht h
 exact⟨n,rfl⟩
theorem ka{α:Type}[Rp α][Inhabited α]{P:Program}{t e:TypeId}(ht:P.underlying t=some (.slice e))(hc:P.cellsOf e=Rp.sz α)(hz:0<Rp.sz α)(he:ra α P e)
    {H:Type}{enc:TypeId×Value->H}{w:World}{f:DataW H->Nat}(hf:mx f){fuel:Nat}{v:Value}{x:DataW H×List MemPlace}
    (hs:∀a len cap,v= .slice (some a) len cap->a.spot=none)(h:DataW.trod enc P w 0 (λ_=>true) true fuel t [v]=some x)(hb:f x.1<=1048576):∃xs:List α,Ro w v xs:=by
  rcases Deep.open_slice ht h with⟨h0,_⟩|⟨a,len,cap,m,n,D,Pl,h0,_,hlc,_,hm,rfl,hx⟩
  · obtain rfl:v= .slice none 0 0:=by simpa using h0
    exact⟨[],.inl ⟨⟨_,rfl⟩,rfl⟩⟩
  · obtain rfl:v= .slice (some a) len cap:=by simpa using h0
    have hsp:=hs a len cap rfl
    obtain⟨b,off,spot⟩:=a
    obtain rfl:spot=none:=hsp
    simp only[if_true] at hm
    subst hm
    obtain⟨Y,hY⟩:=Deep.choose_lt (α:=α) (n:=len) (p:=λi y=>∃cs,(∀j,j<Rp.sz α->w.cell? ⟨b,off+i*Rp.sz α+j,none⟩=cs[j]?)/\Rp.rep c0 any w cs y) (λi hi=>by
      obtain⟨cs',h1,h2⟩:=hx i (by omega)
      obtain⟨y,hy⟩:=he enc w n cs' _ h2
      refine⟨y,cs',λj hj=>?_,hy⟩
      obtain⟨_,hl,hcell⟩:=World.cells?_some h1
      have:=hcell j (by omega)
      rw[Deep.add_add,hc] at this
      rw[<-this]
      unfold Addr.add
      by_cases hij:i*Rp.sz α+j=0
      · rw[if_pos hij,Nat.add_assoc,hij];rfl
      · rw[if_neg hij,Nat.add_assoc])
    have hlen:((List.range len).map Y).length=len:=by simp
    have hbound:=Nat.le_trans (hf.slice _ _) hb
    refine⟨(List.range len).map Y,.inr ⟨b,off,m,by rw[hlen],⟨by omega,by simp at hbound;omega⟩,λi y hi=>?_⟩⟩
    have hil:i<len:=by
      have:=(List.getElem?_eq_some_iff.1 hi).1
      omega
    obtain rfl:Y i=y:=by simpa[hil] using hi
    obtain⟨cs,h1,h2⟩:=hY i hil
    refine⟨?_,trivial,cs,h1,h2⟩
    have h3:=h1 0 hz
    have h4:=Rp.len h2
    have h5:0<cs.length:=by omega
    rw[List.getElem?_eq_getElem h5] at h3
    by_cases hbl:b<w.heap.size
    · exact hbl
    · have:w.heap[b]? =none:=Array.getElem?_eq_none (by omega)
      simp[World.cell?,this] at h3
theorem gB{P:Program}{w:World}{base:Nat}{t e:TypeId}{v:Value}(ht:P.underlying t=some (.slice e))(h:Cell.okWide P w .any base t v):∀a len cap,v= .slice (some a) len cap->a.spot=none:=by
 rintro a len cap rfl
 simp only[Cell.okWide,Cell.ok,ht] at h
 exact h.2.2.2.1
end TL
/-
  TlJudge3: a plot's rotation: the half-edges of each node, turned.
  By an AI agent.
-/
set_option linter.all false
namespace TL
theorem qE{α β:Type}[Inhabited α][Inhabited β]{f:α->β}{l:List α}{i:Int}(h0:0<=i)(h1:i<l.length):gI (l.map f) i=f (gI l i):=by
 have h:i.toNat<l.length:=by omega
 unfold gI
 rw[List.getD_eq_getElem?_getD,List.getD_eq_getElem?_getD,List.getElem?_map,List.getElem?_eq_getElem h];rfl
section
variable{g:eq}{p:j5}
end
end TL
/-
  TlJudge4: directions around a point; a plot turned by a quarter; the example's rotation.
  By an AI agent.
-/
set_option linter.all false
namespace TL
section
variable{u v w:Pt}
end
section
variable{p:j5}{o:Pt}{l:List Int}
end
section
variable{u v:Pt}{i k:Int}
def ta(u:Pt):Prop:=0<=u.1/\0<u.2
instance (u:Pt):Decidable (ta u):=by unfold ta;infer_instance
end
section
variable{o:Pt}{ps:List Pt}
end
end TL
/-
  TlJTr: plots moved as a whole: their flaws.
  By an AI agent.
-/
set_option linter.all false
namespace TL
section
variable{T:Pt->Pt}{D:Pt->Prop}{g:eq}{p:j5}{l a b but:List Pt}{q:Pt}{i k:Nat}
end
section
variable{g:eq}{p:j5}
end
def t4(p:j5):Nat->Int
 |0=>(p.1.length:Int)
 |k+1=>t4 p k+((gI p.2 (k:Int)).length:Int)+1
def pf(g:eq)(p:j5):Prop:=t4 p p.2.length<=400/\(¬r8 g\/g.1<=30/\(g.2.length:Int)<=40)
instance (g:eq)(p:j5):Decidable (pf g p):=by unfold pf;infer_instance
end TL
namespace TL
section
variable{g:eq}{p:j5}{l r:List Pt}{L:List (List Pt)}{k e:Nat}
end
end TL
namespace TL
section
variable{α:Type}[Inhabited α][DecidableEq α]{a b:List α}{k:Nat}
end
section
variable{g:eq}{p:j5}{n:Int}{e:Nat}
end
end TL
/-
  TlWord: words and bytes in memory (a list of uint64, a list of uint8), and how a statement's argument of them is opened.
  By an AI agent.
-/
set_option linter.all false
namespace TL
open Go Go.Proofs Go.ChangeShapes Go.WideShapes Go.Joins Go.Deep
structure Wd where
  n:Nat
  lt:n<18446744073709551616
instance:Inhabited Wd:=⟨⟨0,by decide⟩⟩
instance:Rp Wd where
 sz:=1
 rep _ _ _ cs x:=cs=[.int .u64 (x.n:Int)]
 len h:=by subst h;rfl
 one h:=by subst h;simp[Value.oneCell']
 tr _ _ h:=h
instance:Fl Wd where
 cells x:=[.int .u64 (x.n:Int)]
 rep_iff:=Iff.rfl
structure Bt where
  n:Nat
  lt:n<256
instance:Inhabited Bt:=⟨⟨0,by decide⟩⟩
instance:Rp Bt where
 sz:=1
 rep _ _ _ cs x:=cs=[.int .u8 (x.n:Int)]
 len h:=by subst h;rfl
 one h:=by subst h;simp[Value.oneCell']
 tr _ _ h:=h
instance:Fl Bt where
 cells x:=[.int .u8 (x.n:Int)]
 rep_iff:=Iff.rfl
end TL
namespace TL
open Go Go.Proofs Go.ChangeShapes Go.WideShapes Go.Joins Go.Deep
end TL
namespace TL
open Go
end TL
/-
  TlDij3: lengths of small whole weights: one way and another compared.
  By an AI agent.
-/
set_option linter.all false
namespace TL
variable{g g1 g2:eq}{ws w1 w2:List Nat}{s s1 s2:Int}{far f1 f2:List Nat}{by_ b1 b2:List Int}{rk r1 r2:Int->Nat}{C:Nat}
def cj(h:Int):Int:=if h%2=0 then h+1 else h-1
end TL
namespace TL
end TL
/-
  TlPqI: a heap of places (how far, a whole number; which node), as container/heap keeps it: what is taken is the least, and nothing else is lost.
  By an AI agent.
-/
set_option linter.all false
namespace TL
abbrev cR:=Int×Int
def cf(a b:cR):Prop:=a.1<b.1\/a.1=b.1/\a.2<b.2
instance (a b:cR):Decidable (cf a b):=by unfold cf;infer_instance
theorem il(a:cR):¬cf a a:=by unfold cf;omega
theorem qj{a b:cR}(h:cf a b):¬cf b a:=by unfold cf at*;omega
def fe(xs:List cR)(i:Nat):cR:=gI xs (i:Int)
theorem gQ{xs:List cR}{i:Nat}(h:i<xs.length):fe xs i=xs[i]:=by unfold fe gI;simp[h]
def gP(xs:List cR)(i j:Nat):List cR:=(xs.set i (fe xs j)).set j (fe xs i)
theorem d8(xs:List cR)(i j:Nat):(gP xs i j).length=xs.length:=by unfold gP;rw[List.length_set,List.length_set]
theorem nk{xs:List cR}{i j k:Nat}(hi:i<xs.length)(hj:j<xs.length)(hk:k<xs.length):fe (gP xs i j) k=if k=j then fe xs i else if k=i then fe xs j else fe xs k:=by
 rw[gQ (by rw[d8];exact hk)]
 unfold gP
 rw[List.getElem_set]
 by_cases h1:j=k
 · rw[if_pos h1,if_pos h1.symm]
 · rw[if_neg h1,if_neg (λe=>h1 e.symm),List.getElem_set]
   by_cases h2:i=k
   · rw[if_pos h2,if_pos h2.symm]
   · rw[if_neg h2,if_neg (λe=>h2 e.symm),gQ hk]
theorem eg{xs:List cR}{i j:Nat}(hi:i<xs.length)(hj:j<xs.length):(gP xs i j).Perm xs:=by
 unfold gP
 rw[gQ hi,gQ hj]
 exact List.set_set_perm hi hj
def fg(xs:List cR)(i n:Nat):Nat:=if 2*i+1+1<n/\cf (fe xs (2*i+1+1)) (fe xs (2*i+1)) then 2*i+1+1 else 2*i+1
def q8:Nat->List cR->Nat->Nat->List cR
 |0,xs,_,_=>xs
 |k+1,xs,i,n=>if n<=2*i+1 then xs else if cf (fe xs (fg xs i n)) (fe xs i) then q8 k (gP xs i (fg xs i n)) (fg xs i n) n else xs
def q5:Nat->List cR->Nat->List cR
 |0,xs,_=>xs
 |k+1,xs,j=>if(j-1)/2=j\/¬cf (fe xs j) (fe xs ((j-1)/2)) then xs else q5 k (gP xs ((j-1)/2) j) ((j-1)/2)
theorem n6{xs:List cR}{i n:Nat}(h:¬n<=2*i+1):fg xs i n<n/\(fg xs i n-1)/2=i/\i<fg xs i n/\∀k,k<n->(k-1)/2=i->1<=k->¬cf (fe xs k) (fe xs (fg xs i n)):=by
 unfold fg
 split
 · rename_i c
   refine⟨by omega,by omega,by omega,λk hk hp h1=>?_⟩
   have:k=2*i+1\/k=2*i+1+1:=by omega
   rcases this with rfl|rfl
   · exact qj c.2
   · exact il _
 · rename_i c
   refine⟨by omega,by omega,by omega,λk hk hp h1=>?_⟩
   have:k=2*i+1\/k=2*i+1+1:=by omega
   rcases this with rfl|rfl
   · exact il _
   · exact λe=>c ⟨hk,e⟩
def eS(xs:List cR)(x:cR):List cR:=q5 xs.length (xs++[x]) xs.length
def c8(xs:List cR):List cR:=q8 (xs.length-1) (gP xs 0 (xs.length-1)) 0 (xs.length-1)
end TL
namespace TL
end TL
namespace TL
theorem dE{xs:List cR}{i:Int}(h:0<=i):fe xs i.toNat=gI xs i:=by unfold fe;rw[Int.toNat_of_nonneg h]
theorem kU{xs:List cR}{i j:Int}(hi:0<=i)(hj:0<=j):(xs.set i.toNat (gI xs j)).set j.toNat (gI xs i)=gP xs i.toNat j.toNat:=by
 unfold gP;rw[dE hi,dE hj]
structure eN(q xd:List cR)(i:Int):Prop where
 len:xd.length=q.length
 perm:xd.Perm q
 i0:0<=i
 i1:i<q.length
 fin:∃f,q.length<=f+i.toNat+1/\q8 f xd i.toNat (q.length-1)=c8 q
theorem eN.start{q:List cR}(h:0<(q.length:Int)):eN q ((q.set (Int.toNat 0) (gI q ((q.length:Int)-1))).set (Int.toNat ((q.length:Int)-1)) (gI q 0)) 0:=by
 rw[kU (by omega) (by omega)]
 have e:Int.toNat ((q.length:Int)-1)=q.length-1:=by omega
 rw[e]
 exact⟨d8 _ _ _,eg (by simp;omega) (by omega),by omega,h,q.length-1,by simp;omega,rfl⟩
theorem eN.end1{q xd:List cR}{i:Int}(h:eN q xd i)(hc:((q.length:Int)-1)<=((2*i)+1)):xd=c8 q:=by
 obtain⟨f,h1,h2⟩:=h.fin
 have i0:=h.i0
 rw[<-h2]
 cases f with
 |zero=>rfl
 |succ f=>unfold q8;rw[if_pos (by omega)]
theorem eN.end2{q xd:List cR}{i c:Int}(h:eN q xd i)(hn:¬((q.length:Int)-1)<=((2*i)+1))(hc:(fg xd i.toNat (q.length-1):Int)=c)(hl:¬(decide (cf (gI xd c) (gI xd i)))=true):xd=c8 q:=by
 obtain⟨f,h1,h2⟩:=h.fin
 have i0:=h.i0
 rw[<-h2]
 cases f with
 |zero=>rfl
 |succ f=>
   unfold q8;rw[if_neg (by omega),if_neg]
   intro k
   apply hl
   rw[dE i0] at k
   rw[<-hc]
   exact decide_eq_true k
theorem eN.next{q xd:List cR}{i c:Int}(h:eN q xd i)(hn:¬((q.length:Int)-1)<=((2*i)+1))(hc:(fg xd i.toNat (q.length-1):Int)=c)(hl:(decide (cf (gI xd c) (gI xd i)))=true):eN q ((xd.set i.toNat (gI xd c)).set c.toNat (gI xd i)) c:=by
 obtain⟨f,h1,h2⟩:=h.fin
 have i0:=h.i0
 have hlen:=h.len
 have c0:0<=c:=by omega
 obtain⟨k1,k2,k3,k4⟩:=n6 (xs:=xd) (i:=i.toNat) (n:=q.length-1) (by omega)
 rw[kU i0 c0]
 have e:fg xd i.toNat (q.length-1)=c.toNat:=by omega
 refine⟨by rw[d8,hlen],(eg (by omega) (by omega)).trans h.perm,c0,by omega,?_⟩
 cases f with
 |zero=>omega
 |succ f=>
   refine⟨f,by omega,?_⟩
   rw[<-h2]
   conv=>rhs;unfold q8
   rw[if_neg (by omega),if_pos,e]
   rw[dE i0,e,dE c0]
   exact of_decide_eq_true hl
theorem kk{xd:List cR}{n:Nat}{i:Int}(i0:0<=i)(h:(((2*i)+1)+1)<((n:Int)-1))(hp:(decide (cf (gI xd (((2*i)+1)+1)) (gI xd ((2*i)+1))))=true):(fg xd i.toNat (n-1):Int)=((2*i)+1)+1:=by
 unfold fg
 have hp:=of_decide_eq_true hp
 have e1:fe xd (2*i.toNat+1+1)=gI xd (((2*i)+1)+1):=by rw[<-dE (by omega)];congr 1;omega
 have e2:fe xd (2*i.toNat+1)=gI xd ((2*i)+1):=by rw[<-dE (by omega)];congr 1;omega
 rw[if_pos ⟨by omega,by rw[e1,e2];exact hp⟩];omega
theorem fm{xd:List cR}{n:Nat}{i:Int}(i0:0<=i)(h:¬(((2*i)+1)+1)<((n:Int)-1)\/¬(decide (cf (gI xd (((2*i)+1)+1)) (gI xd ((2*i)+1))))=true):(fg xd i.toNat (n-1):Int)=(2*i)+1:=by
 unfold fg
 have e1:fe xd (2*i.toNat+1+1)=gI xd (((2*i)+1)+1):=by rw[<-dE (by omega)];congr 1;omega
 have e2:fe xd (2*i.toNat+1)=gI xd ((2*i)+1):=by rw[<-dE (by omega)];congr 1;omega
 rw[if_neg,show((2*i.toNat+1:Nat):Int)=2*i+1 by omega]
 rintro⟨a,b⟩
 rw[e1,e2] at b
 rcases h with h|h
 · omega
 · exact h (decide_eq_true b)
def jz(l:List cR):List cR:=q5 (l.length-1) l (l.length-1)
theorem lB(q:List cR)(x:cR):eS q x=jz (q++[x]):=by unfold eS jz;rw[List.length_append];rfl
structure gn(l xu:List cR)(j:Int):Prop where
 len:xu.length=l.length
 perm:xu.Perm l
 j0:0<=j
 j1:j<l.length
 fin:∃f,j.toNat<=f/\q5 f xu j.toNat=jz l
theorem gn.start{l:List cR}(h:0<(l.length:Int)):gn l l ((l.length:Int)-1):=
 ⟨rfl,List.Perm.refl _,by omega,by omega,l.length-1,by omega,by rw[show((l.length:Int)-1).toNat=l.length-1 by omega];rfl⟩
theorem gn.end1{l xu:List cR}{j:Int}(h:gn l xu j)(hc:Int.tdiv (j-1) 2=j):xu=jz l:=by
 obtain⟨f,h1,h2⟩:=h.fin
 have j0:=h.j0
 have:j=0:=by
   rcases Int.lt_or_le 0 j with c|c
   · rw[Int.tdiv_eq_ediv_of_nonneg (by omega)] at hc;omega
   · omega
 subst this
 rw[<-h2]
 cases f with
 |zero=>rfl
 |succ f=>unfold q5;rw[if_pos (.inl (by decide))]
theorem dA{j:Int}(j0:0<=j)(hc:¬Int.tdiv (j-1) 2=j):1<=j/\Int.tdiv (j-1) 2=(j-1)/2:=by
 by_cases c:1<=j
 · exact⟨c,Int.tdiv_eq_ediv_of_nonneg (by omega)⟩
 · have:j=0:=by omega
   subst this
   exact absurd (by decide) hc
theorem gn.end2{l xu:List cR}{j:Int}(h:gn l xu j)(hc:¬Int.tdiv (j-1) 2=j)(hl:¬(decide (cf (gI xu j) (gI xu (Int.tdiv (j-1) 2))))=true):xu=jz l:=by
 obtain⟨f,h1,h2⟩:=h.fin
 have j0:=h.j0
 obtain⟨c1,c2⟩:=dA j0 hc
 rw[<-h2]
 cases f with
 |zero=>rfl
 |succ f=>
   have hh:¬cf (fe xu j.toNat) (fe xu ((j.toNat-1)/2)):=by
     intro k
     apply hl
     rw[c2,<-dE j0,<-dE (by omega),show((j-1)/2).toNat=(j.toNat-1)/2 by omega]
     exact decide_eq_true k
   unfold q5;rw[if_pos (.inr hh)]
theorem gn.next{l xu:List cR}{j:Int}(h:gn l xu j)(hc:¬Int.tdiv (j-1) 2=j)(hl:(decide (cf (gI xu j) (gI xu (Int.tdiv (j-1) 2))))=true):gn l ((xu.set (Int.tdiv (j-1) 2).toNat (gI xu j)).set j.toNat (gI xu (Int.tdiv (j-1) 2))) (Int.tdiv (j-1) 2):=by
 obtain⟨f,h1,h2⟩:=h.fin
 have j0:=h.j0
 have j1:=h.j1
 have hlen:=h.len
 obtain⟨c1,c2⟩:=dA j0 hc
 rw[c2] at hl ⊢
 rw[kU (by omega) j0]
 refine⟨by rw[d8,hlen],(eg (by omega) (by omega)).trans h.perm,by omega,by omega,?_⟩
 cases f with
 |zero=>omega
 |succ f=>
   refine⟨f,by omega,?_⟩
   rw[<-h2]
   conv=>rhs;unfold q5
   have e:((j-1)/2).toNat=(j.toNat-1)/2:=by omega
   rw[if_neg,e]
   rintro(k|k)
   · omega
   · apply k
     rw[dE j0,<-e,dE (by omega)]
     exact of_decide_eq_true hl
theorem lq:∀(f:Nat) (xs:List cR) (i n:Nat),n<=xs.length->i<n\/n=0->(q8 f xs i n).length=xs.length/\(q8 f xs i n).Perm xs/\∀k,n<=k->k<xs.length->fe (q8 f xs i n) k=fe xs k
 |0,xs,i,n,_,_=>⟨rfl,List.Perm.refl _,λ_ _ _=>rfl⟩
 |f+1,xs,i,n,hn0,hi=>by
   unfold q8
   by_cases hn:n<=2*i+1
   · rw[if_pos hn];exact⟨rfl,List.Perm.refl _,λ_ _ _=>rfl⟩
   · rw[if_neg hn]
     by_cases hl:cf (fe xs (fg xs i n)) (fe xs i)
     · rw[if_pos hl]
       obtain⟨c1,c2,c3,c4⟩:=n6 (xs:=xs) hn
       obtain⟨k2,k3,k4⟩:=lq f (gP xs i (fg xs i n)) (fg xs i n) n (by rw[d8];exact hn0) (.inl c1)
       refine⟨by rw[k2,d8],k3.trans (eg (by omega) (by omega)),λk h1 h2=>?_⟩
       rw[k4 k h1 (by rw[d8];exact h2),nk (by omega) (by omega) h2,if_neg (by omega),if_neg (by omega)]
     · rw[if_neg hl];exact⟨rfl,List.Perm.refl _,λ_ _ _=>rfl⟩
theorem lO:∀(f:Nat) (xs:List cR) (j:Nat),j<xs.length->(q5 f xs j).length=xs.length/\(q5 f xs j).Perm xs
 |0,xs,j,_=>⟨rfl,List.Perm.refl _⟩
 |f+1,xs,j,h=>by
   unfold q5
   split
   · exact⟨rfl,List.Perm.refl _⟩
   · obtain⟨a,b⟩:=lO f (gP xs ((j-1)/2) j) ((j-1)/2) (by rw[d8];omega)
     exact⟨by rw[a,d8],b.trans (eg (by omega) h)⟩
theorem lR(xs:List cR)(x:cR):(eS xs x).length=xs.length+1/\(eS xs x).Perm (x::xs):=by
  obtain⟨a,b⟩:=lO xs.length (xs++[x]) xs.length (by simp)
  exact⟨by unfold eS;rw[a];simp,b.trans (List.perm_append_comm (l₁:=xs) (l₂:=[x]))⟩
theorem kE{xs:List cR}(h0:0<xs.length):(c8 xs).length=xs.length/\fe (c8 xs) (xs.length-1)=fe xs 0/\xs.Perm (fe xs 0::(c8 xs).take (xs.length-1)):=by
 obtain⟨k2,k3,k4⟩:=lq (xs.length-1) (gP xs 0 (xs.length-1)) 0 (xs.length-1) (by rw[d8];omega) (by omega)
 rw[d8] at k2 k4
 have e1:fe (c8 xs) (xs.length-1)=fe xs 0:=by
   unfold c8
   rw[k4 (xs.length-1) (Nat.le_refl _) (by omega),nk (by omega) (by omega) (by omega),if_pos rfl]
 have hpl:(c8 xs).length=xs.length:=k2
 refine⟨hpl,e1,?_⟩
 have p1:(c8 xs).Perm xs:=k3.trans (eg (by omega) (by omega))
 have e2:c8 xs=(c8 xs).take (xs.length-1)++[fe xs 0]:=by
   rw[<-e1,gQ (by omega)]
   have:=List.take_append_getElem (i:=xs.length-1) (show xs.length-1<(c8 xs).length by omega)
   rw[this,List.take_of_length_le (by omega)]
 have p2:((c8 xs).take (xs.length-1)++[fe xs 0]).Perm (fe xs 0::(c8 xs).take (xs.length-1)):=List.perm_append_comm
 rw[<-e2] at p2
 exact p1.symm.trans p2
end TL
/-
  TlFlo: a task's pipes: ways, rooms, costs; how far all is from the source.
  By an AI agent.
-/
set_option linter.all false
namespace TL
abbrev cb:=Int×Int×Int
def bV(W:List cb)(w:Int):Int:=(gI W w).1
def c7(W:List cb)(w:Int):Int:=(gI W w).2.1
def fX(W:List cb)(w:Int):Int:=(gI W w).2.2
def dL(W:List cb)(w:Int):Int:=bV W (cj w)
def dX(W:List cb)(P:List Int)(v w:Int):Int:=fX W w+gI P v-gI P (bV W w)
def eb(W:List cb)(w:Int):Prop:=0<=w/\w<(W.length:Int)
variable{n2 s t v u w x y B M:Int}{W W' W0:List cb}{O:List (List Int)}{P far:List Int}{q:List cR}{k m:Nat}
theorem eF(h:0<=w):cj (cj w)=w/\0<=cj w/\cj w≠w/\cj w/2=w/2:=by
 have:w%2=0\/w%2=1:=by omega
 rcases this with q|q
 · have h1:cj w=w+1:=if_pos q
   have h2:cj (w+1)=w:=by unfold cj;rw[if_neg (by omega)];omega
   rw[h1]
   exact⟨h2,by omega,by omega,by omega⟩
 · have h1:cj w=w-1:=if_neg (by omega)
   have h2:cj (w-1)=w:=by unfold cj;rw[if_pos (by omega)];omega
   rw[h1]
   exact⟨h2,by omega,by omega,by omega⟩
structure jT(n2:Int)(W:List cb)(O:List (List Int)):Prop where
  ev:W.length%2=0
  ol:(O.length:Int)=n2
  to:∀w,eb W w->0<=bV W w/\bV W w<n2
  row:∀v,0<=v->v<n2->∀w∈gI O v,eb W w/\dL W w=v
  all:∀w,eb W w->w∈gI O (dL W w)
  nd:∀v,0<=v->v<n2->(gI O v).Nodup
  cs:∀w,eb W w->fX W (cj w)= -fX W w/\ -1048576<=fX W w/\fX W w<=1048576
  len:W.length<=50000
theorem jT.tw(h:jT n2 W O)(hw:eb W w):eb W (cj w):=by
 have:=h.ev
 have h0:=hw.1
 have h1:=hw.2
 obtain⟨a,b,c,d⟩:=eF h0
 exact⟨b,by omega⟩
theorem jT.fr(h:jT n2 W O)(hw:eb W w):0<=dL W w/\dL W w<n2:=h.to _ (h.tw hw)
theorem jT.rl(h:jT n2 W O)(v0:0<=v)(v1:v<n2):((gI O v).length:Int)<=W.length:=by
 have:=i8 W.length (gI O v) (h.nd v v0 v1) (λx hx=>(h.row v v0 v1 x hx).1)
 omega
theorem iY(h0:0<=w):dL W (cj w)=bV W w:=by unfold dL;rw[(eF h0).1]
structure tP(n2 B:Int)(W:List cb)(P:List Int):Prop where
  pl:(P.length:Int)=n2
  pb:∀v,0<=v->v<n2->0<=gI P v/\gI P v<=B
  rm:∀w,eb W w->0<=c7 W w
  rd:∀w,eb W w->0<c7 W w->0<=dX W P (dL W w) w
theorem rE(hs:jT n2 W O)(hp:tP n2 B W P)(hw:eb W w)(v0:0<=v)(v1:v<n2): -(1048576+B)<=dX W P v w/\dX W P v w<=1048576+B:=by
 have h1:=hs.cs w hw
 have h2:=hs.to w hw
 have h3:=hp.pb _ h2.1 h2.2
 have h4:=hp.pb v v0 v1
 unfold dX
 omega
inductive PthW (W:List cb) (P:List Int) (s:Int):Int->Int->Prop
  |nil:PthW W P s s 0
  |step {v d w:Int}:PthW W P s v d->eb W w->dL W w=v->0<c7 W w->PthW W P s (bV W w) (d+dX W P v w)
abbrev dh:Int:=1152921504606846976
def fV(far:List Int):Nat:=far.countP λx=>decide (x≠dh)
theorem lQ(h0:0<=v)(h1:v<(far.length:Int))(hx:x≠dh):fV (far.set v.toNat x)=if gI far v=dh then fV far+1 else fV far:=by
 have hi:v.toNat<far.length:=by omega
 have e:gI far v=far[v.toNat]:=by simp[gI,hi]
 unfold fV
 rw[List.countP_set (h:=hi),e]
 by_cases c:far[v.toNat]=dh
 · rw[if_pos c];simp[c,hx]
 · rw[if_neg c]
   have hp:0<far.countP (λx=>decide (x≠dh)):=List.countP_pos_iff.2 ⟨far[v.toNat],List.getElem_mem hi,by simpa using c⟩
   have p1:decide (far[v.toNat]≠dh)=true:=decide_eq_true c
   have p2:decide (x≠dh)=true:=decide_eq_true hx
   rw[p1,p2]
   simp only[if_true]
   omega
theorem qk:fV far<=far.length:=List.countP_le_length
def qW(far:List Int):Nat:=(far.map Int.toNat).sum
theorem o6(h0:0<=v)(h1:v<(far.length:Int)):qW (far.set v.toNat x)+(gI far v).toNat=qW far+x.toNat:=by
 have hi:v.toNat<far.length:=by omega
 have e:gI far v=far[v.toNat]:=by simp[gI,hi]
 unfold qW
 rw[List.map_set,e]
 have e1:(far.map Int.toNat)=(far.map Int.toNat).take v.toNat++(far.map Int.toNat)[v.toNat]'(by simpa using hi)::(far.map Int.toNat).drop (v.toNat+1):=by
   rw[<-List.drop_eq_getElem_cons,List.take_append_drop]
 rw[List.set_eq_take_append_cons_drop,if_pos (by simpa using hi)]
 conv=>rhs;rw[e1]
 simp only[List.sum_append,List.sum_cons,List.getElem_map]
 omega
def j7(W:List cb)(P:List Int)(x:Int×Int)(c:List Int×List cR)(w:Int):List Int×List cR:=
  if 0<c7 W w/\x.1+dX W P x.2 w<gI c.1 (bV W w) then(c.1.set (bV W w).toNat (x.1+dX W P x.2 w),eS c.2 (x.1+dX W P x.2 w,bV W w)) else c
def gW(W:List cb)(O:List (List Int))(P:List Int)(c:List Int×List cR):List Int×List cR:=
 if gI c.1 (gI (c8 c.2) (((c8 c.2).length:Int)-1)).2<(gI (c8 c.2) (((c8 c.2).length:Int)-1)).1 then(c.1,(c8 c.2).take (c.2.length-1))
 else(gI O (gI (c8 c.2) (((c8 c.2).length:Int)-1)).2).foldl (j7 W P (gI (c8 c.2) (((c8 c.2).length:Int)-1))) (c.1,(c8 c.2).take (c.2.length-1))
def kn(W:List cb)(O:List (List Int))(P:List Int):Nat->List Int×List cR->List Int×List cR
 |0,c=>c
 |f+1,c=>if c.2=[] then c else kn W O P f (gW W O P c)
def ek(c:List Int×List cR):Nat:=c.2.length+2*qW c.1
def ey(n2 s:Int):List Int:=(List.replicate n2.toNat dh).set s.toNat 0
def ck(n2 s:Int)(W:List cb)(O:List (List Int))(P:List Int):List Int:=(kn W O P (ek (ey n2 s,[(0,s)])) (ey n2 s,[(0,s)])).1
structure pZ(n2 s M:Int)(W:List cb)(P far:List Int)(q:List cR):Prop where
  fl:(far.length:Int)=n2
  fs:gI far s=0
  rg:∀v,0<=v->v<n2->gI far v≠dh->0<=gI far v/\gI far v<=((fV far:Int)-1)*M
  pth:∀v,0<=v->v<n2->gI far v≠dh->PthW W P s v (gI far v)
  qin:∀z∈q,(0<=z.2/\z.2<n2)/\gI far z.2<=z.1/\z.1<dh
  qn:q.Nodup
  qb:∀z∈q,0<=z.1/\z.1<=n2*M
def oG(W:List cb)(P far:List Int)(v w:Int):Prop:=0<c7 W w->gI far (bV W w)<=gI far v+dX W P v w
structure ju(n2 s M:Int)(W:List cb)(O:List (List Int))(P far:List Int)(q:List cR):Prop where
 i:pZ n2 s M W P far q
 act:∀v,0<=v->v<n2->gI far v≠dh->(gI far v,v)∈q\/∀w∈gI O v,oG W P far v w
structure pi(n2 s M:Int)(W:List cb)(O:List (List Int))(P far:List Int)(q:List cR)(x:Int×Int)(k N:Nat):Prop where
  i:pZ n2 s M W P far q
  x0:0<=x.2/\x.2<n2
  xf:gI far x.2=x.1
  xb:x.1<dh
  act:∀v,0<=v->v<n2->v≠x.2->gI far v≠dh->(gI far v,v)∈q\/∀w∈gI O v,oG W P far v w
  row:∀i:Nat,i<k->(i:Int)<(gI O x.2).length->oG W P far x.2 (gI (gI O x.2) (i:Int))
  ms:ek (far,q)<N
theorem pZ.bd(h:pZ n2 s M W P far q)(hM:0<=M)(hb:n2*M+M<dh)(v0:0<=v)(v1:v<n2)(hv:gI far v≠dh):0<=gI far v/\gI far v<=n2*M-M:=by
 obtain⟨a,b⟩:=h.rg v v0 v1 hv
 refine⟨a,Int.le_trans b ?_⟩
 have h1:=qk (far:=far)
 have h2:=h.fl
 have:((fV far:Int)-1)*M<=(n2-1)*M:=Int.mul_le_mul_of_nonneg_right (by omega) hM
 rw[Int.sub_mul n2 1 M,Int.one_mul] at this
 exact this
theorem pw(n0:0<n2)(s0:0<=s)(s1:s<n2)(hM:0<=M):ju n2 s M W O P (ey n2 s) [(0,s)]:=by
 have hs:∀v,0<=v->v<n2->gI (ey n2 s) v=if v=s then 0 else dh:=λv a b=>by
   unfold ey
   rw[cJ s0 (by simp;omega) a,dP a (by omega)]
 have hss:gI (ey n2 s) s=0:=by rw[hs s s0 s1,if_pos rfl]
 have only:∀v,0<=v->v<n2->gI (ey n2 s) v≠dh->v=s:=λv a b h=>by
   rw[hs v a b] at h
   by_cases c:v=s
   · exact c
   · rw[if_neg c] at h;exact absurd rfl h
 have hc:fV (ey n2 s)=1:=by
   have h1:=lQ (far:=List.replicate n2.toNat dh) (v:=s) (x:=0) s0 (by simp;omega) (by decide)
   rw[if_pos (dP s0 (by omega))] at h1
   have h2:fV (List.replicate n2.toNat dh)=0:=by unfold fV;rw[List.countP_replicate];simp
   rw[h2] at h1
   exact h1
 refine⟨⟨by unfold ey;simp;omega,hss,λv a b h=>?_,λv a b h=>?_,λz hz=>?_,by simp,λz hz=>?_⟩,λv a b h=>?_⟩
 · rw[only v a b h,hss,hc];exact⟨Int.le_refl _,by simp⟩
 · rw[only v a b h,hss];exact .nil
 · rw[List.mem_singleton.1 hz];exact⟨⟨s0,s1⟩,by rw[hss];exact Int.le_refl _,by show(0:Int)<dh;decide⟩
 · rw[List.mem_singleton.1 hz];exact⟨Int.le_refl _,Int.mul_nonneg (by omega) hM⟩
 · left;rw[only v a b h,hss];simp
theorem ju.pop(h:ju n2 s M W O P far q)(h0:0<q.length){xj:List cR}(hx:xj=c8 q):xj.length=q.length/\((0<=(gI xj ((xj.length:Int)-1)).2/\(gI xj ((xj.length:Int)-1)).2<n2)/\gI far (gI xj ((xj.length:Int)-1)).2<=(gI xj ((xj.length:Int)-1)).1/\(gI xj ((xj.length:Int)-1)).1<dh)/\q.Perm (gI xj ((xj.length:Int)-1)::xj.take (q.length-1)):=by
  subst hx
  obtain⟨a,b,c⟩:=kE h0
  have e:gI (c8 q) (((c8 q).length:Int)-1)=fe q 0:=by
    rw[<-b,a,<-dE (by omega)]
    congr 1
    omega
  rw[e]
  refine⟨a,h.i.qin _ ?_,c⟩
  exact c.mem_iff.2 (List.mem_cons_self ..)
theorem ju.skip(h:ju n2 s M W O P far q)(h0:0<q.length){xj:List cR}(hx:xj=c8 q)(hlt:gI far (gI xj ((xj.length:Int)-1)).2<(gI xj ((xj.length:Int)-1)).1):ju n2 s M W O P far (xj.take (q.length-1))/\ek (far,xj.take (q.length-1))<ek (far,q):=by
 obtain⟨a,b,c⟩:=h.pop h0 hx
 refine⟨⟨⟨h.i.fl,h.i.fs,h.i.rg,h.i.pth,λz hz=>h.i.qin z (c.mem_iff.2 (List.mem_cons_of_mem _ hz)),(List.nodup_cons.1 (c.nodup_iff.1 h.i.qn)).2,λz hz=>h.i.qb z (c.mem_iff.2 (List.mem_cons_of_mem _ hz))⟩,λv v0 v1 hv=>?_⟩,?_⟩
 · rcases h.act v v0 v1 hv with p|p
   · rcases List.mem_cons.1 (c.mem_iff.1 p) with r|r
     · rw[<-r] at hlt;exact absurd hlt (Int.lt_irrefl _)
     · exact .inl r
   · exact .inr p
 · unfold ek
   simp only[List.length_take]
   omega
theorem ju.take(h:ju n2 s M W O P far q)(h0:0<q.length){xj:List cR}(hx:xj=c8 q)(hlt:¬gI far (gI xj ((xj.length:Int)-1)).2<(gI xj ((xj.length:Int)-1)).1):pi n2 s M W O P far (xj.take (q.length-1)) (gI xj ((xj.length:Int)-1)) 0 (ek (far,q)):=by
 obtain⟨a,⟨b1,b2,b3⟩,c⟩:=h.pop h0 hx
 refine⟨⟨h.i.fl,h.i.fs,h.i.rg,h.i.pth,λz hz=>h.i.qin z (c.mem_iff.2 (List.mem_cons_of_mem _ hz)),(List.nodup_cons.1 (c.nodup_iff.1 h.i.qn)).2,λz hz=>h.i.qb z (c.mem_iff.2 (List.mem_cons_of_mem _ hz))⟩,b1,by omega,b3,λv v0 v1 hne hv=>?_,λi hi=>by omega,?_⟩
 · rcases h.act v v0 v1 hv with p|p
   · rcases List.mem_cons.1 (c.mem_iff.1 p) with r|r
     · exact absurd (congrArg Prod.snd r) hne
     · exact .inl r
   · exact .inr p
 · unfold ek
   simp only[List.length_take]
   omega
theorem pi.done{x:Int×Int}(h:pi n2 s M W O P far q x k m)(hk:¬(k:Int)<(gI O x.2).length):ju n2 s M W O P far q:=by
 refine⟨h.i,λv v0 v1 hv=>?_⟩
 by_cases c:v=x.2
 · subst c
   right
   intro w hw
   obtain⟨i,hi,rfl⟩:=List.mem_iff_getElem.1 hw
   have:=h.row i (by omega) (by omega)
   have e4:∀(L:List Int) (j:Nat) (hj:j<L.length),gI L (j:Int)=L[j]:=λL j hj=>by simp[gI,hj]
   rwa[e4 _ i hi] at this
 · exact h.act v v0 v1 c hv
theorem pi.no{x:Int×Int}(h:pi n2 s M W O P far q x k m)(hn:¬(0<c7 W (gI (gI O x.2) (k:Int))/\x.1+dX W P x.2 (gI (gI O x.2) (k:Int))<gI far (bV W (gI (gI O x.2) (k:Int))))):pi n2 s M W O P far q x (k+1) m:=by
 refine⟨h.i,h.x0,h.xf,h.xb,h.act,λi hi hl=>?_,h.ms⟩
 by_cases c:i=k
 · subst c
   intro hr
   rw[h.xf]
   refine Int.not_lt.1 λj=>hn ⟨hr,j⟩
 · exact h.row i (by omega) hl
end TL
/-
  TlFlo2: how far all is from the source, once no node waits; potentials turned.
  By an AI agent.
-/
set_option linter.all false
namespace TL
variable{n2 s t v u w x y d B M:Int}{W W' W0:List cb}{O:List (List Int)}{P P' far far2:List Int}{q q2:List cR}{k m f:Nat}{c R:List Int×List cR}
structure gk(n2 s B M:Int)(W:List cb)(O:List (List Int))(P:List Int):Prop where
  sh:jT n2 W O
  pt:tP n2 B W P
  s0:0<=s
  s1:s<n2
  b0:0<=B
  hM:M=1048576+B
  hb:n2*M+M<dh
theorem lH{nv:Int}(hp:gI far2 v=gI far v)(ht:∀w,eb W w->gI far2 (bV W w)<=gI far (bV W w))(hw:eb W w)(h:oG W P far v w):oG W P far2 v w:=λhr=>by
 have:=h hr
 have:=ht w hw
 rw[hp];omega
theorem pi.yes{x:Int×Int}(hb:gk n2 s B M W O P)(h:pi n2 s M W O P far q x k m)(hk:(k:Int)<(gI O x.2).length)(hr:0<c7 W (gI (gI O x.2) (k:Int)))(hlt:x.1+dX W P x.2 (gI (gI O x.2) (k:Int))<gI far (bV W (gI (gI O x.2) (k:Int)))):pi n2 s M W O P (far.set (bV W (gI (gI O x.2) (k:Int))).toNat (x.1+dX W P x.2 (gI (gI O x.2) (k:Int)))) (eS q (x.1+dX W P x.2 (gI (gI O x.2) (k:Int)),bV W (gI (gI O x.2) (k:Int)))) x (k+1) m:=by
 obtain⟨hw,hfr⟩:=hb.sh.row _ h.x0.1 h.x0.2 _ (bx (xs:=gI O x.2) (i:=(k:Int)) (by omega) hk)
 have hrw:∀i:Nat,(i:Int)<(gI O x.2).length->eb W (gI (gI O x.2) (i:Int)):=λi hi=>(hb.sh.row _ h.x0.1 h.x0.2 _ (bx (xs:=gI O x.2) (i:=(i:Int)) (by omega) hi)).1
 generalize hwe:gI (gI O x.2) (k:Int)=w at*
 have hM:=hb.hM
 have hb0:=hb.b0
 have hn2:0<n2:=by have:=h.x0;omega
 obtain⟨t0,t1⟩:=hb.sh.to w hw
 have hrd:=hb.pt.rd w hw hr
 rw[hfr] at hrd
 have hrb:=(rE hb.sh hb.pt hw h.x0.1 h.x0.2).2
 have hxn:gI far x.2≠dh:=by rw[h.xf];have:=h.xb;omega
 obtain⟨x1,x2⟩:=h.i.bd (by omega) hb.hb h.x0.1 h.x0.2 hxn
 rw[h.xf] at x1 x2
 have hbb:=hb.hb
 generalize hnv:x.1+dX W P x.2 w=nv at*
 have hnu:nv<dh:=by omega
 have hfl:=h.i.fl
 have hs:∀v,0<=v->gI (far.set (bV W w).toNat nv) v=if v=bV W w then nv else gI far v:=λv a=>cJ t0 (by omega) a
 have hts:bV W w≠s:=λe=>by rw[e,h.i.fs] at hlt;omega
 have htx:bV W w≠x.2:=λe=>by rw[e,h.xf] at hlt;omega
 have hcn:=lQ (far:=far) (x:=nv) t0 (by omega) (by omega)
 have hpm:=(lR q (nv,bV W w)).2
 have hle:∀v,0<=v->gI (far.set (bV W w).toNat nv) v<=gI far v:=λv a=>by
   rw[hs v a]
   by_cases c:v=bV W w
   · rw[if_pos c,c];omega
   · rw[if_neg c];exact Int.le_refl _
 refine⟨⟨by rw[List.length_set];exact hfl,by rw[hs s hb.s0,if_neg (λe=>hts e.symm)];exact h.i.fs,λv v0 v1 hv=>?_,λv v0 v1 hv=>?_,λz hz=>?_,hpm.nodup_iff.2 (List.nodup_cons.2 ⟨λhz=>?_,h.i.qn⟩),λz hz=>?_⟩,h.x0,by rw[hs _ h.x0.1,if_neg (λe=>htx e.symm)];exact h.xf,h.xb,λv v0 v1 hne hv=>?_,λi hi hl=>?_,?_⟩
 · have hx3:=(h.i.rg x.2 h.x0.1 h.x0.2 hxn).2
   rw[h.xf] at hx3
   have hcm:(fV far:Int)<=(fV (far.set (bV W w).toNat nv):Int):=by rw[hcn];split<;>omega
   have hmul:((fV far:Int)-1)*M<=((fV (far.set (bV W w).toNat nv):Int)-1)*M:=Int.mul_le_mul_of_nonneg_right (by omega) (by omega)
   rw[hs v v0] at hv ⊢
   by_cases c:v=bV W w
   · rw[if_pos c]
     refine⟨by omega,?_⟩
     by_cases d:gI far (bV W w)=dh
     · rw[if_pos d] at hcn
       rw[hcn,show((fV far+1:Nat):Int)-1=((fV far:Int)-1)+1 by omega,Int.add_mul,Int.one_mul]
       omega
     · have:=(h.i.rg _ t0 t1 d).2
       omega
   · rw[if_neg c] at hv ⊢
     obtain⟨a,b⟩:=h.i.rg v v0 v1 hv
     exact⟨a,Int.le_trans b hmul⟩
 · rw[hs v v0] at hv ⊢
   by_cases c:v=bV W w
   · rw[if_pos c,c,<-hnv]
     have:=h.i.pth x.2 h.x0.1 h.x0.2 hxn
     rw[h.xf] at this
     exact this.step hw hfr hr
   · rw[if_neg c] at hv ⊢
     exact h.i.pth v v0 v1 hv
 · rcases List.mem_cons.1 (hpm.mem_iff.1 hz) with p|p
   · rw[p]
     exact⟨⟨t0,t1⟩,by show gI (far.set (bV W w).toNat nv) (bV W w)<=nv;rw[hs _ t0,if_pos rfl];exact Int.le_refl _,hnu⟩
   · obtain⟨a,b,c⟩:=h.i.qin z p
     exact⟨a,Int.le_trans (hle _ a.1) b,c⟩
 · have:=(h.i.qin _ hz).2.1
   have e:gI far (bV W w)<=nv:=this
   omega
 · rcases List.mem_cons.1 (hpm.mem_iff.1 hz) with p|p
   · rw[p]
     exact⟨by show 0<=nv;omega,by show nv<=n2*M;omega⟩
   · exact h.i.qb z p
 · by_cases c:v=bV W w
   · left
     rw[c,hs _ t0,if_pos rfl]
     exact hpm.mem_iff.2 (List.mem_cons_self ..)
   · have e:gI (far.set (bV W w).toNat nv) v=gI far v:=by rw[hs v v0,if_neg c]
     rw[e] at hv ⊢
     rcases h.act v v0 v1 hne hv with p|p
     · exact .inl (hpm.mem_iff.2 (List.mem_cons_of_mem _ p))
     · exact .inr λw' hw'=>lH (nv:=0) e (λw'' h''=>hle _ (hb.sh.to w'' h'').1) (hb.sh.row v v0 v1 w' hw').1 (p w' hw')
 · have e:gI (far.set (bV W w).toNat nv) x.2=gI far x.2:=by rw[hs _ h.x0.1,if_neg (λe=>htx e.symm)]
   by_cases c:i=k
   · rw[c,hwe]
     intro _
     rw[hs _ t0,if_pos rfl,e,h.xf,hnv]
     exact Int.le_refl _
   · exact lH (nv:=0) e (λw'' h''=>hle _ (hb.sh.to w'' h'').1) (hrw i hl) (h.row i (by omega) hl)
 · have h1:=h.ms
   have h2:=o6 (far:=far) (x:=nv) t0 (by omega)
   have h3:=(lR q (nv,bV W w)).1
   unfold ek at h1 ⊢
   simp only at h1 ⊢
   omega
theorem jh{x:Int×Int}(hb:gk n2 s B M W O P):∀(n k:Nat) (far:List Int) (q:List cR),(gI O x.2).length=k+n->pi n2 s M W O P far q x k m->ju n2 s M W O P (((gI O x.2).drop k).foldl (j7 W P x) (far,q)).1 (((gI O x.2).drop k).foldl (j7 W P x) (far,q)).2/\ek (((gI O x.2).drop k).foldl (j7 W P x) (far,q))<m
 |0,k,far,q,hn,h=>by
   rw[List.drop_eq_nil_of_le (by omega)]
   exact⟨h.done (by omega),h.ms⟩
 |n+1,k,far,q,hn,h=>by
   rw[fU (by omega),List.foldl_cons]
   unfold j7
   by_cases c:0<c7 W (gI (gI O x.2) (k:Int))/\x.1+dX W P x.2 (gI (gI O x.2) (k:Int))<gI far (bV W (gI (gI O x.2) (k:Int)))
   · rw[if_pos c]
     exact jh hb n (k+1) _ _ (by omega) (h.yes hb (by omega) c.1 c.2)
   · rw[if_neg c]
     exact jh hb n (k+1) _ _ (by omega) (h.no c)
theorem kW(hb:gk n2 s B M W O P)(h:ju n2 s M W O P far q)(h0:0<q.length):ju n2 s M W O P (gW W O P (far,q)).1 (gW W O P (far,q)).2/\ek ((gW W O P (far,q)).1,(gW W O P (far,q)).2)<ek (far,q):=by
 unfold gW
 simp only
 split
 · rename_i c
   exact h.skip h0 rfl c
 · rename_i c
   have:=jh hb (gI O (gI (c8 q) (((c8 q).length:Int)-1)).2).length 0 _ _ (by omega) (h.take h0 rfl c)
   rwa[List.drop_zero] at this
theorem gL(hc:¬c.2=[]):kn W O P (f+1) c=kn W O P f ((gW W O P c).1,(gW W O P c).2):=by
 conv=>lhs;unfold kn
 rw[if_neg hc]
theorem s7(hb:gk n2 s B M W O P):∀(f:Nat) (far:List Int) (q:List cR),ju n2 s M W O P far q->ek (far,q)<=f->kn W O P f (far,q)=kn W O P (ek (far,q)) (far,q):=by
 intro f
 induction f using Nat.strongRecOn with
 |ind f ih=>
   intro far q h hf
   by_cases c:q=[]
   · subst c
     have e:∀n,kn W O P n (far,[])=(far,[]):=λn=>by cases n<;>simp[kn]
     rw[e,e]
   · have h0:0<q.length:=List.length_pos_iff.2 c
     obtain⟨h1,h2⟩:=kW hb h h0
     obtain⟨n,hn⟩:∃n,ek (far,q)=n+1:=⟨ek (far,q)-1,by omega⟩
     obtain⟨f',hf'⟩:∃f',f=f'+1:=⟨f-1,by omega⟩
     rw[hn,hf',gL c,gL c,ih f' (by omega) _ _ h1 (by omega),ih n (by omega) _ _ h1 (by omega)]
structure iW(n2 s M:Int)(W:List cb)(O:List (List Int))(P:List Int)(R:List Int×List cR)(far:List Int)(q:List cR):Prop where
  a:ju n2 s M W O P far q
  g:kn W O P (ek (far,q)) (far,q)=R
structure kt(n2 s M:Int)(W:List cb)(O:List (List Int))(P:List Int)(R:List Int×List cR)(far:List Int)(q:List cR)(x:Int×Int)(k m:Nat):Prop where
 r:pi n2 s M W O P far q x k m
 g:kn W O P (ek (((gI O x.2).drop k).foldl (j7 W P x) (far,q))) (((gI O x.2).drop k).foldl (j7 W P x) (far,q))=R
theorem iW.start(hb:gk n2 s B M W O P):iW n2 s M W O P (kn W O P (ek (ey n2 s,[(0,s)])) (ey n2 s,[(0,s)])) (ey n2 s) [(0,s)]:=⟨pw (by have:=hb.s0;have:=hb.s1;omega) hb.s0 hb.s1 (by have:=hb.hM;have:=hb.b0;omega),rfl⟩
theorem iW.g'(hb:gk n2 s B M W O P)(h:iW n2 s M W O P R far q)(h0:0<q.length):kn W O P (ek ((gW W O P (far,q)).1,(gW W O P (far,q)).2)) ((gW W O P (far,q)).1,(gW W O P (far,q)).2)=R:=by
 obtain⟨h1,h2⟩:=kW hb h.a h0
 obtain⟨n,hn⟩:∃n,ek (far,q)=n+1:=⟨ek (far,q)-1,by omega⟩
 have hg:=h.g
 rw[hn,gL (List.length_pos_iff.1 h0)] at hg
 rw[<-hg]
 exact(s7 hb n _ _ h1 (by omega)).symm
theorem iW.skip(hb:gk n2 s B M W O P)(h:iW n2 s M W O P R far q)(h0:0<q.length){xj:List cR}(hx:xj=c8 q)(hlt:gI far (gI xj ((xj.length:Int)-1)).2<(gI xj ((xj.length:Int)-1)).1){q2:List cR}(hq:q2=xj.take (q.length-1)):iW n2 s M W O P R far q2/\ek (far,q2)<ek (far,q):=by
 subst hq
 obtain⟨h1,h2⟩:=h.a.skip h0 hx hlt
 refine⟨⟨h1,?_⟩,h2⟩
 have hg:=h.g' hb h0
 unfold gW at hg
 simp only at hg
 rw[<-hx,if_pos hlt] at hg
 exact hg
theorem iW.take(hb:gk n2 s B M W O P)(h:iW n2 s M W O P R far q)(h0:0<q.length){xj:List cR}(hx:xj=c8 q)(hlt:¬gI far (gI xj ((xj.length:Int)-1)).2<(gI xj ((xj.length:Int)-1)).1){q2:List cR}(hq:q2=xj.take (q.length-1)):kt n2 s M W O P R far q2 (gI xj ((xj.length:Int)-1)) 0 (ek (far,q)):=by
 subst hq
 refine⟨h.a.take h0 hx hlt,?_⟩
 have hg:=h.g' hb h0
 unfold gW at hg
 simp only at hg
 rw[<-hx,if_neg hlt] at hg
 rw[List.drop_zero]
 exact hg
theorem kt.no{x:Int×Int}(h:kt n2 s M W O P R far q x k m)(hk:(k:Int)<(gI O x.2).length)(hn:¬(0<c7 W (gI (gI O x.2) (k:Int))/\x.1+dX W P x.2 (gI (gI O x.2) (k:Int))<gI far (bV W (gI (gI O x.2) (k:Int))))):kt n2 s M W O P R far q x (k+1) m:=by
 refine⟨h.r.no hn,?_⟩
 have hg:=h.g
 rw[fU hk,List.foldl_cons] at hg
 have e:j7 W P x (far,q) (gI (gI O x.2) (k:Int))=(far,q):=by unfold j7;rw[if_neg hn]
 rwa[e] at hg
theorem kt.yes{x:Int×Int}(hb:gk n2 s B M W O P)(h:kt n2 s M W O P R far q x k m)(hk:(k:Int)<(gI O x.2).length)(hr:0<c7 W (gI (gI O x.2) (k:Int)))(hlt:x.1+dX W P x.2 (gI (gI O x.2) (k:Int))<gI far (bV W (gI (gI O x.2) (k:Int)))){nv tv:Int}(hnv:nv=x.1+dX W P x.2 (gI (gI O x.2) (k:Int)))(htv:tv=bV W (gI (gI O x.2) (k:Int)))(hq:q2=eS q (nv,tv)):kt n2 s M W O P R (far.set tv.toNat nv) q2 x (k+1) m:=by
 subst hnv htv hq
 refine⟨h.r.yes hb hk hr hlt,?_⟩
 have hg:=h.g
 rw[fU hk,List.foldl_cons] at hg
 have e:j7 W P x (far,q) (gI (gI O x.2) (k:Int))=(far.set (bV W (gI (gI O x.2) (k:Int))).toNat (x.1+dX W P x.2 (gI (gI O x.2) (k:Int))),eS q (x.1+dX W P x.2 (gI (gI O x.2) (k:Int)),bV W (gI (gI O x.2) (k:Int)))):=by unfold j7;rw[if_pos ⟨hr,hlt⟩]
 rwa[e] at hg
theorem kt.done{x:Int×Int}(h:kt n2 s M W O P R far q x k m)(hk:¬(k:Int)<(gI O x.2).length):iW n2 s M W O P R far q/\ek (far,q)<m:=by
 have hg:=h.g
 rw[List.drop_eq_nil_of_le (by omega)] at hg
 exact⟨⟨h.r.done hk,hg⟩,h.r.ms⟩
theorem iW.fin(h:iW n2 s M W O P R far q)(h0:¬0<q.length):far=R.1/\ju n2 s M W O P far []:=by
 have:q=[]:=List.eq_nil_of_length_eq_zero (by omega)
 subst this
 refine⟨?_,h.a⟩
 have hg:=h.g
 have e:∀n,kn W O P n (far,[])=(far,[]):=λn=>by cases n<;>simp[kn]
 rw[e] at hg
 rw[<-hg]
theorem eM(hb:gk n2 s B M W O P):ju n2 s M W O P (ck n2 s W O P) []:=by
  have hstart:=iW.start hb
  have oL:∀(f:Nat) (far:List Int) (q:List cR),ju n2 s M W O P far q->ek (far,q)<=f->ju n2 s M W O P (kn W O P f (far,q)).1 []:=by
    intro f
    induction f with
    |zero=>
      intro far q h hf
      have:q=[]:=List.eq_nil_of_length_eq_zero (by unfold ek at hf;simp only at hf;omega)
      subst this
      exact h
    |succ f ih=>
      intro far q h hf
      by_cases c:q=[]
      · subst c
        have e:kn W O P (f+1) (far,[])=(far,[]):=by simp[kn]
        rw[e];exact h
      · rw[gL c]
        obtain⟨h1,h2⟩:=kW hb h (List.length_pos_iff.2 c)
        exact ih _ _ h1 (by omega)
  exact oL _ _ _ hstart.a (Nat.le_refl _)
theorem ju.tri(hb:gk n2 s B M W O P)(h:ju n2 s M W O P far [])(hw:eb W w)(hr:0<c7 W w)(hv:gI far (dL W w)≠dh):gI far (bV W w)<=gI far (dL W w)+dX W P (dL W w) w/\gI far (bV W w)≠dh:=by
  obtain⟨f0,f1⟩:=hb.sh.fr hw
  have h1:=(h.act _ f0 f1 hv).resolve_left List.not_mem_nil w (hb.sh.all w hw) hr
  have hM:=hb.hM
  have hb0:=hb.b0
  have h2:=(h.i.bd (by omega) hb.hb f0 f1 hv).2
  have h3:=(rE hb.sh hb.pt hw f0 f1).2
  have h4:=hb.hb
  exact⟨h1,by omega⟩
inductive ZpW (W:List cb) (P:List Int) (s:Int):Int->Prop
  |nil:ZpW W P s s
  |step {w:Int}:ZpW W P s (dL W w)->eb W w->0<c7 W w->dX W P (dL W w) w=0->ZpW W P s (bV W w)
def di(P far:List Int)(ft:Int):List Int:=(dm P.length).map λv=>gI P v+min (gI far v) ft
theorem iN(v0:0<=v)(v1:v<(P.length:Int)){ft:Int}:gI (di P far ft) v=gI P v+min (gI far v) ft:=by
 have h:v.toNat<P.length:=by omega
 unfold di
 rw[show gI ((dm P.length).map λv=>gI P v+min (gI far v) ft) v=(λv=>gI P v+min (gI far v) ft) (gI (dm P.length) v) from ?_,np v0 v1]
 unfold gI
 rw[List.getD_eq_getElem?_getD,List.getD_eq_getElem?_getD,List.getElem?_map]
 rw[List.getElem?_eq_getElem (by simp[dm];omega)];rfl
end TL
