/- Plain texts of this claim, part 1. By an AI agent. -/
import Derived.Test.YtbpphaeianpdpaaPzTlP0
import Derived.Laws.Externs
import Derived.Laws.FloatArith
import Derived.Laws.FloatBits
import Derived.Laws.NewFold
import Derived.Laws.StructEq
import Derived.OrdersHeld
/-
  TlDraw: regions that draw their order, taken operation by operation.
  By an AI agent.
-/
set_option linter.all false
namespace TL
open Go
def bt(n:Nat)(done:List Nat):Array Bool:=((List.range n).map λi=>decide (i∈done)).toArray
theorem c8(n:Nat)(done:List Nat)(j:Nat)(d:Bool):(bt n done).getD j d=if j<n then decide (j∈done) else d:=by
 unfold bt
 by_cases h:j<n
 · simp[h]
 · simp[h]
theorem c7{n i:Nat}(done:List Nat)(hi:i<n):(bt n done).setIfInBounds i true=bt n (i::done):=by
 apply Array.ext
 · simp[bt]
 · intro j h1 h2
   have hj:j<n:=by simpa[bt] using h2
   simp only[bt]
   by_cases hij:i=j
   · subst hij;simp
   · have:¬j=i:=λh=>hij h.symm
     simp[Array.getElem_setIfInBounds,hij,this]
section
variable{P:Program}{ops:Array Oper}{Q:Exit->Act->World->Prop}{md:Region.Mode}{qs:Nat->Bool}
def ij(P:Program)(md:Region.Mode)(ops:Array Oper)(qs:Nat->Bool)(Q:Exit->Act->World->Prop):Nat->Array Bool->Act->World->Prop
  |0,listed,a,w=>Region.ready md ops listed=[]/\Q .normal a w
  |fuel+1,listed,a,w=>(Region.ready md ops listed=[]->Q .normal a w)/\
    ∀i∈Region.ready md ops listed,if qs i then stOp P ops w i (λa'=>ij P md ops qs Q fuel (listed.setIfInBounds i true) a' w) a
      else wpOp P ops Q i (ij P md ops qs Q fuel (listed.setIfInBounds i true)) a w
theorem dK:∀(fuel:Nat) (listed:Array Bool) (a:Act) (w:World),ij P md ops qs Q fuel listed a w->wpAny P md ops Q fuel listed a w
 |0,_,_,_,h=>h
 |fuel+1,listed,a,w,h=>by
   refine⟨h.1,λi hi=>?_⟩
   have h2:=h.2 i hi
   cases hq:qs i with
   |true=>
     simp only[hq,if_true] at h2
     exact wpOp_of_stOp (λa' h'=>dK fuel _ a' w h') h2
   |false=>
     simp only[hq,Bool.false_eq_true,if_false] at h2
     exact wpOp_mono (λa' w' h'=>dK fuel _ a' w' h') h2
theorem kr{i:Nat}{oi:Oper}{v:Value}{w:World}{M D:Array Bool}(hi:ops[i]? =some oi)(hsel:∀(j:Nat) (o:Oper) cs b,ops[j]? =some o->o.op≠ .select cs b)(hqi:qs i=true)
    (hM:∀j oj,ops[j]? =some oj->M.getD j false=false->j≠i->∃e∈oj.after,Region.binds md e=true/\M.getD e.on false=false)
    (hMq:∀j oj,ops[j]? =some oj->M.getD j false=true->D.getD j true=false->j≠i->qs j=true):
    ∀(fuel:Nat) (listed:Array Bool) (a:Act),listed.size=ops.size->(∀j,listed.getD j false=true->M.getD j false=true)->(∀j,listed.getD j true=false->D.getD j true=false)->
      (∀j oj,ops[j]? =some oj->j≠i->listed.getD j true=false->(∀e∈oj.after,Region.binds md e=true->e.on≠i)->oi.apart ops oj=true)->
      i∈Region.ready md ops listed->YieldsAt P ops w oi v a->
      ij P md ops qs Q fuel (listed.setIfInBounds i true) (a.put oi.dst v) w->ij P md ops qs Q (fuel+1) listed a w:=by
  intro fuel
  induction fuel with
  |zero=>
    intro listed a _ _ _ _ hr hy H
    refine⟨λh=>(by rw[h] at hr;cases hr),λj hj=>?_⟩
    by_cases hji:j=i
    · subst hji;rw[if_pos hqi];exact hy.stOp hi H
    · have:=ready_mono hj hji
      rw[H.1] at this
      cases this
  |succ fuel ih=>
    intro listed a hsz hsub hD hfree hr hy H
    refine⟨λh=>(by rw[h] at hr;cases hr),λj hj=>?_⟩
    by_cases hji:j=i
    · subst hji;rw[if_pos hqi];exact hy.stOp hi H
    · obtain⟨hjun,oj,hoj,hall⟩:=mem_ready.1 hj
      have hMj:M.getD j false=true:=by
        cases hm:M.getD j false with
        |true=>rfl
        |false=>
          obtain⟨e,he,hb,hn⟩:=hM j oj hoj hm hji
          have:=hsub _ (hall e he hb)
          rw[hn] at this;cases this
      have hqj:=hMq j oj hoj hMj (hD j hjun) hji
      have h1:=H.2 j (ready_mono hj hji)
      rw[if_pos hqj] at h1 ⊢
      have hnot:∀e∈oj.after,Region.binds md e=true->e.on≠i:=λe he hb heq=>by
        have h1:=hall e he hb
        have h0:=(mem_ready.1 hr).1
        rw[heq] at h1
        rw[getD_both h0] at h1
        cases h1
      have h2:=stOp_put hoj (hfree j oj hoj hji hjun hnot) (λcs b=>hsel i oi cs b hi) (λcs b=>hsel j oj cs b hoj) hy h1
      have hfree':∀k ok,ops[k]? =some ok->k≠i->(listed.setIfInBounds j true).getD k true=false->
          (∀e∈ok.after,Region.binds md e=true->e.on≠i)->oi.apart ops ok=true:=λk ok hk hki hun hno=>by
        refine hfree k ok hk hki ?_ hno
        by_cases hjk:j=k
        · subst hjk;exact hjun
        · rw[getD_set_ne true hjk] at hun;exact hun
      have hsub':∀k,(listed.setIfInBounds j true).getD k false=true->M.getD k false=true:=λk hk=>by
        by_cases hjk:j=k
        · subst hjk;exact hMj
        · rw[getD_set_ne false hjk] at hk;exact hsub k hk
      have hD':∀k,(listed.setIfInBounds j true).getD k true=false->D.getD k true=false:=λk hk=>by
        by_cases hjk:j=k
        · subst hjk;exact hD j hjun
        · rw[getD_set_ne true hjk] at hk;exact hD k hk
      refine stOp_mono (λa' h3=>ih (listed.setIfInBounds j true) a' (by simpa using hsz) hsub' hD' hfree' (ready_mono hr (Ne.symm hji)) h3.1 ?_) h2
      rw[Array.setIfInBounds_comm _ _ hji]
      exact h3.2
def aw{α:Type}(s:Sem α):Prop:=∀(P:Program) (w:World) (x:α) (w':World),s.run P w= .ok x w'->cl w.heap.size w w'
theorem aw.bind{α β:Type}{s:Sem α}{f:α->Sem β}(h:aw s)(hf:∀a,aw (f a)):aw (s>>=f):=by
 intro P w x w' hr
 rw[Sem.run_bind] at hr
 cases h1:s.run P w with
 |halt e w1=>rw[h1] at hr;cases hr
 |ok a w1=>
   rw[h1] at hr
   have k1:=h P w a w1 h1
   have k2:=hf a P w1 x w' hr
   exact k1.trans (k2.mono k1.size)
theorem aw.pure{α:Type}(a:α):aw (Pure.pure a:Sem α):=λP w x w' h=>by
 simp only[Sem.run_pure] at h
 cases h;exact cl.refl _ _
theorem aw.halt{α:Type}(e:Halt):aw (Sem.halt e:Sem α):=λP w x w' h=>by cases h
theorem aw.stuck{α:Type}(e:String):aw (Go.stuck e:Sem α):=aw.halt _
theorem aw.unsupported{α:Type}(e:Unsupported):aw (Go.unsupported e:Sem α):=aw.halt _
theorem aw.program:aw Go.program:=λP w x w' h=>by
 simp only[run_program] at h
 cases h;exact cl.refl _ _
theorem aw.new(o:Obj):aw (newObj o):=λP w x w' h=>by
 simp only[run_newObj] at h
 cases h
 exact(cl.refl _ w).alloc (Nat.le_refl _) o
theorem aw.typeInfo(t:TypeId):aw (Go.typeInfo t):=aw.bind aw.program λp=>by
 cases p.info? t with
 |some i=>exact aw.pure i
 |none=>exact aw.stuck _
theorem aw.underlying(t:TypeId):aw (Go.underlying t):=aw.bind aw.program λp=>by
 cases p.underlying t with
 |some i=>exact aw.pure i
 |none=>exact aw.stuck _
theorem aw.sizeOf(t:TypeId):aw (Go.sizeOf t):=aw.bind (aw.typeInfo t) λi=>aw.pure _
theorem aw.zeroValue(t:TypeId):aw (Go.zeroValue t):=aw.bind (aw.typeInfo t) λi=>by
 cases i.zero with
 |some v=>exact aw.pure v
 |none=>exact aw.unsupported _
theorem aw.newVar(t:TypeId)(v:Value):aw (Go.newVar t v):=aw.bind (aw.new _) λ_=>aw.pure _
theorem fY(t:TypeId)(len:Nat)(parts:Array (Nat×Value)):aw (Instr.buildSlice t len parts):=by
 unfold Instr.buildSlice
 refine aw.bind (aw.underlying t) λd=>?_
 split
 · refine aw.bind (aw.sizeOf _) λsize=>?_
   have tail:∀(elem:TypeId) (zero:Array Value),aw (match Instr.fill (λi=>some (i*size,size)) ((Array.range (len*size)).map (zero[· %zero.size]!)) parts.toList with
       |some cells=>(do pure (Value.slice (some (<-newRow elem cells)) len len):Sem Value)
       |_=>Go.stuck "buildSlice: a part of the wrong size"):=λelem zero=>by
     split
     · exact aw.bind (aw.bind (aw.new _) λ_=>aw.pure _) λ_=>aw.pure _
     · exact aw.stuck _
   by_cases h1:len*size>2^24
   · simp only[h1,if_true]
     refine aw.bind (aw.unsupported _) λx=>?_
     by_cases h2:len*size=0
     · rw[if_pos h2]
       exact aw.bind (aw.pure _) λzero=>tail _ zero
     · simp only[h2,if_false]
       exact aw.bind (aw.zeroValue _) λ_=>aw.bind (aw.pure _) λzero=>tail _ zero
   · simp only[h1,if_false]
     by_cases h2:len*size=0
     · rw[if_pos h2]
       exact aw.bind (aw.pure _) λzero=>tail _ zero
     · simp only[h2,if_false]
       exact aw.bind (aw.zeroValue _) λ_=>aw.bind (aw.pure _) λzero=>tail _ zero
 · exact aw.stuck _
theorem ni{P:Program}{w w':World}{s:Sem Value}{nx:Next}(h:(do pure (Next.value (<-s)):Sem Next).run P w= .ok nx w'):∃u,nx= .value u:=by
 rw[Sem.run_bind] at h
 cases hs:s.run P w with
 |ok a w1=>rw[hs] at h;cases h;exact⟨a,rfl⟩
 |halt e w1=>rw[hs] at h;cases h
theorem aw.load(a:Addr)(m:Mode):aw (Go.load a m):=λP w x w' h=>by
 simp only[Go.load,Sem.run] at h
 split at h
 · cases h;exact cl.refl _ _
 · split at h
   · cases h;exact cl.refl _ _
   · cases h
theorem aw.cells(a:Addr):∀(n i:Nat) (acc:Array Value),aw (loadCellsFrom a i n acc)
 |0,_,_=>aw.pure _
 |n+1,i,_=>aw.bind (aw.load _ _) λ_=>aw.cells a n (i+1) _
theorem aw.isAgg(t:TypeId):aw (Go.isAgg t):=aw.bind (aw.underlying t) λd=>by
 split<;>exact aw.pure _
theorem aw.error{α:Type}(m:String):aw (runtimePanic (.error m):Sem α):=aw.bind aw.program λp=>aw.halt _
theorem aw.asIntOf(v:Value):aw (Go.asIntOf v):=by
 unfold Go.asIntOf
 split
 · exact aw.pure _
 · exact aw.unsupported _
 · exact aw.stuck _
theorem aw.asInt(v:Value):aw (Go.asInt v):=aw.bind (aw.asIntOf v) λ_=>aw.pure _
theorem aw.choose(q:Question):aw (Go.choose q):=λP w x w' h=>by
 simp only[Go.choose,Sem.run] at h
 split at h
 · cases h;exact cl.refl _ _
 · cases h;exact⟨rfl,rfl,rfl,Nat.le_refl _,λ_ _=>rfl,Nat.le_succ _⟩
theorem aw.room(n:Nat):aw (askRoom n):=λP w x w' h=>by
 unfold askRoom at h
 split at h
 · simp only[Go.mark,Sem.run] at h
   cases h;exact⟨rfl,rfl,rfl,Nat.le_refl _,λ_ _=>rfl,Nat.le_refl _⟩
 · cases h;exact cl.refl _ _
theorem iX(t:TypeId)(a:Value):aw (Instr.loadAt t a):=by
 unfold Instr.loadAt
 refine aw.bind ?_ λb=>?_
 · unfold Instr.sureAddr
   split
   · exact aw.pure _
   · exact aw.stuck _
 · unfold loadVar
   refine aw.bind (aw.isAgg t) λc=>?_
   split
   · exact aw.bind (aw.sizeOf t) λn=>aw.bind (aw.cells _ _ _ _) λ_=>aw.pure _
   · exact aw.load _ _
theorem gG(t:TypeId)(a b:Value):aw (Instr.makeSlice t a b):=by
 unfold Instr.makeSlice
 refine aw.bind (aw.underlying t) λd=>?_
 split
 · refine aw.bind (aw.asInt _) λl=>aw.bind (aw.asInt _) λc=>aw.bind (aw.typeInfo _) λi=>?_
   have tail:∀(c:Int) (l:Int) (elem:TypeId),aw (do
       let n:=c.toNat*(<-sizeOf elem)
       let zero<-if n=0 then pure #[] else do pure (<-zeroValue elem).cells
       let a<-newRow elem ((Array.range n).map (zero[· %zero.size]!))
       pure (Value.slice (some a) l.toNat c.toNat)):=λc l elem=>by
     refine aw.bind (aw.sizeOf _) λn=>?_
     have last:∀zero:Array Value,aw (do
       let a<-newRow elem ((Array.range (c.toNat*n)).map (zero[· %zero.size]!))
       pure (Value.slice (some a) l.toNat c.toNat)):=λzero=>aw.bind (aw.bind (aw.new _) λ_=>aw.pure _) λ_=>aw.pure _
     by_cases h:c.toNat*n=0
     · simp only[h,if_true]
       have:=last #[]
       simp only[h] at this
       exact aw.bind (aw.pure _) λ_=>aw.bind (aw.bind (aw.new _) λ_=>aw.pure _) λ_=>aw.pure _
     · simp only[h,if_false]
       exact aw.bind (aw.zeroValue _) λ_=>aw.bind (aw.pure _) λz=>last z
   dsimp only
   repeat' (first
     |exact aw.error _
     |exact aw.choose _
     |exact aw.room _
     |exact tail _ _ _
     |exact aw.pure _
     |refine aw.bind ?_ λ_=>?_
     |split)
 · exact aw.stuck _
def eC:Op->Bool
 | .alloc _| .box .. | .buildSlice .. | .load .. | .makeSlice .. =>true
 |_=>false
theorem ko{ρ:Operand->Value}{o:Oper}(h:eC o.op=true):aw (execOp ρ o):=by
 obtain⟨dst,op,ty,pos,after,g⟩:=o
 cases op<;>simp only[eC,Bool.false_eq_true] at h
 case alloc e=>exact aw.bind (aw.bind (aw.zeroValue _) λ_=>aw.bind (aw.newVar _ _) λ_=>aw.pure _) λ_=>aw.pure _
 case box e x=>exact aw.bind (aw.bind (aw.newVar _ _) λ_=>aw.pure _) λ_=>aw.pure _
 case buildSlice t n ps=>exact aw.bind (fY _ _ _) λ_=>aw.pure _
 case load t a=>exact aw.bind (iX _ _) λ_=>aw.pure _
 case makeSlice t a b=>exact aw.bind (gG _ _ _) λ_=>aw.pure _
theorem mu{i:Nat}{oi:Oper}{v:Value}{w0:World}{M D:Array Bool}(hi:ops[i]? =some oi)(hsel:∀(j:Nat) (o:Oper) cs b,ops[j]? =some o->o.op≠ .select cs b)(hqi:qs i=true)
    (hQ:∀c a w,Q (.panic c) (a.put oi.dst v) w->Q (.panic c) a w)
    (hM:∀j oj,ops[j]? =some oj->M.getD j false=false->j≠i->∃e∈oj.after,Region.binds md e=true/\M.getD e.on false=false)
    (hMq:∀j oj,ops[j]? =some oj->M.getD j false=true->D.getD j true=false->j≠i->qs j=true\/eC oj.op=true):
    ∀(fuel:Nat) (listed:Array Bool) (a:Act) (w:World),cl w0.heap.size w0 w->(∀j,listed.getD j false=true->M.getD j false=true)->(∀j,listed.getD j true=false->D.getD j true=false)->
      (∀j oj,ops[j]? =some oj->j≠i->listed.getD j true=false->(∀e∈oj.after,Region.binds md e=true->e.on≠i)->oi.apart ops oj=true)->
      i∈Region.ready md ops listed->(∀w,cl w0.heap.size w0 w->YieldsAt P ops w oi v a)->
      ij P md ops qs Q fuel (listed.setIfInBounds i true) (a.put oi.dst v) w->ij P md ops qs Q (fuel+1) listed a w:=by
  intro fuel
  induction fuel with
  |zero=>
    intro listed a w hw _ _ _ hr hy H
    refine⟨λh=>(by rw[h] at hr;cases hr),λj hj=>?_⟩
    by_cases hji:j=i
    · subst hji;rw[if_pos hqi];exact(hy w hw).stOp hi H
    · have:=ready_mono hj hji
      rw[H.1] at this
      cases this
  |succ fuel ih=>
    intro listed a w hw hsub hD hfree hr hy H
    refine⟨λh=>(by rw[h] at hr;cases hr),λj hj=>?_⟩
    by_cases hji:j=i
    · subst hji;rw[if_pos hqi];exact(hy w hw).stOp hi H
    · obtain⟨hjun,oj,hoj,hall⟩:=mem_ready.1 hj
      have hMj:M.getD j false=true:=by
        cases hm:M.getD j false with
        |true=>rfl
        |false=>
          obtain⟨e,he,hb,hn⟩:=hM j oj hoj hm hji
          have:=hsub _ (hall e he hb)
          rw[hn] at this;cases this
      have hqj:=hMq j oj hoj hMj (hD j hjun) hji
      have h1:=H.2 j (ready_mono hj hji)
      have hnot:∀e∈oj.after,Region.binds md e=true->e.on≠i:=λe he hb heq=>by
        have h1:=hall e he hb
        have h0:=(mem_ready.1 hr).1
        rw[heq] at h1
        rw[getD_both h0] at h1
        cases h1
      have hap:=hfree j oj hoj hji hjun hnot
      have hfree':∀k ok,ops[k]? =some ok->k≠i->(listed.setIfInBounds j true).getD k true=false->
          (∀e∈ok.after,Region.binds md e=true->e.on≠i)->oi.apart ops ok=true:=λk ok hk hki hun hno=>by
        refine hfree k ok hk hki ?_ hno
        by_cases hjk:j=k
        · subst hjk;exact hjun
        · rw[getD_set_ne true hjk] at hun;exact hun
      have hsub':∀k,(listed.setIfInBounds j true).getD k false=true->M.getD k false=true:=λk hk=>by
        by_cases hjk:j=k
        · subst hjk;exact hMj
        · rw[getD_set_ne false hjk] at hk;exact hsub k hk
      have hD':∀k,(listed.setIfInBounds j true).getD k true=false->D.getD k true=false:=λk hk=>by
        by_cases hjk:j=k
        · subst hjk;exact hD j hjun
        · rw[getD_set_ne true hjk] at hk;exact hD k hk
      obtain⟨g1,g2,g3⟩:=Oper.apart_spec hap
      have keep:∀u w,cl w0.heap.size w0 w->YieldsAt P ops w oi v (a.put oj.dst u):=λu w hw=>
        (hy w hw).of_same (execOp_put oi (λcs b=>hsel i oi cs b hi) a oj.dst u g3) (wanted_put oi a oj.dst u g3)
      cases hqj':qs j with
      |true=>
        simp only[hqj',if_true] at h1 ⊢
        obtain⟨u,hyu,hK⟩:=yieldsAt_of_stOp hoj h1
        have hyj:YieldsAt P ops w oj u a:=by
          rcases hyu with⟨k1,k2⟩|⟨k1,k2⟩
          · refine .inl ⟨by rw[<-wanted_put oj a oi.dst v g1];exact k1,?_⟩
            rw[execOp_put oj (λcs b=>hsel j oj cs b hoj) a oi.dst v g1] at k2
            exact k2
          · exact .inr ⟨by rw[<-wanted_put oj a oi.dst v g1];exact k1,k2⟩
        refine hyj.stOp hoj (ih (listed.setIfInBounds j true) (a.put oj.dst u) w hw hsub' hD' hfree' (ready_mono hr (Ne.symm hji)) (keep u) ?_)
        rw[<-Act.put_comm a v u g2,Array.setIfInBounds_comm _ _ hji]
        exact hK
      |false=>
        have hkk:=hqj.resolve_left (by rw[hqj'];simp)
        simp only[hqj',Bool.false_eq_true,if_false] at h1 ⊢
        unfold wpOp at h1 ⊢
        simp only[hoj] at h1 ⊢
        rw[wanted_put oj a oi.dst v g1] at h1
        cases hwt:Region.wanted oj (yielded ops a.tmps) with
        |false=>
          simp only[hwt,Bool.false_eq_true,if_false] at h1 ⊢
          refine ih (listed.setIfInBounds j true) (a.put oj.dst undef) w hw hsub' hD' hfree' (ready_mono hr (Ne.symm hji)) (keep undef) ?_
          rw[<-Act.put_comm a v undef g2,Array.setIfInBounds_comm _ _ hji]
          exact h1
        |true=>
          simp only[hwt,if_true] at h1 ⊢
          have hke:=ko (ρ:=a.eval) hkk P w
          rcases h1 with h1|⟨h1,h2⟩
          · left
            unfold Oper.wp at h1 ⊢
            rw[execOp_put oj (λcs b=>hsel j oj cs b hoj) a oi.dst v g1] at h1
            obtain⟨dst,op,ty,pos,after,gd⟩:=oj
            cases hrun:(execOp a.eval ⟨dst,op,ty,pos,after,gd⟩).run P w with
            |halt x w'=>
              rw[hrun] at h1
              cases x<;>simp only[Oper.upon] at h1 ⊢
              case panic u=>exact hQ _ _ _ h1
            |ok nx w'=>
              rw[hrun] at h1
              have hb:=hke nx w' hrun
              have hw':cl w0.heap.size w0 w':=hw.trans (hb.mono hw.size)
              -- these operations yield values alone
              have hval:∃u,nx= .value u:=by
                cases op<;>simp only[eC,Bool.false_eq_true] at hkk
                all_goals exact ni hrun
              obtain⟨u,rfl⟩:=hval
              simp only[Oper.upon] at h1 ⊢
              refine ih (listed.setIfInBounds j true) (a.put dst u) w' hw' hsub' hD' hfree' (ready_mono hr (Ne.symm hji)) (keep u) ?_
              have h3:=h1
              rw[show(a.put oi.dst v).put dst u=(a.put dst u).put oi.dst v from Act.put_comm a v u g2,Array.setIfInBounds_comm _ _ (Ne.symm hji)] at h3
              exact h3
          · right
            refine⟨?_,h2⟩
            unfold Oper.asks at*
            rw[execOp_put oj (λcs b=>hsel j oj cs b hoj) a oi.dst v g1] at h1
            exact h1
theorem mj{i:Nat}{oi:Oper}{v:Value}(hi:ops[i]? =some oi)(hsel:∀(j:Nat) (o:Oper) cs b,ops[j]? =some o->o.op≠ .select cs b)(hqi:qs i=true)
    (hQ:∀c a w,Q (.panic c) (a.put oi.dst v) w->Q (.panic c) a w):
    ∀(fuel:Nat) (listed:Array Bool) (a:Act) (w:World),
      (∀j oj,ops[j]? =some oj->j≠i->listed.getD j true=false->(∀e∈oj.after,Region.binds md e=true->e.on≠i)->oi.apart ops oj=true)->
      i∈Region.ready md ops listed->Yields P ops oi v a->
      ij P md ops qs Q fuel (listed.setIfInBounds i true) (a.put oi.dst v) w->ij P md ops qs Q (fuel+1) listed a w:=by
  have hat:∀{a:Act} {w:World},Yields P ops oi v a->YieldsAt P ops w oi v a:=λ {a w} hy=>by
    rcases hy with⟨h1,h2⟩|⟨h1,h2⟩
    · exact .inl ⟨h1,.inl (h2 w)⟩
    · exact .inr ⟨h1,h2⟩
  intro fuel
  induction fuel with
  |zero=>
    intro listed a w _ hr hy H
    refine⟨λh=>(by rw[h] at hr;cases hr),λj hj=>?_⟩
    by_cases hji:j=i
    · subst hji;rw[if_pos hqi];exact(hat hy).stOp hi H
    · have:=ready_mono hj hji
      rw[H.1] at this
      cases this
  |succ fuel ih=>
    intro listed a w hfree hr hy H
    refine⟨λh=>(by rw[h] at hr;cases hr),λj hj=>?_⟩
    by_cases hji:j=i
    · subst hji;rw[if_pos hqi];exact(hat hy).stOp hi H
    · obtain⟨hjun,oj,hoj,hall⟩:=mem_ready.1 hj
      have h1:=H.2 j (ready_mono hj hji)
      have hnot:∀e∈oj.after,Region.binds md e=true->e.on≠i:=λe he hb heq=>by
        have h1:=hall e he hb
        have h0:=(mem_ready.1 hr).1
        rw[heq] at h1
        rw[getD_both h0] at h1
        cases h1
      have hap:=hfree j oj hoj hji hjun hnot
      have hfree':∀k ok,ops[k]? =some ok->k≠i->(listed.setIfInBounds j true).getD k true=false->
          (∀e∈ok.after,Region.binds md e=true->e.on≠i)->oi.apart ops ok=true:=λk ok hk hki hun hno=>by
        refine hfree k ok hk hki ?_ hno
        by_cases hjk:j=k
        · subst hjk;exact hjun
        · rw[getD_set_ne true hjk] at hun;exact hun
      cases hqj:qs j with
      |true=>
        simp only[hqj,if_true] at h1 ⊢
        -- a step that leaves the world
        have hy':=hy
        obtain⟨g1,g2,g3⟩:=Oper.apart_spec hap
        have keep:∀(a:Act),Yields P ops oi v a->∀u,Yields P ops oi v (a.put oj.dst u):=λa hy u=>
          hy.of_same (execOp_put oi (λcs b=>hsel i oi cs b hi) a oj.dst u g3) (wanted_put oi a oj.dst u g3)
        obtain⟨u,hyu,hK⟩:=yieldsAt_of_stOp hoj h1
        have hyj:YieldsAt P ops w oj u a:=by
          rcases hyu with⟨k1,k2⟩|⟨k1,k2⟩
          · refine .inl ⟨by rw[<-wanted_put oj a oi.dst v g1];exact k1,?_⟩
            rw[execOp_put oj (λcs b=>hsel j oj cs b hoj) a oi.dst v g1] at k2
            exact k2
          · exact .inr ⟨by rw[<-wanted_put oj a oi.dst v g1];exact k1,k2⟩
        refine hyj.stOp hoj (ih (listed.setIfInBounds j true) (a.put oj.dst u) w hfree' (ready_mono hr (Ne.symm hji)) (keep a hy u) ?_)
        rw[<-Act.put_comm a v u g2,Array.setIfInBounds_comm _ _ hji]
        exact hK
      |false=>
        simp only[hqj,Bool.false_eq_true,if_false] at h1 ⊢
        have h2:=wpOp_put hoj hap (λcs b=>hsel i oi cs b hi) (λcs b=>hsel j oj cs b hoj) hQ hy h1
        refine wpOp_mono (λa' w' h3=>ih (listed.setIfInBounds j true) a' w' hfree' (ready_mono hr (Ne.symm hji)) h3.1 ?_) h2
        rw[Array.setIfInBounds_comm _ _ hji]
        exact h3.2
end
section
variable{P:Program}{n:Nat}{l:List Oper}{qs:List Nat}{K:Fr->World->Prop}{f:Fr}{w:World}{done:List Nat}{fuel:Nat}
def hP(P:Program)(n:Nat)(l:List Oper)(qs:List Nat)(K:Fr->World->Prop)(fuel:Nat)(done:List Nat)(f:Fr)(w:World):Prop:=
  ∀a,Ag n a f->ij P .any l.toArray (λi=>decide (i∈qs)) (λe a' w'=>e= .normal/\∃f',Ag n a' f'/\K f' w') fuel (bt l.length done) a w
theorem bB{fid:Nat}{R:Ending->World->Prop}{k:List Item}{id:Nat}(γ:aA)(qs:List Nat)(hm:P.follows .mixedOrders=true)
   (h:∀w1,bi no γ w γ w1->hP P n l qs (d7 P fid n R k) l.length [] f w1):d7 P fid n R (.code (.region id l.toArray true)::k) f w:=
 eO λa ha=>wp_region_any hm (by
   have h0:=dK _ _ _ _ (h _ (bi.refl _ _ _).drew a ha)
   have hmask:bt l.length []=Array.replicate l.toArray.size false:=by
     apply Array.ext
     · simp[bt]
     · intro j h1 h2;simp[bt]
   rw[hmask] at h0
   simpa using h0)
theorem ec{fid:Nat}{R:Ending->World->Prop}{k:List Item}{id:Nat}{σ:Type}(Mid:σ->Fr->World->Prop)(γ:aA)(qs:List Nat)(hm:P.follows .mixedOrders=true)
    (h:(∀s f w,Mid s f w->d7 P fid n R k f w)->∀w1,bi no γ w γ w1->hP P n l qs (d7 P fid n R k) l.length [] f w1)(hk:∀s f w,Mid s f w->d7 P fid n R k f w):d7 P fid n R (.code (.region id l.toArray true)::k) f w:=
  bB γ qs hm (h hk)
def dO(l:List Oper)(done:List Nat)(i:Nat):Bool:=
 !done.contains i&&match l[i]? with
   |some o=>o.after.all λe=> !Region.binds .any e||done.contains e.on&&decide (e.on<l.length)
   |none=>false
def fm(l:List Oper)(done:List Nat)(i:Nat):Bool:=
 match l[i]? with
 |none=>false
 |some oi=>(List.range l.length).all λj=>j==i||done.contains j||match l[j]? with
     |some oj=>oj.after.any (λe=>Region.binds .any e&&e.on==i)||oi.apart l.toArray oj
     |none=>true
def jf(l:List Oper)(qs done M:List Nat)(i:Nat):Bool:=
  ((List.range l.length).all λj=>M.contains j||j==i||match l[j]? with
      |some oj=>oj.after.any λe=>Region.binds .any e&& !M.contains e.on
      |none=>true)&&
  (M.all λj=>j==i||done.contains j||qs.contains j)&&(done.all λj=>M.contains j&&decide (j<l.length))&&M.all λj=>decide (j<l.length)
def eb(l:List Oper):Bool:=Region.noSelect l.toArray
theorem dB{i:Nat}(h:dO l done i=true):i<l.length/\i∈Region.ready .any l.toArray (bt l.length done):=by
 unfold dO at h
 simp only[Bool.and_eq_true,Bool.not_eq_true'] at h
 obtain⟨h1,h2⟩:=h
 split at h2
 · rename_i o ho
   have hlt:i<l.length:=(List.getElem?_eq_some_iff.1 ho).1
   refine⟨hlt,mem_ready.2 ⟨by rw[c8];simp[hlt];simpa using h1,o,by simpa using ho,λe he hb=>?_⟩⟩
   have h3:=Array.all_eq_true_iff_forall_mem.1 h2 e he
   simp only[hb,Bool.not_true,Bool.false_or,Bool.and_eq_true,decide_eq_true_eq] at h3
   rw[c8,if_pos h3.2]
   simpa using h3.1
 · cases h2
theorem e7{i:Nat}{oi:Oper}(hi:l[i]? =some oi)(h:fm l done i=true)(j:Nat)(oj:Oper)(hj:l.toArray[j]? =some oj)(hne:j≠i)(hun:(bt l.length done).getD j true=false)
   (hno:∀e∈oj.after,Region.binds .any e=true->e.on≠i):oi.apart l.toArray oj=true:=by
 have hj':l[j]? =some oj:=by simpa using hj
 have hlt:j<l.length:=(List.getElem?_eq_some_iff.1 hj').1
 unfold fm at h
 simp only[hi,List.all_eq_true,List.mem_range] at h
 have h1:=h j hlt
 rw[c8,if_pos hlt] at hun
 have hd:done.contains j=false:=by simpa using hun
 simp only[hj',Bool.or_eq_true,beq_iff_eq,hne,false_or,hd,Bool.false_eq_true] at h1
 rcases h1 with h1|h1
 · obtain⟨e,he,hb⟩:=Array.any_eq_true'.1 h1
   simp only[Bool.and_eq_true,beq_iff_eq] at hb
   exact absurd hb.2 (hno e he hb.1)
 · exact h1
theorem fR(h:eb l=true):∀(j:Nat) (o:Oper) cs b,l.toArray[j]? =some o->o.op≠ .select cs b:=Region.noSelect_spec h
theorem hX{i:Nat}(h:qs.contains i=true):decide (i∈qs)=true:=by simpa using h
variable{dst:Option Tmp}{op:Op}{ty:TypeId}{pos:String}{after:Array Edge}{g:Option (Nat×Bool)}{v:Value}
theorem rv(i:Nat)(M:List Nat)(hi:l[i]? =some ⟨dst,op,ty,pos,after,g⟩)(hn:eb l=true)(hc:(qs.contains i&&dO l done i&&fm l done i&&jf l qs done M i&&i5 n ⟨dst,op,ty,pos,after,g⟩)=true)
    (hw:bT l ⟨dst,op,ty,pos,after,g⟩ f=true)(h:(execOp (ev f) ⟨dst,op,ty,pos,after,g⟩).run P w= .ok (.value v) w)(hk:hP P n l qs K fuel (i::done) (dQ f dst v) w):hP P n l qs K (fuel+1) done f w:=by
  simp only[Bool.and_eq_true] at hc
  obtain⟨⟨⟨⟨hq,hr⟩,hf⟩,hb⟩,hd⟩:=hc
  obtain⟨hlt,hr'⟩:=dB hr
  intro a ha
  unfold jf at hb
  simp only[Bool.and_eq_true,List.all_eq_true,List.mem_range] at hb
  obtain⟨⟨⟨b1,b2⟩,b3⟩,b4⟩:=hb
  have hgM:∀j,(bt l.length M).getD j false=true↔j∈M:=λj=>by
    rw[c8]
    by_cases hjl:j<l.length
    · simp[hjl]
    · simp only[hjl,if_false,Bool.false_eq_true,false_iff]
      exact λhm=>hjl (by simpa using b4 j hm)
  refine kr (v:=v) (M:=bt l.length M) (D:=bt l.length done) (by simpa using hi) (fR hn) (hX hq) (λj oj hj hm hne=>?_) (λj oj hj hm hD hne=>?_) fuel _ a (by simp[bt]) (λj hj=>?_) (λj hj=>hj) (e7 hi hf) hr' ?_ ?_
  · have hj':l[j]? =some oj:=by simpa using hj
    have hjl:j<l.length:=(List.getElem?_eq_some_iff.1 hj').1
    have h1:=b1 j hjl
    have hmM:M.contains j=false:=by
      cases hc:M.contains j with
      |false=>rfl
      |true=>have h9:=(hgM j).2 (by simpa using hc);rw[hm] at h9;cases h9
    simp only[hmM,hj',Bool.false_or,Bool.or_eq_true,beq_iff_eq,hne,false_or] at h1
    obtain⟨e,he,hbb⟩:=Array.any_eq_true'.1 h1
    simp only[Bool.and_eq_true,Bool.not_eq_true'] at hbb
    refine⟨e,he,hbb.1,?_⟩
    cases hc:(bt l.length M).getD e.on false with
    |false=>rfl
    |true=>
      have:=(hgM _).1 hc
      have h2:=hbb.2
      simp[this] at h2
  · have h1:=b2 j ((hgM j).1 hm)
    have hj':l[j]? =some oj:=by simpa using hj
    have hjl:j<l.length:=(List.getElem?_eq_some_iff.1 hj').1
    rw[c8,if_pos hjl] at hD
    have hd:done.contains j=false:=by simpa using hD
    simp only[Bool.or_eq_true,beq_iff_eq,hne,hd,false_or,Bool.false_eq_true] at h1
    exact hX h1
  · rw[c8] at hj
    split at hj
    · have h1:=b3 j (by simpa using hj)
      exact(hgM j).2 (by simpa using h1.1)
    · cases hj
  · refine .inl ⟨?_,.inl ?_⟩
    · rw[ha.yielded];exact hw
    · rw[ha.eval];exact h
  · rw[c7 done hlt]
    exact hk _ (ha.put hd v)
def jb(l:List Oper)(qs done M:List Nat)(i:Nat):Bool:=
 ((List.range l.length).all λj=>M.contains j||j==i||match l[j]? with
     |some oj=>oj.after.any λe=>Region.binds .any e&& !M.contains e.on
     |none=>true)&&
 (M.all λj=>j==i||done.contains j||qs.contains j||match l[j]? with
     |some oj=>eC oj.op
     |none=>false)&&(done.all λj=>M.contains j&&decide (j<l.length))&&M.all λj=>decide (j<l.length)
theorem rf(i:Nat)(M:List Nat)(hi:l[i]? =some ⟨dst,op,ty,pos,after,g⟩)(hn:eb l=true)(hc:(qs.contains i&&dO l done i&&fm l done i&&jb l qs done M i&&i5 n ⟨dst,op,ty,pos,after,g⟩)=true)
    (hw:bT l ⟨dst,op,ty,pos,after,g⟩ f=true)(h:∀w',cl w.heap.size w w'->(execOp (ev f) ⟨dst,op,ty,pos,after,g⟩).run P w'= .ok (.value v) w')(hk:hP P n l qs K fuel (i::done) (dQ f dst v) w):hP P n l qs K (fuel+1) done f w:=by
  simp only[Bool.and_eq_true] at hc
  obtain⟨⟨⟨⟨hq,hr⟩,hf⟩,hb⟩,hd⟩:=hc
  obtain⟨hlt,hr'⟩:=dB hr
  intro a ha
  unfold jb at hb
  simp only[Bool.and_eq_true,List.all_eq_true,List.mem_range] at hb
  obtain⟨⟨⟨b1,b2⟩,b3⟩,b4⟩:=hb
  have hgM:∀j,(bt l.length M).getD j false=true↔j∈M:=λj=>by
    rw[c8]
    by_cases hjl:j<l.length
    · simp[hjl]
    · simp only[hjl,if_false,Bool.false_eq_true,false_iff]
      exact λhm=>hjl (by simpa using b4 j hm)
  refine mu (v:=v) (w0:=w) (M:=bt l.length M) (D:=bt l.length done) (by simpa using hi) (fR hn) (hX hq) (λc a w h=>by cases h.1) (λj oj hj hm hne=>?_) (λj oj hj hm hD hne=>?_) fuel _ a w (cl.refl _ _) (λj hj=>?_) (λj hj=>hj) (e7 hi hf) hr' (λw' hw'=>?_) ?_
  · have hj':l[j]? =some oj:=by simpa using hj
    have hjl:j<l.length:=(List.getElem?_eq_some_iff.1 hj').1
    have h1:=b1 j hjl
    have hmM:M.contains j=false:=by
      cases hc:M.contains j with
      |false=>rfl
      |true=>have h9:=(hgM j).2 (by simpa using hc);rw[hm] at h9;cases h9
    simp only[hmM,hj',Bool.false_or,Bool.or_eq_true,beq_iff_eq,hne,false_or] at h1
    obtain⟨e,he,hbb⟩:=Array.any_eq_true'.1 h1
    simp only[Bool.and_eq_true,Bool.not_eq_true'] at hbb
    refine⟨e,he,hbb.1,?_⟩
    cases hc:(bt l.length M).getD e.on false with
    |false=>rfl
    |true=>
      have:=(hgM _).1 hc
      have h2:=hbb.2
      simp[this] at h2
  · have h1:=b2 j ((hgM j).1 hm)
    have hj':l[j]? =some oj:=by simpa using hj
    have hjl:j<l.length:=(List.getElem?_eq_some_iff.1 hj').1
    rw[c8,if_pos hjl] at hD
    have hd:done.contains j=false:=by simpa using hD
    simp only[hj',Bool.or_eq_true,beq_iff_eq,hne,hd,false_or,Bool.false_eq_true] at h1
    rcases h1 with h1|h1
    · exact .inl (hX h1)
    · exact .inr h1
  · rw[c8] at hj
    split at hj
    · have h1:=b3 j (by simpa using hj)
      exact(hgM j).2 (by simpa using h1.1)
    · cases hj
  · refine .inl ⟨?_,.inl ?_⟩
    · rw[ha.yielded];exact hw
    · rw[ha.eval];exact h w' hw'
  · rw[c7 done hlt]
    exact hk _ (ha.put hd v)
theorem qA(i:Nat)(hi:l[i]? =some ⟨dst,op,ty,pos,after,g⟩)(hn:eb l=true)(hc:(qs.contains i&&dO l done i&&fm l done i&&i5 n ⟨dst,op,ty,pos,after,g⟩)=true)
    (hw:bT l ⟨dst,op,ty,pos,after,g⟩ f=true)(h:∀w,(execOp (ev f) ⟨dst,op,ty,pos,after,g⟩).run P w= .ok (.value v) w)(hk:hP P n l qs K fuel (i::done) (dQ f dst v) w):hP P n l qs K (fuel+1) done f w:=by
  simp only[Bool.and_eq_true] at hc
  obtain⟨⟨⟨hq,hr⟩,hf⟩,hd⟩:=hc
  obtain⟨hlt,hr'⟩:=dB hr
  intro a ha
  refine mj (v:=v) (by simpa using hi) (fR hn) (hX hq) (λc a w h=>by cases h.1) fuel _ a w (e7 hi hf) hr' (.inl ⟨by rw[ha.yielded];exact hw,λw=>by rw[ha.eval];exact h w⟩) ?_
  rw[c7 done hlt]
  exact hk _ (ha.put hd v)
theorem d8{i:Nat}{o:Oper}{a:Act}{K':Act->World->Prop}{Q:Exit->Act->World->Prop}{N:Value->World->Prop}(ha:Ag n a f)(hi:l[i]? =some o)(hw:bT l o f=true)(h:ej P o f w N)(hN:∀v w',N v w'->K' (a.put o.dst v) w'):wpOp P l.toArray Q i K' a w:=by
 unfold wpOp
 have hi':l.toArray[i]? =some o:=by simpa using hi
 simp only[hi']
 have hw':Region.wanted o (yielded l.toArray a.tmps)=true:=by rw[ha.yielded];exact hw
 simp only[hw',if_true]
 refine .inl ?_
 unfold Oper.wp
 rw[ha.eval]
 unfold ej at h
 generalize(execOp (ev f) o).run P w=r at*
 cases r with
 |halt x w'=>exact h.elim
 |ok nx w'=>
   cases nx<;>simp only[mL] at h<;>simp only[Oper.upon]
   case value v=>exact hN _ _ h
   case skip=>exact hN _ _ h
   case enter g args=>
     refine h.mono λe w'' he=>?_
     cases e with
     |returned v=>exact hN _ _ he
     |panicked c=>exact he.elim
     |outgrown=>exact he.elim
theorem b7(i:Nat)(hi:l[i]? =some ⟨dst,op,ty,pos,after,g⟩)(hc:(decide (Region.ready .any l.toArray (bt l.length done)=[i])&& !qs.contains i&&i5 n ⟨dst,op,ty,pos,after,g⟩)=true)
    (hw:bT l ⟨dst,op,ty,pos,after,g⟩ f=true)(h:ej P ⟨dst,op,ty,pos,after,g⟩ f w (λv w'=>hP P n l qs K fuel (i::done) (dQ f dst v) w')):hP P n l qs K (fuel+1) done f w:=by
  simp only[Bool.and_eq_true,decide_eq_true_eq,Bool.not_eq_true'] at hc
  obtain⟨⟨hr,hq⟩,hd⟩:=hc
  have hlt:i<l.length:=(List.getElem?_eq_some_iff.1 hi).1
  intro a ha
  refine⟨λh0=>(by rw[hr] at h0;cases h0),λj hj=>?_⟩
  rw[hr] at hj
  obtain rfl:j=i:=by simpa using hj
  have hq':decide (j∈qs)=false:=by simpa using hq
  simp only[hq',Bool.false_eq_true,if_false]
  refine d8 ha hi hw h λv w' hk=>?_
  rw[c7 done hlt]
  exact hk _ (ha.put hd v)
theorem fg(i j:Nat){dst':Option Tmp}{op':Op}{ty':TypeId}{pos':String}{after':Array Edge}{g':Option (Nat×Bool)}(hi:l[i]? =some ⟨dst,op,ty,pos,after,g⟩)(hj:l[j]? =some ⟨dst',op',ty',pos',after',g'⟩)
    (hc:(decide (Region.ready .any l.toArray (bt l.length done)=[i,j])&& !qs.contains i&& !qs.contains j&&i5 n ⟨dst,op,ty,pos,after,g⟩&&i5 n ⟨dst',op',ty',pos',after',g'⟩)=true)
    (hw:bT l ⟨dst,op,ty,pos,after,g⟩ f=true)(hw':bT l ⟨dst',op',ty',pos',after',g'⟩ f=true)
    (h:ej P ⟨dst,op,ty,pos,after,g⟩ f w (λv w'=>hP P n l qs K fuel (i::done) (dQ f dst v) w'))(h':ej P ⟨dst',op',ty',pos',after',g'⟩ f w (λv w'=>hP P n l qs K fuel (j::done) (dQ f dst' v) w')):hP P n l qs K (fuel+1) done f w:=by
  simp only[Bool.and_eq_true,decide_eq_true_eq,Bool.not_eq_true'] at hc
  obtain⟨⟨⟨⟨hr,hq⟩,hq2⟩,hd⟩,hd'⟩:=hc
  have hlt:i<l.length:=(List.getElem?_eq_some_iff.1 hi).1
  have hlt':j<l.length:=(List.getElem?_eq_some_iff.1 hj).1
  intro a ha
  refine⟨λh0=>(by rw[hr] at h0;cases h0),λk hk=>?_⟩
  rw[hr] at hk
  have hk':k=i\/k=j:=by simpa using hk
  rcases hk' with rfl|rfl
  · have hq':decide (k∈qs)=false:=by simpa using hq
    simp only[hq',Bool.false_eq_true,if_false]
    refine d8 ha hi hw h λv w' hk=>?_
    rw[c7 done hlt]
    exact hk _ (ha.put hd v)
  · have hq':decide (k∈qs)=false:=by simpa using hq2
    simp only[hq',Bool.false_eq_true,if_false]
    refine d8 ha hj hw' h' λv w' hk=>?_
    rw[c7 done hlt']
    exact hk _ (ha.put hd' v)
def qQ(P:Program)(n:Nat)(l:List Oper)(qs:List Nat)(K:Fr->World->Prop)(fuel:Nat)(done:List Nat)(f:Fr)(w:World)(i:Nat):Prop:=
  ∀a,Ag n a f->qs.contains i=false/\∃o,l[i]? =some o/\i<l.length/\(bT l o f=true/\i5 n o=true/\ej P o f w (λv w'=>hP P n l qs K fuel (i::done) (dQ f o.dst v) w'))
theorem mt(i:Nat)(hi:l[i]? =some ⟨dst,op,ty,pos,after,g⟩)(hc:(!qs.contains i&&i5 n ⟨dst,op,ty,pos,after,g⟩)=true)(hw:bT l ⟨dst,op,ty,pos,after,g⟩ f=true)
   (h:ej P ⟨dst,op,ty,pos,after,g⟩ f w (λv w'=>hP P n l qs K fuel (i::done) (dQ f dst v) w')):qQ P n l qs K fuel done f w i:=by
 simp only[Bool.and_eq_true,Bool.not_eq_true'] at hc
 exact λa ha=>⟨hc.1,_,hi,(List.getElem?_eq_some_iff.1 hi).1,hw,hc.2,h⟩
def pB(P:Program)(n:Nat)(l:List Oper)(qs:List Nat)(K:Fr->World->Prop)(fuel:Nat)(done:List Nat)(f:Fr)(w:World):List Nat->Prop
 |[]=>True
 |i::r=>qQ P n l qs K fuel done f w i/\pB P n l qs K fuel done f w r
theorem pB.mem{L:List Nat}(h:pB P n l qs K fuel done f w L):∀i∈L,qQ P n l qs K fuel done f w i:=by
 induction L with
 |nil=>intro i hi;cases hi
 |cons j r ih=>
   intro i hi
   rcases List.mem_cons.1 hi with rfl|hi
   · exact h.1
   · exact ih h.2 i hi
theorem nl(i:Nat)(L:List Nat)(hr:decide (Region.ready .any l.toArray (bt l.length done)=i::L)=true)(h:pB P n l qs K fuel done f w (i::L)):hP P n l qs K (fuel+1) done f w:=by
 have hr:=of_decide_eq_true hr
 intro a ha
 refine⟨λh0=>(by rw[hr] at h0;cases h0),λk hk=>?_⟩
 rw[hr] at hk
 obtain⟨hq,o,hi,hlt,hw,hd,ho⟩:=h.mem k (by simpa using hk) a ha
 have hq':decide (k∈qs)=false:=by simpa using hq
 simp only[hq',Bool.false_eq_true,if_false]
 obtain⟨dst,op,ty,pos,after,g⟩:=o
 refine d8 ha hi hw ho λv w' hk=>?_
 rw[c7 done hlt]
 exact hk _ (ha.put hd v)
theorem c6(hr:decide (Region.ready .any l.toArray (bt l.length done)=[])=true)(h:K f w):hP P n l qs K 0 done f w:=λ_ ha=>⟨of_decide_eq_true hr,rfl,f,ha,h⟩
end
end TL
/-
  TlHold: regions that draw their order, where what is read stays: on the kit's OrdersHeld.
  By an AI agent.
-/
set_option linter.all false
namespace TL
open Go
section
variable{P:Program}{n:Nat}{l:List Oper}{S:World->Prop}{K:Fr->World->Prop}{f:Fr}{w:World}{done:List Nat}{fuel:Nat}
def mC(P:Program)(n:Nat)(l:List Oper)(S:World->Prop)(K:Fr->World->Prop)(fuel:Nat)(done:List Nat)(f:Fr)(w:World):Prop:=
  ∀a,Ag n a f->wpAnyH P .any l.toArray (λe a' w'=>e= .normal/\∃f',Ag n a' f'/\K f' w') S fuel (bt l.length done) a w
theorem bi.same{J:bS->Prop}{γ γ':aA}{w w':World}(h:bi J γ w γ' w'):bi J γ w γ w':=⟨h.os,h.tape,h.output,h.size,λ_ _ _=>rfl,h.keep,h.drawn⟩
theorem dh{fid:Nat}{R:Ending->World->Prop}{k:List Item}{id:Nat}(γ:aA)(J:bS->Prop)(hm:P.follows .mixedOrders=true)
   (h:∀w1,bi no γ w γ w1->mC P n l (λw'=>bi J γ w1 γ w') (d7 P fid n R k) l.length [] f w1):d7 P fid n R (.code (.region id l.toArray true)::k) f w:=
 eO λa ha=>wp_region_held hm (by
   have h0:=h _ (bi.refl _ _ _).drew a ha
   have hmask:bt l.length []=Array.replicate l.toArray.size false:=by
     apply Array.ext
     · simp[bt]
     · intro j h1 h2;simp[bt]
   rw[hmask] at h0
   simpa using h0)
theorem gA{fid:Nat}{R:Ending->World->Prop}{k:List Item}{id:Nat}{σ:Type}(Mid:σ->Fr->World->Prop)(γ:aA)(J:bS->Prop)(hm:P.follows .mixedOrders=true)
    (h:(∀s f w,Mid s f w->d7 P fid n R k f w)->∀w1,bi no γ w γ w1->mC P n l (λw'=>bi J γ w1 γ w') (d7 P fid n R k) l.length [] f w1)(hk:∀s f w,Mid s f w->d7 P fid n R k f w):d7 P fid n R (.code (.region id l.toArray true)::k) f w:=
  dh γ J hm (h hk)
variable{dst:Option Tmp}{op:Op}{ty:TypeId}{pos:String}{after:Array Edge}{g:Option (Nat×Bool)}{v:Value}
theorem rm(i:Nat)(hi:l[i]? =some ⟨dst,op,ty,pos,after,g⟩)(hn:eb l=true)(hc:(dO l done i&&fm l done i&&i5 n ⟨dst,op,ty,pos,after,g⟩)=true)
   (hw:bT l ⟨dst,op,ty,pos,after,g⟩ f=true)(hS:S w)(h:∀w,S w->(execOp (ev f) ⟨dst,op,ty,pos,after,g⟩).run P w= .ok (.value v) w)(hk:mC P n l S K fuel (i::done) (dQ f dst v) w):mC P n l S K (fuel+1) done f w:=by
 simp only[Bool.and_eq_true] at hc
 obtain⟨⟨hr,hf⟩,hd⟩:=hc
 obtain⟨hlt,hr'⟩:=dB hr
 intro a ha
 refine wpAnyH_first (v:=v) (by simpa using hi) (fR hn) (λc a w h=>by cases h.1) fuel _ a w (e7 hi hf) hr' (.inl ⟨by rw[ha.yielded];exact hw,λw hs=>by rw[ha.eval];exact h w hs⟩) hS ?_
 rw[c7 done hlt]
 exact hk _ (ha.put hd v)
def qI(P:Program)(n:Nat)(l:List Oper)(S:World->Prop)(K:Fr->World->Prop)(fuel:Nat)(done:List Nat)(f:Fr)(w:World)(i:Nat):Prop:=
  ∃o,l[i]? =some o/\i<l.length/\(bT l o f=true/\i5 n o=true/\ej P o f w (λv w'=>S w'/\mC P n l S K fuel (i::done) (dQ f o.dst v) w'))
theorem gh(i:Nat)(hi:l[i]? =some ⟨dst,op,ty,pos,after,g⟩)(hc:i5 n ⟨dst,op,ty,pos,after,g⟩=true)(hw:bT l ⟨dst,op,ty,pos,after,g⟩ f=true)
   (h:ej P ⟨dst,op,ty,pos,after,g⟩ f w (λv w'=>S w'/\mC P n l S K fuel (i::done) (dQ f dst v) w')):qI P n l S K fuel done f w i:=
 ⟨_,hi,(List.getElem?_eq_some_iff.1 hi).1,hw,hc,h⟩
def oS(P:Program)(n:Nat)(l:List Oper)(S:World->Prop)(K:Fr->World->Prop)(fuel:Nat)(done:List Nat)(f:Fr)(w:World):List Nat->Prop
 |[]=>True
 |i::r=>qI P n l S K fuel done f w i/\oS P n l S K fuel done f w r
theorem oS.mem{L:List Nat}(h:oS P n l S K fuel done f w L):∀i∈L,qI P n l S K fuel done f w i:=by
 induction L with
 |nil=>intro i hi;cases hi
 |cons j r ih=>
   intro i hi
   rcases List.mem_cons.1 hi with rfl|hi
   · exact h.1
   · exact ih h.2 i hi
theorem fw(i:Nat)(L:List Nat)(hr:decide (Region.ready .any l.toArray (bt l.length done)=i::L)=true)(h:oS P n l S K fuel done f w (i::L)):mC P n l S K (fuel+1) done f w:=by
 have hr:=of_decide_eq_true hr
 intro a ha
 refine⟨λh0=>(by rw[hr] at h0;cases h0),λk hk=>?_⟩
 rw[hr] at hk
 obtain⟨o,hi,hlt,hw,hd,ho⟩:=h.mem k (by simpa using hk)
 obtain⟨dst,op,ty,pos,after,g⟩:=o
 refine d8 ha hi hw ho λv w' hk=>⟨hk.1,?_⟩
 rw[c7 done hlt]
 exact hk.2 _ (ha.put hd v)
theorem bx(i:Nat)(hi:l[i]? =some ⟨dst,op,ty,pos,after,g⟩)(hc:(decide (Region.ready .any l.toArray (bt l.length done)=[i])&&i5 n ⟨dst,op,ty,pos,after,g⟩)=true)
   (hw:bT l ⟨dst,op,ty,pos,after,g⟩ f=true)(h:ej P ⟨dst,op,ty,pos,after,g⟩ f w (λv w'=>S w'/\mC P n l S K fuel (i::done) (dQ f dst v) w')):mC P n l S K (fuel+1) done f w:=by
 simp only[Bool.and_eq_true] at hc
 exact fw i [] hc.1 ⟨gh i hi hc.2 hw h,trivial⟩
theorem eF(hr:decide (Region.ready .any l.toArray (bt l.length done)=[])=true)(h:K f w):mC P n l S K 0 done f w:=λ_ ha=>⟨of_decide_eq_true hr,rfl,f,ha,h⟩
end
end TL
namespace TL
open Go
end TL
/-
  TlNet: nets, and what layer 3 says of them, as plain functions.
  By an AI agent.
-/
set_option linter.all false
namespace TL
abbrev b6:=Int×List (Int×Int)
def jT(n:Int)(e:Int×Int):Prop:=(0<=e.1/\e.1<n)/\0<=e.2/\e.2<n
instance (n:Int)(e:Int×Int):Decidable (jT n e):=by unfold jT;infer_instance
def bU(g:b6):Prop:=0<=g.1/\g.1<=1024/\g.2.length<=3072/\∀e∈g.2,jT g.1 e
instance (g:b6):Decidable (bU g):=by unfold bU;infer_instance
def bZ(g:b6):Bool:=decide (bU g)
theorem iJ{g:b6}(h:bU g):bZ g=true:=decide_eq_true h
theorem bG{g:b6}(h:¬bU g):bZ g=false:=decide_eq_false h
end TL
namespace TL
theorem lE{α:Type}[Inhabited α]{xs:List α}{k:Nat}(h:(k:Int)<xs.length):xs.drop k=gI xs k::xs.drop (k+1):=by
 have h':k<xs.length:=by omega
 rw[List.drop_eq_getElem_cons h']
 simp[gI,h']
theorem bX{α:Type}[Inhabited α]{xs:List α}{i j:Int}{y:α}(hi:0<=i)(hi':i<xs.length)(hj:0<=j):gI (xs.set i.toNat y) j=if j=i then y else gI xs j:=by
 unfold gI
 by_cases h:j=i
 · subst h
   have:j.toNat<xs.length:=by omega
   simp[this]
 · have:i.toNat≠j.toNat:=by omega
   simp[h,List.getElem?_set_ne this]
theorem nC{α:Type}[Inhabited α]{n:Nat}{x:α}{i:Int}(h0:0<=i)(h1:i<n):gI (List.replicate n x) i=x:=by
 have:i.toNat<n:=by omega
 simp[gI,this]
end TL
namespace TL
end TL
namespace TL
end TL
namespace TL
def aH(g:b6)(h:Int):Int:=pI (gI g.2 (h/2)) (h%2)
def eI(g:b6)(v:Int)(k:Nat):List Int:=((List.range (2*k)).map (λ(i:Nat)=>(i:Int))).filter λh=>decide (aH g h=v)
def jQ(g:b6)(v:Int):List Int:=eI g v g.2.length
theorem gV(g:b6)(k:Nat):aH g (2*(k:Int))=(gI g.2 k).1:=by
 unfold aH
 have h1:2*(k:Int)/2=k:=by omega
 have h2:2*(k:Int)%2=0:=by omega
 rw[h1,h2];rfl
theorem iM(g:b6)(k:Nat):aH g (2*(k:Int)+1)=(gI g.2 k).2:=by
 unfold aH
 have h1:(2*(k:Int)+1)/2=k:=by omega
 have h2:(2*(k:Int)+1)%2=1:=by omega
 rw[h1,h2];rfl
theorem kq(g:b6)(v:Int)(k:Nat):eI g v (k+1)=eI g v k++((if(gI g.2 k).1=v then[2*(k:Int)] else[])++(if(gI g.2 k).2=v then[2*(k:Int)+1] else[])):=by
 unfold eI
 rw[show 2*(k+1)=2*k+1+1 by omega,List.range_succ,List.range_succ]
 simp only[List.map_append,List.filter_append,List.map_cons,List.map_nil,List.append_assoc]
 congr 1
 have e1:((2*k:Nat):Int)=2*(k:Int):=by omega
 have e2:((2*k+1:Nat):Int)=2*(k:Int)+1:=by omega
 rw[e1,e2]
 congr 1
 · by_cases h:(gI g.2 (k:Int)).1=v
   · simp[gV,h]
   · simp[gV,h]
 · by_cases h:(gI g.2 (k:Int)).2=v
   · simp[iM,h]
   · simp[iM,h]
theorem mp(g:b6)(v:Int)(k:Nat):(eI g v k).length<=2*k:=by
 unfold eI
 have:=List.length_filter_le (λh=>decide (aH g h=v)) ((List.range (2*k)).map (λ(i:Nat)=>(i:Int)))
 simpa using this
end TL
namespace TL
theorem cU{α:Type}[Inhabited α]{l l':List α}(hl:l.length=l'.length)(h:∀i:Nat,i<l.length->gI l i=gI l' i):l=l':=by
 apply List.ext_getElem hl
 intro i h1 h2
 have:=h i h1
 simpa[gI,h1,h2] using this
end TL
namespace TL
end TL
namespace TL
end TL
namespace TL
section
variable{l0 l1:Int}{F:Int×Int->Int}{g:b6}{k:Nat}
end
end TL
/-
  TlNetLaws: what follows of nets: parts of parts, subs of subs.
  By an AI agent.
-/
set_option linter.all false
namespace TL
theorem qY{α β:Type}[Inhabited α][Inhabited β](f:α->β){l:List α}{i:Int}(h0:0<=i)(h1:i<l.length):gI (l.map f) i=f (gI l i):=by
 have:i.toNat<l.length:=by omega
 simp[gI,this]
end TL
/-
  TlNetSums: degrees' sum; all edges, all nodes; moved there and back.
  By an AI agent.
-/
set_option linter.all false
namespace TL
def bz(n:Nat):List Int:=(List.range n).map λ(i:Nat)=>(i:Int)
theorem d9(n:Nat):(bz n).length=n:=by simp[bz]
theorem eW(n:Nat):bz (n+1)=bz n++[(n:Int)]:=by simp[bz,List.range_succ]
theorem fF{n:Nat}{x:Int}:x∈bz n↔0<=x/\x<n:=by
 unfold bz
 rw[List.mem_map]
 constructor
 · rintro⟨i,hi,rfl⟩
   have:=List.mem_range.1 hi
   omega
 · rintro⟨h1,h2⟩
   exact⟨x.toNat,List.mem_range.2 (by omega),by omega⟩
theorem gS(n:Nat):(bz n).Nodup:=by
 induction n with
 |zero=>simp[bz]
 |succ n ih=>
   rw[eW,List.nodup_append]
   refine⟨ih,by simp,λa ha b hb=>?_⟩
   have:=fF.1 ha
   have:=List.mem_singleton.1 hb
   omega
theorem pv{n:Nat}{i:Int}(h0:0<=i)(h1:i<n):gI (bz n) i=i:=by
 have:i.toNat<n:=by omega
 simp[gI,bz,this]
 omega
end TL
/-
  TlRef3: what the document's own answer of layer 3 goes through.
  By an AI agent.
-/
set_option linter.all false
namespace TL
def j4(g:b6)(v:Int)(h:Nat):List Int:=((List.range h).map (λ(i:Nat)=>(i:Int))).filter λh=>decide (aH g h=v)
theorem ms(g:b6)(v:Int)(h:Nat):j4 g v (h+1)=if aH g h=v then j4 g v h++[(h:Int)] else j4 g v h:=by
 unfold j4
 rw[List.range_succ,List.map_append,List.filter_append]
 by_cases e:aH g (h:Int)=v
 · rw[if_pos e];simp[e]
 · rw[if_neg e];simp[e]
theorem n7(g:b6)(v:Int)(h:Nat):(j4 g v h).length<=h:=by
 unfold j4
 have:=List.length_filter_le (λh=>decide (aH g h=v)) ((List.range h).map (λ(i:Nat)=>(i:Int)))
 simpa using this
theorem nT(g:b6)(v:Int){h:Nat}(hh:h=2*g.2.length):j4 g v h=jQ g v:=by subst hh;rfl
theorem cH{g:b6}(hm:bU g){h:Int}(h0:0<=h)(h1:h<2*(g.2.length:Int)):0<=aH g h/\aH g h<g.1:=by
 have hok:=hm.2.2.2 _ (bu (xs:=g.2) (i:=h/2) (by omega) (by omega))
 unfold jT at hok
 unfold aH pI
 split<;>omega
end TL
/-
  TlInts: lists that are kept, written full, and read again.
  By an AI agent.
-/
set_option linter.all false
namespace TL
def cO(K:List (List Int))(s:Int):Prop:=(K.length:Int)<=s/\s<=1048576/\∀l∈K,l.length<=1048576
theorem cO.nil:cO [] 0:=⟨by simp,by omega,by simp⟩
theorem cO.add{K:List (List Int)}{s n:Int}{l:List Int}(h:cO K s)(h0:0<n)(h1:s+n<=1048576)(hl:(l.length:Int)<=n):cO (K++[l]) (s+n):=by
 obtain⟨a,b,c⟩:=h
 refine⟨by simp;omega,h1,λx hx=>?_⟩
 rcases List.mem_append.1 hx with hx|hx
 · exact c x hx
 · obtain rfl:=List.mem_singleton.1 hx
   omega
theorem cO.len{K:List (List Int)}{s:Int}(h:cO K s):(K.length:Int)<=s/\s<=1048576/\0<=s:=by
 obtain⟨a,b,c⟩:=h
 omega
structure fp(L:List (List Int))(i:Nat):Prop where
  le:(i:Int)<=L.length
  few:L.length<=1048576
  done:∀r:Nat,r<i->∀q:Nat,q<(gI L r).length->gI (gI L (r:Int)) (q:Int)= -1000-(r:Int)
  rest:∀r:Nat,i<=r->r<L.length->(gI L (r:Int)).length<=1048576
theorem cO.ap{K:List (List Int)}{s:Int}(h:cO K s):fp K 0:=by
 obtain⟨a,b,c⟩:=h
 refine⟨by simp,by omega,λr hr=>by omega,λr _ hr=>c _ (bu (by omega) (by omega))⟩
structure dj(L1 L:List (List Int))(i:Nat)(n:Int):Prop where
  len:L1.length=L.length
  le:((gI L1 i).length:Int)<=1050577
  other:∀r:Nat,r≠i->gI L1 (r:Int)=gI L (r:Int)
theorem dj.start{L:List (List Int)}{i:Nat}{n:Int}(h:fp L i)(hi:(i:Int)<L.length):dj L L i n:=⟨rfl,by have:=h.rest i (Nat.le_refl _) (by omega);omega,λr _=>rfl⟩
theorem e8{α:Type}[Inhabited α]{L:List α}{i r:Nat}{x:α}(h:r≠i):gI (L.set i x) (r:Int)=gI L (r:Int):=by
 simp[gI,List.getElem?_set_ne (Ne.symm h)]
theorem dD{α:Type}[Inhabited α]{L:List α}{i:Nat}{x:α}(h:(i:Int)<L.length):gI (L.set i x) (i:Int)=x:=by
 simp[gI,show i<L.length by omega]
theorem dj.next{L1 L:List (List Int)}{i:Nat}{n:Int}(h:dj L1 L i n)(hi:(i:Int)<L.length)(hn:((gI L1 i).length:Int)<n)(hb:n<=1050577):dj (L1.set (i:Int).toNat (gI L1 i++[0])) L i n:=by
 have hl:=h.len
 refine⟨by simpa using hl,?_,λr hr=>?_⟩
 · simp only[Int.toNat_natCast]
   rw[dD (by omega)];simp;omega
 · simp only[Int.toNat_natCast]
   rw[e8 hr,h.other r hr]
theorem dj.meas{L1 L:List (List Int)}{i:Nat}{n:Int}(h:dj L1 L i n)(hi:(i:Int)<L.length):((gI (L1.set (i:Int).toNat (gI L1 i++[0])) i).length:Int)=(gI L1 i).length+1:=by
 have hl:=h.len
 simp only[Int.toNat_natCast]
 rw[dD (by omega)];simp
structure fh(L2 L:List (List Int))(i:Nat)(k:Nat):Prop where
  len:L2.length=L.length
  le:(k:Int)<=(gI L2 (i:Int)).length
  few:((gI L2 i).length:Int)<=1050577
  done:∀q:Nat,q<k->gI (gI L2 (i:Int)) (q:Int)= -1000-(i:Int)
  other:∀r:Nat,r≠i->gI L2 (r:Int)=gI L (r:Int)
theorem dj.wr{L1 L:List (List Int)}{i:Nat}{n:Int}(h:dj L1 L i n):fh L1 L i 0:=⟨h.len,by simp,h.le,λq hq=>by omega,h.other⟩
theorem fh.next{L2 L:List (List Int)}{i k:Nat}(h:fh L2 L i k)(hi:(i:Int)<L.length)(hk:(k:Int)<(gI L2 i).length):fh (L2.set (i:Int).toNat ((gI L2 i).set (k:Int).toNat (-1000-(i:Int)))) L i (k+1)/\(gI (L2.set (i:Int).toNat ((gI L2 i).set (k:Int).toNat (-1000-(i:Int)))) (i:Int)).length=(gI L2 (i:Int)).length:=by
 have hl:=h.len
 simp only[Int.toNat_natCast]
 have e:gI (L2.set i ((gI L2 (i:Int)).set k (-1000-(i:Int)))) (i:Int)=(gI L2 (i:Int)).set k (-1000-(i:Int)):=dD (by omega)
 refine⟨⟨by simpa using hl,by rw[e];simp;omega,by rw[e];simpa using h.few,λq hq=>?_,λr hr=>by rw[e8 hr,h.other r hr]⟩,by rw[e];simp⟩
 rw[e]
 by_cases hq2:q=k
 · subst hq2;exact dD hk
 · rw[e8 hq2];exact h.done q (by omega)
theorem fh.fin{L2 L:List (List Int)}{i k:Nat}(h:fh L2 L i k)(ha:fp L i)(hi:(i:Int)<L.length)(hk:¬(k:Int)<(gI L2 i).length):fp L2 (i+1):=by
 have hl:=h.len
 have hle:=h.le
 refine⟨by omega,by have:=ha.few;omega,λr hr q hq=>?_,λr h1 h2=>?_⟩
 · by_cases e:r=i
   · subst e;exact h.done q (by omega)
   · rw[h.other r e] at hq ⊢;exact ha.done r (by omega) q hq
 · rw[h.other r (by omega)];exact ha.rest r (by omega) (by omega)
theorem fp.read{L:List (List Int)}{m i k:Nat}(h:fp L m)(hm:(m:Int)=L.length)(hi:(i:Int)<L.length)(hk:(k:Int)<(gI L i).length):gI (gI L (i:Int)) (k:Int)= -1000-(i:Int):=h.done i (by omega) k (by omega)
end TL
namespace TL
end TL
namespace TL
end TL
/-
  TlKeep: rows of an own list given away one by one while the list stays readable; rows with a mark behind each.
  By an AI agent.
-/
set_option linter.all false
namespace TL
open Go
section
variable{P:Program}{w:World}{t t':TypeId}{f:Fr}{x y:Operand}{dst:Option Tmp}{ty:TypeId}{pos:String}{after:Array Edge}{g:Option (Nat×Bool)}{N:Value->World->Prop}{α:Type}[Rp α]{γ:aA}{v u:Value}{xss:List (List α)}{l:List α}{i k j:Nat}
end
section
variable{α:Type}[Rp α][Fl α]{γ γ':aA}{w w':World}{v:Value}{us:List Vc}{xss:List (List α)}{i k j q:Nat}
end
inductive Rw where
  |mk (l:List Int) (m:Int)
  |pl (l:List Int)
instance:Inhabited Rw:=⟨.pl []⟩
theorem m7{α:Type}[Rp α]{γ:aA}{S:bS->Prop}{w:World}{v:Value}{xs:List α}{m:α}(h:Sl γ S w (sd v) (xs++[m])):∃a l c,v= .slice a l c:=by
 rcases h with⟨_,h0⟩|⟨b,off,cap,hv,_⟩
 · simp at h0
 · cases v<;>simp[sd] at hv
   exact⟨_,_,_,rfl⟩
def rp(γ:aA)(S:bS->Prop)(w:World)(v:Value):Rw->Prop
  | .mk l m=>Sl γ S w (sd v) (l++[m])
  | .pl l=>Sl γ S w v l
theorem rp.one{γ:aA}{S:bS->Prop}{w:World}{v:Value}{x:Rw}(h:rp γ S w v x):v.oneCell'=true:=by
 cases x with
 |mk l m=>
   obtain⟨a,b,c,rfl⟩:=m7 h
   rfl
 |pl l=>
   rcases h with⟨⟨_,rfl⟩,_⟩|⟨b,off,cap,rfl,_⟩<;>rfl
theorem rp.tr{γ γ':aA}{S S':bS->Prop}{w w':World}{v:Value}{x:Rw}(hsz:w.heap.size<=w'.heap.size)(h:∀b,b<w.heap.size->S (γ b)->w'.heap[b]? =w.heap[b]? /\S' (γ' b))(hx:rp γ S w v x):rp γ' S' w' v x:=by
 cases x with
 |mk l m=>exact Sl.tr h hx hsz
 |pl l=>exact Sl.tr h hx hsz
instance:Rp Rw where
 sz:=1
 rep γ S w cs x:=∃v,cs=[v]/\rp γ S w v x
 len:=by rintro _ _ _ _ _ ⟨v,rfl,_⟩;rfl
 one:=by
   rintro _ _ _ _ _ ⟨v,rfl,h⟩ u hu
   obtain rfl:u=v:=by simpa using hu
   exact h.one
 tr:=by
   rintro _ _ _ _ _ _ _ _ hs h ⟨v,rfl,hv⟩
   exact⟨v,rfl,hv.tr hs h⟩
section
variable{P:Program}{w:World}{t t':TypeId}{f:Fr}{x y:Operand}{dst:Option Tmp}{ty:TypeId}{pos:String}{after:Array Edge}{g:Option (Nat×Bool)}{N:Value->World->Prop}{γ:aA}{v u:Value}{xss:List (List Int)}{l:List Int}{i:Nat}
end
end TL
/-
  TlEq: structs compared; a pointer looked at for nil; a bit turned.
  By an AI agent.
-/
set_option linter.all false
namespace TL
open Go
section
variable{P:Program}{f:Fr}{w:World}{dst:Option Tmp}{ty:TypeId}{pos:String}{after:Array Edge}{g:Option (Nat×Bool)}{t t' e:TypeId}{x y:Operand}
theorem aG{a:Addr}(hx:ev f x= .pointer (some a)):(execOp (ev f) ⟨dst,.nilCheck x,ty,pos,after,g⟩).run P w= .ok (.value (.pointer (some a))) w:=by
 simp only[execOp,hx,Sem.run_pure]
end
end TL
namespace TL
open Go
section
variable{P:Program}{f:Fr}{w:World}{dst:Option Tmp}{ty:TypeId}{pos:String}{after:Array Edge}{g:Option (Nat×Bool)}{t:TypeId}{x:Operand}
theorem km{w1:World}{α:Type}[Rp α]{γ:aA}{S:bS->Prop}{v:Value}{xs:List α}{e n:Nat}{hi:Operand}{h:Int}(ht:P.underlying t=some (.slice e))(hs:(P.info? e).map (·.size)=some (Rp.sz α))(hx:ev f x=cR v (Rp.sz α) 0 n)(hv:Sl γ S w1 v xs)
    (hhi:ev f hi= .int .i64 h)(h0:0<=h)(h2:h<=xs.length):
    (execOp (ev f) ⟨dst,.slice t x none (some hi) none,ty,pos,after,g⟩).run P w= .ok (.value (cR v (Rp.sz α) 0 h.toNat)) w:=by
  cases hq:P.info? e with
  |none=>simp[hq] at hs
  |some q=>
    simp only[hq,Option.map_some,Option.some.injEq] at hs
    rw[gv] at hx
    rw[gv]
    have hf:=hv.form
    have hc:=hv.cap
    generalize mM v=a at hf
    generalize bg v=c at hf hc
    subst hf
    simp only at hx
    have hb:(Instr.sliceBounds true n c none (some (Value.int .i64 h)) none).run P w= .ok (0,h.toNat,c) w:=by
      have e1:h<=(c:Int):=by omega
      simp[Instr.sliceBounds,Instr.sliceBound,asIntOf, *]
    have hsub:execOp (ev f) ⟨dst,.slice t x none (some hi) none,ty,pos,after,g⟩=(do pure (.value (<-Instr.sliceAt t (.slice a n c) none (some (Value.int .i64 h)) none))):=by
      simp[execOp,hx,hhi]
    rw[hsub]
    simp[Instr.sliceAt,Instr.slice,aM ht,hb,bV hq,hs]
    intro _
    cases a with
    |none=>rfl
    |some a=>simp[Addr.add]
end
end TL
namespace TL
open Go
section
variable{P:Program}{f:Fr}{w:World}{dst:Option Tmp}{ty:TypeId}{pos:String}{after:Array Edge}{g:Option (Nat×Bool)}{t t':TypeId}{x y:Operand}{m n:Int}
theorem qP(hx:ev f x= .int .i64 m)(hy:ev f y= .int .i64 n)(hn:0<n)(hm: -4611686018427387904<=m/\m<=4611686018427387904):(execOp (ev f) ⟨dst,.binOp .quo t x y t',ty,pos,after,g⟩).run P w= .ok (.value (.int .i64 (Int.tdiv m n))) w:=by
 refine bI .quo x y hx hy ?_
 have h0:¬n=0:=by omega
 have h1:k6 (Int.tdiv m n):=by
   have h2:=Int.natAbs_tdiv_le_natAbs m n
   constructor<;>omega
 simp[binOp,Op.intDiv,h0,fW h1]
end
end TL
namespace TL
open Go
theorem s2{f:Fr}{x:Operand}{xs:List Operand}{v:Value}{vs:List Value}(h:ev f x=v)(h2:xs.map (ev f)=vs):(x::xs).map (ev f)=v::vs:=by subst h h2;rfl
end TL
/-
  TlRot: rotations: which may be, turned to their least, faces.
  By an AI agent.
-/
set_option linter.all false
namespace TL
abbrev fK:=List (List Int)
def rC(g:b6)(r:fK):Prop:=(r.length:Int)=g.1/\(∀v:Nat,v<r.length->∀h∈gI r (v:Int),(0<=h/\h<2*(g.2.length:Int))/\aH g h=v)/\r.flatten.Nodup/\(r.flatten.length:Int)=2*g.2.length
instance (g:b6)(r:fK):Decidable (rC g r):=by unfold rC;infer_instance
section
variable{seen:List Bool}{n:Int}{g:b6}{r:fK}{k i:Nat}
end
end TL
namespace TL
end TL
/-
  TlShort: short names for the commonest steps (used by packed claims only).
  By an AI agent.
-/
set_option linter.all false
namespace TL
open Go
abbrev vi(x:Int):Value:=Value.int .i64 x
abbrev vp(b o:Nat):Value:=Value.pointer (some ⟨b,o,none⟩)
abbrev vn:Value:=Value.slice none 0 0
abbrev vt(l:List Value):Value:=Value.tuple (List.toArray l)
abbrev vg(l:List Value):Value:=Value.agg (List.toArray l)
theorem cg(L:List Nat){γ γ':aA}{w w':World}(h:bi (inl L) γ w γ' w'):bi (inl L) γ w γ' w':=h
theorem dt{p:Prop}[Decidable p](h:p):decide p=true:=decide_eq_true h
theorem df{p:Prop}[Decidable p](h:¬p):decide p=false:=decide_eq_false h
section
variable{P:Program}{all rest:List Oper}{K:Fr->World->Prop}{f:Fr}{w w':World}{x:Operand}
variable{dst:Option Tmp}{op:Op}{ty:TypeId}{pos:String}{after:Array Edge}{g:Option (Nat×Bool)}{o:Oper}
theorem lv(v:Value)(hw:bT all ⟨dst,op,ty,pos,after,g⟩ f=true)(h:(execOp (ev f) ⟨dst,op,ty,pos,after,g⟩).run P w= .ok (.value v) w')(hk:fk P all rest K (dQ f dst v) w'):fk P all (⟨dst,op,ty,pos,after,g⟩::rest) K f w:=gy hw h hk
theorem lx{v:Value}(h:(execOp (ev f) ⟨dst,op,ty,pos,after,none⟩).run P w= .ok (.value v) w')(hk:fk P all rest K (dQ f dst v) w'):fk P all (⟨dst,op,ty,pos,after,none⟩::rest) K f w:=gy rfl h hk
theorem lw(v:Value)(h:(execOp (ev f) ⟨dst,op,ty,pos,after,none⟩).run P w= .ok (.value v) w')(hk:fk P all rest K (dQ f dst v) w'):fk P all (⟨dst,op,ty,pos,after,none⟩::rest) K f w:=gy rfl h hk
theorem mv(v:Value)(hk:fk P all rest K (dQ f dst v) w)(h:ev f x=v:=by exact rfl):fk P all (⟨dst,.move x,ty,pos,after,none⟩::rest) K f w:=gy rfl (ao h) hk
theorem ma(v:Value)(hk:fk P all rest K (dQ f dst v) w)(h:ev f x=v:=by exact rfl):fk P all (⟨dst,.assign x,ty,pos,after,none⟩::rest) K f w:=gy rfl (bh h) hk
theorem mi(v:Int)(hk:fk P all rest K (dQ f dst (.int .i64 v)) w)(h:ev f x= .int .i64 v:=by exact rfl):fk P all (⟨dst,.move x,ty,pos,after,none⟩::rest) K f w:=gy rfl (ao h) hk
theorem ai(v:Int)(hk:fk P all rest K (dQ f dst (.int .i64 v)) w)(h:ev f x= .int .i64 v:=by exact rfl):fk P all (⟨dst,.assign x,ty,pos,after,none⟩::rest) K f w:=gy rfl (bh h) hk
theorem mz{v:Value}(h:ev f x=v)(hk:fk P all rest K (dQ f dst v) w):fk P all (⟨dst,.move x,ty,pos,after,none⟩::rest) K f w:=gy rfl (ao h) hk
theorem lo(h:ej P ⟨dst,op,ty,pos,after,none⟩ f w (λv w'=>fk P all rest K (dQ f dst v) w')):fk P all (⟨dst,op,ty,pos,after,none⟩::rest) K f w:=cu rfl h
theorem wy{j:Nat}{x:Bool}{d:Nat}{b:Bool}(hx:b=x)(hg:o.guard=some (j,x):=by exact rfl)(hj:(all[j]?).bind (·.dst)=some d:=by exact rfl)(hb:f d= .bool b:=by exact rfl):bT all o f=true:=qG hg hj hb hx
theorem wn{j:Nat}{x:Bool}{d:Nat}{b:Bool}(hx:b= !x)(hg:o.guard=some (j,x):=by exact rfl)(hj:(all[j]?).bind (·.dst)=some d:=by exact rfl)(hb:f d= .bool b:=by exact rfl):bT all o f=false:=qR hg hj hb hx
variable{C:World->Prop}{KQ:Fr->Prop}
theorem qv(v:Value)(h:∀w,C w->(execOp (ev f) ⟨dst,op,ty,pos,after,none⟩).run P w= .ok (.value v) w)(hk:gJ P all C rest KQ (dQ f dst v)):gJ P all C (⟨dst,op,ty,pos,after,none⟩::rest) KQ f:=ba rfl h hk
theorem qx{v:Value}(h:∀w,C w->(execOp (ev f) ⟨dst,op,ty,pos,after,none⟩).run P w= .ok (.value v) w)(hk:gJ P all C rest KQ (dQ f dst v)):gJ P all C (⟨dst,op,ty,pos,after,none⟩::rest) KQ f:=ba rfl h hk
theorem qm(v:Value)(hk:gJ P all C rest KQ (dQ f dst v))(h:ev f x=v:=by exact rfl):gJ P all C (⟨dst,.move x,ty,pos,after,none⟩::rest) KQ f:=ba rfl (λ_ _=>ao h) hk
theorem qz{v:Value}(h:ev f x=v)(hk:gJ P all C rest KQ (dQ f dst v)):gJ P all C (⟨dst,.move x,ty,pos,after,none⟩::rest) KQ f:=ba rfl (λ_ _=>ao h) hk
end
section
variable{P:Program}{n:Nat}{l:List Oper}{S:World->Prop}{K:Fr->World->Prop}{f:Fr}{w:World}{done:List Nat}{fuel:Nat}{qs:List Nat}
variable{dst:Option Tmp}{op:Op}{ty:TypeId}{pos:String}{after:Array Edge}{g:Option (Nat×Bool)}{v:Value}
theorem ht(i:Nat)(hi:l[i]? =some ⟨dst,op,ty,pos,after,none⟩)(hS:S w)(h:∀w,S w->(execOp (ev f) ⟨dst,op,ty,pos,after,none⟩).run P w= .ok (.value v) w)(hk:mC P n l S K fuel (i::done) (dQ f dst v) w)(hn:eb l=true:=by kernel_rfl)(hc:(dO l done i&&fm l done i&&i5 n ⟨dst,op,ty,pos,after,none⟩)=true:=by kernel_rfl):mC P n l S K (fuel+1) done f w:=rm i hi hn hc rfl hS h hk
theorem xv(i:Nat)(M:List Nat)(hi:l[i]? =some ⟨dst,op,ty,pos,after,none⟩)(h:(execOp (ev f) ⟨dst,op,ty,pos,after,none⟩).run P w= .ok (.value v) w)(hk:hP P n l qs K fuel (i::done) (dQ f dst v) w)(hn:eb l=true:=by kernel_rfl)(hc:(qs.contains i&&dO l done i&&fm l done i&&jf l qs done M i&&i5 n ⟨dst,op,ty,pos,after,none⟩)=true:=by kernel_rfl):hP P n l qs K (fuel+1) done f w:=rv i M hi hn hc rfl h hk
theorem xh(i:Nat)(M:List Nat)(hi:l[i]? =some ⟨dst,op,ty,pos,after,none⟩)(h:∀w',cl w.heap.size w w'->(execOp (ev f) ⟨dst,op,ty,pos,after,none⟩).run P w'= .ok (.value v) w')(hk:hP P n l qs K fuel (i::done) (dQ f dst v) w)(hn:eb l=true:=by kernel_rfl)(hc:(qs.contains i&&dO l done i&&fm l done i&&jb l qs done M i&&i5 n ⟨dst,op,ty,pos,after,none⟩)=true:=by kernel_rfl):hP P n l qs K (fuel+1) done f w:=rf i M hi hn hc rfl h hk
theorem xp(i:Nat)(hi:l[i]? =some ⟨dst,op,ty,pos,after,none⟩)(h:∀w,(execOp (ev f) ⟨dst,op,ty,pos,after,none⟩).run P w= .ok (.value v) w)(hk:hP P n l qs K fuel (i::done) (dQ f dst v) w)(hn:eb l=true:=by kernel_rfl)(hc:(qs.contains i&&dO l done i&&fm l done i&&i5 n ⟨dst,op,ty,pos,after,none⟩)=true:=by kernel_rfl):hP P n l qs K (fuel+1) done f w:=qA i hi hn hc rfl h hk
end
section
variable{γ γ':aA}{w w':World}{v:Value}{j k:Nat}{L:List Nat}
theorem aU.ca{w0:World}(h:aU w0 γ w)(hc:bi (inl L) γ w γ' w')(hj:L.contains 0=false:=by exact rfl):aU w0 γ' w':=h.chg hc (ct hj)
theorem aU.ce{w0:World}(h:aU w0 γ w)(hc:bi (is k) γ w γ' w')(hj:Nat.beq 0 k=false:=by exact rfl):aU w0 γ' w':=h.chg hc (dl hj)
theorem aU.cn{w0:World}(h:aU w0 γ w)(hc:bi no γ w γ' w'):aU w0 γ' w':=h.chg hc (fz _)
theorem Bx.ca{b:Nat}{cs:List Value}(h:Bx γ (is j) w b cs)(hc:bi (inl L) γ w γ' w')(hj:L.contains j=false:=by exact rfl):Bx γ' (is j) w' b cs:=h.chg hc (ct hj)
theorem Bx.ce{b:Nat}{cs:List Value}(h:Bx γ (is j) w b cs)(hc:bi (is k) γ w γ' w')(hj:Nat.beq j k=false:=by exact rfl):Bx γ' (is j) w' b cs:=h.chg hc (dl hj)
theorem Bx.cn{J:bS->Prop}{b:Nat}{cs:List Value}(h:Bx γ J w b cs)(hc:bi no γ w γ' w'):Bx γ' J w' b cs:=h.chg hc (fz _)
theorem Sl.ca{α:Type}[Rp α]{xs:List α}(h:Sl γ (is j) w v xs)(hc:bi (inl L) γ w γ' w')(hj:L.contains j=false:=by exact rfl):Sl γ' (is j) w' v xs:=h.chg hc (ct hj)
theorem Sl.ce{α:Type}[Rp α]{xs:List α}(h:Sl γ (is j) w v xs)(hc:bi (is k) γ w γ' w')(hj:Nat.beq j k=false:=by exact rfl):Sl γ' (is j) w' v xs:=h.chg hc (dl hj)
theorem Sl.cn{α:Type}[Rp α]{S:bS->Prop}{xs:List α}(h:Sl γ S w v xs)(hc:bi no γ w γ' w'):Sl γ' S w' v xs:=h.chg hc (fz _)
theorem Ow.ca{α:Type}[Rp α]{xs:List α}(h:Ow γ (is j) (is j) w v xs)(hc:bi (inl L) γ w γ' w')(hj:L.contains j=false:=by exact rfl):Ow γ' (is j) (is j) w' v xs:=h.chg hc (ct hj) (ct hj)
theorem Ow.ce{α:Type}[Rp α]{xs:List α}(h:Ow γ (is j) (is j) w v xs)(hc:bi (is k) γ w γ' w')(hj:Nat.beq j k=false:=by exact rfl):Ow γ' (is j) (is j) w' v xs:=h.chg hc (dl hj) (dl hj)
theorem Ow.cn{α:Type}[Rp α]{J S:bS->Prop}{xs:List α}(h:Ow γ J S w v xs)(hc:bi no γ w γ' w'):Ow γ' J S w' v xs:=h.chg hc (fz _) (fz _)
theorem cj.ca{α:Type}[Rp α]{xs:List (List α)}(h:cj γ j w v xs)(hc:bi (inl L) γ w γ' w')(hj:L.contains j=false:=by exact rfl):cj γ' j w' v xs:=h.chg hc (ct hj)
theorem cj.ce{α:Type}[Rp α]{xs:List (List α)}(h:cj γ j w v xs)(hc:bi (is k) γ w γ' w')(hj:Nat.beq j k=false:=by exact rfl):cj γ' j w' v xs:=h.chg hc (dl hj)
theorem cj.cn{α:Type}[Rp α]{xs:List (List α)}(h:cj γ j w v xs)(hc:bi no γ w γ' w'):cj γ' j w' v xs:=h.chg hc (fz _)
theorem dy.ca{α:Type}[Rp α]{h0:Nat}{xs:List (List α)}(h:dy γ j h0 w v xs)(hc:bi (inl L) γ w γ' w')(hj:L.contains j=false:=by exact rfl):dy γ' j h0 w' v xs:=h.chg hc (ct hj)
theorem dy.ce{α:Type}[Rp α]{h0:Nat}{xs:List (List α)}(h:dy γ j h0 w v xs)(hc:bi (is k) γ w γ' w')(hj:Nat.beq j k=false:=by exact rfl):dy γ' j h0 w' v xs:=h.chg hc (dl hj)
theorem dy.cn{α:Type}[Rp α]{h0:Nat}{xs:List (List α)}(h:dy γ j h0 w v xs)(hc:bi no γ w γ' w'):dy γ' j h0 w' v xs:=h.chg hc (fz _)
def rZ(δ g:aA)(w:World)(ren:Nat->Nat):Prop:=(∀{α:Type} [Rp α] {i:Nat} {v:Value} {xs:List α},Ow δ (is i) (is i) w v xs->∀k:Nat,Nat.beq i 0=false->ren i=k->Ow g (is k) (is k) w v xs)/\(∀{α:Type} [Rp α] {i:Nat} {v:Value} {xs:List (List α)},cj δ i w v xs->∀k:Nat,Nat.beq i 0=false->ren i=k->cj g k w v xs)
theorem kf{δ:aA}(γ:aA)(fr:eh w δ w')(ren:Nat->Nat):∃g,bi no γ w g w'/\rZ δ g w' ren:=
 ⟨_,nW fr.below γ δ ren,λh k hi hr=>h.glue fr.col hi hr,λh k hi hr=>h.glue fr.col hi hr⟩
theorem Ow.gl{α:Type}[Rp α]{δ g:aA}{ren:Nat->Nat}{i:Nat}{xs:List α}(h:Ow δ (is i) (is i) w v xs)(G:rZ δ g w ren)(k:Nat)(hi:Nat.beq i 0=false:=by exact rfl)(hr:ren i=k:=by exact rfl):Ow g (is k) (is k) w v xs:=G.1 h k hi hr
theorem cj.gl{α:Type}[Rp α]{δ g:aA}{ren:Nat->Nat}{i:Nat}{xs:List (List α)}(h:cj δ i w v xs)(G:rZ δ g w ren)(k:Nat)(hi:Nat.beq i 0=false:=by exact rfl)(hr:ren i=k:=by exact rfl):cj g k w v xs:=G.2 h k hi hr
end
end TL
/-
  TlGeom: points with whole coordinates: turns, segments, how they meet.
  By an AI agent.
-/
set_option linter.all false
namespace TL
abbrev Pt:=Int×Int
def pW(x y:Int):Int:=if x<y then-1 else if y<x then 1 else 0
def rT(a b:Pt):Int:=a.1*b.2-a.2*b.1
def rF(b a:Pt):Pt:=(b.1-a.1,b.2-a.2)
def my(a b c:Pt):Int:=pW (rT (rF b a) (rF c a)) 0
def qX(a b p:Pt):Prop:=(min a.1 b.1<=p.1/\p.1<=max a.1 b.1)/\min a.2 b.2<=p.2/\p.2<=max a.2 b.2
instance (a b p:Pt):Decidable (qX a b p):=by unfold qX;infer_instance
def mW(a b p:Pt):Prop:=my a b p=0/\qX a b p
instance (a b p:Pt):Decidable (mW a b p):=by unfold mW;infer_instance
def jX(a b:Pt):Int:=if pW a.1 b.1≠0 then pW a.1 b.1 else pW a.2 b.2
def rE(a b c d:Pt):Int:=
 let a':=if 0<jX a b then b else a
 let b':=if 0<jX a b then a else b
 let c':=if 0<jX c d then d else c
 let d':=if 0<jX c d then c else d
 let low:=if 0<jX c' a' then c' else a'
 let high:=if jX d' b'<0 then d' else b'
 if 0<jX low high then 0 else if jX low high=0 then 2 else 3
def fj(a b c d:Pt):Int:=
 if my a b c=0/\my a b d=0/\my c d a=0/\my c d b=0 then rE a b c d
 else if my a b c*my a b d<0/\my c d a*my c d b<0 then 1
 else if mW a b c\/mW a b d\/mW c d a\/mW c d b then 2 else 0
def il(p:Pt):Int:=p.1*1073741824+p.2
def sg(p:Pt):Prop:=(-4194304<=p.1/\p.1<=4194304)/\ -4194304<=p.2/\p.2<=4194304
end TL
namespace TL
def rq(p:Pt):Prop:=(-1048576<=p.1/\p.1<=1048576)/\ -1048576<=p.2/\p.2<=1048576
instance (p:Pt):Decidable (rq p):=by unfold rq;infer_instance
theorem rq.bd{p:Pt}(h:rq p):sg p:=by unfold rq at h;unfold sg;omega
def s8(ps:List Pt):Prop:=ps.length<=4096/\∀p∈ps,rq p
instance (ps:List Pt):Decidable (s8 ps):=by unfold s8;infer_instance
def lz(p:Pt):Int:=if 0<p.1\/p.1=0/\0<p.2 then 0 else 1
section
variable{a b c d:Pt}
end
end TL
/-
  TlGeomR: what is told of many points: areas, boxes, whether a polyline is simple.
  By an AI agent.
-/
set_option linter.all false
namespace TL
def jd(ps:List Pt):Prop:=4<=(ps.length:Int)/\gI ps 0=gI ps ((ps.length:Int)-1)
instance (ps:List Pt):Decidable (jd ps):=by unfold jd;infer_instance
def kL(ps:List Pt)(i k:Nat):Prop:=k=i+1\/i=0/\(k:Int)=(ps.length:Int)-2/\jd ps
instance (ps:List Pt)(i k:Nat):Decidable (kL ps i k):=by unfold kL;infer_instance
def si(ps:List Pt)(i k:Nat):Int:=fj (gI ps (i:Int)) (gI ps ((i:Int)+1)) (gI ps (k:Int)) (gI ps ((k:Int)+1))
def qC(ps:List Pt)(i k:Nat):Prop:=kL ps i k/\si ps i k=3\/¬kL ps i k/\si ps i k≠0
instance (ps:List Pt)(i k:Nat):Decidable (qC ps i k):=by unfold qC;infer_instance
def qJ(ps:List Pt)(i:Nat):Prop:=gI ps (i:Int)≠gI ps ((i:Int)+1)/\∀k<ps.length,i<k->(k:Int)<=(ps.length:Int)-2->¬qC ps i k
instance (ps:List Pt)(i:Nat):Decidable (qJ ps i):=by unfold qJ;infer_instance
def rN(ps:List Pt):Prop:=∀i<ps.length,(i:Int)<=(ps.length:Int)-2->qJ ps i
instance (ps:List Pt):Decidable (rN ps):=by unfold rN;infer_instance
section
variable{ps:List Pt}
variable{i k:Nat}
end
end TL
/-
  TlConv: whole numbers turned to another kind, a string's byte, functions that bear values.
  By an AI agent.
-/
set_option linter.all false
namespace TL
open Go
section
variable{P:Program}{w:World}{f:Fr}{dst:Option Tmp}{ty:TypeId}{pos:String}{after:Array Edge}{g:Option (Nat×Bool)}{x y:Operand}{s d t:TypeId}{m:Int}{k k0:IntKind}
theorem ki{us:TypeDesc}(hs:P.underlying s=some us)(hd:P.underlying d=some (.int k))(hx:ev f x= .int k0 m)(hw:k.wrap m=m):(execOp (ev f) ⟨dst,.convert s d x,ty,pos,after,g⟩).run P w= .ok (.value (.int k m)) w:=by
 simp[execOp,convert,hx,aM hs,aM hd,Conv.intToInt,hw]
theorem jN{i r:Int}{b:UInt8}{str:ByteArray}(ht:P.underlying t=some .string)(hx:ev f x= .string str)(hy:ev f y= .int k i)(h0:0<=i)(hb:str[i.toNat]? =some b)(hr:(b.toNat:Int)=r):(execOp (ev f) ⟨dst,.index t x y,ty,pos,after,g⟩).run P w= .ok (.value (.int .u8 r)) w:=by
 simp[execOp,Instr.index,asIntOf,hx,hy,aM ht,h0,hb,hr]
theorem kv{fid:Nat}{cs:List Operand}{vals:List Value}(h:cs.map (ev f)=vals):(execOp (ev f) ⟨dst,.makeFunc (.func fid) #[] cs.toArray,ty,pos,after,g⟩).run P w= .ok (.value (.func (.func fid) #[] vals.toArray)) w:=by
 have h:cs.toArray.map (ev f)=vals.toArray:=by rw[<-h];simp
 simp[execOp,Instr.makeFunc,h]
end
end TL
namespace TL
open Go
section
variable{P:Program}{w:World}{f:Fr}{dst:Option Tmp}{ty:TypeId}{pos:String}{after:Array Edge}{g:Option (Nat×Bool)}{x y:Operand}{t t':TypeId}
end
end TL
namespace TL
open Go
section
variable{P:Program}{w:World}{f:Fr}{dst:Option Tmp}{ty:TypeId}{pos:String}{after:Array Edge}{g:Option (Nat×Bool)}{x y:Operand}{t t':TypeId}
end
end TL
/-
  TlGeomM: meeting segments: moved, turned, named another way about; what ends they share.
  By an AI agent.
-/
set_option linter.all false
namespace TL
section
variable{a b c d:Pt}
def jP(a b c d e:Pt):Prop:=mW a b e/\mW c d e
instance (a b c d e:Pt):Decidable (jP a b c d e):=by unfold jP;infer_instance
def mY(a b c d:Pt):Prop:=my a b c*my a b d<0/\my c d a*my c d b<0
instance (a b c d:Pt):Decidable (mY a b c d):=by unfold mY;infer_instance
end
end TL
/-
  TlGeomS: polylines gone back, and two of them named the other way about.
  By an AI agent.
-/
set_option linter.all false
namespace TL
abbrev Sg:=Pt×Pt
def nv(ps:List Pt):Nat->List Sg
 |0=>[]
 |k+1=>nv ps k++[(gI ps (k:Int),gI ps ((k:Int)+1))]
def oO(ps:List Pt):List Sg:=if ps.length=1 then[(gI ps 0,gI ps 0)] else nv ps (ps.length-1)
def qd(ps:List Pt):Pt:=gI ps ((ps.length:Int)-1)
def qE(ps:List Pt)(p:Pt):Prop:=p=gI ps 0\/p=qd ps
instance (ps:List Pt)(p:Pt):Decidable (qE ps p):=by unfold qE;infer_instance
def ph(q:List Pt)(s t:Sg)(x:Pt):Prop:=qE q x/\mW s.1 s.2 x/\mW t.1 t.2 x
instance (q:List Pt)(s t:Sg)(x:Pt):Decidable (ph q s t x):=by unfold ph;infer_instance
def n8(p q:List Pt)(s t:Sg):Prop:=ph q s t (gI p 0)\/ph q s t (qd p)
instance (p q:List Pt)(s t:Sg):Decidable (n8 p q s t):=by unfold n8;infer_instance
def qt(p q:List Pt)(s t:Sg):Prop:=fj s.1 s.2 t.1 t.2=3\/fj s.1 s.2 t.1 t.2≠0/\¬n8 p q s t
instance (p q:List Pt)(s t:Sg):Decidable (qt p q s t):=by unfold qt;infer_instance
def ru(p q:List Pt):Prop:=∀s∈oO p,∀t∈oO q,¬qt p q s t
instance (p q:List Pt):Decidable (ru p q):=by unfold ru;infer_instance
section
variable{p q:List Pt}
end
end TL
namespace TL
section
variable{p q:List Pt}{i k:Nat}
variable{s t:Sg}
end
end TL
namespace TL
section
variable{p q:List Pt}{s t:Sg}{i:Nat}
end
end TL
/-
  TlGeomX: polylines: the document's way and the code's.
  By an AI agent.
-/
set_option linter.all false
namespace TL
section
variable{a b c d:Pt}
end
section
variable{ps:List Pt}{i k:Nat}
end
def rW(but:List Pt)(s t:Sg):Prop:=fj s.1 s.2 t.1 t.2=3\/(fj s.1 s.2 t.1 t.2=1/\¬∃x∈but,jP s.1 s.2 t.1 t.2 x)\/((fj s.1 s.2 t.1 t.2≠0/\fj s.1 s.2 t.1 t.2≠1)/\∃e∈[s.1,s.2,t.1,t.2],jP s.1 s.2 t.1 t.2 e/\e∉but)
instance (but:List Pt)(s t:Sg):Decidable (rW but s t):=by unfold rW;infer_instance
def rK(p q but:List Pt):Prop:=∃s∈oO p,∃t∈oO q,rW but s t
instance (p q but:List Pt):Decidable (rK p q but):=by unfold rK;infer_instance
section
variable{p q B:List Pt}
end
end TL
namespace TL
section
variable{p q but:List Pt}{i k:Nat}
variable{s t:Sg}
end
end TL
/-
  TlAround: points round another one: the order, its laws, the list that is sorted by it.
  By an AI agent.
-/
set_option linter.all false
namespace TL
def rS(p:Pt):Int:=p.1*p.1+p.2*p.2
def sy(a b:Pt)(i k:Int):Prop:=lz a<lz b\/lz a=lz b/\(rT a b<0\/rT a b=0/\(rS a<rS b\/rS a=rS b/\i<k))
def vA(o:Pt)(ps:List Pt)(i:Int):Pt:=rF (gI ps i) o
def sv(o:Pt)(ps:List Pt)(i k:Int):Prop:=sy (vA o ps i) (vA o ps k) i k
def sx(o:Pt)(ps:List Pt)(k:Nat)(l:List Int):Prop:=l.Pairwise (sv o ps)/\∀x,x∈l↔0<=x/\x<(k:Int)
section
variable{o:Pt}{ps:List Pt}{k:Nat}{l l':List Int}
open Classical in
noncomputable def arL (o:Pt) (ps:List Pt):List Int:=if h:∃l,sx o ps ps.length l then choose h else[]
end
section
variable{o:Pt}{ps:List Pt}{k:Nat}{l:List Int}{q:Int}
end
section
variable{o:Pt}{ps:List Pt}
end
end TL
/-
  TlFace: half-edges' next ones, faces.
  By an AI agent.
-/
set_option linter.all false
namespace TL
end TL
namespace TL
structure dL(s s0:List Int)(i:Nat)(j:Int):Prop where
  len:s.length=s0.length
  jj:j=(s0.length:Int)-1-i
  out:∀q:Nat,q<s0.length->(q<i\/j<q)->gI s (q:Int)=gI s0 ((s0.length:Int)-1-q)
  mid:∀q:Nat,i<=q->(q:Int)<=j->gI s (q:Int)=gI s0 (q:Int)
theorem dL.start(s0:List Int):dL s0 s0 0 ((s0.length:Int)-1):=⟨rfl,by omega,λq hq h=>by omega,λq _ _=>rfl⟩
theorem dL.next{s s0:List Int}{i:Nat}{j:Int}(h:dL s s0 i j)(hij:(i:Int)<j):dL ((s.set (i:Int).toNat (gI s j)).set j.toNat (gI s (i:Int))) s0 (i+1) (j-1):=by
 have hl:=h.len
 have hj:=h.jj
 have e1:=h.mid i (Nat.le_refl _) (by omega)
 have e2:=h.mid j.toNat (by omega) (by omega)
 rw[show((j.toNat:Nat):Int)=j by omega] at e2
 refine⟨by simpa using hl,by omega,λq hq hh=>?_,λq h1 h2=>?_⟩
 · rw[bX (by omega) (by simp;omega) (by omega),bX (by omega) (by omega) (by omega)]
   by_cases c1:(q:Int)=j
   · rw[if_pos c1,e1];congr 1;omega
   · by_cases c2:(q:Int)=i
     · rw[if_neg c1,if_pos c2,e2];congr 1;omega
     · rw[if_neg c1,if_neg c2];exact h.out q hq (by omega)
 · rw[bX (by omega) (by simp;omega) (by omega),bX (by omega) (by omega) (by omega),if_neg (by omega),if_neg (by omega)]
   exact h.mid q (by omega) (by omega)
theorem dL.done{s s0:List Int}{i:Nat}{j:Int}(h:dL s s0 i j)(hij:¬(i:Int)<j):s=s0.reverse:=by
 have hl:=h.len
 have hj:=h.jj
 apply cU
 · simpa using hl
 · intro q hq
   have hr:gI s0.reverse (q:Int)=gI s0 ((s0.length:Int)-1-q):=by
     have hq':q<s0.length:=by omega
     have e:((s0.length:Int)-1-q).toNat=s0.length-1-q:=by omega
     have e2:s0.length-1-q<s0.length:=by omega
     simp[gI,hq',e,e2,List.getElem?_reverse hq']
   rw[hr]
   by_cases c:q<i\/j<(q:Int)
   · exact h.out q (by omega) c
   · rw[h.mid q (by omega) (by omega)];congr 1;omega
structure cE(out:List (List Int))(g:b6)(k:Nat):Prop where
  len:(out.length:Int)=g.1
  at_:∀v,0<=v->v<g.1->gI out v=eI g v k
theorem cE.start{g:b6}(h:0<=g.1):cE (List.replicate g.1.toNat []) g 0:=⟨by simp;omega,λv h0 h1=>by rw[nC h0 (by omega)];simp[eI]⟩
theorem cE.next{out:List (List Int)}{g:b6}{k:Nat}(h:cE out g k)(h1:0<=(gI g.2 k).1)(h2:(gI g.2 k).1<g.1)(h3:0<=(gI g.2 k).2)(h4:(gI g.2 k).2<g.1){a b:Int}(ha:a=2*(k:Int))(hb:b=2*(k:Int)+1):
   cE ((out.set (gI g.2 k).1.toNat (gI out (gI g.2 k).1++[a])).set (gI g.2 k).2.toNat (gI (out.set (gI g.2 k).1.toNat (gI out (gI g.2 k).1++[a])) (gI g.2 k).2++[b])) g (k+1):=by
 have hl:=h.len
 refine⟨by simpa using hl,λv h5 h6=>?_⟩
 rw[bX h3 (by simp;omega) h5,bX h1 (by omega) h3,bX h1 (by omega) h5,kq,h.at_ _ h1 h2,h.at_ _ h3 h4,h.at_ v h5 h6,ha,hb]
 by_cases e2:v=(gI g.2 (k:Int)).2
 · by_cases e1:v=(gI g.2 (k:Int)).1
   · rw[<-e1,<-e2];simp
   · have e3:¬(gI g.2 (k:Int)).2=(gI g.2 (k:Int)).1:=λh=>e1 (e2.trans h)
     have e6:¬(gI g.2 (k:Int)).1=(gI g.2 (k:Int)).2:=λh=>e3 h.symm
     simp[e2,e3,e6]
 · have e4:¬(gI g.2 (k:Int)).2=v:=λh=>e2 h.symm
   by_cases e1:v=(gI g.2 (k:Int)).1
   · rw[if_neg e2,if_pos e1,if_neg e4,if_pos e1.symm,<-e1];simp
   · have e5:¬(gI g.2 (k:Int)).1=v:=λh=>e1 h.symm
     rw[if_neg e2,if_neg e1,if_neg e4,if_neg e5];simp
end TL
namespace TL
end TL
/-
  TlWalk: going through a net breadth first, and its components, as the program does.
  By an AI agent.
-/
set_option linter.all false
namespace TL
def dc(g:b6)(h:Int):Int:=pI (gI g.2 (h/2)) (1-h%2)
theorem j7{g:b6}(hm:bU g){h:Int}(h0:0<=h)(h1:h<2*(g.2.length:Int)):0<=dc g h/\dc g h<g.1:=by
 have hok:=hm.2.2.2 _ (bu (xs:=g.2) (i:=h/2) (by omega) (by omega))
 unfold jT at hok
 unfold dc pI
 split<;>omega
end TL
namespace TL
end TL
namespace TL
theorem cE.rl{out:List (List Int)}{g:b6}{k:Nat}(h:cE out g k){v:Int}(h0:0<=v)(h1:v<g.1):((gI out v).length:Int)<=2*(k:Int):=by
 rw[h.at_ v h0 h1]
 have:=mp g v k
 omega
theorem cE.rl2{out:List (List Int)}{g:b6}{k:Nat}(h:cE out g k){u v:Int}(h2:0<=u)(h3:u<g.1)(h0:0<=v)(h1:v<g.1)(a:Int):((gI (out.set u.toNat (gI out u++[a])) v).length:Int)<=2*(k:Int)+1:=by
 have hl:=h.len
 rw[bX h2 (by omega) h0]
 split
 · have:=h.rl h2 h3;simp;omega
 · have:=h.rl h0 h1;omega
theorem cE.done{out:List (List Int)}{g:b6}{k:Nat}(h:cE out g k)(hk:k=g.2.length):∀v,0<=v->v<g.1->gI out v=jQ g v:=λv h0 h1=>by
 subst hk;exact h.at_ v h0 h1
end TL
namespace TL
end TL
namespace TL
end TL
/-
  TlRot2: rotations: faces of half-edges, first ones, parts, moved ones.
  By an AI agent.
-/
set_option linter.all false
namespace TL
def ab(g:b6):fK:=(List.range g.1.toNat).map λ(v:Nat)=>jQ g (v:Int)
theorem cE.first{out:fK}{g:b6}{k:Nat}(h:cE out g k)(hk:k=g.2.length):out=ab g:=by
 have hl:=h.len
 apply cU
 · simp[ab];omega
 · intro i hi
   rw[h.done hk _ (by omega) (by omega)]
   have:i<g.1.toNat:=by omega
   simp[ab,gI,this]
structure cP(out:fK)(g:b6)(h:Nat):Prop where
  len:(out.length:Int)=g.1
  at_:∀v,0<=v->v<g.1->gI out v=j4 g v h
theorem cP.start{g:b6}(h:0<=g.1):cP (List.replicate g.1.toNat []) g 0:=⟨by simp;omega,λv h0 h1=>by rw[nC h0 (by omega)];simp[j4]⟩
theorem cP.next{out:fK}{g:b6}{h:Nat}(hi:cP out g h)(h0:0<=aH g h)(h1:aH g h<g.1):cP (out.set (aH g h).toNat (gI out (aH g h)++[(h:Int)])) g (h+1):=by
 have hl:=hi.len
 refine⟨by simpa using hl,λv h2 h3=>?_⟩
 rw[bX h0 (by omega) h2,ms]
 by_cases e:v=aH g (h:Int)
 · rw[if_pos e,if_pos e.symm,hi.at_ _ h0 h1,<-e]
 · rw[if_neg e,if_neg (λh=>e h.symm),hi.at_ v h2 h3]
theorem cP.bd{out:fK}{g:b6}{h:Nat}(hi:cP out g h){v:Int}(h0:0<=v)(h1:v<g.1):(gI out v).length<=h:=by
 rw[hi.at_ v h0 h1];exact n7 g v h
theorem cP.done{out:fK}{g:b6}{h:Nat}(hi:cP out g h)(hh:h=2*g.2.length):out=ab g:=by
 have hl:=hi.len
 apply cU
 · simp[ab];omega
 · intro i hlt
   rw[hi.at_ _ (by omega) (by omega),nT g _ hh]
   have:i<g.1.toNat:=by omega
   simp[ab,gI,this]
end TL
/-
  TlJudge: plots: their flaws, as the code and the document gather them.
  By an AI agent.
-/
set_option linter.all false
namespace TL
abbrev sr:=Int×Int×Int
abbrev ii:=List Pt×List (List Pt)
section
variable{β:Type}{f h:Nat->List β}{k n:Nat}{x:β}{F B:List β}
end
section
variable{β:Type}{p:Prop}[Decidable p]{x:β}
end
def sk(l:List Pt):Prop:=2<=(l.length:Int)/\s8 l
instance (l:List Pt):Decidable (sk l):=by unfold sk;infer_instance
def qo(g:b6)(p:ii)(e:Int):Prop:=gI (gI p.2 e) 0=gI p.1 (gI g.2 e).1/\gI (gI p.2 e) (((gI p.2 e).length:Int)-1)=gI p.1 (gI g.2 e).2
instance (g:b6)(p:ii)(e:Int):Decidable (qo g p e):=by unfold qo;infer_instance
def qi(l:List Pt)(q:Pt):Prop:=∃s∈nv l (l.length-1),mW s.1 s.2 q
instance (l:List Pt)(q:Pt):Decidable (qi l q):=by unfold qi;infer_instance
def nR(s t:Sg)(but:List Pt):Prop:=fj s.1 s.2 t.1 t.2=0\/(fj s.1 s.2 t.1 t.2=1\/fj s.1 s.2 t.1 t.2=2)/\∃x∈but,jP s.1 s.2 t.1 t.2 x
instance (s t:Sg)(but:List Pt):Decidable (nR s t but):=by unfold nR;infer_instance
def rM(a b but:List Pt):Prop:=∀s∈nv a (a.length-1),∀t∈nv b (b.length-1),nR s t but
instance (a b but:List Pt):Decidable (rM a b but):=by unfold rM;infer_instance
section
variable{g:b6}{p:ii}
end
end TL
namespace TL
section
variable{l:List Pt}{p:Pt}{i:Nat}
end
section
variable{a b c d:Pt}{but:List Pt}{k:Nat}{m:Int}
end
def s5(p:ii)(h:Int):Pt:=if h%2=0 then gI (gI p.2 (h/2)) 1 else gI (gI p.2 (h/2)) (((gI p.2 (h/2)).length:Int)-2)
def sc(u v:Pt):Int:=u.1*v.1+u.2*v.2
def mF(u v:Pt):Prop:=rT u v=0/\0<sc u v
instance (u v:Pt):Decidable (mF u v):=by unfold mF;infer_instance
end TL
namespace TL
end TL
namespace TL
section
variable{g:b6}{p:ii}{F G B:List sr}{v e k i:Nat}
end
section
variable{g:b6}{p:ii}{e f:Int}
end
section
variable{a b but:List Pt}{i k:Nat}
end
section
variable{g:b6}{p:ii}{e f:Nat}{b:Bool}
end
end TL
/-
  TlMap: maps that the call makes.
  By an AI agent.
-/
set_option linter.all false
namespace TL
open Go
class Ky (K:Type) where
  val:K->Value
section
variable{P:Program}{f:Fr}{w:World}{dst:Option Tmp}{ty:TypeId}{pos:String}{after:Array Edge}{g:Option (Nat×Bool)}{t:TypeId}{x y z:Operand}{N:Value->World->Prop}
end
instance:Ky Int where
 val k:=.int .i64 k
instance:Ky (Int×Int) where
 val k:=.agg (List.toArray [.int .i64 k.1,.int .i64 k.2])
end TL
namespace TL
open Go
end TL
/-
  TlFloat: floating numbers that are no NaN and have no sign: their bits, as a natural number, stand as they do; sums, roots and quotients of such.
  By an AI agent.
-/
set_option linter.all false
namespace TL
open Ieee
abbrev aJ:Nat:=9218868437227405312
abbrev qS:Nat:=9221120237041090561
def mg(x:Nat):Nat:=if x<4503599627370496 then x else 4503599627370496+x%4503599627370496
def pl(x:Nat):Nat:=x/4503599627370496-1
def vl(x:Nat):Nat:=mg x*2^pl x
theorem l8:double.binade=4503599627370496:=by decide
theorem jE:double.infRung=aJ:=by decide
theorem qU:double.signWeight=9223372036854775808:=by decide
theorem pS:double.leastPlace= -1074:=by decide
theorem cM{x:Nat}(h:x<aJ):double.read x= .number false (mg x) (-1074+(pl x:Nat)):=by
 unfold Format.read
 simp only[l8,jE,qU,pS]
 have hh:x<9218868437227405312:=h
 have h1:x/9223372036854775808=0:=Nat.div_eq_of_lt (by omega)
 have h2:x%9223372036854775808=x:=Nat.mod_eq_of_lt (by omega)
 rw[h1,h2]
 by_cases hx:x<4503599627370496
 · rw[if_pos hx]
   have:pl x=0:=by unfold pl;omega
   simp[mg,hx,this]
 · rw[if_neg hx,if_pos h]
   simp[mg,hx,pl]
theorem dp:double.read aJ= .infinity false:=by decide
theorem gO{x:Nat}(h:x<=aJ):(∃m i,double.read x= .number false m i)\/double.read x= .infinity false:=by
 rcases Nat.lt_or_ge x aJ with c|c
 · exact .inl ⟨_,_,cM c⟩
 · rw[show x=aJ by omega];exact .inr dp
theorem l6{x:Nat}:mg x=0↔x=0:=by unfold mg;split<;>omega
theorem qj(x:Nat):mg x<9007199254740992:=by unfold mg;split<;>omega
theorem pj{x y:Nat}(h:x<=y):pl x<=pl y:=by unfold pl;omega
theorem qe{x y:Nat}(h:x<y):vl x<vl y:=by
 unfold vl
 by_cases e:pl x=pl y
 · rw[e]
   refine Nat.mul_lt_mul_of_pos_right ?_ (Nat.two_pow_pos _)
   unfold mg;unfold pl at e
   split<;>split<;>omega
 · have hp:=pj (Nat.le_of_lt h)
   obtain⟨d,hd⟩:∃d,pl y=pl x+1+d:=⟨pl y-pl x-1,by omega⟩
   have hy:4503599627370496<=mg y:=by
     unfold pl at e hd;unfold mg;split<;>omega
   rw[hd,Nat.pow_add,Nat.pow_succ]
   have hx:=qj x
   have h1:0<2^pl x:=Nat.two_pow_pos _
   have h2:1<=2^d:=Nat.two_pow_pos _
   calc mg x*2^pl x<9007199254740992*2^pl x:=Nat.mul_lt_mul_of_pos_right hx h1
     _=4503599627370496*(2^pl x*2*1):=by omega
     _<=mg y*(2^pl x*2*2^d):=Nat.mul_le_mul hy (Nat.mul_le_mul_left _ h2)
theorem gT(m k:Nat):m <<< k=m*2^k:=Nat.shiftLeft_eq m k
theorem ld(a b:Nat):min (-1074+(a:Int)) (-1074+(b:Int))= -1074+((min a b:Nat):Int):=by omega
theorem qf(a b:Nat):(-1074+(a:Int)-(-1074+((min a b:Nat):Int))).toNat=a-min a b:=by omega
theorem nB(a b:Nat):(-1074+(b:Int)-(-1074+((min a b:Nat):Int))).toNat=b-min a b:=by omega
theorem eP{a b:Nat}(h:b<=a):2^(a-b)*2^b=2^a:=by rw[<-Nat.pow_add];congr 1;omega
theorem pU(a b:Nat):compare (a:Int) (b:Int)=compare a b:=by
 rcases Nat.lt_trichotomy a b with h|h|h
 · simp[compare,compareOfLessAndEq,h]
 · subst h;simp[compare,compareOfLessAndEq]
 · have h1:¬a<b:=by omega
   have h2:¬a=b:=by omega
   have h3:¬(a:Int)<b:=by omega
   have h4:¬(a:Int)=b:=by omega
   simp[compare,compareOfLessAndEq,h1,h2,h3,h4]
theorem eM{a b:Nat}(h:a<b):compare a b= .lt:=by simp[compare,compareOfLessAndEq,h]
theorem eA{a b:Nat}(h:b<a):compare a b= .gt:=by simp[compare,compareOfLessAndEq,Nat.not_lt.2 (Nat.le_of_lt h),Nat.ne_of_gt h]
theorem dN(a:Nat):compare a a= .eq:=by simp[compare,compareOfLessAndEq]
theorem dv{x y:Nat}(hx:x<=aJ)(hy:y<=aJ):double.order x y=some (compare x y):=by
  unfold Format.order
  rcases Nat.lt_or_ge x aJ with cx|cx<;>rcases Nat.lt_or_ge y aJ with cy|cy
  · rw[cM cx,cM cy]
    simp only[Datum.order,signed,ld,qf,nB,pU,gT,Bool.false_eq_true,if_false]
    have k1:=eP (a:=pl x) (b:=min (pl x) (pl y)) (by omega)
    have k2:=eP (a:=pl y) (b:=min (pl x) (pl y)) (by omega)
    have h0:0<2^min (pl x) (pl y):=Nat.two_pow_pos _
    have e1:vl x=mg x*2^(pl x-min (pl x) (pl y))*2^min (pl x) (pl y):=by rw[Nat.mul_assoc,k1];rfl
    have e2:vl y=mg y*2^(pl y-min (pl x) (pl y))*2^min (pl x) (pl y):=by rw[Nat.mul_assoc,k2];rfl
    rcases Nat.lt_trichotomy x y with c|c|c
    · rw[eM c];congr 1;refine eM ?_
      have:=qe c;rw[e1,e2] at this;exact Nat.lt_of_mul_lt_mul_right this
    · subst c;rw[dN,dN]
    · rw[eA c];congr 1;refine eA ?_
      have:=qe c;rw[e1,e2] at this;exact Nat.lt_of_mul_lt_mul_right this
  · rw[cM cx,show y=aJ by omega,dp];simp[Datum.order,eM cx]
  · rw[cM cy,show x=aJ by omega,dp];simp[Datum.order,eA cy]
  · rw[show x=aJ by omega,show y=aJ by omega,dp];simp[Datum.order,dN]
theorem ol(m:Nat)(p:Int):double.nearest false m p<=aJ:=by
 unfold Format.nearest
 dsimp only
 split
 · simp[Format.word]
 · simp only[Format.word,Bool.false_eq_true,if_false]
   exact Nat.le_trans (Nat.min_le_right _ _) (Nat.le_of_eq jE)
theorem g7:double.write (.infinity false)=aJ:=by decide
def aT(x y:Nat):Nat:=(double.add x y).getD qS
theorem qT{x y:Nat}(hx:x<=aJ)(hy:y<=aJ):double.add x y=some (aT x y)/\aT x y<=aJ:=by
 have:∃z,double.add x y=some z/\z<=aJ:=by
   unfold Format.add
   rcases gO hx with⟨m,i,e⟩|e<;>rcases gO hy with⟨n,j,e'⟩|e'<;>rw[e,e']
   · refine⟨_,rfl,?_⟩
     have k:(if signed false m (i-min i j).toNat+signed false n (j-min i j).toNat=0 then false&&false else decide (signed false m (i-min i j).toNat+signed false n (j-min i j).toNat<0))=false:=by
       simp only[signed,Bool.false_eq_true,if_false]
       split
       · rfl
       · exact decide_eq_false (Int.not_lt.2 (Int.add_nonneg (Int.natCast_nonneg _) (Int.natCast_nonneg _)))
     simp only[k]
     exact ol _ _
   · exact⟨_,rfl,Nat.le_of_eq g7⟩
   · exact⟨_,rfl,Nat.le_of_eq g7⟩
   · exact⟨_,rfl,Nat.le_of_eq g7⟩
 obtain⟨z,h1,h2⟩:=this
 unfold aT;rw[h1];exact⟨rfl,h2⟩
end TL
/-
  TlFloat2: how far a rounded number lies from what is rounded; sums and roots that are finite; sums with nought.
  By an AI agent.
-/
set_option linter.all false
namespace TL
open Ieee
def iY(n d:Nat):Nat:=n/2^d+(if 2^d<2*(n%2^d)\/2^d=2*(n%2^d)/\n/2^d%2=1 then 1 else 0)
theorem r7(s:Bool)(n d:Nat):Toward.even.cut s n d=iY n d:=by
 unfold Toward.cut iY
 simp only[gT,Nat.one_mul]
 have hb:∀g:Nat,(n/g+(decide (g<2*(n%g))||g==2*(n%g)&&n/g%2==1).toNat)=n/g+(if g<2*(n%g)\/g=2*(n%g)/\n/g%2=1 then 1 else 0):=by
   intro g
   congr 1
   by_cases c:g<2*(n%g)\/g=2*(n%g)/\n/g%2=1
   · rw[if_pos c]
     have:(decide (g<2*(n%g))||g==2*(n%g)&&n/g%2==1)=true:=by simpa using c
     rw[this];rfl
   · rw[if_neg c]
     have:(decide (g<2*(n%g))||g==2*(n%g)&&n/g%2==1)=false:=by
       rw[<-Bool.not_eq_true];simpa using c
     rw[this];rfl
 rw[hb]
 rcases(Nat.lt_or_ge (n.log2+2) d).symm with c|c
 · rw[Nat.min_eq_left c]
 · rw[Nat.min_eq_right (Nat.le_of_lt c)]
   have h1:n<2^(n.log2+1):=Nat.lt_log2_self
   have h2:2^(n.log2+2)=2*2^(n.log2+1):=by rw[Nat.pow_succ];omega
   have h3:2^(n.log2+2)<=2^d:=Nat.pow_le_pow_right (by omega) (by omega)
   rw[Nat.div_eq_of_lt (show n<2^(n.log2+2) by omega),Nat.mod_eq_of_lt (show n<2^(n.log2+2) by omega),Nat.div_eq_of_lt (show n<2^d by omega),Nat.mod_eq_of_lt (show n<2^d by omega)]
   rw[if_neg (by omega),if_neg (by omega)]
theorem h8(n d k:Nat):iY (n*2^k) (d+k)=iY n d:=by
 unfold iY
 have h0:0<2^k:=Nat.two_pow_pos _
 rw[Nat.pow_add,Nat.mul_div_mul_right _ _ h0,Nat.mul_mod_mul_right]
 have e:2*(n%2^d*2^k)=2*(n%2^d)*2^k:=by rw[Nat.mul_assoc]
 rw[e]
 congr 1
 have a1:2^d*2^k<2*(n%2^d)*2^k↔2^d<2*(n%2^d):=⟨λh=>Nat.lt_of_mul_lt_mul_right h,λh=>Nat.mul_lt_mul_of_pos_right h h0⟩
 have a2:2^d*2^k=2*(n%2^d)*2^k↔2^d=2*(n%2^d):=⟨λh=>Nat.eq_of_mul_eq_mul_right h0 h,λh=>congrArg (· *2^k) h⟩
 simp only[a1,a2]
theorem iC(n:Nat):iY n 0=n:=by unfold iY;simp[Nat.mod_one]
def rd(T:Nat):Nat:=if T=0 then 0 else min ((T.log2-52)*4503599627370496+iY T (T.log2-52)) aJ
theorem kg{m:Nat}(h:m≠0)(k:Nat):(m*2^k).log2=m.log2+k:=by
 have h0:0<2^k:=Nat.two_pow_pos _
 have hp:m*2^k≠0:=by
   intro e;rcases Nat.mul_eq_zero.1 e with c|c<;>omega
 refine(Nat.log2_eq_iff hp).2 ⟨?_,?_⟩
 · rw[Nat.pow_add];exact Nat.mul_le_mul_right _ (Nat.log2_self_le h)
 · rw[Nat.add_right_comm,Nat.pow_add];exact Nat.mul_lt_mul_of_pos_right Nat.lt_log2_self h0
theorem pk(m i:Nat):double.nearest false m (-1074+(i:Int))=rd (m*2^i):=by
 unfold Format.nearest rd
 by_cases h:m=0
 · subst h;simp[Format.word]
 have h0:0<2^i:=Nat.two_pow_pos _
 have hp:m*2^i≠0:=by
   intro e;rcases Nat.mul_eq_zero.1 e with c|c<;>omega
 rw[if_neg h,if_neg hp]
 simp only[l8,pS,Format.word,Bool.false_eq_true,if_false,r7,kg h,show double.fractionBits=52 from rfl]
 have hI:double.infRung=aJ:=jE
 rw[hI]
 have e1:(max (-1074+(i:Int)+(m.log2:Int)-((52:Nat):Int)) (-1074)-(-1074)).toNat=m.log2+i-52:=by omega
 rw[e1]
 congr 2
 rw[gT]
 rcases(Nat.lt_or_ge (m.log2+i-52) i).symm with c|c
 · have e2:((-1074+(i:Int))-max (-1074+(i:Int)+(m.log2:Int)-((52:Nat):Int)) (-1074)).toNat=0:=by omega
   have e3:(max (-1074+(i:Int)+(m.log2:Int)-((52:Nat):Int)) (-1074)-(-1074+(i:Int))).toNat=m.log2+i-52-i:=by omega
   rw[e2,e3,Nat.pow_zero,Nat.mul_one]
   conv=>rhs;rw[show m.log2+i-52=(m.log2+i-52-i)+i by omega]
   rw[h8]
 · have e2:((-1074+(i:Int))-max (-1074+(i:Int)+(m.log2:Int)-((52:Nat):Int)) (-1074)).toNat=i-(m.log2+i-52):=by omega
   have e3:(max (-1074+(i:Int)+(m.log2:Int)-((52:Nat):Int)) (-1074)-(-1074+(i:Int))).toNat=0:=by omega
   rw[e2,e3,iC]
   generalize hE:m.log2+i-52=E at c ⊢
   have il:=h8 (m*2^(i-E)) 0 E
   rw[Nat.zero_add,iC,Nat.mul_assoc,<-Nat.pow_add,Nat.sub_add_cancel (Nat.le_of_lt c)] at il
   exact il.symm
theorem rj{x y:Nat}(hx:x<aJ)(hy:y<aJ):aT x y=rd (vl x+vl y):=by
 unfold aT Format.add
 rw[cM hx,cM hy]
 simp only[Datum.sum,signed,ld,qf,nB,gT,Bool.false_eq_true,if_false,Option.map_some,Option.getD_some]
 have k1:=eP (a:=pl x) (b:=min (pl x) (pl y)) (by omega)
 have k2:=eP (a:=pl y) (b:=min (pl x) (pl y)) (by omega)
 have k:(if((mg x*2^(pl x-min (pl x) (pl y)):Nat):Int)+((mg y*2^(pl y-min (pl x) (pl y)):Nat):Int)=0 then false&&false else decide (((mg x*2^(pl x-min (pl x) (pl y)):Nat):Int)+((mg y*2^(pl y-min (pl x) (pl y)):Nat):Int)<0))=false:=by
   split
   · rfl
   · exact decide_eq_false (Int.not_lt.2 (Int.add_nonneg (Int.natCast_nonneg _) (Int.natCast_nonneg _)))
 rw[k]
 show double.nearest false _ _=_
 rw[pk]
 congr 1
 rw[<-Int.natCast_add,Int.natAbs_natCast,Nat.add_mul,Nat.mul_assoc,k1,Nat.mul_assoc,k2]
 rfl
end TL
/-
  TlFl: floating numbers in a walk: what each operation comes to.
  By an AI agent.
-/
set_option linter.all false
namespace TL
open Go
abbrev Fb:=Nat
instance:Rp Nat where
 sz:=1
 rep _ _ _ cs x:=cs=[.float .f64 x]
 len h:=by subst h;rfl
 one h:=by subst h;simp[Value.oneCell']
 tr _ _ h:=h
instance:Fl Nat where
 cells x:=[.float .f64 x]
 rep_iff:=Iff.rfl
def db(x:Nat):Bool:=Ieee.double.order x x !=some .eq
theorem pq{x:Nat}(h:x<=aJ):db x=false:=by
 unfold db;rw[dv h h,dN];rfl
section
variable{P:Program}{f:Fr}{w:World}{dst:Option Tmp}{ty:TypeId}{pos:String}{after:Array Edge}{g:Option (Nat×Bool)}{t t' s d:TypeId}{x y:Operand}{a b r:Nat}
variable{N:Value->World->Prop}
theorem lJ(op:BinOp):(eqGuard op t x y (.float .f64 a) (.float .f64 b)).run P w= .ok () w:=by
 unfold eqGuard
 split<;>rfl
theorem n4(hx:ev f x= .float .f64 a)(hy:ev f y= .float .f64 b)(h:Ieee.double.add a b=some r):(execOp (ev f) ⟨dst,.binOp .add t x y t',ty,pos,after,g⟩).run P w= .ok (.value (.float .f64 r)) w:=
 qg .add hx hy (lJ _) (run_float_arith w .add t .f64 a b r h)
theorem g0{op:BinOp}{q:Bool}(hx:ev f x= .float .f64 a)(hy:ev f y= .float .f64 b)(h:∀w:World,(binOp op t (.float .f64 a) (.float .f64 b)).run P w= .ok (.bool q) w):(execOp (ev f) ⟨dst,.binOp op t x y t',ty,pos,after,g⟩).run P w= .ok (.value (.bool q)) w:=
 qg op hx hy (lJ _) (h w)
theorem kB{q:Bool}(hx:ev f x= .float .f64 a)(hy:ev f y= .float .f64 b)(h:(Ieee.double.order a b==some .eq)=q):(execOp (ev f) ⟨dst,.binOp .eql t x y t',ty,pos,after,g⟩).run P w= .ok (.value (.bool q)) w:=
 g0 hx hy (λw=>by rw[binOp_float_cmp_eql];show Sem.run P (pure (Value.bool (Ieee.double.order a b==some .eq))) w=_;rw[h];rfl)
theorem lF{q:Bool}(hx:ev f x= .float .f64 a)(hy:ev f y= .float .f64 b)(h:(Ieee.double.order a b !=some .eq)=q):(execOp (ev f) ⟨dst,.binOp .neq t x y t',ty,pos,after,g⟩).run P w= .ok (.value (.bool q)) w:=
 g0 hx hy (λw=>by rw[binOp_float_cmp_neq];show Sem.run P (pure (Value.bool (Ieee.double.order a b !=some .eq))) w=_;rw[h];rfl)
theorem nU(ha:a<=aJ)(hb:b<=aJ):(Ieee.double.order a b==some .eq)=decide (a=b):=by
 rw[dv ha hb]
 rcases Nat.lt_trichotomy a b with h|h|h
 · rw[eM h,decide_eq_false (by omega)];rfl
 · rw[h,dN];simp
 · rw[eA h,decide_eq_false (by omega)];rfl
theorem jc(hx:ev f x= .float .f64 a)(hy:ev f y= .float .f64 b)(ha:a<=aJ)(hb:b<=aJ):(execOp (ev f) ⟨dst,.binOp .eql t x y t',ty,pos,after,g⟩).run P w= .ok (.value (.bool (decide (a=b)))) w:=
 kB hx hy (nU ha hb)
theorem nE(hx:ev f x= .float .f64 a)(hy:ev f y= .float .f64 b)(ha:a<=aJ)(hb:b<=aJ):(execOp (ev f) ⟨dst,.binOp .neq t x y t',ty,pos,after,g⟩).run P w= .ok (.value (.bool (!decide (a=b)))) w:=
 lF hx hy (by rw[bne,nU ha hb])
theorem gg(hx:ev f x= .float .f64 a)(hy:ev f y= .float .f64 a):(execOp (ev f) ⟨dst,.binOp .neq t x y t',ty,pos,after,g⟩).run P w= .ok (.value (.bool (db a))) w:=
  lF hx hy rfl
theorem qh{fid:Nat}{fn:Func}{e:Array Value->Sem Value}{v u:Value}{at_:Array TypeId}(hf:P.funcs[fid]? =some fn)(hname:(fn.name== "runtime.NumGoroutine")=false)(hb:fn.body.isNone=true)(hn:(Extern.findNext fn).isNone=true)(he:Extern.find fn=some e)(hx:ev f x=v)(h:(e #[v]).run P w= .ok u w):
   (execOp (ev f) ⟨dst,.call {callee:=.value (.func fid),args:= #[x],argTypes:=at_},ty,pos,after,g⟩).run P w= .ok (.value u) w:=by
 have hn':Extern.findNext fn=none:=by simpa using hn
 have:=run_callFunc_extern hf hname hb hn' he #[v] w
 rw[h] at this
 have ha:(#[x]).map (ev f)= #[v]:=by simp[hx]
 have h0:∀q:Operand,ev f (.func fid)= .func (.func fid) #[] #[]:=λ_=>rfl
 simp only[execOp,resolve,h0 x,Deferred.ofValue,invoke,ha,Sem.run_bind,Sem.run_pure,Result.andThen_ok,Array.append_empty,Array.empty_append]
 exact this
theorem dX{fid:Nat}{fn:Func}{at_:Array TypeId}{n:Int}(hf:P.funcs[fid]? =some fn)(hname:(fn.name== "runtime.NumGoroutine")=false)(hb:fn.body.isNone=true)(hn:(Extern.findNext fn).isNone=true)(he:Extern.find fn=some Extern.MathFloatBits.float64frombits)(hx:ev f x= .int .u64 n):
   (execOp (ev f) ⟨dst,.call {callee:=.value (.func fid),args:= #[x],argTypes:=at_},ty,pos,after,g⟩).run P w= .ok (.value (.float .f64 n.toNat)) w:=
 qh hf hname hb hn he hx rfl
end
end TL
/-
  TlLit: a list of lists that is written out, with one list in it, as an owned list of lists.
  By an AI agent.
-/
set_option linter.all false
namespace TL
open Go
end TL
namespace TL
open Go
theorem pZ{P:Program}{f:Fr}{w:World}{dst:Option Tmp}{ty:TypeId}{pos:String}{after:Array Edge}{g:Option (Nat×Bool)}{t t':TypeId}{x y:Operand}{a b:Nat}{q:Bool}(hx:ev f x= .float .f64 a)(hy:ev f y= .float .f64 b)(h:(Ieee.double.order a b==some .gt)=q):(execOp (ev f) ⟨dst,.binOp .gtr t x y t',ty,pos,after,g⟩).run P w= .ok (.value (.bool q)) w:=
 g0 hx hy (λw=>by rw[binOp_float_cmp_gtr];show Sem.run P (pure (Value.bool (Ieee.double.order a b==some .gt))) w=_;rw[h];rfl)
end TL
namespace TL
open Go
theorem iO{P:Program}{f:Fr}{w:World}{dst:Option Tmp}{ty:TypeId}{pos:String}{after:Array Edge}{g:Option (Nat×Bool)}{x:Operand}{a:Nat}{fid:Nat}{fn:Func}{at_:Array TypeId}(hf:P.funcs[fid]? =some fn)(hname:(fn.name== "runtime.NumGoroutine")=false)(hb:fn.body.isNone=true)(hn:(Extern.findNext fn).isNone=true)(he:Extern.find fn=some Extern.MathFloatBits.float64bits)(hx:ev f x= .float .f64 a):
   (execOp (ev f) ⟨dst,.call {callee:=.value (.func fid),args:= #[x],argTypes:=at_},ty,pos,after,g⟩).run P w= .ok (.value (.int .u64 (a:Int))) w:=
 qh hf hname hb hn he hx rfl
end TL
namespace TL
open Go
theorem i9{P:Program}{f:Fr}{w:World}{dst:Option Tmp}{ty:TypeId}{pos:String}{after:Array Edge}{g:Option (Nat×Bool)}{t t':TypeId}{x y:Operand}{a b:Nat}(hx:ev f x= .float .f64 a)(hy:ev f y= .float .f64 b)(ha:a<=aJ)(hb:b<=aJ):(execOp (ev f) ⟨dst,.binOp .lss t x y t',ty,pos,after,g⟩).run P w= .ok (.value (.bool (decide (a<b)))) w:=
 g0 hx hy (λw=>by
   rw[binOp_float_cmp_lss]
   show Sem.run P (pure (Value.bool (Ieee.double.order a b==some .lt))) w=_
   rw[dv ha hb]
   rcases Nat.lt_trichotomy a b with h|h|h
   · rw[eM h,decide_eq_true h];rfl
   · rw[h,dN,decide_eq_false (by omega)];rfl
   · rw[eA h,decide_eq_false (by omega)];rfl)
end TL
/-
  TlJudge2: what is told of a plot; its rotation.
  By an AI agent.
-/
set_option linter.all false
namespace TL
section
variable{p:ii}{l:List Pt}{a b:Bool}{i k:Nat}
end
section
variable{g:b6}{p:ii}
end
def rU(p:ii)(l:List Int):List Pt:=l.map (s5 p)
def qy(p:ii)(o:Pt)(l:List Int):Prop:=∃j:Nat,j<l.length/\0<j/\mF (rF (gI (rU p l) (gI (arL o (rU p l)) ((j:Int)-1))) o) (rF (gI (rU p l) (gI (arL o (rU p l)) (j:Int))) o)
noncomputable instance (p:ii) (o:Pt) (l:List Int):Decidable (qy p o l):=by unfold qy;infer_instance
def rD(g:b6)(p:ii):Prop:=∃v:Nat,v<g.1.toNat/\qy p (gI p.1 (v:Int)) (jQ g (v:Int))
noncomputable instance (g:b6) (p:ii):Decidable (rD g p):=by unfold rD;infer_instance
end TL
/-
  TlMet: what layer 29 (metric) computes, in plain words.
  By an AI agent.
-/
set_option linter.all false
namespace TL
open Go
end TL
namespace TL
open Go
def bQ(x:Nat):Nat:=if db x=true then qS else x
theorem l7{x:Nat}(h:db x=true):qS=bQ x:=by unfold bQ;rw[if_pos h]
theorem kG{x:Nat}(h:¬db x=true):x=bQ x:=by unfold bQ;rw[if_neg h]
theorem kD{x:Nat}(h:¬db x=true)(h0:x=0):0=bQ x:=by unfold bQ;rw[if_neg h,h0]
end TL
namespace TL
open Go
end TL
namespace TL
open Go
end TL
namespace TL
open Go
end TL
namespace TL
open Go
end TL
namespace TL
end TL
namespace TL
open Go
end TL
/-
  TlZf: weights: floating numbers that are at least 0, of either sign of 0: in sums and comparisons such a one stands for its magnitude (zf).
  By an AI agent.
-/
set_option linter.all false
namespace TL
open Ieee
def dx(a b:Nat):Bool:=Ieee.double.order a b==some .gt
def dd(a b:Nat):Bool:=Ieee.double.order a b==some .gt||Ieee.double.order a b==some .eq
def r4(a b:Nat):Bool:=Ieee.double.order a b==some .lt
abbrev ef(x:Nat):Prop:=dd x 0=true
def zf(x:Nat):Nat:=x%9223372036854775808
theorem l5(x:Nat):double.read x=double.read (zf x)\/(double.read x=(double.read (zf x)).opposite/\(x/9223372036854775808)%2=1):=by
 have e1:zf x/9223372036854775808=0:=Nat.div_eq_of_lt (Nat.mod_lt _ (by decide))
 have e2:zf x%9223372036854775808=x%9223372036854775808:=Nat.mod_mod _ _
 unfold Format.read
 simp only[l8,jE,qU,pS]
 rw[e1,e2]
 rcases Nat.mod_two_eq_zero_or_one (x/9223372036854775808) with h|h
 · left;rw[h]
 · right
   refine⟨?_,h⟩
   rw[h]
   split
   · rfl
   · split
     · rfl
     · split<;>rfl
theorem ry{m:Nat}{i j:Int}(h:¬m=0):Datum.order (.number true m i) (.number false 0 j)=some .lt:=by
 have h1:∀k:Nat,0<m <<< k:=λk=>by rw[gT];exact Nat.mul_pos (Nat.pos_of_ne_zero h) (Nat.two_pow_pos _)
 simp only[Datum.order,signed,if_true,Nat.zero_shiftLeft,Bool.false_eq_true,if_false]
 have h2:=h1 (i-min i j).toNat
 generalize m <<< (i-min i j).toNat=q at h2
 have h3: -(q:Int)<((0:Nat):Int):=by omega
 simp only[compare,compareOfLessAndEq,h3,if_true]
theorem jm:double.read 0= .number false 0 (-1074):=by decide
theorem qW{x:Nat}(h:¬x<=aJ)(h2:x<9223372036854775808):∃s t,double.read x= .nan s t:=by
 have hI:aJ=9218868437227405312:=rfl
 unfold Format.read
 simp only[l8,jE,qU,pS]
 rw[Nat.mod_eq_of_lt h2,if_neg (by omega),if_neg (by omega),if_neg (by omega)]
 exact⟨_,_,rfl⟩
theorem fA{x:Nat}(h:ef x):zf x<=aJ/\(double.read x=double.read (zf x)\/(zf x=0/\double.read x= .number true 0 (-1074))):=by
  have hz:zf x<9223372036854775808:=Nat.mod_lt _ (by decide)
  unfold ef dd Format.order at h
  rw[jm] at h
  have hle:zf x<=aJ:=by
    by_cases c:zf x<=aJ
    · exact c
    · obtain⟨s,t,e⟩:=qW c hz
      exfalso
      rcases l5 x with k|⟨k,_⟩<;>rw[k,e] at h<;>simp[Datum.order,Datum.opposite] at h
  refine⟨hle,?_⟩
  rcases l5 x with k|⟨k,_⟩
  · exact .inl k
  · right
    rcases Nat.lt_or_ge (zf x) aJ with c|c
    · rw[k,cM c] at h
      rw[k,cM c]
      by_cases h0:mg (zf x)=0
      · have:=l6.1 h0
        refine⟨this,?_⟩
        rw[this];rfl
      · exfalso
        rw[Datum.opposite,show(!false)=true from rfl,ry h0] at h
        exact absurd h (by decide)
    · have e:zf x=aJ:=Nat.le_antisymm hle c
      rw[k,e,dp] at h
      exfalso
      simp[Datum.order,Datum.opposite] at h
structure o4(x x':Nat):Prop where
  le:x'<=aJ
  l:∀y,double.order x y=double.order x' y
  r:∀y,double.order y x=double.order y x'
theorem jv{x:Nat}(h:x<=aJ):o4 x x:=⟨h,λ_=>rfl,λ_=>rfl⟩
theorem ft{x:Nat}(h:ef x):o4 x (zf x):=by
 obtain⟨h1,h2⟩:=fA h
 refine⟨h1,λy=>?_,λy=>?_⟩<;>unfold Format.order<;>rcases h2 with k|⟨k0,k⟩
 · rw[k]
 · rw[k,k0,jm]
   cases double.read y<;>simp[Datum.order,signed]
 · rw[k]
 · rw[k,k0,jm]
   cases double.read y<;>simp[Datum.order,signed]
theorem ek{d x:Nat}(hd:d<=aJ)(h:ef x):double.add d x=some (aT d (zf x))/\aT d (zf x)<=aJ:=by
 obtain⟨h1,h2⟩:=fA h
 obtain⟨a1,a2⟩:=qT hd h1
 refine⟨?_,a2⟩
 rw[<-a1]
 unfold Format.add
 rcases h2 with k|⟨k0,k⟩
 · rw[k]
 · rw[k,k0,jm]
   rcases gO hd with⟨m,i,e⟩|e<;>rw[e]<;>simp[Datum.sum,signed]
theorem r9{x x' y y':Nat}(h:o4 x x')(k:o4 y y'):dx x y=decide (y'<x'):=by
 unfold dx
 rw[h.l,k.r,dv h.le k.le]
 rcases Nat.lt_trichotomy x' y' with c|c|c
 · rw[eM c,decide_eq_false (by omega)];rfl
 · rw[c,dN,decide_eq_false (by omega)];rfl
 · rw[eA c,decide_eq_true c];rfl
theorem rh{x x' y y':Nat}(h:o4 x x')(k:o4 y y'):r4 x y=decide (x'<y'):=by
 unfold r4
 rw[h.l,k.r,dv h.le k.le]
 rcases Nat.lt_trichotomy x' y' with c|c|c
 · rw[eM c,decide_eq_true c];rfl
 · rw[c,dN,decide_eq_false (by omega)];rfl
 · rw[eA c,decide_eq_false (by omega)];rfl
theorem qF{x x' y y':Nat}(h:o4 x x')(k:o4 y y'):(Ieee.double.order x y==some .eq)=decide (x'=y'):=by
 rw[h.l,k.r,dv h.le k.le]
 rcases Nat.lt_trichotomy x' y' with c|c|c
 · rw[eM c,decide_eq_false (by omega)];rfl
 · rw[c,dN,decide_eq_true rfl];rfl
 · rw[eA c,decide_eq_false (by omega)];rfl
theorem nS{x:Nat}(h:ef x):dx x 9218868437227405311=decide (zf x=aJ):=by
  have hI:aJ=9218868437227405312:=rfl
  have h1:=(fA h).1
  rw[r9 (ft h) (jv (by omega)),decide_eq_decide];omega
theorem lX{x:Nat}(h:ef x):db x=false:=by
 unfold db
 have k:=ft h
 rw[k.l,k.r,dv k.le k.le,dN];rfl
open Go
theorem lK{P:Program}{f:Fr}{w:World}{dst:Option Tmp}{ty:TypeId}{pos:String}{after:Array Edge}{g:Option (Nat×Bool)}{t t':TypeId}{x y:Operand}{a b a' b':Nat}(hx:ev f x= .float .f64 a)(hy:ev f y= .float .f64 b)(ha:o4 a a')(hb:o4 b b'):(execOp (ev f) ⟨dst,.binOp .lss t x y t',ty,pos,after,g⟩).run P w= .ok (.value (.bool (decide (a'<b')))) w:=
 g0 hx hy (λw=>by rw[binOp_float_cmp_lss];show Sem.run P (pure (Value.bool (r4 a b))) w=_;rw[rh ha hb];rfl)
theorem kS{P:Program}{f:Fr}{w:World}{dst:Option Tmp}{ty:TypeId}{pos:String}{after:Array Edge}{g:Option (Nat×Bool)}{t t':TypeId}{x y:Operand}{a b:Nat}{q:Bool}(hx:ev f x= .float .f64 a)(hy:ev f y= .float .f64 b)(h:dd a b=q):(execOp (ev f) ⟨dst,.binOp .geq t x y t',ty,pos,after,g⟩).run P w= .ok (.value (.bool q)) w:=
 g0 hx hy (λw=>by rw[binOp_float_cmp_geq];show Sem.run P (pure (Value.bool (dd a b))) w=_;rw[h];rfl)
end TL
/-
  TlPq: a heap of places (how far, which node), as container/heap keeps it: what is taken is the least, and nothing else is lost.
  By an AI agent.
-/
set_option linter.all false
namespace TL
abbrev Pl:=Nat×Int
def cz(a b:Pl):Prop:=a.1<b.1\/a.1=b.1/\a.2<b.2
instance (a b:Pl):Decidable (cz a b):=by unfold cz;infer_instance
theorem dY(a:Pl):¬cz a a:=by unfold cz;omega
theorem dV{a b c:Pl}(h1:¬cz b a)(h2:¬cz c b):¬cz c a:=by unfold cz at*;omega
theorem hG{a b:Pl}(h:cz a b):¬cz b a:=by unfold cz at*;omega
theorem pL{a b:Pl}(h1:¬cz a b)(h2:¬cz b a):a=b:=by
 unfold cz at*
 exact Prod.ext (by omega) (by omega)
def cD(xs:List Pl)(i:Nat):Pl:=gI xs (i:Int)
theorem dw{xs:List Pl}{i:Nat}(h:i<xs.length):cD xs i=xs[i]:=by unfold cD gI;simp[h]
def k9(xs:List Pl)(i j:Nat):List Pl:=(xs.set i (cD xs j)).set j (cD xs i)
theorem cC(xs:List Pl)(i j:Nat):(k9 xs i j).length=xs.length:=by unfold k9;rw[List.length_set,List.length_set]
theorem gw{xs:List Pl}{i j k:Nat}(hi:i<xs.length)(hj:j<xs.length)(hk:k<xs.length):cD (k9 xs i j) k=if k=j then cD xs i else if k=i then cD xs j else cD xs k:=by
 rw[dw (by rw[cC];exact hk)]
 unfold k9
 rw[List.getElem_set]
 by_cases h1:j=k
 · rw[if_pos h1,if_pos h1.symm]
 · rw[if_neg h1,if_neg (λe=>h1 e.symm),List.getElem_set]
   by_cases h2:i=k
   · rw[if_pos h2,if_pos h2.symm]
   · rw[if_neg h2,if_neg (λe=>h2 e.symm),dw hk]
theorem dS{xs:List Pl}{i j:Nat}(hi:i<xs.length)(hj:j<xs.length):(k9 xs i j).Perm xs:=by
 unfold k9
 rw[dw hi,dw hj]
 exact List.set_set_perm hi hj
def im(xs:List Pl)(i n:Nat):Nat:=if 2*i+1+1<n/\cz (cD xs (2*i+1+1)) (cD xs (2*i+1)) then 2*i+1+1 else 2*i+1
def dn:Nat->List Pl->Nat->Nat->List Pl
 |0,xs,_,_=>xs
 |k+1,xs,i,n=>if n<=2*i+1 then xs else if cz (cD xs (im xs i n)) (cD xs i) then dn k (k9 xs i (im xs i n)) (im xs i n) n else xs
def up:Nat->List Pl->Nat->List Pl
 |0,xs,_=>xs
 |k+1,xs,j=>if(j-1)/2=j\/¬cz (cD xs j) (cD xs ((j-1)/2)) then xs else up k (k9 xs ((j-1)/2) j) ((j-1)/2)
def fl(xs:List Pl)(n:Nat):Prop:=∀k,1<=k->k<n->¬cz (cD xs k) (cD xs ((k-1)/2))
theorem nh{xs:List Pl}{n:Nat}(h:fl xs n):∀k,k<n->¬cz (cD xs k) (cD xs 0):=by
 intro k
 induction k using Nat.strongRecOn with
 |ind k ih=>
   intro hk
   by_cases h0:k=0
   · subst h0;exact dY _
   · exact dV (ih ((k-1)/2) (by omega) (by omega)) (h k (by omega) hk)
structure rc(xs:List Pl)(i n:Nat):Prop where
  len:n<=xs.length
  ok:∀k,1<=k->k<n->(k-1)/2≠i->¬cz (cD xs k) (cD xs ((k-1)/2))
  gr:1<=i->∀k,1<=k->k<n->(k-1)/2=i->¬cz (cD xs k) (cD xs ((i-1)/2))
theorem j6{xs:List Pl}{i n:Nat}(h:¬n<=2*i+1):im xs i n<n/\(im xs i n-1)/2=i/\i<im xs i n/\∀k,k<n->(k-1)/2=i->1<=k->¬cz (cD xs k) (cD xs (im xs i n)):=by
 unfold im
 split
 · rename_i c
   refine⟨by omega,by omega,by omega,λk hk hp h1=>?_⟩
   have:k=2*i+1\/k=2*i+1+1:=by omega
   rcases this with rfl|rfl
   · exact hG c.2
   · exact dY _
 · rename_i c
   refine⟨by omega,by omega,by omega,λk hk hp h1=>?_⟩
   have:k=2*i+1\/k=2*i+1+1:=by omega
   rcases this with rfl|rfl
   · exact dY _
   · exact λe=>c ⟨hk,e⟩
theorem rc.next{xs:List Pl}{i n:Nat}(h:rc xs i n)(hn:¬n<=2*i+1)(hl:cz (cD xs (im xs i n)) (cD xs i)):rc (k9 xs i (im xs i n)) (im xs i n) n:=by
 obtain⟨c1,c2,c3,c4⟩:=j6 (xs:=xs) hn
 have hlen:=h.len
 generalize im xs i n=c at c1 c2 c3 c4 hl ⊢
 have A:∀k,k<n->cD (k9 xs i c) k=if k=c then cD xs i else if k=i then cD xs c else cD xs k:=λk hk=>gw (by omega) (by omega) (by omega)
 refine⟨by rw[cC];exact hlen,λk h1 h2 h3=>?_,λ_ k h1 h2 h3=>?_⟩
 · rw[A k h2,A ((k-1)/2) (by omega)]
   rw[if_neg (show¬(k-1)/2=c from h3)]
   by_cases hk:k=c
   · subst hk;rw[if_pos rfl,if_pos c2];exact hG hl
   · rw[if_neg hk]
     by_cases hi:k=i
     · subst hi
       rw[if_pos rfl,if_neg (by omega)]
       exact h.gr h1 c (by omega) c1 c2
     · rw[if_neg hi]
       by_cases hp:(k-1)/2=i
       · rw[if_pos hp];exact c4 k h2 hp h1
       · rw[if_neg hp];exact h.ok k h1 h2 hp
 · rw[A k h2,A ((c-1)/2) (by omega),if_neg (by omega),if_neg (by omega),if_neg (by omega),if_pos c2]
   have:=h.ok k h1 h2 (by omega)
   rw[h3] at this
   exact this
theorem rc.fin{xs:List Pl}{i n:Nat}(h:rc xs i n)(hf:n<=2*i+1\/¬cz (cD xs (im xs i n)) (cD xs i)):fl xs n:=by
 intro k h1 h2
 by_cases hp:(k-1)/2=i
 · by_cases hn:n<=2*i+1
   · omega
   · obtain⟨c1,c2,c3,c4⟩:=j6 (xs:=xs) hn
     rw[hp]
     exact dV (hf.resolve_left hn) (c4 k h2 hp h1)
 · exact h.ok k h1 h2 hp
theorem lR:∀(f:Nat) (xs:List Pl) (i n:Nat),rc xs i n->n<=f+i->fl (dn f xs i n) n/\(dn f xs i n).length=xs.length/\(dn f xs i n).Perm xs/\∀k,n<=k->k<xs.length->cD (dn f xs i n) k=cD xs k
 |0,xs,i,n,h,hf=>⟨h.fin (.inl (by omega)),rfl,List.Perm.refl _,λ_ _ _=>rfl⟩
 |f+1,xs,i,n,h,hf=>by
   unfold dn
   by_cases hn:n<=2*i+1
   · rw[if_pos hn];exact⟨h.fin (.inl hn),rfl,List.Perm.refl _,λ_ _ _=>rfl⟩
   · rw[if_neg hn]
     by_cases hl:cz (cD xs (im xs i n)) (cD xs i)
     · rw[if_pos hl]
       obtain⟨c1,c2,c3,c4⟩:=j6 (xs:=xs) hn
       have hlen:=h.len
       obtain⟨k1,k2,k3,k4⟩:=lR f _ _ n (h.next hn hl) (by omega)
       refine⟨k1,by rw[k2,cC],k3.trans (dS (by omega) (by omega)),λk h1 h2=>?_⟩
       rw[k4 k h1 (by rw[cC];exact h2),gw (by omega) (by omega) h2,if_neg (by omega),if_neg (by omega)]
     · rw[if_neg hl];exact⟨h.fin (.inr hl),rfl,List.Perm.refl _,λ_ _ _=>rfl⟩
structure s4(xs:List Pl)(j:Nat):Prop where
  len:j<xs.length
  ok:∀k,1<=k->k<xs.length->k≠j->¬cz (cD xs k) (cD xs ((k-1)/2))
  gr:1<=j->∀k,1<=k->k<xs.length->(k-1)/2=j->¬cz (cD xs k) (cD xs ((j-1)/2))
theorem lL:∀(f:Nat) (xs:List Pl) (j:Nat),s4 xs j->j<=f->fl (up f xs j) xs.length/\(up f xs j).length=xs.length/\(up f xs j).Perm xs
 |0,xs,j,h,hf=>⟨λk h1 h2=>h.ok k h1 h2 (by omega),rfl,List.Perm.refl _⟩
 |f+1,xs,j,h,hf=>by
   have hlen:=h.len
   unfold up
   by_cases hc:(j-1)/2=j\/¬cz (cD xs j) (cD xs ((j-1)/2))
   · rw[if_pos hc]
     refine⟨λk h1 h2=>?_,rfl,List.Perm.refl _⟩
     by_cases e:k=j
     · subst e;rcases hc with hc|hc
       · omega
       · exact hc
     · exact h.ok k h1 h2 e
   · rw[if_neg hc]
     obtain⟨c1,c2⟩:=not_or.1 hc
     have hl:=Classical.not_not.1 c2
     have hj:1<=j:=by omega
     have A:∀k,k<xs.length->cD (k9 xs ((j-1)/2) j) k=if k=j then cD xs ((j-1)/2) else if k=(j-1)/2 then cD xs j else cD xs k:=λk hk=>gw (by omega) (by omega) (by omega)
     have il:s4 (k9 xs ((j-1)/2) j) ((j-1)/2):=by
       refine⟨by rw[cC];omega,λk h1 h2 h3=>?_,λhi k h1 h2 h3=>?_⟩
       · rw[cC] at h2
         rw[A k h2,A ((k-1)/2) (by omega)]
         by_cases e:k=j
         · subst e
           rw[if_pos rfl,if_neg (by omega),if_pos rfl];exact hG hl
         · rw[if_neg e,if_neg h3]
           by_cases p1:(k-1)/2=j
           · rw[if_pos p1];exact h.gr hj k h1 h2 p1
           · rw[if_neg p1]
             by_cases p2:(k-1)/2=(j-1)/2
             · rw[if_pos p2]
               have:=h.ok k h1 h2 e
               rw[p2] at this
               exact dV (hG hl) this
             · rw[if_neg p2];exact h.ok k h1 h2 e
       · rw[cC] at h2
         have hpj:((j-1)/2-1)/2<xs.length:=by omega
         rw[A k h2,A _ hpj,if_neg (show¬((j-1)/2-1)/2=j by omega),if_neg (show¬((j-1)/2-1)/2=(j-1)/2 by omega)]
         have hq:=h.ok ((j-1)/2) (by omega) (by omega) (by omega)
         by_cases e:k=j
         · rw[if_pos e];exact hq
         · rw[if_neg e,if_neg (by omega)]
           have:=h.ok k h1 h2 e
           rw[h3] at this
           exact dV hq this
     obtain⟨k1,k2,k3⟩:=lL f _ _ il (by omega)
     rw[cC] at k1 k2
     exact⟨k1,k2,k3.trans (dS (by omega) (by omega))⟩
def ir(xs:List Pl)(x:Pl):List Pl:=up xs.length (xs++[x]) xs.length
theorem nQ{xs:List Pl}{x:Pl}{k:Nat}(h:k<xs.length):cD (xs++[x]) k=cD xs k:=by
 rw[dw (by rw[List.length_append];exact Nat.lt_of_lt_of_le h (Nat.le_add_right _ _)),dw h,List.getElem_append_left h]
theorem m6{xs:List Pl}(x:Pl)(h:fl xs xs.length):fl (ir xs x) (xs.length+1)/\(ir xs x).length=xs.length+1/\(ir xs x).Perm (x::xs):=by
 have hl:(xs++[x]).length=xs.length+1:=by rw[List.length_append];rfl
 have hu:s4 (xs++[x]) xs.length:=by
   refine⟨by omega,λk h1 h2 h3=>?_,λ_ k h1 h2 h3=>by omega⟩
   rw[nQ (by omega),nQ (by omega)]
   exact h k h1 (by omega)
 obtain⟨k1,k2,k3⟩:=lL xs.length _ _ hu (Nat.le_refl _)
 rw[hl] at k1 k2
 exact⟨k1,k2,k3.trans (List.perm_append_comm (l₁:=xs) (l₂:=[x]))⟩
def cZ(xs:List Pl):List Pl:=dn (xs.length-1) (k9 xs 0 (xs.length-1)) 0 (xs.length-1)
theorem gQ{xs:List Pl}(h:fl xs xs.length)(h0:0<xs.length):fl ((cZ xs).take (xs.length-1)) (xs.length-1)/\(cZ xs).length=xs.length/\cD (cZ xs) (xs.length-1)=cD xs 0/\xs.Perm (cD xs 0::(cZ xs).take (xs.length-1)):=by
 have hd:rc (k9 xs 0 (xs.length-1)) 0 (xs.length-1):=by
   refine⟨by rw[cC];omega,λk h1 h2 h3=>?_,λh1=>by omega⟩
   rw[gw (by omega) (by omega) (by omega),gw (by omega) (by omega) (by omega),if_neg (by omega),if_neg (by omega),if_neg (by omega),if_neg h3]
   exact h k h1 (by omega)
 obtain⟨k1,k2,k3,k4⟩:=lR (xs.length-1) _ _ _ hd (by omega)
 rw[cC] at k2 k4
 have e1:cD (cZ xs) (xs.length-1)=cD xs 0:=by
   unfold cZ
   rw[k4 (xs.length-1) (Nat.le_refl _) (by omega),gw (by omega) (by omega) (by omega),if_pos rfl]
 have hpl:(cZ xs).length=xs.length:=k2
 have hat:∀k,k<xs.length-1->cD ((cZ xs).take (xs.length-1)) k=cD (cZ xs) k:=by
   intro k hk
   rw[dw (by rw[List.length_take];omega),dw (by omega),List.getElem_take]
 refine⟨λk h1 h2=>?_,hpl,e1,?_⟩
 · rw[hat k h2,hat _ (by omega)];exact k1 k h1 h2
 · have p1:(cZ xs).Perm xs:=k3.trans (dS (by omega) (by omega))
   have e2:cZ xs=(cZ xs).take (xs.length-1)++[cD xs 0]:=by
     rw[<-e1,dw (by omega)]
     have:=List.take_append_getElem (i:=xs.length-1) (show xs.length-1<(cZ xs).length by omega)
     rw[this,List.take_of_length_le (by omega)]
   have p2:((cZ xs).take (xs.length-1)++[cD xs 0]).Perm (cD xs 0::(cZ xs).take (xs.length-1)):=List.perm_append_comm
   rw[<-e2] at p2
   exact p1.symm.trans p2
end TL
namespace TL
theorem qZ{a b:Pl}(h:¬a.1=b.1):decide (a.1<b.1)=decide (cz a b):=by rw[decide_eq_decide];unfold cz;omega
theorem qN{a b:Pl}(h:a.1=b.1):decide (a.2<b.2)=decide (cz a b):=by rw[decide_eq_decide];unfold cz;omega
end TL
/-
  TlWay: ways of the least weight (package path): what From tells, as the document does it (the nearest node that is not settled, again and again), and that a heap of waiting nodes finds the same.
  By an AI agent.
-/
set_option linter.all false
namespace TL
abbrev FS:=List Nat×List Int
def ci(g:b6)(ws:List Nat):Int:=if bU g/\ws.length=g.2.length then(if∀x∈ws,ef x then 0 else 13) else 1
def c5(g:b6)(ws:List Nat)(d:Nat)(s:FS)(h:Int):FS:=
 if zf (gI ws (h/2))=aJ then s else if aT d (zf (gI ws (h/2)))<gI s.1 (dc g h) then(s.1.set (dc g h).toNat (aT d (zf (gI ws (h/2)))),s.2.set (dc g h).toNat h) else s
def d5(g:b6)(ws:List Nat)(d:Nat)(hs:List Int)(s:FS):FS:=hs.foldl (c5 g ws d) s
def bc(far:List Nat)(se:List Bool):Nat->Int
 |0=> -1
 |k+1=>if gI se (k:Int)=false/\gI far (k:Int)<aJ/\(bc far se k<0\/gI far (k:Int)<gI far (bc far se k)) then(k:Int) else bc far se k
def gx(g:b6)(ws:List Nat):Nat->FS->List Bool->FS
 |0,s,_=>s
 |f+1,s,se=>if bc s.1 se g.1.toNat<0 then s else gx g ws f (d5 g ws (gI s.1 (bc s.1 se g.1.toNat)) (gI (ab g) (bc s.1 se g.1.toNat)) s) (se.set (bc s.1 se g.1.toNat).toNat true)
def cq(n:Nat)(s:Int):FS:=((List.replicate n aJ).set s.toNat 0,List.replicate n (-1))
def fa(g:b6)(ws:List Nat)(s:Int):FS:=gx g ws g.1.toNat (cq g.1.toNat s) (List.replicate g.1.toNat false)
def aj(g:b6)(ws:List Nat)(s:Int):FS×Int:=if ci g ws=0 then(if 0<=s/\s<g.1 then(fa g ws s,0) else(([],[]),2)) else(([],[]),ci g ws)
theorem mb{g:b6}{ws:List Nat}(h:ci g ws=0):bU g/\ws.length=g.2.length/\∀x∈ws,ef x:=by
 unfold ci at h
 by_cases c:bU g/\ws.length=g.2.length
 · rw[if_pos c] at h
   by_cases d:∀x∈ws,ef x
   · exact⟨c.1,c.2,d⟩
   · rw[if_neg d] at h;exact absurd h (by decide)
 · rw[if_neg c] at h;exact absurd h (by decide)
theorem gj{g:b6}{ws:List Nat}{s:Int}(h:¬ci g ws=0):aj g ws s=(([],[]),ci g ws):=by unfold aj;rw[if_neg h]
theorem dM{g:b6}{ws:List Nat}{s:Int}(h:ci g ws=0)(h2:¬(0<=s/\s<g.1)):aj g ws s=(([],[]),2):=by unfold aj;rw[if_pos h,if_neg h2]
theorem gp{g:b6}{ws:List Nat}{s:Int}(h:ci g ws=0)(h2:0<=s/\s<g.1):aj g ws s=(fa g ws s,0):=by unfold aj;rw[if_pos h,if_pos h2]
-- what is picked
theorem fO(far:List Nat)(se:List Bool):∀k,bc far se k<k
 |0=>by unfold bc;omega
 |k+1=>by
   have:=fO far se k
   unfold bc;split<;>omega
theorem kM(far:List Nat)(se:List Bool):∀k,-1<=bc far se k
 |0=>by unfold bc;omega
 |k+1=>by
   have:=kM far se k
   unfold bc;split<;>omega
def dI(far:List Nat)(se:List Bool)(v:Int):Prop:=gI se v=false/\gI far v<aJ
theorem iq{far:List Nat}{se:List Bool}:∀{k:Nat},(∀v:Nat,v<k->¬dI far se v)->bc far se k= -1
 |0,_=>rfl
 |k+1,h=>by
   have i:=iq (k:=k) (λv hv=>h v (by omega))
   unfold bc
   rw[if_neg,i]
   intro c
   exact h k (by omega) ⟨c.1,c.2.1⟩
theorem lW{far:List Nat}{se:List Bool}{u:Nat}(hu:dI far se u):∀{k:Nat},u<k->(∀v:Nat,v<k->dI far se v->¬cz (gI far v,(v:Int)) (gI far u,(u:Int)))->bc far se k=u
  |0,h,_=>by omega
  |k+1,h,hm=>by
    unfold bc
    by_cases e:u=k
    · subst e
      rw[if_pos]
      refine⟨hu.1,hu.2,?_⟩
      by_cases c:bc far se u<0
      · exact .inl c
      · right
        -- what was picked ahead of it waits and is farther
        have aux:∀k,¬bc far se k<0->dI far se (bc far se k):=by
          intro k
          induction k with
          |zero=>intro c;unfold bc at c;omega
          |succ k ih=>
            intro c
            unfold bc at c ⊢
            split
            · rename_i d;exact⟨d.1,d.2.1⟩
            · rename_i d;rw[if_neg d] at c;exact ih c
        have h1:=aux u c
        have h2:=fO far se u
        obtain⟨v,hv⟩:∃v:Nat,bc far se u=v:=⟨(bc far se u).toNat,by omega⟩
        rw[hv] at h1 h2 ⊢
        have:=hm v (by omega) h1
        unfold cz at this
        simp only at this
        omega
    · have i:=lW hu (k:=k) (by omega) (λv hv=>hm v (by omega))
      rw[i,if_neg]
      intro c
      have:=hm k (by omega) ⟨c.1,c.2.1⟩
      have c3:=c.2.2
      unfold cz at this
      simp only at this
      omega
-- once all are settled no more rounds matter
def dz(se:List Bool):Nat:=se.count false
theorem fS{se:List Bool}{u:Nat}(hu:u<se.length)(h:gI se (u:Int)=false):dz (se.set u true)+1=dz se:=by
 have e:se[u]=false:=by
   have:gI se (u:Int)=se[u]:=by simp[gI,hu]
   rw[<-this];exact h
 unfold dz
 have hp:0<se.count false:=List.count_pos_iff.2 (e▸List.getElem_mem hu)
 rw[List.count_set hu,e]
 simp
 omega
end TL
namespace TL
theorem jO{x:Nat}(h:x<=aJ):bQ x=x:=by unfold bQ;rw[pq h];rfl
theorem np{g:b6}{ws:List Nat}(h:¬decide (bU g)=true):ci g ws=1:=by unfold ci;rw[if_neg];exact λc=>h (decide_eq_true c.1)
theorem nX{g:b6}{ws:List Nat}(h:¬(ws.length:Int)=(g.2.length:Int)):ci g ws=1:=by unfold ci;rw[if_neg];exact λc=>h (by rw[c.2])
theorem mH{g:b6}{ws:List Nat}{k:Int}(hm:decide (bU g)=true)(hl:(ws.length:Int)=(g.2.length:Int))(hk:0<=k/\k<ws.length)(h:¬dd (gI ws k) 0=true):ci g ws=13:=by
 unfold ci
 rw[if_pos ⟨of_decide_eq_true hm,by omega⟩,if_neg]
 exact λc=>h (c _ (bu hk.1 hk.2))
theorem kC{ws:List Nat}{k:Nat}(h:∀i:Nat,i<k->ef (gI ws (i:Int)))(hk:dd (gI ws (k:Int)) 0=true):∀i:Nat,i<k+1->ef (gI ws (i:Int)):=by
 intro i hi
 by_cases e:i=k
 · subst e;exact hk
 · exact h i (by omega)
theorem nG{g:b6}{ws:List Nat}{k:Nat}(hm:decide (bU g)=true)(hl:(ws.length:Int)=(g.2.length:Int))(h:∀i:Nat,i<k->ef (gI ws (i:Int)))(hk:¬(k:Int)<ws.length):ci g ws=0:=by
 unfold ci
 rw[if_pos ⟨of_decide_eq_true hm,by omega⟩,if_pos]
 intro x hx
 obtain⟨i,hi,e⟩:=List.mem_iff_getElem.1 hx
 have:=h i (by omega)
 simp only[gI,Int.toNat_natCast,List.getD_eq_getElem?_getD,List.getElem?_eq_getElem hi,Option.getD_some] at this
 rw[<-e];exact this
end TL
/-
  TlDfs: components found by a stack: the document's way.
  By an AI agent.
-/
set_option linter.all false
namespace TL
theorem gW{g:b6}{v:Int}(h0:0<=v)(h1:v<g.1):gI (ab g) v=jQ g v:=by
 unfold ab gI
 have:v.toNat<g.1.toNat:=by omega
 simp[List.getD_eq_getElem?_getD,this]
 congr 1
 omega
theorem iA(g:b6)(h:0<=g.1):((ab g).length:Int)=g.1:=by simp[ab];omega
section
variable{g:b6}{c0 c todo x:List Int}{n s:Int}
variable{v:Int}{k M:Nat}
end
end TL
