/- Plain texts of this claim, part 1. By an AI agent. -/
import Derived.Test.YtfpckpgnnplhnaaGreatSkTlP0
import Derived.Laws.Externs
import Derived.Laws.FloatArith
import Derived.Laws.FloatBits
import Derived.Laws.NewFold
import Derived.Laws.StructEq
import Derived.OrdersHeld
import Derived.Shelf.SlSortCmp.WholeK
set_option linter.all false
namespace TL
open Go
def c9(n:Nat)(done:List Nat):Array Bool:=((List.range n).map λi=>decide (i∈done)).toArray
theorem dM(n:Nat)(done:List Nat)(j:Nat)(d:Bool):(c9 n done).getD j d=if j<n then decide (j∈done) else d:=by
 unfold c9
 by_cases h:j<n
 · simp[h]
 · simp[h]
theorem cY{n i:Nat}(done:List Nat)(hi:i<n):(c9 n done).setIfInBounds i true=c9 n (i::done):=by
 apply Array.ext
 · simp[c9]
 · intro j h1 h2
   have hj:j<n:=by simpa[c9] using h2
   simp only[c9]
   by_cases hij:i=j
   · subst hij;simp
   · have:¬j=i:=λh=>hij h.symm
     simp[Array.getElem_setIfInBounds,hij,this]
section
variable{P:Program}{ops:Array Oper}{Q:Exit->Act->World->Prop}{md:Region.Mode}{qs:Nat->Bool}
def n7(P:Program)(md:Region.Mode)(ops:Array Oper)(qs:Nat->Bool)(Q:Exit->Act->World->Prop):Nat->Array Bool->Act->World->Prop
  |0,listed,a,w=>Region.ready md ops listed=[]/\Q .normal a w
  |fuel+1,listed,a,w=>(Region.ready md ops listed=[]->Q .normal a w)/\
    ∀i∈Region.ready md ops listed,if qs i then stOp P ops w i (λa'=>n7 P md ops qs Q fuel (listed.setIfInBounds i true) a' w) a
      else wpOp P ops Q i (n7 P md ops qs Q fuel (listed.setIfInBounds i true)) a w
theorem gO:∀(fuel:Nat) (listed:Array Bool) (a:Act) (w:World),n7 P md ops qs Q fuel listed a w->wpAny P md ops Q fuel listed a w
 |0,_,_,_,h=>h
 |fuel+1,listed,a,w,h=>by
   refine⟨h.1,λi hi=>?_⟩
   have h2:=h.2 i hi
   cases hq:qs i with
   |true=>
     simp only[hq,if_true] at h2
     exact wpOp_of_stOp (λa' h'=>gO fuel _ a' w h') h2
   |false=>
     simp only[hq,Bool.false_eq_true,if_false] at h2
     exact wpOp_mono (λa' w' h'=>gO fuel _ a' w' h') h2
theorem rx{i:Nat}{oi:Oper}{v:Value}{w:World}{M D:Array Bool}(hi:ops[i]? =some oi)(hsel:∀(j:Nat) (o:Oper) cs b,ops[j]? =some o->o.op≠ .select cs b)(hqi:qs i=true)
    (hM:∀j oj,ops[j]? =some oj->M.getD j false=false->j≠i->∃e∈oj.after,Region.binds md e=true/\M.getD e.on false=false)
    (hMq:∀j oj,ops[j]? =some oj->M.getD j false=true->D.getD j true=false->j≠i->qs j=true):
    ∀(fuel:Nat) (listed:Array Bool) (a:Act),listed.size=ops.size->(∀j,listed.getD j false=true->M.getD j false=true)->(∀j,listed.getD j true=false->D.getD j true=false)->
      (∀j oj,ops[j]? =some oj->j≠i->listed.getD j true=false->(∀e∈oj.after,Region.binds md e=true->e.on≠i)->oi.apart ops oj=true)->
      i∈Region.ready md ops listed->YieldsAt P ops w oi v a->
      n7 P md ops qs Q fuel (listed.setIfInBounds i true) (a.put oi.dst v) w->n7 P md ops qs Q (fuel+1) listed a w:=by
  intro fuel
  induction fuel with
  |zero=>
    intro listed a _ _ _ _ hr hy H
    refine⟨λh=>(by rw[h] at hr;cases hr),λj hj=>?_⟩
    by_cases hji:j=i
    · subst hji;rw[if_pos hqi];exact hy.stOp hi H
    · have:=ready_mono hj hji
      rw[H.1] at this
      cases this
  |succ fuel ih=>
    intro listed a hsz hsub hD hfree hr hy H
    refine⟨λh=>(by rw[h] at hr;cases hr),λj hj=>?_⟩
    by_cases hji:j=i
    · subst hji;rw[if_pos hqi];exact hy.stOp hi H
    · obtain⟨hjun,oj,hoj,hall⟩:=mem_ready.1 hj
      have hMj:M.getD j false=true:=by
        cases hm:M.getD j false with
        |true=>rfl
        |false=>
          obtain⟨e,he,hb,hn⟩:=hM j oj hoj hm hji
          have:=hsub _ (hall e he hb)
          rw[hn] at this;cases this
      have hqj:=hMq j oj hoj hMj (hD j hjun) hji
      have h1:=H.2 j (ready_mono hj hji)
      rw[if_pos hqj] at h1 ⊢
      have hnot:∀e∈oj.after,Region.binds md e=true->e.on≠i:=λe he hb heq=>by
        have h1:=hall e he hb
        have h0:=(mem_ready.1 hr).1
        rw[heq] at h1
        rw[getD_both h0] at h1
        cases h1
      have h2:=stOp_put hoj (hfree j oj hoj hji hjun hnot) (λcs b=>hsel i oi cs b hi) (λcs b=>hsel j oj cs b hoj) hy h1
      have hfree':∀k ok,ops[k]? =some ok->k≠i->(listed.setIfInBounds j true).getD k true=false->
          (∀e∈ok.after,Region.binds md e=true->e.on≠i)->oi.apart ops ok=true:=λk ok hk hki hun hno=>by
        refine hfree k ok hk hki ?_ hno
        by_cases hjk:j=k
        · subst hjk;exact hjun
        · rw[getD_set_ne true hjk] at hun;exact hun
      have hsub':∀k,(listed.setIfInBounds j true).getD k false=true->M.getD k false=true:=λk hk=>by
        by_cases hjk:j=k
        · subst hjk;exact hMj
        · rw[getD_set_ne false hjk] at hk;exact hsub k hk
      have hD':∀k,(listed.setIfInBounds j true).getD k true=false->D.getD k true=false:=λk hk=>by
        by_cases hjk:j=k
        · subst hjk;exact hD j hjun
        · rw[getD_set_ne true hjk] at hk;exact hD k hk
      refine stOp_mono (λa' h3=>ih (listed.setIfInBounds j true) a' (by simpa using hsz) hsub' hD' hfree' (ready_mono hr (Ne.symm hji)) h3.1 ?_) h2
      rw[Array.setIfInBounds_comm _ _ hji]
      exact h3.2
def aM{α:Type}(s:Sem α):Prop:=∀(P:Program) (w:World) (x:α) (w':World),s.run P w= .ok x w'->eJ w.heap.size w w'
theorem aM.bind{α β:Type}{s:Sem α}{f:α->Sem β}(h:aM s)(hf:∀a,aM (f a)):aM (s>>=f):=by
 intro P w x w' hr
 rw[Sem.run_bind] at hr
 cases h1:s.run P w with
 |halt e w1=>rw[h1] at hr;cases hr
 |ok a w1=>
   rw[h1] at hr
   have k1:=h P w a w1 h1
   have k2:=hf a P w1 x w' hr
   exact k1.trans (k2.mono k1.size)
theorem aM.pure{α:Type}(a:α):aM (Pure.pure a:Sem α):=λP w x w' h=>by
 simp only[Sem.run_pure] at h
 cases h;exact eJ.refl _ _
theorem aM.halt{α:Type}(e:Halt):aM (Sem.halt e:Sem α):=λP w x w' h=>by cases h
theorem aM.stuck{α:Type}(e:String):aM (Go.stuck e:Sem α):=aM.halt _
theorem aM.unsupported{α:Type}(e:Unsupported):aM (Go.unsupported e:Sem α):=aM.halt _
theorem aM.program:aM Go.program:=λP w x w' h=>by
 simp only[run_program] at h
 cases h;exact eJ.refl _ _
theorem aM.new(o:Obj):aM (newObj o):=λP w x w' h=>by
 simp only[run_newObj] at h
 cases h
 exact(eJ.refl _ w).alloc (Nat.le_refl _) o
theorem aM.typeInfo(t:TypeId):aM (Go.typeInfo t):=aM.bind aM.program λp=>by
 cases p.info? t with
 |some i=>exact aM.pure i
 |none=>exact aM.stuck _
theorem aM.underlying(t:TypeId):aM (Go.underlying t):=aM.bind aM.program λp=>by
 cases p.underlying t with
 |some i=>exact aM.pure i
 |none=>exact aM.stuck _
theorem aM.sizeOf(t:TypeId):aM (Go.sizeOf t):=aM.bind (aM.typeInfo t) λi=>aM.pure _
theorem aM.zeroValue(t:TypeId):aM (Go.zeroValue t):=aM.bind (aM.typeInfo t) λi=>by
 cases i.zero with
 |some v=>exact aM.pure v
 |none=>exact aM.unsupported _
theorem aM.newVar(t:TypeId)(v:Value):aM (Go.newVar t v):=aM.bind (aM.new _) λ_=>aM.pure _
theorem kY(t:TypeId)(len:Nat)(parts:Array (Nat×Value)):aM (Instr.buildSlice t len parts):=by
 unfold Instr.buildSlice
 refine aM.bind (aM.underlying t) λd=>?_
 split
 · refine aM.bind (aM.sizeOf _) λsize=>?_
   have tail:∀(elem:TypeId) (zero:Array Value),aM (match Instr.fill (λi=>some (i*size,size)) ((Array.range (len*size)).map (zero[· %zero.size]!)) parts.toList with
       |some cells=>(do pure (Value.slice (some (<-newRow elem cells)) len len):Sem Value)
       |_=>Go.stuck "buildSlice: a part of the wrong size"):=λelem zero=>by
     split
     · exact aM.bind (aM.bind (aM.new _) λ_=>aM.pure _) λ_=>aM.pure _
     · exact aM.stuck _
   by_cases h1:len*size>2^24
   · simp only[h1,if_true]
     refine aM.bind (aM.unsupported _) λx=>?_
     by_cases h2:len*size=0
     · rw[if_pos h2]
       exact aM.bind (aM.pure _) λzero=>tail _ zero
     · simp only[h2,if_false]
       exact aM.bind (aM.zeroValue _) λ_=>aM.bind (aM.pure _) λzero=>tail _ zero
   · simp only[h1,if_false]
     by_cases h2:len*size=0
     · rw[if_pos h2]
       exact aM.bind (aM.pure _) λzero=>tail _ zero
     · simp only[h2,if_false]
       exact aM.bind (aM.zeroValue _) λ_=>aM.bind (aM.pure _) λzero=>tail _ zero
 · exact aM.stuck _
theorem uJ{P:Program}{w w':World}{s:Sem Value}{nx:Next}(h:(do pure (Next.value (<-s)):Sem Next).run P w= .ok nx w'):∃u,nx= .value u:=by
 rw[Sem.run_bind] at h
 cases hs:s.run P w with
 |ok a w1=>rw[hs] at h;cases h;exact⟨a,rfl⟩
 |halt e w1=>rw[hs] at h;cases h
theorem aM.load(a:Addr)(m:Mode):aM (Go.load a m):=λP w x w' h=>by
 simp only[Go.load,Sem.run] at h
 split at h
 · cases h;exact eJ.refl _ _
 · split at h
   · cases h;exact eJ.refl _ _
   · cases h
theorem aM.cells(a:Addr):∀(n i:Nat) (acc:Array Value),aM (loadCellsFrom a i n acc)
 |0,_,_=>aM.pure _
 |n+1,i,_=>aM.bind (aM.load _ _) λ_=>aM.cells a n (i+1) _
theorem aM.isAgg(t:TypeId):aM (Go.isAgg t):=aM.bind (aM.underlying t) λd=>by
 split<;>exact aM.pure _
theorem aM.error{α:Type}(m:String):aM (runtimePanic (.error m):Sem α):=aM.bind aM.program λp=>aM.halt _
theorem aM.asIntOf(v:Value):aM (Go.asIntOf v):=by
 unfold Go.asIntOf
 split
 · exact aM.pure _
 · exact aM.unsupported _
 · exact aM.stuck _
theorem aM.asInt(v:Value):aM (Go.asInt v):=aM.bind (aM.asIntOf v) λ_=>aM.pure _
theorem aM.choose(q:Question):aM (Go.choose q):=λP w x w' h=>by
 simp only[Go.choose,Sem.run] at h
 split at h
 · cases h;exact eJ.refl _ _
 · cases h;exact⟨rfl,rfl,rfl,Nat.le_refl _,λ_ _=>rfl,Nat.le_succ _⟩
theorem aM.room(n:Nat):aM (askRoom n):=λP w x w' h=>by
 unfold askRoom at h
 split at h
 · simp only[Go.mark,Sem.run] at h
   cases h;exact⟨rfl,rfl,rfl,Nat.le_refl _,λ_ _=>rfl,Nat.le_refl _⟩
 · cases h;exact eJ.refl _ _
theorem oD(t:TypeId)(a:Value):aM (Instr.loadAt t a):=by
 unfold Instr.loadAt
 refine aM.bind ?_ λb=>?_
 · unfold Instr.sureAddr
   split
   · exact aM.pure _
   · exact aM.stuck _
 · unfold loadVar
   refine aM.bind (aM.isAgg t) λc=>?_
   split
   · exact aM.bind (aM.sizeOf t) λn=>aM.bind (aM.cells _ _ _ _) λ_=>aM.pure _
   · exact aM.load _ _
theorem lC(t:TypeId)(a b:Value):aM (Instr.makeSlice t a b):=by
 unfold Instr.makeSlice
 refine aM.bind (aM.underlying t) λd=>?_
 split
 · refine aM.bind (aM.asInt _) λl=>aM.bind (aM.asInt _) λc=>aM.bind (aM.typeInfo _) λi=>?_
   have tail:∀(c:Int) (l:Int) (elem:TypeId),aM (do
       let n:=c.toNat*(<-sizeOf elem)
       let zero<-if n=0 then pure #[] else do pure (<-zeroValue elem).cells
       let a<-newRow elem ((Array.range n).map (zero[· %zero.size]!))
       pure (Value.slice (some a) l.toNat c.toNat)):=λc l elem=>by
     refine aM.bind (aM.sizeOf _) λn=>?_
     have last:∀zero:Array Value,aM (do
       let a<-newRow elem ((Array.range (c.toNat*n)).map (zero[· %zero.size]!))
       pure (Value.slice (some a) l.toNat c.toNat)):=λzero=>aM.bind (aM.bind (aM.new _) λ_=>aM.pure _) λ_=>aM.pure _
     by_cases h:c.toNat*n=0
     · simp only[h,if_true]
       have:=last #[]
       simp only[h] at this
       exact aM.bind (aM.pure _) λ_=>aM.bind (aM.bind (aM.new _) λ_=>aM.pure _) λ_=>aM.pure _
     · simp only[h,if_false]
       exact aM.bind (aM.zeroValue _) λ_=>aM.bind (aM.pure _) λz=>last z
   dsimp only
   repeat' (first
     |exact aM.error _
     |exact aM.choose _
     |exact aM.room _
     |exact tail _ _ _
     |exact aM.pure _
     |refine aM.bind ?_ λ_=>?_
     |split)
 · exact aM.stuck _
def j1:Op->Bool
 | .alloc _| .box .. | .buildSlice .. | .load .. | .makeSlice .. =>true
 |_=>false
theorem qR{ρ:Operand->Value}{o:Oper}(h:j1 o.op=true):aM (execOp ρ o):=by
 obtain⟨dst,op,ty,pos,after,g⟩:=o
 cases op<;>simp only[j1,Bool.false_eq_true] at h
 case alloc e=>exact aM.bind (aM.bind (aM.zeroValue _) λ_=>aM.bind (aM.newVar _ _) λ_=>aM.pure _) λ_=>aM.pure _
 case box e x=>exact aM.bind (aM.bind (aM.newVar _ _) λ_=>aM.pure _) λ_=>aM.pure _
 case buildSlice t n ps=>exact aM.bind (kY _ _ _) λ_=>aM.pure _
 case load t a=>exact aM.bind (oD _ _) λ_=>aM.pure _
 case makeSlice t a b=>exact aM.bind (lC _ _ _) λ_=>aM.pure _
theorem sS{i:Nat}{oi:Oper}{v:Value}{w0:World}{M D:Array Bool}(hi:ops[i]? =some oi)(hsel:∀(j:Nat) (o:Oper) cs b,ops[j]? =some o->o.op≠ .select cs b)(hqi:qs i=true)
    (hQ:∀c a w,Q (.panic c) (a.put oi.dst v) w->Q (.panic c) a w)
    (hM:∀j oj,ops[j]? =some oj->M.getD j false=false->j≠i->∃e∈oj.after,Region.binds md e=true/\M.getD e.on false=false)
    (hMq:∀j oj,ops[j]? =some oj->M.getD j false=true->D.getD j true=false->j≠i->qs j=true\/j1 oj.op=true):
    ∀(fuel:Nat) (listed:Array Bool) (a:Act) (w:World),eJ w0.heap.size w0 w->(∀j,listed.getD j false=true->M.getD j false=true)->(∀j,listed.getD j true=false->D.getD j true=false)->
      (∀j oj,ops[j]? =some oj->j≠i->listed.getD j true=false->(∀e∈oj.after,Region.binds md e=true->e.on≠i)->oi.apart ops oj=true)->
      i∈Region.ready md ops listed->(∀w,eJ w0.heap.size w0 w->YieldsAt P ops w oi v a)->
      n7 P md ops qs Q fuel (listed.setIfInBounds i true) (a.put oi.dst v) w->n7 P md ops qs Q (fuel+1) listed a w:=by
  intro fuel
  induction fuel with
  |zero=>
    intro listed a w hw _ _ _ hr hy H
    refine⟨λh=>(by rw[h] at hr;cases hr),λj hj=>?_⟩
    by_cases hji:j=i
    · subst hji;rw[if_pos hqi];exact(hy w hw).stOp hi H
    · have:=ready_mono hj hji
      rw[H.1] at this
      cases this
  |succ fuel ih=>
    intro listed a w hw hsub hD hfree hr hy H
    refine⟨λh=>(by rw[h] at hr;cases hr),λj hj=>?_⟩
    by_cases hji:j=i
    · subst hji;rw[if_pos hqi];exact(hy w hw).stOp hi H
    · obtain⟨hjun,oj,hoj,hall⟩:=mem_ready.1 hj
      have hMj:M.getD j false=true:=by
        cases hm:M.getD j false with
        |true=>rfl
        |false=>
          obtain⟨e,he,hb,hn⟩:=hM j oj hoj hm hji
          have:=hsub _ (hall e he hb)
          rw[hn] at this;cases this
      have hqj:=hMq j oj hoj hMj (hD j hjun) hji
      have h1:=H.2 j (ready_mono hj hji)
      have hnot:∀e∈oj.after,Region.binds md e=true->e.on≠i:=λe he hb heq=>by
        have h1:=hall e he hb
        have h0:=(mem_ready.1 hr).1
        rw[heq] at h1
        rw[getD_both h0] at h1
        cases h1
      have hap:=hfree j oj hoj hji hjun hnot
      have hfree':∀k ok,ops[k]? =some ok->k≠i->(listed.setIfInBounds j true).getD k true=false->
          (∀e∈ok.after,Region.binds md e=true->e.on≠i)->oi.apart ops ok=true:=λk ok hk hki hun hno=>by
        refine hfree k ok hk hki ?_ hno
        by_cases hjk:j=k
        · subst hjk;exact hjun
        · rw[getD_set_ne true hjk] at hun;exact hun
      have hsub':∀k,(listed.setIfInBounds j true).getD k false=true->M.getD k false=true:=λk hk=>by
        by_cases hjk:j=k
        · subst hjk;exact hMj
        · rw[getD_set_ne false hjk] at hk;exact hsub k hk
      have hD':∀k,(listed.setIfInBounds j true).getD k true=false->D.getD k true=false:=λk hk=>by
        by_cases hjk:j=k
        · subst hjk;exact hD j hjun
        · rw[getD_set_ne true hjk] at hk;exact hD k hk
      obtain⟨g1,g2,g3⟩:=Oper.apart_spec hap
      have keep:∀u w,eJ w0.heap.size w0 w->YieldsAt P ops w oi v (a.put oj.dst u):=λu w hw=>
        (hy w hw).of_same (execOp_put oi (λcs b=>hsel i oi cs b hi) a oj.dst u g3) (wanted_put oi a oj.dst u g3)
      cases hqj':qs j with
      |true=>
        simp only[hqj',if_true] at h1 ⊢
        obtain⟨u,hyu,hK⟩:=yieldsAt_of_stOp hoj h1
        have hyj:YieldsAt P ops w oj u a:=by
          rcases hyu with⟨k1,k2⟩|⟨k1,k2⟩
          · refine .inl ⟨by rw[<-wanted_put oj a oi.dst v g1];exact k1,?_⟩
            rw[execOp_put oj (λcs b=>hsel j oj cs b hoj) a oi.dst v g1] at k2
            exact k2
          · exact .inr ⟨by rw[<-wanted_put oj a oi.dst v g1];exact k1,k2⟩
        refine hyj.stOp hoj (ih (listed.setIfInBounds j true) (a.put oj.dst u) w hw hsub' hD' hfree' (ready_mono hr (Ne.symm hji)) (keep u) ?_)
        rw[<-Act.put_comm a v u g2,Array.setIfInBounds_comm _ _ hji]
        exact hK
      |false=>
        have hkk:=hqj.resolve_left (by rw[hqj'];simp)
        simp only[hqj',Bool.false_eq_true,if_false] at h1 ⊢
        unfold wpOp at h1 ⊢
        simp only[hoj] at h1 ⊢
        rw[wanted_put oj a oi.dst v g1] at h1
        cases hwt:Region.wanted oj (yielded ops a.tmps) with
        |false=>
          simp only[hwt,Bool.false_eq_true,if_false] at h1 ⊢
          refine ih (listed.setIfInBounds j true) (a.put oj.dst undef) w hw hsub' hD' hfree' (ready_mono hr (Ne.symm hji)) (keep undef) ?_
          rw[<-Act.put_comm a v undef g2,Array.setIfInBounds_comm _ _ hji]
          exact h1
        |true=>
          simp only[hwt,if_true] at h1 ⊢
          have hke:=qR (ρ:=a.eval) hkk P w
          rcases h1 with h1|⟨h1,h2⟩
          · left
            unfold Oper.wp at h1 ⊢
            rw[execOp_put oj (λcs b=>hsel j oj cs b hoj) a oi.dst v g1] at h1
            obtain⟨dst,op,ty,pos,after,gd⟩:=oj
            cases hrun:(execOp a.eval ⟨dst,op,ty,pos,after,gd⟩).run P w with
            |halt x w'=>
              rw[hrun] at h1
              cases x<;>simp only[Oper.upon] at h1 ⊢
              case panic u=>exact hQ _ _ _ h1
            |ok nx w'=>
              rw[hrun] at h1
              have hb:=hke nx w' hrun
              have hw':eJ w0.heap.size w0 w':=hw.trans (hb.mono hw.size)
              -- these operations yield values alone
              have hval:∃u,nx= .value u:=by
                cases op<;>simp only[j1,Bool.false_eq_true] at hkk
                all_goals exact uJ hrun
              obtain⟨u,rfl⟩:=hval
              simp only[Oper.upon] at h1 ⊢
              refine ih (listed.setIfInBounds j true) (a.put dst u) w' hw' hsub' hD' hfree' (ready_mono hr (Ne.symm hji)) (keep u) ?_
              have h3:=h1
              rw[show(a.put oi.dst v).put dst u=(a.put dst u).put oi.dst v from Act.put_comm a v u g2,Array.setIfInBounds_comm _ _ (Ne.symm hji)] at h3
              exact h3
          · right
            refine⟨?_,h2⟩
            unfold Oper.asks at*
            rw[execOp_put oj (λcs b=>hsel j oj cs b hoj) a oi.dst v g1] at h1
            exact h1
theorem nP{i:Nat}{oi:Oper}{v:Value}(hi:ops[i]? =some oi)(hsel:∀(j:Nat) (o:Oper) cs b,ops[j]? =some o->o.op≠ .select cs b)(hqi:qs i=true)
    (hQ:∀c a w,Q (.panic c) (a.put oi.dst v) w->Q (.panic c) a w):
    ∀(fuel:Nat) (listed:Array Bool) (a:Act) (w:World),
      (∀j oj,ops[j]? =some oj->j≠i->listed.getD j true=false->(∀e∈oj.after,Region.binds md e=true->e.on≠i)->oi.apart ops oj=true)->
      i∈Region.ready md ops listed->Yields P ops oi v a->
      n7 P md ops qs Q fuel (listed.setIfInBounds i true) (a.put oi.dst v) w->n7 P md ops qs Q (fuel+1) listed a w:=by
  have hat:∀{a:Act} {w:World},Yields P ops oi v a->YieldsAt P ops w oi v a:=λ {a w} hy=>by
    rcases hy with⟨h1,h2⟩|⟨h1,h2⟩
    · exact .inl ⟨h1,.inl (h2 w)⟩
    · exact .inr ⟨h1,h2⟩
  intro fuel
  induction fuel with
  |zero=>
    intro listed a w _ hr hy H
    refine⟨λh=>(by rw[h] at hr;cases hr),λj hj=>?_⟩
    by_cases hji:j=i
    · subst hji;rw[if_pos hqi];exact(hat hy).stOp hi H
    · have:=ready_mono hj hji
      rw[H.1] at this
      cases this
  |succ fuel ih=>
    intro listed a w hfree hr hy H
    refine⟨λh=>(by rw[h] at hr;cases hr),λj hj=>?_⟩
    by_cases hji:j=i
    · subst hji;rw[if_pos hqi];exact(hat hy).stOp hi H
    · obtain⟨hjun,oj,hoj,hall⟩:=mem_ready.1 hj
      have h1:=H.2 j (ready_mono hj hji)
      have hnot:∀e∈oj.after,Region.binds md e=true->e.on≠i:=λe he hb heq=>by
        have h1:=hall e he hb
        have h0:=(mem_ready.1 hr).1
        rw[heq] at h1
        rw[getD_both h0] at h1
        cases h1
      have hap:=hfree j oj hoj hji hjun hnot
      have hfree':∀k ok,ops[k]? =some ok->k≠i->(listed.setIfInBounds j true).getD k true=false->
          (∀e∈ok.after,Region.binds md e=true->e.on≠i)->oi.apart ops ok=true:=λk ok hk hki hun hno=>by
        refine hfree k ok hk hki ?_ hno
        by_cases hjk:j=k
        · subst hjk;exact hjun
        · rw[getD_set_ne true hjk] at hun;exact hun
      cases hqj:qs j with
      |true=>
        simp only[hqj,if_true] at h1 ⊢
        -- a step that leaves the world
        have hy':=hy
        obtain⟨g1,g2,g3⟩:=Oper.apart_spec hap
        have keep:∀(a:Act),Yields P ops oi v a->∀u,Yields P ops oi v (a.put oj.dst u):=λa hy u=>
          hy.of_same (execOp_put oi (λcs b=>hsel i oi cs b hi) a oj.dst u g3) (wanted_put oi a oj.dst u g3)
        obtain⟨u,hyu,hK⟩:=yieldsAt_of_stOp hoj h1
        have hyj:YieldsAt P ops w oj u a:=by
          rcases hyu with⟨k1,k2⟩|⟨k1,k2⟩
          · refine .inl ⟨by rw[<-wanted_put oj a oi.dst v g1];exact k1,?_⟩
            rw[execOp_put oj (λcs b=>hsel j oj cs b hoj) a oi.dst v g1] at k2
            exact k2
          · exact .inr ⟨by rw[<-wanted_put oj a oi.dst v g1];exact k1,k2⟩
        refine hyj.stOp hoj (ih (listed.setIfInBounds j true) (a.put oj.dst u) w hfree' (ready_mono hr (Ne.symm hji)) (keep a hy u) ?_)
        rw[<-Act.put_comm a v u g2,Array.setIfInBounds_comm _ _ hji]
        exact hK
      |false=>
        simp only[hqj,Bool.false_eq_true,if_false] at h1 ⊢
        have h2:=wpOp_put hoj hap (λcs b=>hsel i oi cs b hi) (λcs b=>hsel j oj cs b hoj) hQ hy h1
        refine wpOp_mono (λa' w' h3=>ih (listed.setIfInBounds j true) a' w' hfree' (ready_mono hr (Ne.symm hji)) h3.1 ?_) h2
        rw[Array.setIfInBounds_comm _ _ hji]
        exact h3.2
end
section
variable{P:Program}{n:Nat}{l:List Oper}{qs:List Nat}{K:Fr->World->Prop}{f:Fr}{w:World}{done:List Nat}{fuel:Nat}
def gP(P:Program)(n:Nat)(l:List Oper)(qs:List Nat)(K:Fr->World->Prop)(fuel:Nat)(done:List Nat)(f:Fr)(w:World):Prop:=
  ∀a,Ag n a f->n7 P .any l.toArray (λi=>decide (i∈qs)) (λe a' w'=>e= .normal/\∃f',Ag n a' f'/\K f' w') fuel (c9 l.length done) a w
theorem bq{fid:Nat}{R:Ending->World->Prop}{k:List Item}{id:Nat}(γ:aw)(qs:List Nat)(hm:P.follows .mixedOrders=true)
   (h:∀w1,aU no γ w γ w1->gP P n l qs (fL P fid n R k) l.length [] f w1):fL P fid n R (.code (.region id l.toArray true)::k) f w:=
 jb λa ha=>wp_region_any hm (by
   have h0:=gO _ _ _ _ (h _ (aU.refl _ _ _).drew a ha)
   have hmask:c9 l.length []=Array.replicate l.toArray.size false:=by
     apply Array.ext
     · simp[c9]
     · intro j h1 h2;simp[c9]
   rw[hmask] at h0
   simpa using h0)
theorem dl{fid:Nat}{R:Ending->World->Prop}{k:List Item}{id:Nat}{σ:Type}(Mid:σ->Fr->World->Prop)(γ:aw)(qs:List Nat)(hm:P.follows .mixedOrders=true)
    (h:(∀s f w,Mid s f w->fL P fid n R k f w)->∀w1,aU no γ w γ w1->gP P n l qs (fL P fid n R k) l.length [] f w1)(hk:∀s f w,Mid s f w->fL P fid n R k f w):fL P fid n R (.code (.region id l.toArray true)::k) f w:=
  bq γ qs hm (h hk)
def gx(l:List Oper)(done:List Nat)(i:Nat):Bool:=
 !done.contains i&&match l[i]? with
   |some o=>o.after.all λe=> !Region.binds .any e||done.contains e.on&&decide (e.on<l.length)
   |none=>false
def iQ(l:List Oper)(done:List Nat)(i:Nat):Bool:=
 match l[i]? with
 |none=>false
 |some oi=>(List.range l.length).all λj=>j==i||done.contains j||match l[j]? with
     |some oj=>oj.after.any (λe=>Region.binds .any e&&e.on==i)||oi.apart l.toArray oj
     |none=>true
def o9(l:List Oper)(qs done M:List Nat)(i:Nat):Bool:=
  ((List.range l.length).all λj=>M.contains j||j==i||match l[j]? with
      |some oj=>oj.after.any λe=>Region.binds .any e&& !M.contains e.on
      |none=>true)&&
  (M.all λj=>j==i||done.contains j||qs.contains j)&&(done.all λj=>M.contains j&&decide (j<l.length))&&M.all λj=>decide (j<l.length)
def gK(l:List Oper):Bool:=Region.noSelect l.toArray
theorem fN{i:Nat}(h:gx l done i=true):i<l.length/\i∈Region.ready .any l.toArray (c9 l.length done):=by
 unfold gx at h
 simp only[Bool.and_eq_true,Bool.not_eq_true'] at h
 obtain⟨h1,h2⟩:=h
 split at h2
 · rename_i o ho
   have hlt:i<l.length:=(List.getElem?_eq_some_iff.1 ho).1
   refine⟨hlt,mem_ready.2 ⟨by rw[dM];simp[hlt];simpa using h1,o,by simpa using ho,λe he hb=>?_⟩⟩
   have h3:=Array.all_eq_true_iff_forall_mem.1 h2 e he
   simp only[hb,Bool.not_true,Bool.false_or,Bool.and_eq_true,decide_eq_true_eq] at h3
   rw[dM,if_pos h3.2]
   simpa using h3.1
 · cases h2
theorem gz{i:Nat}{oi:Oper}(hi:l[i]? =some oi)(h:iQ l done i=true)(j:Nat)(oj:Oper)(hj:l.toArray[j]? =some oj)(hne:j≠i)(hun:(c9 l.length done).getD j true=false)
   (hno:∀e∈oj.after,Region.binds .any e=true->e.on≠i):oi.apart l.toArray oj=true:=by
 have hj':l[j]? =some oj:=by simpa using hj
 have hlt:j<l.length:=(List.getElem?_eq_some_iff.1 hj').1
 unfold iQ at h
 simp only[hi,List.all_eq_true,List.mem_range] at h
 have h1:=h j hlt
 rw[dM,if_pos hlt] at hun
 have hd:done.contains j=false:=by simpa using hun
 simp only[hj',Bool.or_eq_true,beq_iff_eq,hne,false_or,hd,Bool.false_eq_true] at h1
 rcases h1 with h1|h1
 · obtain⟨e,he,hb⟩:=Array.any_eq_true'.1 h1
   simp only[Bool.and_eq_true,beq_iff_eq] at hb
   exact absurd hb.2 (hno e he hb.1)
 · exact h1
theorem iE(h:gK l=true):∀(j:Nat) (o:Oper) cs b,l.toArray[j]? =some o->o.op≠ .select cs b:=Region.noSelect_spec h
theorem kR{i:Nat}(h:qs.contains i=true):decide (i∈qs)=true:=by simpa using h
variable{dst:Option Tmp}{op:Op}{ty:TypeId}{pos:String}{after:Array Edge}{g:Option (Nat×Bool)}{v:Value}
theorem fi(i:Nat)(M:List Nat)(hi:l[i]? =some ⟨dst,op,ty,pos,after,g⟩)(hn:gK l=true)(hc:(qs.contains i&&gx l done i&&iQ l done i&&o9 l qs done M i&&jJ n ⟨dst,op,ty,pos,after,g⟩)=true)
    (hw:cR l ⟨dst,op,ty,pos,after,g⟩ f=true)(h:(execOp (ev f) ⟨dst,op,ty,pos,after,g⟩).run P w= .ok (.value v) w)(hk:gP P n l qs K fuel (i::done) (gg f dst v) w):gP P n l qs K (fuel+1) done f w:=by
  simp only[Bool.and_eq_true] at hc
  obtain⟨⟨⟨⟨hq,hr⟩,hf⟩,hb⟩,hd⟩:=hc
  obtain⟨hlt,hr'⟩:=fN hr
  intro a ha
  unfold o9 at hb
  simp only[Bool.and_eq_true,List.all_eq_true,List.mem_range] at hb
  obtain⟨⟨⟨b1,b2⟩,b3⟩,b4⟩:=hb
  have hgM:∀j,(c9 l.length M).getD j false=true↔j∈M:=λj=>by
    rw[dM]
    by_cases hjl:j<l.length
    · simp[hjl]
    · simp only[hjl,if_false,Bool.false_eq_true,false_iff]
      exact λhm=>hjl (by simpa using b4 j hm)
  refine rx (v:=v) (M:=c9 l.length M) (D:=c9 l.length done) (by simpa using hi) (iE hn) (kR hq) (λj oj hj hm hne=>?_) (λj oj hj hm hD hne=>?_) fuel _ a (by simp[c9]) (λj hj=>?_) (λj hj=>hj) (gz hi hf) hr' ?_ ?_
  · have hj':l[j]? =some oj:=by simpa using hj
    have hjl:j<l.length:=(List.getElem?_eq_some_iff.1 hj').1
    have h1:=b1 j hjl
    have hmM:M.contains j=false:=by
      cases hc:M.contains j with
      |false=>rfl
      |true=>have h9:=(hgM j).2 (by simpa using hc);rw[hm] at h9;cases h9
    simp only[hmM,hj',Bool.false_or,Bool.or_eq_true,beq_iff_eq,hne,false_or] at h1
    obtain⟨e,he,hbb⟩:=Array.any_eq_true'.1 h1
    simp only[Bool.and_eq_true,Bool.not_eq_true'] at hbb
    refine⟨e,he,hbb.1,?_⟩
    cases hc:(c9 l.length M).getD e.on false with
    |false=>rfl
    |true=>
      have:=(hgM _).1 hc
      have h2:=hbb.2
      simp[this] at h2
  · have h1:=b2 j ((hgM j).1 hm)
    have hj':l[j]? =some oj:=by simpa using hj
    have hjl:j<l.length:=(List.getElem?_eq_some_iff.1 hj').1
    rw[dM,if_pos hjl] at hD
    have hd:done.contains j=false:=by simpa using hD
    simp only[Bool.or_eq_true,beq_iff_eq,hne,hd,false_or,Bool.false_eq_true] at h1
    exact kR h1
  · rw[dM] at hj
    split at hj
    · have h1:=b3 j (by simpa using hj)
      exact(hgM j).2 (by simpa using h1.1)
    · cases hj
  · refine .inl ⟨?_,.inl ?_⟩
    · rw[ha.yielded];exact hw
    · rw[ha.eval];exact h
  · rw[cY done hlt]
    exact hk _ (ha.put hd v)
def oc(l:List Oper)(qs done M:List Nat)(i:Nat):Bool:=
 ((List.range l.length).all λj=>M.contains j||j==i||match l[j]? with
     |some oj=>oj.after.any λe=>Region.binds .any e&& !M.contains e.on
     |none=>true)&&
 (M.all λj=>j==i||done.contains j||qs.contains j||match l[j]? with
     |some oj=>j1 oj.op
     |none=>false)&&(done.all λj=>M.contains j&&decide (j<l.length))&&M.all λj=>decide (j<l.length)
theorem AC(i:Nat)(M:List Nat)(hi:l[i]? =some ⟨dst,op,ty,pos,after,g⟩)(hn:gK l=true)(hc:(qs.contains i&&gx l done i&&iQ l done i&&oc l qs done M i&&jJ n ⟨dst,op,ty,pos,after,g⟩)=true)
    (hw:cR l ⟨dst,op,ty,pos,after,g⟩ f=true)(h:∀w',eJ w.heap.size w w'->(execOp (ev f) ⟨dst,op,ty,pos,after,g⟩).run P w'= .ok (.value v) w')(hk:gP P n l qs K fuel (i::done) (gg f dst v) w):gP P n l qs K (fuel+1) done f w:=by
  simp only[Bool.and_eq_true] at hc
  obtain⟨⟨⟨⟨hq,hr⟩,hf⟩,hb⟩,hd⟩:=hc
  obtain⟨hlt,hr'⟩:=fN hr
  intro a ha
  unfold oc at hb
  simp only[Bool.and_eq_true,List.all_eq_true,List.mem_range] at hb
  obtain⟨⟨⟨b1,b2⟩,b3⟩,b4⟩:=hb
  have hgM:∀j,(c9 l.length M).getD j false=true↔j∈M:=λj=>by
    rw[dM]
    by_cases hjl:j<l.length
    · simp[hjl]
    · simp only[hjl,if_false,Bool.false_eq_true,false_iff]
      exact λhm=>hjl (by simpa using b4 j hm)
  refine sS (v:=v) (w0:=w) (M:=c9 l.length M) (D:=c9 l.length done) (by simpa using hi) (iE hn) (kR hq) (λc a w h=>by cases h.1) (λj oj hj hm hne=>?_) (λj oj hj hm hD hne=>?_) fuel _ a w (eJ.refl _ _) (λj hj=>?_) (λj hj=>hj) (gz hi hf) hr' (λw' hw'=>?_) ?_
  · have hj':l[j]? =some oj:=by simpa using hj
    have hjl:j<l.length:=(List.getElem?_eq_some_iff.1 hj').1
    have h1:=b1 j hjl
    have hmM:M.contains j=false:=by
      cases hc:M.contains j with
      |false=>rfl
      |true=>have h9:=(hgM j).2 (by simpa using hc);rw[hm] at h9;cases h9
    simp only[hmM,hj',Bool.false_or,Bool.or_eq_true,beq_iff_eq,hne,false_or] at h1
    obtain⟨e,he,hbb⟩:=Array.any_eq_true'.1 h1
    simp only[Bool.and_eq_true,Bool.not_eq_true'] at hbb
    refine⟨e,he,hbb.1,?_⟩
    cases hc:(c9 l.length M).getD e.on false with
    |false=>rfl
    |true=>
      have:=(hgM _).1 hc
      have h2:=hbb.2
      simp[this] at h2
  · have h1:=b2 j ((hgM j).1 hm)
    have hj':l[j]? =some oj:=by simpa using hj
    have hjl:j<l.length:=(List.getElem?_eq_some_iff.1 hj').1
    rw[dM,if_pos hjl] at hD
    have hd:done.contains j=false:=by simpa using hD
    simp only[hj',Bool.or_eq_true,beq_iff_eq,hne,hd,false_or,Bool.false_eq_true] at h1
    rcases h1 with h1|h1
    · exact .inl (kR h1)
    · exact .inr h1
  · rw[dM] at hj
    split at hj
    · have h1:=b3 j (by simpa using hj)
      exact(hgM j).2 (by simpa using h1.1)
    · cases hj
  · refine .inl ⟨?_,.inl ?_⟩
    · rw[ha.yielded];exact hw
    · rw[ha.eval];exact h w' hw'
  · rw[cY done hlt]
    exact hk _ (ha.put hd v)
theorem cF(i:Nat)(hi:l[i]? =some ⟨dst,op,ty,pos,after,g⟩)(hn:gK l=true)(hc:(qs.contains i&&gx l done i&&iQ l done i&&jJ n ⟨dst,op,ty,pos,after,g⟩)=true)
    (hw:cR l ⟨dst,op,ty,pos,after,g⟩ f=true)(h:∀w,(execOp (ev f) ⟨dst,op,ty,pos,after,g⟩).run P w= .ok (.value v) w)(hk:gP P n l qs K fuel (i::done) (gg f dst v) w):gP P n l qs K (fuel+1) done f w:=by
  simp only[Bool.and_eq_true] at hc
  obtain⟨⟨⟨hq,hr⟩,hf⟩,hd⟩:=hc
  obtain⟨hlt,hr'⟩:=fN hr
  intro a ha
  refine nP (v:=v) (by simpa using hi) (iE hn) (kR hq) (λc a w h=>by cases h.1) fuel _ a w (gz hi hf) hr' (.inl ⟨by rw[ha.yielded];exact hw,λw=>by rw[ha.eval];exact h w⟩) ?_
  rw[cY done hlt]
  exact hk _ (ha.put hd v)
theorem bz(i:Nat)(hi:l[i]? =some ⟨dst,op,ty,pos,after,g⟩)(hn:gK l=true)(hc:(qs.contains i&&gx l done i&&iQ l done i&&jJ n ⟨dst,op,ty,pos,after,g⟩)=true)
   (hw:cR l ⟨dst,op,ty,pos,after,g⟩ f=false)(hk:gP P n l qs K fuel (i::done) (gg f dst undef) w):gP P n l qs K (fuel+1) done f w:=by
 simp only[Bool.and_eq_true] at hc
 obtain⟨⟨⟨hq,hr⟩,hf⟩,hd⟩:=hc
 obtain⟨hlt,hr'⟩:=fN hr
 intro a ha
 refine nP (v:=undef) (by simpa using hi) (iE hn) (kR hq) (λc a w h=>by cases h.1) fuel _ a w (gz hi hf) hr' (.inr ⟨by rw[ha.yielded];exact hw,rfl⟩) ?_
 rw[cY done hlt]
 exact hk _ (ha.put hd undef)
theorem eY{i:Nat}{o:Oper}{a:Act}{K':Act->World->Prop}{Q:Exit->Act->World->Prop}{N:Value->World->Prop}(ha:Ag n a f)(hi:l[i]? =some o)(hw:cR l o f=true)(h:fv P o f w N)(hN:∀v w',N v w'->K' (a.put o.dst v) w'):wpOp P l.toArray Q i K' a w:=by
 unfold wpOp
 have hi':l.toArray[i]? =some o:=by simpa using hi
 simp only[hi']
 have hw':Region.wanted o (yielded l.toArray a.tmps)=true:=by rw[ha.yielded];exact hw
 simp only[hw',if_true]
 refine .inl ?_
 unfold Oper.wp
 rw[ha.eval]
 unfold fv at h
 generalize(execOp (ev f) o).run P w=r at*
 cases r with
 |halt x w'=>exact h.elim
 |ok nx w'=>
   cases nx<;>simp only[uw] at h<;>simp only[Oper.upon]
   case value v=>exact hN _ _ h
   case skip=>exact hN _ _ h
   case enter g args=>
     refine h.mono λe w'' he=>?_
     cases e with
     |returned v=>exact hN _ _ he
     |panicked c=>exact he.elim
     |outgrown=>exact he.elim
theorem b9(i:Nat)(hi:l[i]? =some ⟨dst,op,ty,pos,after,g⟩)(hc:(decide (Region.ready .any l.toArray (c9 l.length done)=[i])&& !qs.contains i&&jJ n ⟨dst,op,ty,pos,after,g⟩)=true)
    (hw:cR l ⟨dst,op,ty,pos,after,g⟩ f=true)(h:fv P ⟨dst,op,ty,pos,after,g⟩ f w (λv w'=>gP P n l qs K fuel (i::done) (gg f dst v) w')):gP P n l qs K (fuel+1) done f w:=by
  simp only[Bool.and_eq_true,decide_eq_true_eq,Bool.not_eq_true'] at hc
  obtain⟨⟨hr,hq⟩,hd⟩:=hc
  have hlt:i<l.length:=(List.getElem?_eq_some_iff.1 hi).1
  intro a ha
  refine⟨λh0=>(by rw[hr] at h0;cases h0),λj hj=>?_⟩
  rw[hr] at hj
  obtain rfl:j=i:=by simpa using hj
  have hq':decide (j∈qs)=false:=by simpa using hq
  simp only[hq',Bool.false_eq_true,if_false]
  refine eY ha hi hw h λv w' hk=>?_
  rw[cY done hlt]
  exact hk _ (ha.put hd v)
theorem yr(i:Nat)(hi:l[i]? =some ⟨dst,op,ty,pos,after,g⟩)(hc:(decide (Region.ready .any l.toArray (c9 l.length done)=[i])&& !qs.contains i&&jJ n ⟨dst,op,ty,pos,after,g⟩)=true)
    (hw:cR l ⟨dst,op,ty,pos,after,g⟩ f=false)(hk:gP P n l qs K fuel (i::done) (gg f dst undef) w):gP P n l qs K (fuel+1) done f w:=by
  simp only[Bool.and_eq_true,decide_eq_true_eq,Bool.not_eq_true'] at hc
  obtain⟨⟨hr,hq⟩,hd⟩:=hc
  have hlt:i<l.length:=(List.getElem?_eq_some_iff.1 hi).1
  intro a ha
  refine⟨λh0=>(by rw[hr] at h0;cases h0),λj hj=>?_⟩
  rw[hr] at hj
  obtain rfl:j=i:=by simpa using hj
  have hq':decide (j∈qs)=false:=by simpa using hq
  simp only[hq',Bool.false_eq_true,if_false]
  unfold wpOp
  have hi':l.toArray[j]? =some ⟨dst,op,ty,pos,after,g⟩:=by simpa using hi
  simp only[hi']
  have hw':Region.wanted ⟨dst,op,ty,pos,after,g⟩ (yielded l.toArray a.tmps)=false:=by rw[ha.yielded];exact hw
  simp only[hw',Bool.false_eq_true,if_false]
  rw[cY done hlt]
  exact hk _ (ha.put hd undef)
theorem dD(i j:Nat){dst':Option Tmp}{op':Op}{ty':TypeId}{pos':String}{after':Array Edge}{g':Option (Nat×Bool)}(hi:l[i]? =some ⟨dst,op,ty,pos,after,g⟩)(hj:l[j]? =some ⟨dst',op',ty',pos',after',g'⟩)
    (hc:(decide (Region.ready .any l.toArray (c9 l.length done)=[i,j])&& !qs.contains i&& !qs.contains j&&jJ n ⟨dst,op,ty,pos,after,g⟩&&jJ n ⟨dst',op',ty',pos',after',g'⟩)=true)
    (hw:cR l ⟨dst,op,ty,pos,after,g⟩ f=true)(hw':cR l ⟨dst',op',ty',pos',after',g'⟩ f=true)
    (h:fv P ⟨dst,op,ty,pos,after,g⟩ f w (λv w'=>gP P n l qs K fuel (i::done) (gg f dst v) w'))(h':fv P ⟨dst',op',ty',pos',after',g'⟩ f w (λv w'=>gP P n l qs K fuel (j::done) (gg f dst' v) w')):gP P n l qs K (fuel+1) done f w:=by
  simp only[Bool.and_eq_true,decide_eq_true_eq,Bool.not_eq_true'] at hc
  obtain⟨⟨⟨⟨hr,hq⟩,hq2⟩,hd⟩,hd'⟩:=hc
  have hlt:i<l.length:=(List.getElem?_eq_some_iff.1 hi).1
  have hlt':j<l.length:=(List.getElem?_eq_some_iff.1 hj).1
  intro a ha
  refine⟨λh0=>(by rw[hr] at h0;cases h0),λk hk=>?_⟩
  rw[hr] at hk
  have hk':k=i\/k=j:=by simpa using hk
  rcases hk' with rfl|rfl
  · have hq':decide (k∈qs)=false:=by simpa using hq
    simp only[hq',Bool.false_eq_true,if_false]
    refine eY ha hi hw h λv w' hk=>?_
    rw[cY done hlt]
    exact hk _ (ha.put hd v)
  · have hq':decide (k∈qs)=false:=by simpa using hq2
    simp only[hq',Bool.false_eq_true,if_false]
    refine eY ha hj hw' h' λv w' hk=>?_
    rw[cY done hlt']
    exact hk _ (ha.put hd' v)
def Ao(P:Program)(n:Nat)(l:List Oper)(qs:List Nat)(K:Fr->World->Prop)(fuel:Nat)(done:List Nat)(f:Fr)(w:World)(i:Nat):Prop:=
  ∀a,Ag n a f->qs.contains i=false/\∃o,l[i]? =some o/\i<l.length/\(cR l o f=true/\jJ n o=true/\fv P o f w (λv w'=>gP P n l qs K fuel (i::done) (gg f o.dst v) w'))
theorem fy(i:Nat)(hi:l[i]? =some ⟨dst,op,ty,pos,after,g⟩)(hc:(!qs.contains i&&jJ n ⟨dst,op,ty,pos,after,g⟩)=true)(hw:cR l ⟨dst,op,ty,pos,after,g⟩ f=true)
   (h:fv P ⟨dst,op,ty,pos,after,g⟩ f w (λv w'=>gP P n l qs K fuel (i::done) (gg f dst v) w')):Ao P n l qs K fuel done f w i:=by
 simp only[Bool.and_eq_true,Bool.not_eq_true'] at hc
 exact λa ha=>⟨hc.1,_,hi,(List.getElem?_eq_some_iff.1 hi).1,hw,hc.2,h⟩
def zR(P:Program)(n:Nat)(l:List Oper)(qs:List Nat)(K:Fr->World->Prop)(fuel:Nat)(done:List Nat)(f:Fr)(w:World):List Nat->Prop
 |[]=>True
 |i::r=>Ao P n l qs K fuel done f w i/\zR P n l qs K fuel done f w r
theorem zR.mem{L:List Nat}(h:zR P n l qs K fuel done f w L):∀i∈L,Ao P n l qs K fuel done f w i:=by
 induction L with
 |nil=>intro i hi;cases hi
 |cons j r ih=>
   intro i hi
   rcases List.mem_cons.1 hi with rfl|hi
   · exact h.1
   · exact ih h.2 i hi
theorem iy(i:Nat)(L:List Nat)(hr:decide (Region.ready .any l.toArray (c9 l.length done)=i::L)=true)(h:zR P n l qs K fuel done f w (i::L)):gP P n l qs K (fuel+1) done f w:=by
 have hr:=of_decide_eq_true hr
 intro a ha
 refine⟨λh0=>(by rw[hr] at h0;cases h0),λk hk=>?_⟩
 rw[hr] at hk
 obtain⟨hq,o,hi,hlt,hw,hd,ho⟩:=h.mem k (by simpa using hk) a ha
 have hq':decide (k∈qs)=false:=by simpa using hq
 simp only[hq',Bool.false_eq_true,if_false]
 obtain⟨dst,op,ty,pos,after,g⟩:=o
 refine eY ha hi hw ho λv w' hk=>?_
 rw[cY done hlt]
 exact hk _ (ha.put hd v)
theorem bS(hr:decide (Region.ready .any l.toArray (c9 l.length done)=[])=true)(h:K f w):gP P n l qs K 0 done f w:=λ_ ha=>⟨of_decide_eq_true hr,rfl,f,ha,h⟩
end
end TL
set_option linter.all false
namespace TL
open Go
section
variable{P:Program}{n:Nat}{l:List Oper}{S:World->Prop}{K:Fr->World->Prop}{f:Fr}{w:World}{done:List Nat}{fuel:Nat}
def u9(P:Program)(n:Nat)(l:List Oper)(S:World->Prop)(K:Fr->World->Prop)(fuel:Nat)(done:List Nat)(f:Fr)(w:World):Prop:=
  ∀a,Ag n a f->wpAnyH P .any l.toArray (λe a' w'=>e= .normal/\∃f',Ag n a' f'/\K f' w') S fuel (c9 l.length done) a w
theorem aU.same{J:cx->Prop}{γ γ':aw}{w w':World}(h:aU J γ w γ' w'):aU J γ w γ w':=⟨h.os,h.tape,h.output,h.size,λ_ _ _=>rfl,h.keep,h.drawn⟩
theorem il{fid:Nat}{R:Ending->World->Prop}{k:List Item}{id:Nat}(γ:aw)(J:cx->Prop)(hm:P.follows .mixedOrders=true)
   (h:∀w1,aU no γ w γ w1->u9 P n l (λw'=>aU J γ w1 γ w') (fL P fid n R k) l.length [] f w1):fL P fid n R (.code (.region id l.toArray true)::k) f w:=
 jb λa ha=>wp_region_held hm (by
   have h0:=h _ (aU.refl _ _ _).drew a ha
   have hmask:c9 l.length []=Array.replicate l.toArray.size false:=by
     apply Array.ext
     · simp[c9]
     · intro j h1 h2;simp[c9]
   rw[hmask] at h0
   simpa using h0)
theorem dy{fid:Nat}{R:Ending->World->Prop}{k:List Item}{id:Nat}{σ:Type}(Mid:σ->Fr->World->Prop)(γ:aw)(J:cx->Prop)(hm:P.follows .mixedOrders=true)
    (h:(∀s f w,Mid s f w->fL P fid n R k f w)->∀w1,aU no γ w γ w1->u9 P n l (λw'=>aU J γ w1 γ w') (fL P fid n R k) l.length [] f w1)(hk:∀s f w,Mid s f w->fL P fid n R k f w):fL P fid n R (.code (.region id l.toArray true)::k) f w:=
  il γ J hm (h hk)
variable{dst:Option Tmp}{op:Op}{ty:TypeId}{pos:String}{after:Array Edge}{g:Option (Nat×Bool)}{v:Value}
theorem AV(i:Nat)(hi:l[i]? =some ⟨dst,op,ty,pos,after,g⟩)(hn:gK l=true)(hc:(gx l done i&&iQ l done i&&jJ n ⟨dst,op,ty,pos,after,g⟩)=true)
   (hw:cR l ⟨dst,op,ty,pos,after,g⟩ f=true)(hS:S w)(h:∀w,S w->(execOp (ev f) ⟨dst,op,ty,pos,after,g⟩).run P w= .ok (.value v) w)(hk:u9 P n l S K fuel (i::done) (gg f dst v) w):u9 P n l S K (fuel+1) done f w:=by
 simp only[Bool.and_eq_true] at hc
 obtain⟨⟨hr,hf⟩,hd⟩:=hc
 obtain⟨hlt,hr'⟩:=fN hr
 intro a ha
 refine wpAnyH_first (v:=v) (by simpa using hi) (iE hn) (λc a w h=>by cases h.1) fuel _ a w (gz hi hf) hr' (.inl ⟨by rw[ha.yielded];exact hw,λw hs=>by rw[ha.eval];exact h w hs⟩) hS ?_
 rw[cY done hlt]
 exact hk _ (ha.put hd v)
def AG(P:Program)(n:Nat)(l:List Oper)(S:World->Prop)(K:Fr->World->Prop)(fuel:Nat)(done:List Nat)(f:Fr)(w:World)(i:Nat):Prop:=
  ∃o,l[i]? =some o/\i<l.length/\(cR l o f=true/\jJ n o=true/\fv P o f w (λv w'=>S w'/\u9 P n l S K fuel (i::done) (gg f o.dst v) w'))
theorem bL(i:Nat)(hi:l[i]? =some ⟨dst,op,ty,pos,after,g⟩)(hc:jJ n ⟨dst,op,ty,pos,after,g⟩=true)(hw:cR l ⟨dst,op,ty,pos,after,g⟩ f=true)
   (h:fv P ⟨dst,op,ty,pos,after,g⟩ f w (λv w'=>S w'/\u9 P n l S K fuel (i::done) (gg f dst v) w')):AG P n l S K fuel done f w i:=
 ⟨_,hi,(List.getElem?_eq_some_iff.1 hi).1,hw,hc,h⟩
def z6(P:Program)(n:Nat)(l:List Oper)(S:World->Prop)(K:Fr->World->Prop)(fuel:Nat)(done:List Nat)(f:Fr)(w:World):List Nat->Prop
 |[]=>True
 |i::r=>AG P n l S K fuel done f w i/\z6 P n l S K fuel done f w r
theorem z6.mem{L:List Nat}(h:z6 P n l S K fuel done f w L):∀i∈L,AG P n l S K fuel done f w i:=by
 induction L with
 |nil=>intro i hi;cases hi
 |cons j r ih=>
   intro i hi
   rcases List.mem_cons.1 hi with rfl|hi
   · exact h.1
   · exact ih h.2 i hi
theorem bO(i:Nat)(L:List Nat)(hr:decide (Region.ready .any l.toArray (c9 l.length done)=i::L)=true)(h:z6 P n l S K fuel done f w (i::L)):u9 P n l S K (fuel+1) done f w:=by
 have hr:=of_decide_eq_true hr
 intro a ha
 refine⟨λh0=>(by rw[hr] at h0;cases h0),λk hk=>?_⟩
 rw[hr] at hk
 obtain⟨o,hi,hlt,hw,hd,ho⟩:=h.mem k (by simpa using hk)
 obtain⟨dst,op,ty,pos,after,g⟩:=o
 refine eY ha hi hw ho λv w' hk=>⟨hk.1,?_⟩
 rw[cY done hlt]
 exact hk.2 _ (ha.put hd v)
theorem az(i:Nat)(hi:l[i]? =some ⟨dst,op,ty,pos,after,g⟩)(hc:(decide (Region.ready .any l.toArray (c9 l.length done)=[i])&&jJ n ⟨dst,op,ty,pos,after,g⟩)=true)
   (hw:cR l ⟨dst,op,ty,pos,after,g⟩ f=true)(h:fv P ⟨dst,op,ty,pos,after,g⟩ f w (λv w'=>S w'/\u9 P n l S K fuel (i::done) (gg f dst v) w')):u9 P n l S K (fuel+1) done f w:=by
 simp only[Bool.and_eq_true] at hc
 exact bO i [] hc.1 ⟨bL i hi hc.2 hw h,trivial⟩
theorem bP(hr:decide (Region.ready .any l.toArray (c9 l.length done)=[])=true)(h:K f w):u9 P n l S K 0 done f w:=λ_ ha=>⟨of_decide_eq_true hr,rfl,f,ha,h⟩
end
end TL
namespace TL
open Go
end TL
set_option linter.all false
namespace TL
abbrev cv:=Int×List (Int×Int)
def pb(n:Int)(e:Int×Int):Prop:=(0<=e.1/\e.1<n)/\0<=e.2/\e.2<n
instance (n:Int)(e:Int×Int):Decidable (pb n e):=by unfold pb;infer_instance
def c7(g:cv):Prop:=0<=g.1/\g.1<=1024/\g.2.length<=3072/\∀e∈g.2,pb g.1 e
instance (g:cv):Decidable (c7 g):=by unfold c7;infer_instance
def dm(g:cv):Bool:=decide (c7 g)
theorem nf{g:cv}(h:c7 g):dm g=true:=decide_eq_true h
theorem cW{g:cv}(h:¬c7 g):dm g=false:=decide_eq_false h
end TL
namespace TL
def fI(n:Int):List Int->List Int->Int
  |[],_=>0
  |i::r,seen=>if i<0\/n<=i then 2 else if i∈seen then 18 else fI n r (seen++[i])
def cI(l:List Int)(n:Int):Int:=fI n l []
structure eK(seen:List Bool)(l:List Int)(n:Int)(k:Nat):Prop where
 len:(seen.length:Int)=n
 seen:∀i,0<=i->i<n->gI seen i=decide (i∈l.take k)
 rest:fI n (l.drop k) (l.take k)=cI l n
 all:∀i∈l.take k,0<=i/\i<n
theorem ou{α:Type}[Inhabited α]{xs:List α}{k:Nat}(h:(k:Int)<xs.length):xs.drop k=gI xs k::xs.drop (k+1):=by
 have h':k<xs.length:=by omega
 rw[List.drop_eq_getElem_cons h']
 simp[gI,h']
theorem eI{α:Type}[Inhabited α]{xs:List α}{i j:Int}{y:α}(hi:0<=i)(hi':i<xs.length)(hj:0<=j):gI (xs.set i.toNat y) j=if j=i then y else gI xs j:=by
 unfold gI
 by_cases h:j=i
 · subst h
   have:j.toNat<xs.length:=by omega
   simp[this]
 · have:i.toNat≠j.toNat:=by omega
   simp[h,List.getElem?_set_ne this]
theorem lT{α:Type}[Inhabited α]{n:Nat}{x:α}{i:Int}(h0:0<=i)(h1:i<n):gI (List.replicate n x) i=x:=by
 have:i.toNat<n:=by omega
 simp[gI,this]
theorem eK.start(l:List Int)(n:Int)(hn:0<=n):eK (List.replicate n.toNat false) l n 0:=
 ⟨by simp;omega,λi h0 h1=>by rw[lT h0 (by omega)];simp,by simp[cI],by simp⟩
theorem eK.next{seen:List Bool}{l:List Int}{n:Int}{k:Nat}(h:eK seen l n k)(hk:(k:Int)<l.length)(h0:0<=gI l k)(h1:gI l k<n)(hs:gI seen (gI l k)=false):eK (seen.set (gI l k).toNat true) l n (k+1):=by
 have ht:=aT hk
 have hd:=ou hk
 have hl:=h.len
 have hni:gI l k∉l.take k:=by
   have:=h.seen _ h0 h1
   rw[hs] at this
   simpa using this.symm
 refine⟨by simpa using h.len,λi h2 h3=>?_,?_,λi hi=>?_⟩
 · rw[eI h0 (by omega) h2,ht]
   by_cases he:i=gI l k
   · subst he;simp
   · rw[if_neg he,h.seen i h2 h3]
     simp[he]
 · rw[<-h.rest,hd,ht]
   simp only[fI]
   rw[if_neg (by omega),if_neg hni]
 · rw[ht] at hi
   rcases List.mem_append.1 hi with h'|h'
   · exact h.all i h'
   · obtain rfl:=List.mem_singleton.1 h'
     exact⟨h0,h1⟩
theorem eK.bad{seen:List Bool}{l:List Int}{n:Int}{k:Nat}(h:eK seen l n k)(hk:(k:Int)<l.length)(h0:gI l k<0\/n<=gI l k):(2:Int)=cI l n:=by
 rw[<-h.rest,ou hk];simp only[fI];rw[if_pos h0]
theorem eK.twice{seen:List Bool}{l:List Int}{n:Int}{k:Nat}(h:eK seen l n k)(hk:(k:Int)<l.length)(h0:0<=gI l k)(h1:gI l k<n)(hs:gI seen (gI l k)=true):(18:Int)=cI l n:=by
 have hni:gI l k∈l.take k:=by
   have:=h.seen _ h0 h1
   rw[hs] at this
   simpa using this.symm
 rw[<-h.rest,ou hk];simp only[fI];rw[if_neg (by omega),if_pos hni]
theorem eK.done{seen:List Bool}{l:List Int}{n:Int}{k:Nat}(h:eK seen l n k)(hk:¬(k:Int)<l.length):(0:Int)=cI l n:=by
 rw[<-h.rest,List.drop_of_length_le (by omega)];rfl
theorem jw{n:Int}:∀(l seen:List Int),fI n l seen=0->(∀i∈l,0<=i/\i<n)/\l.Nodup/\∀i∈l,i∉seen
 |[],seen,_=>by simp
 |i::r,seen,h=>by
   simp only[fI] at h
   split at h
   · cases h
   · split at h
     · cases h
     · rename_i h1 h2
       obtain⟨a,b,c⟩:=jw r (seen++[i]) h
       refine⟨λj hj=>?_,List.nodup_cons.2 ⟨λhi=>c i hi (by simp),b⟩,λj hj=>?_⟩
       · rcases List.mem_cons.1 hj with rfl|hj
         · omega
         · exact a j hj
       · rcases List.mem_cons.1 hj with rfl|hj
         · exact h2
         · exact λhs=>c j hj (by simp[hs])
theorem ry{n:Int}{l:List Int}(h:cI l n=0):(∀i∈l,0<=i/\i<n)/\l.Nodup:=⟨(jw l [] h).1,(jw l [] h).2.1⟩
def gk(nodes:List Int)(v:Int):Int:=if v∈nodes then(nodes.idxOf v:Int)+1 else 0
def mC(g:cv)(nodes:List Int):List Int:=((List.range g.2.length).map (λ(i:Nat)=>(i:Int))).filter λi=>decide ((gI g.2 i).1∈nodes)&&decide ((gI g.2 i).2∈nodes)
def di(g:cv)(nodes:List Int):cv×List Int×Int:=
 if c7 g then
   if cI nodes g.1=0 then(((nodes.length:Int),(mC g nodes).map λi=>(gk nodes (gI g.2 i).1-1,gk nodes (gI g.2 i).2-1)),mC g nodes,0) else((0,[]),[],cI nodes g.1)
 else((0,[]),[],1)
end TL
namespace TL
structure iI(T:List Int)(nodes:List Int)(n:Int)(k:Nat):Prop where
 len:(T.length:Int)=n
 pos:∀v,0<=v->v<n->gI T v=gk (nodes.take k) v
theorem iI.start(nodes:List Int)(n:Int)(hn:0<=n):iI (List.replicate n.toNat 0) nodes n 0:=
 ⟨by simp;omega,λv h0 h1=>by rw[lT h0 (by omega)];simp[gk]⟩
theorem tA{l:List Int}{x v:Int}(hx:x∉l):gk (l++[x]) v=if v=x then(l.length:Int)+1 else gk l v:=by
 unfold gk
 by_cases h:v=x
 · subst h
   simp[List.idxOf_append,hx]
 · by_cases hv:v∈l
   · simp[h,hv,List.idxOf_append]
   · simp[h,hv]
theorem iI.next{T nodes:List Int}{n:Int}{k:Nat}(h:iI T nodes n k)(hk:(k:Int)<nodes.length)(h0:0<=gI nodes k)(h1:gI nodes k<n)(hd:nodes.Nodup):iI (T.set (gI nodes k).toNat ((k:Int)+1)) nodes n (k+1):=by
 have ht:=aT hk
 have hl:=h.len
 have hn:gI nodes k∉nodes.take k:=by
   have h2:(nodes.take (k+1)).Nodup:=hd.sublist (List.take_sublist _ _)
   rw[ht] at h2
   have:=List.nodup_append.1 h2
   intro hm
   exact this.2.2 _ hm _ (by simp) rfl
 have hlk:(nodes.take k).length=k:=by simp;omega
 refine⟨by simpa using h.len,λv h2 h3=>?_⟩
 rw[eI h0 (by omega) h2,ht,tA hn,h.pos v h2 h3,hlk]
def dG(g:cv)(nodes:List Int)(k:Nat):List Int:=((List.range k).map (λ(i:Nat)=>(i:Int))).filter λi=>decide ((gI g.2 i).1∈nodes)&&decide ((gI g.2 i).2∈nodes)
theorem iT(g:cv)(nodes:List Int)(k:Nat):dG g nodes (k+1)=if(gI g.2 k).1∈nodes/\(gI g.2 k).2∈nodes then dG g nodes k++[(k:Int)] else dG g nodes k:=by
 unfold dG
 rw[List.range_succ,List.map_append,List.filter_append]
 by_cases h:(gI g.2 k).1∈nodes/\(gI g.2 k).2∈nodes
 · rw[if_pos h];simp[h.1,h.2]
 · rw[if_neg h]
   have:¬((gI g.2 (k:Int)).1∈nodes/\(gI g.2 (k:Int)).2∈nodes):=h
   by_cases h1:(gI g.2 (k:Int)).1∈nodes
   · have h2:(gI g.2 (k:Int)).2∉nodes:=λh2=>h ⟨h1,h2⟩
     simp[h1,h2]
   · simp[h1]
theorem r9(g:cv)(nodes:List Int)(k:Nat):(dG g nodes k).length<=k:=by
 unfold dG
 have:=List.length_filter_le (λi=>decide ((gI g.2 i).1∈nodes)&&decide ((gI g.2 i).2∈nodes)) ((List.range k).map (λ(i:Nat)=>(i:Int)))
 simpa using this
theorem gU{l:List Int}{v:Int}:0<gk l v↔v∈l:=by
 unfold gk
 by_cases h:v∈l
 · simp[h]
 · simp[h]
theorem lL(l:List Int)(v:Int):gk l v<=l.length:=by
 unfold gk
 split
 · rename_i h
   have:=List.idxOf_lt_length_iff.2 h
   omega
 · omega
end TL
namespace TL
theorem r6{g:cv}{nodes:List Int}{k:Nat}(h1:0<gk nodes (gI g.2 k).1)(h2:0<gk nodes (gI g.2 k).2):dG g nodes (k+1)=dG g nodes k++[(k:Int)]:=by
 rw[iT,if_pos ⟨gU.1 h1,gU.1 h2⟩]
theorem qV{g:cv}{nodes:List Int}{k:Nat}(h1:¬0<gk nodes (gI g.2 k).1):dG g nodes (k+1)=dG g nodes k:=by
 rw[iT,if_neg λh=>h1 (gU.2 h.1)]
theorem rh{g:cv}{nodes:List Int}{k:Nat}(h1:¬0<gk nodes (gI g.2 k).2):dG g nodes (k+1)=dG g nodes k:=by
 rw[iT,if_neg λh=>h1 (gU.2 h.2)]
end TL
namespace TL
def dz(g:cv)(h:Int):Int:=pI (gI g.2 (h/2)) (h%2)
def jI(g:cv)(v:Int)(k:Nat):List Int:=((List.range (2*k)).map (λ(i:Nat)=>(i:Int))).filter λh=>decide (dz g h=v)
def gV(g:cv)(v:Int):List Int:=jI g v g.2.length
theorem mw(g:cv)(k:Nat):dz g (2*(k:Int))=(gI g.2 k).1:=by
 unfold dz
 have h1:2*(k:Int)/2=k:=by omega
 have h2:2*(k:Int)%2=0:=by omega
 rw[h1,h2];rfl
theorem nQ(g:cv)(k:Nat):dz g (2*(k:Int)+1)=(gI g.2 k).2:=by
 unfold dz
 have h1:(2*(k:Int)+1)/2=k:=by omega
 have h2:(2*(k:Int)+1)%2=1:=by omega
 rw[h1,h2];rfl
theorem r4(g:cv)(v:Int)(k:Nat):jI g v (k+1)=jI g v k++((if(gI g.2 k).1=v then[2*(k:Int)] else[])++(if(gI g.2 k).2=v then[2*(k:Int)+1] else[])):=by
 unfold jI
 rw[show 2*(k+1)=2*k+1+1 by omega,List.range_succ,List.range_succ]
 simp only[List.map_append,List.filter_append,List.map_cons,List.map_nil,List.append_assoc]
 congr 1
 have e1:((2*k:Nat):Int)=2*(k:Int):=by omega
 have e2:((2*k+1:Nat):Int)=2*(k:Int)+1:=by omega
 rw[e1,e2]
 congr 1
 · by_cases h:(gI g.2 (k:Int)).1=v
   · simp[mw,h]
   · simp[mw,h]
 · by_cases h:(gI g.2 (k:Int)).2=v
   · simp[nQ,h]
   · simp[nQ,h]
theorem tf(g:cv)(v:Int)(k:Nat):(jI g v k).length<=2*k:=by
 unfold jI
 have:=List.length_filter_le (λh=>decide (dz g h=v)) ((List.range (2*k)).map (λ(i:Nat)=>(i:Int)))
 simpa using this
end TL
namespace TL
theorem qd{α:Type}[Inhabited α]{l l':List α}(hl:l.length=l'.length)(h:∀i:Nat,i<l.length->gI l i=gI l' i):l=l':=by
 apply List.ext_getElem hl
 intro i h1 h2
 have:=h i h1
 simpa[gI,h1,h2] using this
end TL
namespace TL
def nW(e:Int×Int):Int×Int:=(min e.1 e.2,max e.1 e.2)
end TL
namespace TL
theorem jk{g:cv}{k:Nat}(hk:(k:Int)<g.2.length):(g.2.map nW).take (k+1)=(g.2.map nW).take k++[nW (gI g.2 k)]:=by
 rw[aT (by simpa using hk)]
 have h':k<g.2.length:=by omega
 simp[gI,h']
end TL
namespace TL
section
end
end TL
set_option linter.all false
namespace TL
theorem jY{n:Int}:∀(l seen:List Int),(∀i∈l,0<=i/\i<n)->l.Nodup->(∀i∈l,i∉seen)->fI n l seen=0
 |[],_,_,_,_=>rfl
 |i::r,seen,h1,h2,h3=>by
   have h4:=h1 i (by simp)
   obtain⟨h5,h6⟩:=List.nodup_cons.1 h2
   simp only[fI]
   rw[if_neg (by omega),if_neg (h3 i (by simp))]
   refine jY r _ (λj hj=>h1 j (by simp[hj])) h6 (λj hj hs=>?_)
   rcases List.mem_append.1 hs with h|h
   · exact h3 j (by simp[hj]) h
   · obtain rfl:=List.mem_singleton.1 h
     exact h5 hj
theorem oF{n:Int}{l:List Int}(h1:∀i∈l,0<=i/\i<n)(h2:l.Nodup):cI l n=0:=jY l [] h1 h2 (by simp)
theorem uR{α β:Type}[Inhabited α][Inhabited β](f:α->β){l:List α}{i:Int}(h0:0<=i)(h1:i<l.length):gI (l.map f) i=f (gI l i):=by
 have:i.toNat<l.length:=by omega
 simp[gI,this]
end TL
set_option linter.all false
namespace TL
def cz(n:Nat):List Int:=(List.range n).map λ(i:Nat)=>(i:Int)
theorem eE(n:Nat):(cz n).length=n:=by simp[cz]
theorem dX(n:Nat):cz (n+1)=cz n++[(n:Int)]:=by simp[cz,List.range_succ]
theorem hE{n:Nat}{x:Int}:x∈cz n↔0<=x/\x<n:=by
 unfold cz
 rw[List.mem_map]
 constructor
 · rintro⟨i,hi,rfl⟩
   have:=List.mem_range.1 hi
   omega
 · rintro⟨h1,h2⟩
   exact⟨x.toNat,List.mem_range.2 (by omega),by omega⟩
theorem ml(n:Nat):(cz n).Nodup:=by
 induction n with
 |zero=>simp[cz]
 |succ n ih=>
   rw[dX,List.nodup_append]
   refine⟨ih,by simp,λa ha b hb=>?_⟩
   have:=hE.1 ha
   have:=List.mem_singleton.1 hb
   omega
theorem oy{n:Nat}{i:Int}(h0:0<=i)(h1:i<n):gI (cz n) i=i:=by
 have:i.toNat<n:=by omega
 simp[gI,cz,this]
 omega
theorem qH:∀(n:Nat) (l:List Int),l.Nodup->(∀x∈l,0<=x/\x<(n:Int))->l.length<=n
 |0,l,_,h=>by
   cases l with
   |nil=>simp
   |cons a l=>have:=h a (by simp);omega
 |n+1,l,hn,h=>by
   have h1:(l.erase (n:Int)).Nodup:=hn.erase _
   have h2:=qH n (l.erase (n:Int)) h1 (λx hx=>by
     have h3:=hn.mem_erase_iff.1 hx
     have:=h x h3.2
     omega)
   by_cases hm:(n:Int)∈l
   · have:=List.length_erase_of_mem hm
     omega
   · rw[List.erase_of_not_mem hm] at h2
     omega
end TL
set_option linter.all false
namespace TL
def jg(g:cv)(i:Int):Bool:=decide (¬(gI g.2 i).1=(gI g.2 i).2)&&decide (¬nW (gI g.2 i)∈(g.2.map nW).take i.toNat)
def ga(g:cv)(k:Nat):List Int:=(cz k).filter (jg g)
def cQ(g:cv):cv×List Int×Int:=if c7 g then((g.1,(ga g g.2.length).map (gI g.2)),ga g g.2.length,0) else((0,[]),[],1)
theorem gu(g:cv)(k:Nat):ga g (k+1)=if jg g k=true then ga g k++[(k:Int)] else ga g k:=by
 unfold ga
 rw[dX,List.filter_append]
 by_cases h:jg g (k:Int)=true
 · rw[if_pos h];simp[h]
 · rw[if_neg h];simp[h]
theorem kE(g:cv)(k:Nat):(ga g k).length<=k:=by
 unfold ga
 have:=List.length_filter_le (jg g) (cz k)
 rw[eE] at this
 exact this
end TL
namespace TL
structure dx(left:List Int)(out:List (Int×Int))(F:Int×Int->Int)(g:cv)(k:Nat):Prop where
 left:left=ga g k
 out:out=(ga g k).map (gI g.2)
 seen:∀q,F q=(((g.2.map nW).take k).count q:Nat)
theorem dx.start(g:cv):dx [] [] (λ_=>0) g 0:=⟨rfl,rfl,λq=>by simp⟩
section
variable{left:List Int}{out:List (Int×Int)}{F:Int×Int->Int}{g:cv}{k:Nat}
theorem dx.bd(h:dx left out F g k):left.length<=k/\out.length<=k/\∀q,0<=F q/\F q<=k:=by
 refine⟨by rw[h.left];exact kE g k,by rw[h.out,List.length_map];exact kE g k,λq=>?_⟩
 rw[h.seen]
 have h1:=List.count_le_length (a:=q) (l:=(g.2.map nW).take k)
 have h2:((g.2.map nW).take k).length<=k:=List.length_take_le _ _
 omega
theorem dx.seen_next(h:dx left out F g k)(hk:(k:Int)<g.2.length)(q:Int×Int):(if q=nW (gI g.2 k) then F (nW (gI g.2 k))+1 else F q)=(((g.2.map nW).take (k+1)).count q:Nat):=by
 rw[jk hk,List.count_append,h.seen,h.seen]
 by_cases h2:q=nW (gI g.2 (k:Int))
 · subst h2;simp
 · have h3:¬nW (gI g.2 (k:Int))=q:=λh=>h2 h.symm
   simp[h2,h3]
theorem dx.none_iff(h:dx left out F g k):F (nW (gI g.2 k))=0↔¬nW (gI g.2 k)∈(g.2.map nW).take k:=by
 rw[h.seen,<-List.count_eq_zero];omega
theorem dx.take(h:dx left out F g k)(hk:(k:Int)<g.2.length)(c1:¬(gI g.2 k).1=(gI g.2 k).2)(c2:F (min (gI g.2 k).1 (gI g.2 k).2,max (gI g.2 k).1 (gI g.2 k).2)=0):
   dx (left++[(k:Int)]) (out++[gI g.2 k]) (λq=>if q=(min (gI g.2 k).1 (gI g.2 k).2,max (gI g.2 k).1 (gI g.2 k).2) then F (min (gI g.2 k).1 (gI g.2 k).2,max (gI g.2 k).1 (gI g.2 k).2)+1 else F q) g (k+1):=by
 have hp:jg g (k:Int)=true:=by
   unfold jg
   have:=h.none_iff.1 c2
   simp only[Int.toNat_natCast,Bool.and_eq_true,decide_eq_true_eq]
   exact⟨c1,this⟩
 refine⟨by rw[gu,if_pos hp,h.left],by rw[gu,if_pos hp,h.out];simp,λq=>h.seen_next hk q⟩
theorem dx.skip(h:dx left out F g k)(hk:(k:Int)<g.2.length)(c:(gI g.2 k).1=(gI g.2 k).2\/¬F (min (gI g.2 k).1 (gI g.2 k).2,max (gI g.2 k).1 (gI g.2 k).2)=0):
   dx left out (λq=>if q=(min (gI g.2 k).1 (gI g.2 k).2,max (gI g.2 k).1 (gI g.2 k).2) then F (min (gI g.2 k).1 (gI g.2 k).2,max (gI g.2 k).1 (gI g.2 k).2)+1 else F q) g (k+1):=by
 have hp:¬jg g (k:Int)=true:=by
   unfold jg
   simp only[Int.toNat_natCast,Bool.and_eq_true,decide_eq_true_eq]
   rintro⟨c1,c3⟩
   rcases c with c|c
   · exact c1 c
   · exact c (h.none_iff.2 c3)
 exact⟨by rw[gu,if_neg hp,h.left],by rw[gu,if_neg hp,h.out],λq=>h.seen_next hk q⟩
end
end TL
set_option linter.all false
namespace TL
end TL
namespace TL
theorem rD(g:cv):∀k:Nat,(k:Int)<=g.2.length->(((ga g k).map (gI g.2)).map nW).Nodup/\(∀q∈((ga g k).map (gI g.2)).map nW,q∈(g.2.map nW).take k)/\(∀d∈(ga g k).map (gI g.2),d∈g.2/\¬d.1=d.2):=by
  intro k
  induction k with
  |zero=>intro _;simp[ga,cz]
  |succ k ih=>
    intro hk
    obtain⟨a,b,c⟩:=ih (by omega)
    rw[gu,jk (by omega)]
    by_cases hp:jg g (k:Int)=true
    · rw[if_pos hp]
      have hp':=hp
      unfold jg at hp'
      simp only[Int.toNat_natCast,Bool.and_eq_true,decide_eq_true_eq] at hp'
      simp only[List.map_append,List.map_cons,List.map_nil]
      refine⟨?_,λq hq=>?_,λd hd=>?_⟩
      · rw[List.nodup_append]
        refine⟨a,by simp,λx hx y hy=>?_⟩
        obtain rfl:=List.mem_singleton.1 hy
        intro e
        exact hp'.2 (e▸b x hx)
      · rcases List.mem_append.1 hq with h|h
        · exact List.mem_append.2 (.inl (b q h))
        · exact List.mem_append.2 (.inr h)
      · rcases List.mem_append.1 hd with h|h
        · exact c d h
        · obtain rfl:=List.mem_singleton.1 h
          exact⟨bC (by omega) (by omega),hp'.1⟩
    · rw[if_neg hp]
      exact⟨a,λq hq=>List.mem_append.2 (.inl (b q hq)),c⟩
theorem mh{g:cv}(hm:c7 g):cQ g=((g.1,(ga g g.2.length).map (gI g.2)),ga g g.2.length,0):=by unfold cQ;rw[if_pos hm]
theorem pF{g:cv}(hm:c7 g):c7 (cQ g).1:=by
 obtain⟨m1,m2,m3,m4⟩:=hm
 rw[mh ⟨m1,m2,m3,m4⟩]
 refine⟨m1,m2,?_,λd hd=>m4 d ((rD g _ (Int.le_refl _)).2.2 d hd).1⟩
 have:=kE g g.2.length
 simp only[List.length_map];omega
end TL
namespace TL
end TL
set_option linter.all false
namespace TL
open Go
section
variable{P:Program}{f:Fr}{w:World}{dst:Option Tmp}{ty:TypeId}{pos:String}{after:Array Edge}{g:Option (Nat×Bool)}{t t' e:TypeId}{x y:Operand}
theorem ae{a:Addr}(hx:ev f x= .pointer (some a)):(execOp (ev f) ⟨dst,.nilCheck x,ty,pos,after,g⟩).run P w= .ok (.value (.pointer (some a))) w:=by
 simp only[execOp,hx,Sem.run_pure]
inductive EqV (P:Program) (t:TypeId):Value->Value->Bool->Prop
 |int {a b:Int} (h:P.underlying t=some (.int .i64)):EqV P t (.int .i64 a) (.int .i64 b) (decide (a=b))
 |bool {a b:Bool} (h:P.underlying t=some .bool):EqV P t (.bool a) (.bool b) (decide (a=b))
inductive EqF (P:Program) (xs ys:Array Value):List Field->List Bool->Prop
 |nil:EqF P xs ys [] []
 |cons {fd:Field} {fs:List Field} {bs:List Bool} {a b z:Value} {r:Bool} {size bytes:Nat} (hn:(fd.name != "_")=true) (he:Tp P fd.type false size bytes z) (ha:xs[fd.offset]? =some a) (hb:ys[fd.offset]? =some b) (hq:EqV P fd.type a b r) (hr:EqF P xs ys fs bs):EqF P xs ys (fd::fs) (r::bs)
theorem nV{xs ys:Array Value}{fs:List Field}{bs:List Bool}(h:EqF P xs ys fs bs)(d:Nat):(Op.eqFields (d+1) xs ys fs).run P w= .ok (bs.all id) w:=by
 induction h with
 |nil=>simp[Op.eqFields,Sem.run_pure]
 | @cons fd fs bs a b z r size bytes hn he ha hb hq hr ih=>
   have hn':fd.name≠ "_" :=by simpa using hn
   have h1:=fO (P:=P) (w:=w) he ha
   have h2:=fO (P:=P) (w:=w) he hb
   have h3:(Op.equalIn (d+1) fd.type a b).run P w= .ok r w:=by
     cases hq with
     |int h=>simp[Op.equalIn,aL h,Sem.run_pure];rfl
     |bool h=>simp[Op.equalIn,aL h,Sem.run_pure];rfl
   simp only[Op.eqFields,if_pos hn',Sem.run_bind,h1,h2,h3,Result.andThen_ok]
   cases r with
   |true=>simp[ih]
   |false=>simp[Sem.run_pure]
end
end TL
namespace TL
open Go
section
end
end TL
namespace TL
open Go
section
end
end TL
namespace TL
open Go
theorem rA{f:Fr}{x:Operand}{xs:List Operand}{v:Value}{vs:List Value}(h:ev f x=v)(h2:xs.map (ev f)=vs):(x::xs).map (ev f)=v::vs:=by subst h h2;rfl
end TL
set_option linter.all false
namespace TL
abbrev jH:=List (List Int)
theorem xQ{n:Int}{l:List Int}(h0:0<=n)(hn:l.Nodup)(h:∀x∈l,0<=x/\x<n):(l.length:Int)<=n:=by
 have:=qH n.toNat l hn (λx hx=>by have:=h x hx;omega)
 omega
section
end
def bQ(s:List Int)(v:Int):Int:=if v∈s then(s.idxOf v:Int) else-1
theorem qt{s:List Int}{v:Int}{i:Nat}(h:∀j:Nat,j<i->¬v=gI s (j:Int))(hi:(i:Int)<s.length)(he:v=gI s (i:Int)):(i:Int)=bQ s v:=by
 have hlt:i<s.length:=by omega
 have e:gI s (i:Int)=s[i]:=by simp[gI,hlt]
 have hm:v∈s:=by rw[he];exact bC (by omega) hi
 unfold bQ
 rw[if_pos hm]
 have hlt2:=List.idxOf_lt_length_iff.2 hm
 have h1:¬s.idxOf v<i:=λhlt'=>h _ hlt' (by simp[gI,hlt2])
 have h2:¬i<s.idxOf v:=λhlt'=>by
   have:=List.not_of_lt_findIdx (xs:=s) (p:=(· ==v)) (i:=i) hlt'
   simp at this
   exact this (by rw[<-e,<-he])
 omega
theorem sa{s:List Int}{v:Int}{i:Nat}(h:∀j:Nat,j<i->¬v=gI s (j:Int))(hi:¬(i:Int)<s.length):(-1:Int)=bQ s v:=by
 unfold bQ
 rw[if_neg]
 intro hm
 obtain⟨j,hj,e⟩:=List.mem_iff_getElem.1 hm
 exact h j (by omega) (by simp[gI,hj,e])
end TL
namespace TL
end TL
set_option linter.all false
namespace TL
open Go
class Ky (K:Type) where
  val:K->Value
structure l8(P:Program)(kt:TypeId)(K:Type)[DecidableEq K][Ky K]:Prop where
 check:∀(b:Bool) (k:K) (w:World),(Instr.checkKey b 10000 kt (Ky.val k)).run P w= .ok () w
 find:∀(k:K) (es:List MapEntry) (ks:List K) (w:World),es.map (·.key)=ks.map Ky.val->(Instr.findKey kt (Ky.val k) es).run P w= .ok ((ks.findIdx? (· =k)).bind λi=>(es[i]?).map λe=>(i,e.val)) w
 bits:∀k:K,Instr.sameBits 10000 (Ky.val k) (Ky.val k)=true
structure cT(K:Type) where
  key:K
  val:Int
  born:Nat
def de{K:Type}[Ky K](e:cT K):MapEntry:={key:=Ky.val e.key,val:=.int .i64 e.val,born:=e.born}
def eM{K:Type}[DecidableEq K](es:List (cT K))(k:K):Int:=((es.find? λe=>decide (e.key=k)).map (·.val)).getD 0
structure Am{K:Type}(es:List (cT K))(clock:Nat):Prop where
 keys:(es.map (·.key)).Nodup
 born:(es.map (·.born)).Nodup
 lt:∀e∈es,e.born<clock
def Mp{K:Type}[DecidableEq K][Ky K](γ:aw)(J:cx->Prop)(w:World)(v:Value)(F:K->Int):Prop:=
  ∃(r:Nat) (es:List (cT K)) (clock:Nat),v= .map (some r)/\J (γ r)/\w.heap[r]? =some (.map (es.map de).toArray clock)/\Am es clock/\F=eM es
def BB{K:Type}[DecidableEq K][Ky K](γ:aw)(J:cx->Prop)(w:World)(v:Value)(F:K->Int)(s:Int)(k:K):Prop:=
  ∃(r:Nat) (es:List (cT K)) (clock:Nat),v= .map (some r)/\J (γ r)/\w.heap[r]? =some (.map (es.map de).toArray clock)/\Am es clock/\F=eM es/\∃(i:Nat) (e:cT K),es[i]? =some e/\e.key=k/\(e.born:Int)=s
theorem Mp.chg{K:Type}[DecidableEq K][Ky K]{γ γ':aw}{J J':cx->Prop}{w w':World}{v:Value}{F:K->Int}(h:Mp γ J w v F)(hc:aU J' γ w γ' w')(hJ:∀c,J c->¬J' c):Mp γ' J w' v F:=by
 obtain⟨r,es,clock,h1,h2,h3,h4⟩:=h
 exact⟨r,es,clock,h1,by rw[hc.col r (cX h3) (hJ _ h2)];exact h2,by rw[hc.keep r (cX h3) (hJ _ h2)];exact h3,h4⟩
theorem ja{K:Type}[DecidableEq K][Ky K](es:List (cT K))(k:K):(((es.map (·.key)).findIdx? (· =k)).bind λi=>((es.map de)[i]?).map λe=>(i,e.val))=((es.map (·.key)).findIdx? (· =k)).map λi=>(i,Value.int .i64 (eM es k)):=by
 cases h:(es.map (·.key)).findIdx? (· =k) with
 |none=>rfl
 |some i=>
   obtain⟨hi,hk,hlt⟩:=List.findIdx?_eq_some_iff_getElem.1 h
   have hi':i<es.length:=by simpa using hi
   have hke:es[i].key=k:=by simpa using hk
   have hf:es.find? (λe=>decide (e.key=k))=some es[i]:=by
     rw[List.find?_eq_some_iff_getElem]
     refine⟨by simpa using hke,i,hi',rfl,λj hj=>?_⟩
     have:=hlt j hj
     simpa using this
   simp[hi',de,eM,hf]
section
variable{P:Program}{f:Fr}{w:World}{dst:Option Tmp}{ty:TypeId}{pos:String}{after:Array Edge}{g:Option (Nat×Bool)}{t:TypeId}{x y z:Operand}{N:Value->World->Prop}
theorem ck{r:Nat}{es:Array MapEntry}{clock:Nat}(h:w.heap[r]? =some (.map es clock)):(getObj r).run P w= .ok (.map es clock) w:=by
 simp[getObj,Sem.run,h]
theorem e9{r:Nat}{es:Array MapEntry}{clock:Nat}{o:Obj}(h:w.heap[r]? =some (.map es clock)):(setObj r o).run P w= .ok () {w with heap:=w.heap.setIfInBounds r o}:=by
 simp[setObj,Sem.run,h]
theorem fE(γ:aw){r:Nat}(o:Obj){J:cx->Prop}(hJ:J (γ r)):aU J γ w γ {w with heap:=w.heap.setIfInBounds r o}:=
 ⟨rfl,rfl,rfl,by simp,λ_ _ _=>rfl,λk _ hk=>by
   have:r≠k:=λh=>hk (h▸hJ)
   simp[Array.getElem?_setIfInBounds_ne this],Nat.le_refl _⟩
theorem f9{r:Nat}{o o':Obj}(h:w.heap[r]? =some o'):({w with heap:=w.heap.setIfInBounds r o}:World).heap[r]? =some o:=by
 have:=cX h
 simp[this]
theorem nL{K:Type}[DecidableEq K][Ky K](γ:aw)(J:cx->Prop)(c:cx)(hJ:J c)(hk:∀γ' w' v,aU no γ w γ' w'->Mp (K:=K) γ' J w' v (λ_=>0)->N v w'):fv P ⟨dst,.makeMap t none,ty,pos,after,g⟩ f w N:=by
 refine aj (v:=.map (some w.heap.size)) (w':=w.alloc (.map #[] 0)) (by simp[execOp,Instr.makeMap]) (hk (gA γ w.heap.size c) _ _ (fa γ w _ c) ⟨w.heap.size,[],0,rfl,by simpa[gA] using hJ,by rw[cZ];rfl,⟨by simp,by simp,by simp⟩,?_⟩)
 funext k;simp[eM]
theorem dp{K:Type}[DecidableEq K][Ky K]{γ:aw}{J:cx->Prop}{v u:Value}{F:K->Int}{kt et size bytes:Nat}{agg:Bool}(k:K)(ht:P.underlying t=some (.map kt et))(hk:l8 P kt K)(he:Tp P et agg size bytes (.int .i64 0))(hx:ev f x=v)(hm:Mp γ J w v F)(hy:ev f y=u)(hu:u=Ky.val k):
   (execOp (ev f) ⟨dst,.lookup t x y false,ty,pos,after,g⟩).run P w= .ok (.value (.int .i64 (F k))) w:=by
 obtain⟨r,es,clock,rfl,hJ,hb,hok,rfl⟩:=hm
 obtain⟨i,hi,_,_,hz⟩:=he.info
 subst hu
 have hf:=hk.find k (es.map de) (es.map (·.key)) w (by simp[de,Function.comp_def])
 rw[ja] at hf
 cases h:(es.map (·.key)).findIdx? (· =k) with
 |none=>
   rw[h] at hf
   have h0:eM es k=0:=by
     have hn:es.find? (λe=>decide (e.key=k))=none:=by
       rw[List.find?_eq_none]
       intro e he
       have:=List.findIdx?_eq_none_iff.1 h (e.key) (List.mem_map_of_mem he)
       simpa using this
     simp[eM,hn]
   simp[execOp,hx,hy,Instr.lookup,aL ht,ck hb,hk.check,hf,eF hi hz,h0]
 |some i=>
   rw[h] at hf
   simp[execOp,hx,hy,Instr.lookup,aL ht,ck hb,hk.check,hf]
theorem eN{K:Type}[DecidableEq K][Ky K]{γ:aw}{J:cx->Prop}{v u:Value}{F:K->Int}{kt et size bytes:Nat}{agg:Bool}(k:K)(ht:P.underlying t=some (.map kt et))(hk:l8 P kt K)(he:Tp P et agg size bytes (.int .i64 0))(hx:ev f x=v)(hm:Mp γ J w v F)(hy:ev f y=u)(hu:u=Ky.val k)
   (hn:∀w' s,aU J γ w γ w'->BB γ J w' v F s k->N (.tuple (List.toArray [.int .i64 (F k),.int .i64 s])) w'):fv P ⟨dst,.mapEntry t x y,ty,pos,after,g⟩ f w N:=by
 obtain⟨r,es,clock,rfl,hJ,hb,hok,rfl⟩:=hm
 obtain⟨q,hi,_,_,hz⟩:=he.info
 subst hu
 have hf:=hk.find k (es.map de) (es.map (·.key)) w (by simp[de,Function.comp_def])
 rw[ja] at hf
 cases h:(es.map (·.key)).findIdx? (· =k) with
 |none=>
   rw[h] at hf
   have hnk:∀e∈es,e.key≠k:=λe he=>by
     have:=List.findIdx?_eq_none_iff.1 h (e.key) (List.mem_map_of_mem he)
     simpa using this
   have h0:eM es k=0:=by
     have hn:es.find? (λe=>decide (e.key=k))=none:=by
       rw[List.find?_eq_none]
       intro e he
       simpa using hnk e he
     simp[eM,hn]
   refine aj (v:=.tuple (List.toArray [.int .i64 (eM es k),.int .i64 (clock:Int)])) (w':={w with heap:=w.heap.setIfInBounds r (.map ((es++[(⟨k,0,clock⟩:cT K)]).map de).toArray (clock+1))}) ?_ ?_
   rotate_left
   · refine hn _ _ (fE γ _ hJ) ⟨r,es++[⟨k,0,clock⟩],clock+1,rfl,hJ,f9 hb,⟨?_,?_,?_⟩,?_,es.length,⟨k,0,clock⟩,by simp,rfl,rfl⟩
     rotate_left 3
     · funext k'
       simp only[eM,List.find?_append]
       by_cases hkk:k=k'
       · subst hkk
         have hn:es.find? (λe=>decide (e.key=k))=none:=by
           rw[List.find?_eq_none]
           intro e he
           simpa using hnk e he
         simp[hn]
       · cases es.find? (λe=>decide (e.key=k'))<;>simp[hkk]
     · rw[List.map_append,List.nodup_append]
       refine⟨hok.keys,by simp,λa ha b hb=>?_⟩
       obtain⟨e,he,rfl⟩:=List.mem_map.1 ha
       have:b=k:=by simpa using hb
       subst this;exact hnk e he
     · rw[List.map_append,List.nodup_append]
       refine⟨hok.born,by simp,λa ha b hb=>?_⟩
       obtain⟨e,he,rfl⟩:=List.mem_map.1 ha
       have:b=clock:=by simpa using hb
       subst this;exact Nat.ne_of_lt (hok.lt e he)
     · intro e he
       rcases List.mem_append.1 he with h|h
       · exact Nat.lt_succ_of_lt (hok.lt e h)
       · obtain rfl:=List.mem_singleton.1 h;exact Nat.lt_succ_self _
   · simp[execOp,hx,hy,Instr.mapEntry,aL ht,ck hb,hk.check,hf,eF hi hz,e9 hb,h0,de,goInt]
 |some i=>
   rw[h] at hf
   obtain⟨hil,hke,_⟩:=List.findIdx?_eq_some_iff_getElem.1 h
   have hi':i<es.length:=by simpa using hil
   have hke':es[i].key=k:=by simpa using hke
   have hsame:(es.map de).modify i (λe=>{e with key:=Ky.val k})=es.map de:=by
     apply List.ext_getElem?
     intro j
     rw[List.getElem?_modify]
     by_cases hij:i=j
     · subst hij;simp[hi',de,hke']
     · simp[hij]
   refine aj (v:=.tuple (List.toArray [.int .i64 (eM es k),.int .i64 ((es[i].born:Nat):Int)])) (w':={w with heap:=w.heap.setIfInBounds r (.map (es.map de).toArray clock)}) ?_
     (hn _ _ (fE γ _ hJ) ⟨r,es,clock,rfl,hJ,f9 hb,hok,rfl,i,es[i],by simp,hke',rfl⟩)
   have hkb:=hk.bits k
   have hold:(Instr.keyThatStays (Ky.val k) (Ky.val k)).run P w= .ok (Ky.val k) w:=by simp[Instr.keyThatStays,hkb]
   simp[execOp,hx,hy,Instr.mapEntry,aL ht,ck hb,hk.check,hf,hi',de,hke',hold,e9 hb,goInt]
   rw[hsame]
theorem dK{K:Type}[DecidableEq K][Ky K]{γ:aw}{J:cx->Prop}{v:Value}{F:K->Int}{s m:Int}{k:K}(hx:ev f x=v)(hm:BB γ J w v F s k)(hy:ev f y= .int .i64 s)(hz:ev f z= .int .i64 m)
   (hn:∀w',aU J γ w γ w'->Mp γ J w' v (λk'=>if k'=k then m else F k')->N undef w'):fv P ⟨dst,.entryStore t x y z,ty,pos,after,g⟩ f w N:=by
 obtain⟨r,es,clock,rfl,hJ,hb,hok,rfl,i,e,hie,rfl,rfl⟩:=hm
 have hi':i<es.length:=(List.getElem?_eq_some_iff.1 hie).1
 have hei:es[i]=e:=(List.getElem?_eq_some_iff.1 hie).2
 have hfi:((es.map de).toArray.findIdx? (λq=>(q.born:Int)==(e.born:Int)))=some i:=by
   rw[List.findIdx?_toArray,List.findIdx?_eq_some_iff_getElem]
   refine⟨by simpa using hi',by simp[de,hei],λj hj=>?_⟩
   have hj':j<es.length:=by omega
   have hne:es[j].born≠e.born:=λh=>by
     have h1:(es.map (·.born))[j]'(by simpa using hj')=(es.map (·.born))[i]'(by simpa using hi'):=by simp[hei,h]
     have:=(List.getElem_inj hok.born).1 h1
     omega
   simp[de]
   omega
 have hmod:(es.map de).modify i (λq=>{q with val:=.int .i64 m})=(es.modify i (λq=>{q with val:=m})).map de:=by
   apply List.ext_getElem?
   intro j
   rw[List.getElem?_modify,List.getElem?_map,List.getElem?_map,List.getElem?_modify]
   by_cases hij:i=j
   · subst hij;simp[hi',de]
   · simp[hij]
 have hkeys:(es.modify i (λq=>{q with val:=m})).map (·.key)=es.map (·.key):=by
   apply List.ext_getElem?
   intro j
   rw[List.getElem?_map,List.getElem?_map,List.getElem?_modify]
   by_cases hij:i=j
   · subst hij;simp[hi']
   · simp[hij]
 have hborn:(es.modify i (λq=>{q with val:=m})).map (·.born)=es.map (·.born):=by
   apply List.ext_getElem?
   intro j
   rw[List.getElem?_map,List.getElem?_map,List.getElem?_modify]
   by_cases hij:i=j
   · subst hij;simp[hi']
   · simp[hij]
 refine fP (w':={w with heap:=w.heap.setIfInBounds r (.map ((es.modify i (λq=>{q with val:=m})).map de).toArray clock)}) ?_
   (hn _ (fE γ _ hJ) ⟨r,es.modify i (λq=>{q with val:=m}),clock,rfl,hJ,f9 hb,⟨by rw[hkeys];exact hok.keys,by rw[hborn];exact hok.born,λq hq=>?_⟩,?_⟩)
 · simp[execOp,hx,hy,hz,Instr.entryStore,ck hb,asInt,asIntOf,hfi,e9 hb]
   rw[<-hmod]
 · have:q.born∈es.map (·.born):=by rw[<-hborn];exact List.mem_map_of_mem hq
   obtain⟨q',hq',he'⟩:=List.mem_map.1 this
   rw[<-he'];exact hok.lt q' hq'
 · funext k'
   -- the entry of k' in the changed list
   have hfind:∀(l:List (cT K)),(l.map (·.key)).Nodup->∀j (hj:j<l.length),eM l l[j].key=l[j].val:=by
     intro l hl j hj
     have hf:l.find? (λe=>decide (e.key=l[j].key))=some l[j]:=by
       rw[List.find?_eq_some_iff_getElem]
       refine⟨by simp,j,hj,rfl,λq hq=>?_⟩
       have hne:l[q].key≠l[j].key:=λh=>by
         have h1:(l.map (·.key))[q]'(by simp;omega)=(l.map (·.key))[j]'(by simpa using hj):=by simp[h]
         have:=(List.getElem_inj hl).1 h1
         omega
       simpa using hne
     simp[eM,hf]
   by_cases hkk:k'=e.key
   · subst hkk
     rw[if_pos rfl]
     have h1:=hfind (es.modify i (λq=>{q with val:=m})) (by rw[hkeys];exact hok.keys) i (by simpa using hi')
     simp[List.getElem_modify,hei] at h1
     exact h1.symm
   · rw[if_neg hkk]
     have hfe:(es.modify i (λq=>{q with val:=m})).find? (λe=>decide (e.key=k'))=es.find? (λe=>decide (e.key=k')):=by
       have hgen:∀(l:List (cT K)) (i:Nat) (e:cT K),l[i]? =some e->k'≠e.key->(l.modify i (λq=>{q with val:=m})).find? (λe=>decide (e.key=k'))=l.find? (λe=>decide (e.key=k')):=by
         intro l
         induction l with
         |nil=>intro i e h;simp at h
         |cons a l ih=>
           intro i e h hne
           cases i with
           |zero=>
             obtain rfl:a=e:=by simpa using h
             have:decide (a.key=k')=false:=by simpa using λh=>hne h.symm
             simp[List.find?_cons,this]
           |succ i=>
             have h':l[i]? =some e:=by simpa using h
             simp only[List.modify_succ_cons,List.find?_cons,ih i e h' hne]
       exact hgen es i e hie hkk
     simp[eM,hfe]
end
instance:Ky Int where
 val k:=.int .i64 k
instance:Ky (Int×Int) where
 val k:=.agg (List.toArray [.int .i64 k.1,.int .i64 k.2])
theorem ci{P:Program}{kt e bytes:Nat}{z:Value}(ht:P.underlying kt=some (.array 2 e))(he:P.underlying e=some (.int .i64))(hp:Tp P e false 1 bytes z):l8 P kt (Int×Int) where
 check b k w:=by
   obtain⟨i,hi,hs,_⟩:=hp.info
   have h0:=λ(x y:Int)=>fO (P:=P) (w:=w) (cs:= #[.int .i64 x,.int .i64 y]) (o:=0) hp (v:=.int .i64 x) (by rfl)
   have h1:=λ(x y:Int)=>fO (P:=P) (w:=w) (cs:= #[.int .i64 x,.int .i64 y]) (o:=1) hp (v:=.int .i64 y) (by rfl)
   have hr:(List.range' 0 2 1)=[0,1]:=rfl
   have hc:∀x:Int,(Instr.checkKey b 9999 e (.int .i64 x)).run P w= .ok () w:=λx=>by
     rw[Instr.checkKey]
     simp only[Sem.run_bind,aL he,Result.andThen_ok]
     rfl
   show(Instr.checkKey b (9999+1) kt _).run P w=_
   rw[Instr.checkKey]
   simp only[Ky.val,Sem.run_bind,aL ht,Result.andThen_ok]
   rw[Std.Legacy.Range.forIn_eq_forIn_range']
   simp only[Std.Legacy.Range.size,Nat.sub_zero,Nat.reduceAdd,Nat.reduceSub,Nat.div_one,hr]
   simp[db hi,hs,h0,h1,hc]
 find k es ks w hm:=by
   have hfn:∀(es:List MapEntry) (i:Nat),es≠[]->(∀e∈es,∃c,e.key= .agg c)->Instr.findNow (.array 2 e) (Ky.val k) es i=none:=by
     intro es i h0 _
     cases es with
     |nil=>exact absurd rfl h0
     |cons a l=>simp[Instr.findNow,Instr.sameNow]
   have hask:∀(es:List MapEntry) (ks:List (Int×Int)) (i:Nat),es.map (·.key)=ks.map Ky.val->(Instr.findAsking kt (Ky.val k) es i).run P w= .ok ((ks.findIdx? (· =k)).bind λj=>(es[j]?).map λe=>(i+j,e.val)) w:=by
     intro es
     induction es with
     |nil=>
       intro ks i h
       have:ks=[]:=by cases ks<;>simp at h ⊢
       subst this;simp[Instr.findAsking]
     |cons a l ih=>
       intro ks i h
       cases ks with
       |nil=>simp at h
       |cons q ks=>
         simp only[List.map_cons,List.cons.injEq] at h
         obtain⟨ha,hl⟩:=h
         have heq:=jT (P:=P) (w:=w) (a:=k) (b:=q) ht he hp
         have heq':(Op.equal kt (Ky.val k) a.key).run P w= .ok (decide (k=q)) w:=by rw[ha];exact heq
         by_cases hkq:k=q
         · subst hkq
           simp[Instr.findAsking,heq',List.findIdx?_cons]
         · have hqk:¬q=k:=λh=>hkq h.symm
           have ih':=ih ks (i+1) hl
           simp[Instr.findAsking,heq',hkq,List.findIdx?_cons,hqk,ih']
           cases ks.findIdx? (λx=>decide (x=k)) with
           |none=>rfl
           |some j=>simp[Nat.add_comm 1 j,Nat.add_assoc]
   simp only[Instr.findKey,Sem.run_bind,aL ht,Result.andThen_ok]
   cases es with
   |nil=>
     have:ks=[]:=by cases ks<;>simp at hm ⊢
     subst this;simp[Instr.findNow]
   |cons a l=>
     rw[hfn (a::l) 0 (by simp) (λe he=>by
       have:e.key∈(a::l).map (·.key):=List.mem_map_of_mem he
       rw[hm] at this
       obtain⟨q,_,hq⟩:=List.mem_map.1 this
       exact⟨_,hq.symm⟩)]
     simp only[hask (a::l) ks 0 hm,Nat.zero_add]
 bits k:=by
   show Instr.sameBits (9999+1) _ _=true
   simp[Ky.val,Instr.sameBits]
theorem be{P:Program}{kt:Nat}(ht:P.underlying kt=some (.int .i64)):l8 P kt Int where
 check b k w:=by
   show(Instr.checkKey b (9999+1) kt _).run P w=_
   rw[Instr.checkKey]
   simp only[Ky.val,Sem.run_bind,aL ht,Result.andThen_ok]
   rfl
 find k es ks w hm:=by
   have hnow:∀(es:List MapEntry) (ks:List Int) (i:Nat),es.map (·.key)=ks.map Ky.val->Instr.findNow (.int .i64) (Ky.val k) es i=some ((ks.findIdx? (· =k)).bind λj=>(es[j]?).map λe=>(i+j,e.val)):=by
     intro es
     induction es with
     |nil=>
       intro ks i h
       have:ks=[]:=by cases ks<;>simp at h ⊢
       subst this;simp[Instr.findNow]
     |cons a l ih=>
       intro ks i h
       cases ks with
       |nil=>simp at h
       |cons q ks=>
         simp only[List.map_cons,List.cons.injEq] at h
         obtain⟨ha,hl⟩:=h
         have hs:Instr.sameNow (.int .i64) (Ky.val k) a.key=some (k==q):=by rw[ha];simp[Ky.val,Instr.sameNow]
         by_cases hkq:k=q
         · subst hkq
           simp[Instr.findNow,hs,List.findIdx?_cons]
         · have hqk:¬q=k:=λh=>hkq h.symm
           have ih':=ih ks (i+1) hl
           have hb:(k==q)=false:=by simpa using hkq
           simp[Instr.findNow,hs,hb,List.findIdx?_cons,hqk,ih']
           cases ks.findIdx? (λx=>decide (x=k)) with
           |none=>rfl
           |some j=>simp[Nat.add_comm 1 j,Nat.add_assoc]
   simp only[Instr.findKey,Sem.run_bind,aL ht,Result.andThen_ok,hnow es ks 0 hm,Nat.zero_add]
   rfl
 bits k:=by
   show Instr.sameBits (9999+1) _ _=true
   simp[Ky.val,Instr.sameBits]
end TL
namespace TL
open Go
theorem BB.mp{K:Type}[DecidableEq K][Ky K]{γ:aw}{J:cx->Prop}{w:World}{v:Value}{F:K->Int}{s:Int}{k:K}(h:BB γ J w v F s k):Mp γ J w v F:=by
 obtain⟨r,es,clock,h1,h2,h3,h4,h5,_⟩:=h
 exact⟨r,es,clock,h1,h2,h3,h4,h5⟩
end TL
set_option linter.all false
namespace TL
open Go
def Md{K:Type}[DecidableEq K][Ky K](γ:aw)(J:cx->Prop)(w:World)(v:Value)(F:K->Int)(D:List K):Prop:=
 ∃(r:Nat) (es:List (cT K)) (clock:Nat),v= .map (some r)/\J (γ r)/\w.heap[r]? =some (.map (es.map de).toArray clock)/\Am es clock/\F=eM es/\D=es.map (·.key)
variable{K:Type}[DecidableEq K][Ky K]
theorem Md.chg{γ γ':aw}{J J':cx->Prop}{w w':World}{v:Value}{F:K->Int}{D:List K}(h:Md γ J w v F D)(hc:aU J' γ w γ' w')(hJ:∀c,J c->¬J' c):Md γ' J w' v F D:=by
 obtain⟨r,es,clock,h1,h2,h3,h4⟩:=h
 exact⟨r,es,clock,h1,by rw[hc.col r (cX h3) (hJ _ h2)];exact h2,by rw[hc.keep r (cX h3) (hJ _ h2)];exact h3,h4⟩
theorem Md.mp{γ:aw}{J:cx->Prop}{w:World}{v:Value}{F:K->Int}{D:List K}(h:Md γ J w v F D):Mp γ J w v F:=by
 obtain⟨r,es,clock,h1,h2,h3,h4,h5,_⟩:=h
 exact⟨r,es,clock,h1,h2,h3,h4,h5⟩
theorem Md.bel{γ:aw}{J:cx->Prop}{w w':World}{v:Value}{F:K->Int}{D:List K}(h:Md γ J w v F D)(hc:eJ w.heap.size w w'):Md γ J w' v F D:=by
 obtain⟨r,es,clock,h1,h2,h3,h4⟩:=h
 exact⟨r,es,clock,h1,h2,by rw[hc.block r (cX h3)];exact h3,h4⟩
section
variable{P:Program}{f:Fr}{w:World}{dst:Option Tmp}{ty:TypeId}{pos:String}{after:Array Edge}{g:Option (Nat×Bool)}{t:TypeId}{x y z:Operand}{N:Value->World->Prop}
theorem eA(γ:aw)(J:cx->Prop)(c:cx)(hJ:J c)(hk:∀γ' w' v,aU no γ w γ' w'->Md (K:=K) γ' J w' v (λ_=>0) []->N v w'):fv P ⟨dst,.makeMap t none,ty,pos,after,g⟩ f w N:=by
 refine aj (v:=.map (some w.heap.size)) (w':=w.alloc (.map #[] 0)) (by simp[execOp,Instr.makeMap]) (hk (gA γ w.heap.size c) _ _ (fa γ w _ c) ⟨w.heap.size,[],0,rfl,by simpa[gA] using hJ,by rw[cZ];rfl,⟨by simp,by simp,by simp⟩,?_,rfl⟩)
 funext k;simp[eM]
theorem gD{γ:aw}{J:cx->Prop}{v u:Value}{F:K->Int}{D:List K}{kt et size bytes:Nat}{agg:Bool}(k:K)(ht:P.underlying t=some (.map kt et))(hk:l8 P kt K)(he:Tp P et agg size bytes (.int .i64 0))(hx:ev f x=v)(hm:Md γ J w v F D)(hy:ev f y=u)(hu:u=Ky.val k):
   (execOp (ev f) ⟨dst,.lookup t x y true,ty,pos,after,g⟩).run P w= .ok (.value (.tuple #[.int .i64 (F k),.bool (decide (k∈D))])) w:=by
 obtain⟨r,es,clock,rfl,hJ,hb,hok,rfl,rfl⟩:=hm
 obtain⟨i,hi,_,_,hz⟩:=he.info
 subst hu
 have hf:=hk.find k (es.map de) (es.map (·.key)) w (by simp[de,Function.comp_def])
 rw[ja] at hf
 cases h:(es.map (·.key)).findIdx? (· =k) with
 |none=>
   rw[h] at hf
   have hnk:k∉es.map (·.key):=λhmm=>by
     have:=List.findIdx?_eq_none_iff.1 h k hmm
     simp at this
   have h0:eM es k=0:=by
     have hn:es.find? (λe=>decide (e.key=k))=none:=by
       rw[List.find?_eq_none]
       intro e he
       have:=List.findIdx?_eq_none_iff.1 h (e.key) (List.mem_map_of_mem he)
       simpa using this
     simp[eM,hn]
   rw[decide_eq_false hnk]
   simp[execOp,hx,hy,Instr.lookup,aL ht,ck hb,hk.check,hf,eF hi hz,h0]
 |some i=>
   rw[h] at hf
   obtain⟨hil,hke,_⟩:=List.findIdx?_eq_some_iff_getElem.1 h
   have hke':(es.map (·.key))[i]=k:=by simpa using hke
   have hmm:k∈es.map (·.key):=by rw[<-hke'];exact List.getElem_mem hil
   rw[decide_eq_true hmm]
   simp[execOp,hx,hy,Instr.lookup,aL ht,ck hb,hk.check,hf]
theorem j7{γ:aw}{J:cx->Prop}{v:Value}{F:K->Int}{D:List K}{kt et:Nat}(ht:P.underlying t=some (.map kt et))(hx:ev f x=v)(hm:Md γ J w v F D):
   (execOp (ev f) ⟨dst,.call {callee:=.builtin .len,args:= #[x],argTypes:= #[t]},ty,pos,after,g⟩).run P w= .ok (.value (.int .i64 (D.length:Int))) w:=by
 obtain⟨r,es,clock,rfl,hJ,hb,hok,rfl,rfl⟩:=hm
 simp[execOp,resolve,invoke,builtin,hx,Builtin.len_,aL ht,ck hb,goInt]
end
end TL
namespace TL
open Go
variable{K:Type}[DecidableEq K][Ky K]
theorem po{es:List (cT K)}{m:Int}(hn:(es.map (·.key)).Nodup){i:Nat}{e:cT K}(hie:es[i]? =some e):eM (es.modify i (λq=>{q with val:=m}))=λk'=>if k'=e.key then m else eM es k':=by
 have hi':i<es.length:=(List.getElem?_eq_some_iff.1 hie).1
 have hei:es[i]=e:=(List.getElem?_eq_some_iff.1 hie).2
 have hkeys:(es.modify i (λq=>{q with val:=m})).map (·.key)=es.map (·.key):=by
   apply List.ext_getElem?
   intro j
   rw[List.getElem?_map,List.getElem?_map,List.getElem?_modify]
   by_cases hij:i=j
   · subst hij;simp[hi']
   · simp[hij]
 funext k'
 have hfind:∀(l:List (cT K)),(l.map (·.key)).Nodup->∀j (hj:j<l.length),eM l l[j].key=l[j].val:=by
   intro l hl j hj
   have hf:l.find? (λe=>decide (e.key=l[j].key))=some l[j]:=by
     rw[List.find?_eq_some_iff_getElem]
     refine⟨by simp,j,hj,rfl,λq hq=>?_⟩
     have hne:l[q].key≠l[j].key:=λh=>by
       have h1:(l.map (·.key))[q]'(by simp;omega)=(l.map (·.key))[j]'(by simpa using hj):=by simp[h]
       have:=(List.getElem_inj hl).1 h1
       omega
     simpa using hne
   simp[eM,hf]
 by_cases hkk:k'=e.key
 · subst hkk
   rw[if_pos rfl]
   have h1:=hfind (es.modify i (λq=>{q with val:=m})) (by rw[hkeys];exact hn) i (by simpa using hi')
   simp[List.getElem_modify,hei] at h1
   exact h1
 · rw[if_neg hkk]
   have hfe:(es.modify i (λq=>{q with val:=m})).find? (λe=>decide (e.key=k'))=es.find? (λe=>decide (e.key=k')):=by
     have hgen:∀(l:List (cT K)) (i:Nat) (e:cT K),l[i]? =some e->k'≠e.key->(l.modify i (λq=>{q with val:=m})).find? (λe=>decide (e.key=k'))=l.find? (λe=>decide (e.key=k')):=by
       intro l
       induction l with
       |nil=>intro i e h;simp at h
       |cons a l ih=>
         intro i e h hne
         cases i with
         |zero=>
           obtain rfl:a=e:=by simpa using h
           have:decide (a.key=k')=false:=by simpa using λh=>hne h.symm
           simp[List.find?_cons,this]
         |succ i=>
           have h':l[i]? =some e:=by simpa using h
           simp only[List.modify_succ_cons,List.find?_cons,ih i e h' hne]
     exact hgen es i e hie hkk
   simp[eM,hfe]
section
variable{P:Program}{f:Fr}{w:World}{dst:Option Tmp}{ty:TypeId}{pos:String}{after:Array Edge}{g:Option (Nat×Bool)}{t:TypeId}{x y z:Operand}{N:Value->World->Prop}
theorem eP{γ:aw}{J:cx->Prop}{v u:Value}{F:K->Int}{D:List K}{kt et:Nat}{m:Int}(k:K)(ht:P.underlying t=some (.map kt et))(hk:l8 P kt K)(hx:ev f x=v)(hm:Md γ J w v F D)(hy:ev f y=u)(hu:u=Ky.val k)(hz:ev f z= .int .i64 m)
   (hn:∀w',aU J γ w γ w'->Md γ J w' v (λk'=>if k'=k then m else F k') (if k∈D then D else D++[k])->N undef w'):fv P ⟨dst,.mapUpdate t x y z,ty,pos,after,g⟩ f w N:=by
 obtain⟨r,es,clock,rfl,hJ,hb,hok,rfl,rfl⟩:=hm
 subst hu
 have hf:=hk.find k (es.map de) (es.map (·.key)) w (by simp[de,Function.comp_def])
 rw[ja] at hf
 cases h:(es.map (·.key)).findIdx? (· =k) with
 |none=>
   rw[h] at hf
   have hnk:∀e∈es,e.key≠k:=λe he=>by
     have:=List.findIdx?_eq_none_iff.1 h (e.key) (List.mem_map_of_mem he)
     simpa using this
   have hnD:k∉es.map (·.key):=λhmm=>by obtain⟨e,he,hke⟩:=List.mem_map.1 hmm;exact hnk e he hke
   refine fP (w':={w with heap:=w.heap.setIfInBounds r (.map ((es++[(⟨k,m,clock⟩:cT K)]).map de).toArray (clock+1))}) ?_
     (hn _ (fE γ _ hJ) ⟨r,es++[⟨k,m,clock⟩],clock+1,rfl,hJ,f9 hb,⟨?_,?_,?_⟩,?_,by rw[if_neg hnD];simp⟩)
   · simp[execOp,hx,hy,hz,Instr.mapUpdate,aL ht,ck hb,hk.check,hf,e9 hb,de]
   · rw[List.map_append,List.nodup_append]
     refine⟨hok.keys,by simp,λa ha b hb=>?_⟩
     have:b=k:=by simpa using hb
     subst this;intro e;subst e;exact hnD ha
   · rw[List.map_append,List.nodup_append]
     refine⟨hok.born,by simp,λa ha b hb=>?_⟩
     obtain⟨e,he,rfl⟩:=List.mem_map.1 ha
     have:b=clock:=by simpa using hb
     subst this;exact Nat.ne_of_lt (hok.lt e he)
   · intro e he
     rcases List.mem_append.1 he with h|h
     · exact Nat.lt_succ_of_lt (hok.lt e h)
     · obtain rfl:=List.mem_singleton.1 h;exact Nat.lt_succ_self _
   · funext k'
     simp only[eM,List.find?_append]
     by_cases hkk:k'=k
     · subst hkk
       have hn:es.find? (λe=>decide (e.key=k'))=none:=by
         rw[List.find?_eq_none]
         intro e he
         simpa using hnk e he
       simp[hn]
     · have hkk':¬k=k':=λe=>hkk e.symm
       rw[if_neg hkk]
       cases es.find? (λe=>decide (e.key=k'))<;>simp[hkk']
 |some i=>
   rw[h] at hf
   obtain⟨hil,hke,_⟩:=List.findIdx?_eq_some_iff_getElem.1 h
   have hi':i<es.length:=by simpa using hil
   have hke':es[i].key=k:=by simpa using hke
   have hmod:(es.map de).modify i (λq=>{q with key:=Ky.val k,val:=.int .i64 m})=(es.modify i (λq=>{q with val:=m})).map de:=by
     apply List.ext_getElem?
     intro j
     rw[List.getElem?_modify,List.getElem?_map,List.getElem?_map,List.getElem?_modify]
     by_cases hij:i=j
     · subst hij;simp[hi',de,hke']
     · simp[hij]
   have hkeys:(es.modify i (λq=>{q with val:=m})).map (·.key)=es.map (·.key):=by
     apply List.ext_getElem?
     intro j
     rw[List.getElem?_map,List.getElem?_map,List.getElem?_modify]
     by_cases hij:i=j
     · subst hij;simp[hi']
     · simp[hij]
   have hborn:(es.modify i (λq=>{q with val:=m})).map (·.born)=es.map (·.born):=by
     apply List.ext_getElem?
     intro j
     rw[List.getElem?_map,List.getElem?_map,List.getElem?_modify]
     by_cases hij:i=j
     · subst hij;simp[hi']
     · simp[hij]
   have hkb:=hk.bits k
   have hold:(Instr.keyThatStays (Ky.val k) (Ky.val k)).run P w= .ok (Ky.val k) w:=by simp[Instr.keyThatStays,hkb]
   refine fP (w':={w with heap:=w.heap.setIfInBounds r (.map ((es.modify i (λq=>{q with val:=m})).map de).toArray clock)}) ?_
     (hn _ (fE γ _ hJ) ⟨r,es.modify i (λq=>{q with val:=m}),clock,rfl,hJ,f9 hb,⟨by rw[hkeys];exact hok.keys,by rw[hborn];exact hok.born,λq hq=>?_⟩,?_,by rw[if_pos (by rw[<-hke'];exact List.mem_map_of_mem (List.getElem_mem hi')),hkeys]⟩)
   · simp[execOp,hx,hy,hz,Instr.mapUpdate,aL ht,ck hb,hk.check,hf,hi',de,hke',hold,e9 hb]
     rw[<-hmod]
   · have:q.born∈es.map (·.born):=by rw[<-hborn];exact List.mem_map_of_mem hq
     obtain⟨q',hq',he'⟩:=List.mem_map.1 this
     rw[<-he'];exact hok.lt q' hq'
   · rw[po hok.keys (e:=es[i]) (by simp),hke']
end
end TL
set_option linter.all false
namespace TL
open Go
abbrev vi(x:Int):Value:=Value.int .i64 x
abbrev vp(b o:Nat):Value:=Value.pointer (some ⟨b,o,none⟩)
abbrev vn:Value:=Value.slice none 0 0
abbrev vt(l:List Value):Value:=Value.tuple (List.toArray l)
abbrev vg(l:List Value):Value:=Value.agg (List.toArray l)
theorem cg(L:List Nat){γ γ':aw}{w w':World}(h:aU (inl L) γ w γ' w'):aU (inl L) γ w γ' w':=h
theorem dt{p:Prop}[Decidable p](h:p):decide p=true:=decide_eq_true h
theorem df{p:Prop}[Decidable p](h:¬p):decide p=false:=decide_eq_false h
section
variable{P:Program}{all rest:List Oper}{K:Fr->World->Prop}{f:Fr}{w w':World}{x:Operand}
variable{dst:Option Tmp}{op:Op}{ty:TypeId}{pos:String}{after:Array Edge}{g:Option (Nat×Bool)}{o:Oper}
theorem lv(v:Value)(hw:cR all ⟨dst,op,ty,pos,after,g⟩ f=true)(h:(execOp (ev f) ⟨dst,op,ty,pos,after,g⟩).run P w= .ok (.value v) w')(hk:jl P all rest K (gg f dst v) w'):jl P all (⟨dst,op,ty,pos,after,g⟩::rest) K f w:=lq hw h hk
theorem lx{v:Value}(h:(execOp (ev f) ⟨dst,op,ty,pos,after,none⟩).run P w= .ok (.value v) w')(hk:jl P all rest K (gg f dst v) w'):jl P all (⟨dst,op,ty,pos,after,none⟩::rest) K f w:=lq rfl h hk
theorem lw(v:Value)(h:(execOp (ev f) ⟨dst,op,ty,pos,after,none⟩).run P w= .ok (.value v) w')(hk:jl P all rest K (gg f dst v) w'):jl P all (⟨dst,op,ty,pos,after,none⟩::rest) K f w:=lq rfl h hk
theorem mv(v:Value)(hk:jl P all rest K (gg f dst v) w)(h:ev f x=v:=by exact rfl):jl P all (⟨dst,.move x,ty,pos,after,none⟩::rest) K f w:=lq rfl (aq h) hk
theorem ma(v:Value)(hk:jl P all rest K (gg f dst v) w)(h:ev f x=v:=by exact rfl):jl P all (⟨dst,.assign x,ty,pos,after,none⟩::rest) K f w:=lq rfl (bm h) hk
theorem mi(v:Int)(hk:jl P all rest K (gg f dst (.int .i64 v)) w)(h:ev f x= .int .i64 v:=by exact rfl):jl P all (⟨dst,.move x,ty,pos,after,none⟩::rest) K f w:=lq rfl (aq h) hk
theorem ai(v:Int)(hk:jl P all rest K (gg f dst (.int .i64 v)) w)(h:ev f x= .int .i64 v:=by exact rfl):jl P all (⟨dst,.assign x,ty,pos,after,none⟩::rest) K f w:=lq rfl (bm h) hk
theorem mz{v:Value}(h:ev f x=v)(hk:jl P all rest K (gg f dst v) w):jl P all (⟨dst,.move x,ty,pos,after,none⟩::rest) K f w:=lq rfl (aq h) hk
theorem lo(h:fv P ⟨dst,op,ty,pos,after,none⟩ f w (λv w'=>jl P all rest K (gg f dst v) w')):jl P all (⟨dst,op,ty,pos,after,none⟩::rest) K f w:=cN rfl h
theorem wy{j:Nat}{x:Bool}{d:Nat}{b:Bool}(hx:b=x)(hg:o.guard=some (j,x):=by exact rfl)(hj:(all[j]?).bind (·.dst)=some d:=by exact rfl)(hb:f d= .bool b:=by exact rfl):cR all o f=true:=A9 hg hj hb hx
theorem wn{j:Nat}{x:Bool}{d:Nat}{b:Bool}(hx:b= !x)(hg:o.guard=some (j,x):=by exact rfl)(hj:(all[j]?).bind (·.dst)=some d:=by exact rfl)(hb:f d= .bool b:=by exact rfl):cR all o f=false:=Ah hg hj hb hx
variable{C:World->Prop}{KQ:Fr->Prop}
theorem qv(v:Value)(h:∀w,C w->(execOp (ev f) ⟨dst,op,ty,pos,after,none⟩).run P w= .ok (.value v) w)(hk:lM P all C rest KQ (gg f dst v)):lM P all C (⟨dst,op,ty,pos,after,none⟩::rest) KQ f:=c8 rfl h hk
theorem qx{v:Value}(h:∀w,C w->(execOp (ev f) ⟨dst,op,ty,pos,after,none⟩).run P w= .ok (.value v) w)(hk:lM P all C rest KQ (gg f dst v)):lM P all C (⟨dst,op,ty,pos,after,none⟩::rest) KQ f:=c8 rfl h hk
theorem qm(v:Value)(hk:lM P all C rest KQ (gg f dst v))(h:ev f x=v:=by exact rfl):lM P all C (⟨dst,.move x,ty,pos,after,none⟩::rest) KQ f:=c8 rfl (λ_ _=>aq h) hk
theorem qz{v:Value}(h:ev f x=v)(hk:lM P all C rest KQ (gg f dst v)):lM P all C (⟨dst,.move x,ty,pos,after,none⟩::rest) KQ f:=c8 rfl (λ_ _=>aq h) hk
end
section
variable{P:Program}{n:Nat}{l:List Oper}{S:World->Prop}{K:Fr->World->Prop}{f:Fr}{w:World}{done:List Nat}{fuel:Nat}{qs:List Nat}
variable{dst:Option Tmp}{op:Op}{ty:TypeId}{pos:String}{after:Array Edge}{g:Option (Nat×Bool)}{v:Value}
theorem ht(i:Nat)(hi:l[i]? =some ⟨dst,op,ty,pos,after,none⟩)(hS:S w)(h:∀w,S w->(execOp (ev f) ⟨dst,op,ty,pos,after,none⟩).run P w= .ok (.value v) w)(hk:u9 P n l S K fuel (i::done) (gg f dst v) w)(hn:gK l=true:=by kernel_rfl)(hc:(gx l done i&&iQ l done i&&jJ n ⟨dst,op,ty,pos,after,none⟩)=true:=by kernel_rfl):u9 P n l S K (fuel+1) done f w:=AV i hi hn hc rfl hS h hk
theorem xv(i:Nat)(M:List Nat)(hi:l[i]? =some ⟨dst,op,ty,pos,after,none⟩)(h:(execOp (ev f) ⟨dst,op,ty,pos,after,none⟩).run P w= .ok (.value v) w)(hk:gP P n l qs K fuel (i::done) (gg f dst v) w)(hn:gK l=true:=by kernel_rfl)(hc:(qs.contains i&&gx l done i&&iQ l done i&&o9 l qs done M i&&jJ n ⟨dst,op,ty,pos,after,none⟩)=true:=by kernel_rfl):gP P n l qs K (fuel+1) done f w:=fi i M hi hn hc rfl h hk
theorem xh(i:Nat)(M:List Nat)(hi:l[i]? =some ⟨dst,op,ty,pos,after,none⟩)(h:∀w',eJ w.heap.size w w'->(execOp (ev f) ⟨dst,op,ty,pos,after,none⟩).run P w'= .ok (.value v) w')(hk:gP P n l qs K fuel (i::done) (gg f dst v) w)(hn:gK l=true:=by kernel_rfl)(hc:(qs.contains i&&gx l done i&&iQ l done i&&oc l qs done M i&&jJ n ⟨dst,op,ty,pos,after,none⟩)=true:=by kernel_rfl):gP P n l qs K (fuel+1) done f w:=AC i M hi hn hc rfl h hk
theorem xp(i:Nat)(hi:l[i]? =some ⟨dst,op,ty,pos,after,none⟩)(h:∀w,(execOp (ev f) ⟨dst,op,ty,pos,after,none⟩).run P w= .ok (.value v) w)(hk:gP P n l qs K fuel (i::done) (gg f dst v) w)(hn:gK l=true:=by kernel_rfl)(hc:(qs.contains i&&gx l done i&&iQ l done i&&jJ n ⟨dst,op,ty,pos,after,none⟩)=true:=by kernel_rfl):gP P n l qs K (fuel+1) done f w:=cF i hi hn hc rfl h hk
end
section
variable{γ γ':aw}{w w':World}{v:Value}{j k:Nat}{L:List Nat}
theorem b6.ca{w0:World}(h:b6 w0 γ w)(hc:aU (inl L) γ w γ' w')(hj:L.contains 0=false:=by exact rfl):b6 w0 γ' w':=h.chg hc (bI hj)
theorem b6.ce{w0:World}(h:b6 w0 γ w)(hc:aU (is k) γ w γ' w')(hj:Nat.beq 0 k=false:=by exact rfl):b6 w0 γ' w':=h.chg hc (fT hj)
theorem b6.cn{w0:World}(h:b6 w0 γ w)(hc:aU no γ w γ' w'):b6 w0 γ' w':=h.chg hc (d4 _)
theorem Bx.ca{b:Nat}{cs:List Value}(h:Bx γ (is j) w b cs)(hc:aU (inl L) γ w γ' w')(hj:L.contains j=false:=by exact rfl):Bx γ' (is j) w' b cs:=h.chg hc (bI hj)
theorem Bx.ce{b:Nat}{cs:List Value}(h:Bx γ (is j) w b cs)(hc:aU (is k) γ w γ' w')(hj:Nat.beq j k=false:=by exact rfl):Bx γ' (is j) w' b cs:=h.chg hc (fT hj)
theorem Bx.cn{J:cx->Prop}{b:Nat}{cs:List Value}(h:Bx γ J w b cs)(hc:aU no γ w γ' w'):Bx γ' J w' b cs:=h.chg hc (d4 _)
theorem Sl.ca{α:Type}[Rp α]{xs:List α}(h:Sl γ (is j) w v xs)(hc:aU (inl L) γ w γ' w')(hj:L.contains j=false:=by exact rfl):Sl γ' (is j) w' v xs:=h.chg hc (bI hj)
theorem Sl.ce{α:Type}[Rp α]{xs:List α}(h:Sl γ (is j) w v xs)(hc:aU (is k) γ w γ' w')(hj:Nat.beq j k=false:=by exact rfl):Sl γ' (is j) w' v xs:=h.chg hc (fT hj)
theorem Sl.cn{α:Type}[Rp α]{S:cx->Prop}{xs:List α}(h:Sl γ S w v xs)(hc:aU no γ w γ' w'):Sl γ' S w' v xs:=h.chg hc (d4 _)
theorem Ow.ca{α:Type}[Rp α]{xs:List α}(h:Ow γ (is j) (is j) w v xs)(hc:aU (inl L) γ w γ' w')(hj:L.contains j=false:=by exact rfl):Ow γ' (is j) (is j) w' v xs:=h.chg hc (bI hj) (bI hj)
theorem Ow.ce{α:Type}[Rp α]{xs:List α}(h:Ow γ (is j) (is j) w v xs)(hc:aU (is k) γ w γ' w')(hj:Nat.beq j k=false:=by exact rfl):Ow γ' (is j) (is j) w' v xs:=h.chg hc (fT hj) (fT hj)
theorem Ow.cn{α:Type}[Rp α]{J S:cx->Prop}{xs:List α}(h:Ow γ J S w v xs)(hc:aU no γ w γ' w'):Ow γ' J S w' v xs:=h.chg hc (d4 _) (d4 _)
theorem dr.ca{α:Type}[Rp α]{xs:List (List α)}(h:dr γ j w v xs)(hc:aU (inl L) γ w γ' w')(hj:L.contains j=false:=by exact rfl):dr γ' j w' v xs:=h.chg hc (bI hj)
theorem dr.ce{α:Type}[Rp α]{xs:List (List α)}(h:dr γ j w v xs)(hc:aU (is k) γ w γ' w')(hj:Nat.beq j k=false:=by exact rfl):dr γ' j w' v xs:=h.chg hc (fT hj)
theorem dr.cn{α:Type}[Rp α]{xs:List (List α)}(h:dr γ j w v xs)(hc:aU no γ w γ' w'):dr γ' j w' v xs:=h.chg hc (d4 _)
def Bn(δ g:aw)(_w:World)(ren:Nat->Nat):Prop:=∃(B:Nat) (γ:aw),g=TL.glue B γ δ ren/\∀b,b<B->(δ b).1=0
theorem i8{δ:aw}(γ:aw)(fr:dU w δ w')(ren:Nat->Nat):∃g,aU no γ w g w'/\Bn δ g w' ren:=
 ⟨_,xg fr.below γ δ ren,_,γ,rfl,fr.col⟩
theorem Ow.gl{α:Type}[Rp α]{δ g:aw}{ren:Nat->Nat}{i:Nat}{xs:List α}(h:Ow δ (is i) (is i) w v xs)(G:Bn δ g w ren)(k:Nat)(hi:Nat.beq i 0=false:=by exact rfl)(hr:ren i=k:=by exact rfl):Ow g (is k) (is k) w v xs:=by
 obtain⟨B,γ,rfl,h1⟩:=G
 exact h.glue h1 hi hr
theorem dr.gl{α:Type}[Rp α]{δ g:aw}{ren:Nat->Nat}{i:Nat}{xs:List (List α)}(h:dr δ i w v xs)(G:Bn δ g w ren)(k:Nat)(hi:Nat.beq i 0=false:=by exact rfl)(hr:ren i=k:=by exact rfl):dr g k w v xs:=by
 obtain⟨B,γ,rfl,h1⟩:=G
 exact h.glue h1 hi hr
end
section
variable{K:Type}[DecidableEq K][Ky K]
theorem Md.ca{γ γ':aw}{j:Nat}{L:List Nat}{w w':World}{v:Value}{F:K->Int}{D:List K}(h:Md γ (is j) w v F D)(hc:aU (inl L) γ w γ' w')(hj:L.contains j=false:=by exact rfl):Md γ' (is j) w' v F D:=h.chg hc (bI hj)
theorem Md.ce{γ γ':aw}{j k:Nat}{w w':World}{v:Value}{F:K->Int}{D:List K}(h:Md γ (is j) w v F D)(hc:aU (is k) γ w γ' w')(hj:Nat.beq j k=false:=by exact rfl):Md γ' (is j) w' v F D:=h.chg hc (fT hj)
theorem Md.cn{γ γ':aw}{J:cx->Prop}{w w':World}{v:Value}{F:K->Int}{D:List K}(h:Md γ J w v F D)(hc:aU no γ w γ' w'):Md γ' J w' v F D:=h.chg hc (d4 _)
theorem Mp.ca{γ γ':aw}{j:Nat}{L:List Nat}{w w':World}{v:Value}{F:K->Int}(h:Mp γ (is j) w v F)(hc:aU (inl L) γ w γ' w')(hj:L.contains j=false:=by exact rfl):Mp γ' (is j) w' v F:=h.chg hc (bI hj)
theorem Mp.ce{γ γ':aw}{j k:Nat}{w w':World}{v:Value}{F:K->Int}(h:Mp γ (is j) w v F)(hc:aU (is k) γ w γ' w')(hj:Nat.beq j k=false:=by exact rfl):Mp γ' (is j) w' v F:=h.chg hc (fT hj)
theorem Mp.cn{γ γ':aw}{J:cx->Prop}{w w':World}{v:Value}{F:K->Int}(h:Mp γ J w v F)(hc:aU no γ w γ' w'):Mp γ' J w' v F:=h.chg hc (d4 _)
end
end TL
set_option linter.all false
namespace TL
open Go Go.Proofs Go.Shelf Go.Sort Go.Lib
theorem eJ.grown2{w w':World}(h:eJ w.heap.size w w'):∃q os,w'=grow (w.drewN q) os:=by
 obtain⟨h1,h2,h3,h4,h5,h6⟩:=h
 refine⟨w'.drawn-w.drawn,w'.heap.extract w.heap.size w'.heap.size,?_⟩
 have hh:w'.heap=w.heap++w'.heap.extract w.heap.size w'.heap.size:=by
   apply Array.ext_getElem?
   intro k
   rw[Array.getElem?_append]
   by_cases hk:k<w.heap.size
   · rw[if_pos hk];exact h5 k hk
   · rw[if_neg hk,Array.getElem?_extract]
     split
     · rw[show w.heap.size+(k-w.heap.size)=k by omega]
     · exact Array.getElem?_eq_none (by omega)
 have hd:w'.drawn=w.drawn+(w'.drawn-w.drawn):=by omega
 cases w with
 |mk a b c d e=>
   cases w' with
   |mk a' b' c' d' e'=>
     simp only[grow,World.drewN] at*
     subst h1 h2 h3
     simp only[World.mk.injEq,true_and,and_true]
     exact⟨hh,hd⟩
section
variable{γ:aw}{w:World}{j b:Nat}
theorem oE{d:Array Value}{c:Array Value}{k:Nat}(h:k<d.size)(hc:k<c.size):(putCells id 0 d c)[k]? =some d[k]! :=by
 simp[putCells,h,hc]
end
end TL
set_option linter.all false
namespace TL
end TL
namespace TL
structure dT(out:List (List Int))(g:cv)(k:Nat):Prop where
  len:(out.length:Int)=g.1
  at_:∀v,0<=v->v<g.1->gI out v=jI g v k
theorem dT.start{g:cv}(h:0<=g.1):dT (List.replicate g.1.toNat []) g 0:=⟨by simp;omega,λv h0 h1=>by rw[lT h0 (by omega)];simp[jI]⟩
theorem dT.next{out:List (List Int)}{g:cv}{k:Nat}(h:dT out g k)(h1:0<=(gI g.2 k).1)(h2:(gI g.2 k).1<g.1)(h3:0<=(gI g.2 k).2)(h4:(gI g.2 k).2<g.1){a b:Int}(ha:a=2*(k:Int))(hb:b=2*(k:Int)+1):
   dT ((out.set (gI g.2 k).1.toNat (gI out (gI g.2 k).1++[a])).set (gI g.2 k).2.toNat (gI (out.set (gI g.2 k).1.toNat (gI out (gI g.2 k).1++[a])) (gI g.2 k).2++[b])) g (k+1):=by
 have hl:=h.len
 refine⟨by simpa using hl,λv h5 h6=>?_⟩
 rw[eI h3 (by simp;omega) h5,eI h1 (by omega) h3,eI h1 (by omega) h5,r4,h.at_ _ h1 h2,h.at_ _ h3 h4,h.at_ v h5 h6,ha,hb]
 by_cases e2:v=(gI g.2 (k:Int)).2
 · by_cases e1:v=(gI g.2 (k:Int)).1
   · rw[<-e1,<-e2];simp
   · have e3:¬(gI g.2 (k:Int)).2=(gI g.2 (k:Int)).1:=λh=>e1 (e2.trans h)
     have e6:¬(gI g.2 (k:Int)).1=(gI g.2 (k:Int)).2:=λh=>e3 h.symm
     simp[e2,e3,e6]
 · have e4:¬(gI g.2 (k:Int)).2=v:=λh=>e2 h.symm
   by_cases e1:v=(gI g.2 (k:Int)).1
   · rw[if_neg e2,if_pos e1,if_neg e4,if_pos e1.symm,<-e1];simp
   · have e5:¬(gI g.2 (k:Int)).1=v:=λh=>e1 h.symm
     rw[if_neg e2,if_neg e1,if_neg e4,if_neg e5];simp
end TL
namespace TL
end TL
set_option linter.all false
namespace TL
def fZ(g:cv)(h:Int):Int:=pI (gI g.2 (h/2)) (1-h%2)
theorem mt{g:cv}(hm:c7 g){h:Int}(h0:0<=h)(h1:h<2*(g.2.length:Int)):0<=fZ g h/\fZ g h<g.1:=by
 have hok:=hm.2.2.2 _ (bC (xs:=g.2) (i:=h/2) (by omega) (by omega))
 unfold pb at hok
 unfold fZ pI
 split<;>omega
structure Bf where
 order:List Int
 by_:List Int
 far:List Int
def jK(g:cv)(v:Int)(s:Bf)(h:Int):Bf:=
 if gI s.far (fZ g h)<0 then⟨s.order++[fZ g h],s.by_.set (fZ g h).toNat h,s.far.set (fZ g h).toNat (gI s.far v+1)⟩ else s
def A3(g:cv)(v:Int)(s:Bf):Bf:=(gV g v).foldl (jK g v) s
def xE(g:cv):Nat->Nat->Bf->Bf
 |0,_,s=>s
 |n+1,i,s=>if i<s.order.length then xE g n (i+1) (A3 g (gI s.order (i:Int)) s) else s
def gj(g:cv)(s0:Int):Bf:=⟨[s0],List.replicate g.1.toNat (-1),(List.replicate g.1.toNat (-1)).set s0.toNat 0⟩
def gW(g:cv)(s0:Int):Bf:=xE g g.1.toNat 0 (gj g s0)
structure mr(g:cv)(s:Bf):Prop where
 far:(s.far.length:Int)=g.1
 by_:(s.by_.length:Int)=g.1
 nodup:s.order.Nodup
 rng:∀x∈s.order,0<=x/\x<g.1
 iff:∀w,0<=w->w<g.1->(gI s.far w<0↔w∉s.order)
 le:∀w,0<=w->w<g.1->gI s.far w<=s.order.length
theorem mr.start{g:cv}{s0:Int}(h0:0<=s0)(h1:s0<g.1):mr g (gj g s0):=by
 refine⟨by simp[gj];omega,by simp[gj];omega,by simp[gj],by simp[gj];omega,λw hw0 hw1=>?_,λw hw0 hw1=>?_⟩
 · simp only[gj]
   rw[eI h0 (by simp;omega) hw0]
   by_cases e:w=s0
   · subst e;simp
   · rw[if_neg e,lT hw0 (by omega)];simp[e]
 · simp only[gj]
   rw[eI h0 (by simp;omega) hw0]
   by_cases e:w=s0
   · subst e;simp
   · rw[if_neg e,lT hw0 (by omega)];simp
theorem mr.len{g:cv}{s:Bf}(h:mr g s)(hg:0<=g.1):(s.order.length:Int)<=g.1:=xQ hg h.nodup h.rng
theorem mr.one{g:cv}{s:Bf}{v h:Int}(hs:mr g s)(hv:v∈s.order)(h0:0<=fZ g h)(h1:fZ g h<g.1):mr g (jK g v s h):=by
 obtain⟨hv0,hv1⟩:=hs.rng v hv
 unfold jK
 by_cases c:gI s.far (fZ g h)<0
 · rw[if_pos c]
   have hn:=(hs.iff _ h0 h1).1 c
   have hf:=hs.far
   have hlv:=hs.le v hv0 hv1
   refine⟨by simpa using hs.far,by simpa using hs.by_,?_,λx hx=>?_,λw hw0 hw1=>?_,λw hw0 hw1=>?_⟩
   · rw[List.nodup_append]
     refine⟨hs.nodup,by simp,λa ha b hb=>?_⟩
     obtain rfl:=List.mem_singleton.1 hb
     intro e;subst e;exact hn ha
   · rcases List.mem_append.1 hx with hx|hx
     · exact hs.rng x hx
     · obtain rfl:=List.mem_singleton.1 hx;exact⟨h0,h1⟩
   · simp only
     rw[eI h0 (by omega) hw0]
     by_cases e:w=fZ g h
     · subst e
       rw[if_pos rfl]
       have hx:¬gI s.far v<0:=λhh=>(hs.iff v hv0 hv1).1 hh hv
       constructor
       · intro hh;omega
       · intro hh;simp at hh
     · rw[if_neg e,hs.iff w hw0 hw1];simp[e]
   · simp only
     rw[eI h0 (by omega) hw0]
     by_cases e:w=fZ g h
     · subst e;rw[if_pos rfl];simp;omega
     · rw[if_neg e]
       have:=hs.le w hw0 hw1
       simp;omega
 · rw[if_neg c];exact hs
end TL
namespace TL
theorem lG{g:cv}{v h:Int}(hh:h∈gV g v):(0<=h/\h<2*(g.2.length:Int))/\dz g h=v:=by
 unfold gV jI at hh
 obtain⟨h1,h2⟩:=List.mem_filter.1 hh
 obtain⟨k,hk,rfl⟩:=List.mem_map.1 h1
 have:=List.mem_range.1 hk
 exact⟨by omega,by simpa using h2⟩
theorem tG(g:cv)(v:Int)(s:Bf)(h:Int):∃t,(jK g v s h).order=s.order++t:=by
 unfold jK
 split
 · exact⟨_,rfl⟩
 · exact⟨[],by simp⟩
structure dO(s:Bf)(g:cv)(s0:Bf)(v:Int)(j:Nat):Prop where
  eq:s=((gV g v).take j).foldl (jK g v) s0
  ok:mr g s
  mem:v∈s.order
  pre:∃t,s.order=s0.order++t
theorem dO.start{g:cv}{s0:Bf}{v:Int}(h:mr g s0)(hv:v∈s0.order):dO s0 g s0 v 0:=⟨rfl,h,hv,[],by simp⟩
theorem dO.next{s s0:Bf}{g:cv}{v:Int}{j:Nat}(h:dO s g s0 v j)(hm:c7 g)(hj:(j:Int)<(gV g v).length):dO (jK g v s (gI (gV g v) (j:Int))) g s0 v (j+1):=by
 have hin:=(lG (bC (xs:=gV g v) (i:=(j:Int)) (by omega) hj)).1
 have ht:=mt hm hin.1 hin.2
 obtain⟨t,ht2⟩:=h.pre
 obtain⟨t',ht3⟩:=tG g v s (gI (gV g v) (j:Int))
 refine⟨by rw[aT hj,List.foldl_append,<-h.eq];rfl,h.ok.one h.mem ht.1 ht.2,by rw[ht3];simp[h.mem],t++t',by rw[ht3,ht2,List.append_assoc]⟩
theorem dO.done{s s0:Bf}{g:cv}{v:Int}{j:Nat}(h:dO s g s0 v j)(hj:¬(j:Int)<(gV g v).length):s=A3 g v s0:=by
 rw[h.eq,List.take_of_length_le (by omega)];rfl
structure fM(s:Bf)(g:cv)(s0:Int)(i:Nat):Prop where
  ok:mr g s
  le:(i:Int)<=s.order.length
  eq:xE g (g.1.toNat-i) i s=gW g s0
theorem fM.start{g:cv}{s0:Int}(h0:0<=s0)(h1:s0<g.1):fM (gj g s0) g s0 0:=⟨mr.start h0 h1,by omega,rfl⟩
theorem fM.next{s s':Bf}{g:cv}{s0:Int}{i j:Nat}(h:fM s g s0 i)(hg:0<=g.1)(hi:(i:Int)<s.order.length)(hr:dO s' g s (gI s.order (i:Int)) j)(hj:¬(j:Int)<(gV g (gI s.order (i:Int))).length):fM s' g s0 (i+1):=by
 obtain⟨t,ht⟩:=hr.pre
 have hl:=h.ok.len hg
 refine⟨hr.ok,by rw[ht];simp;omega,?_⟩
 rw[<-h.eq,show g.1.toNat-i=(g.1.toNat-(i+1))+1 by omega]
 simp only[xE]
 rw[if_pos (by omega),hr.done hj]
theorem fM.done{s:Bf}{g:cv}{s0:Int}{i:Nat}(h:fM s g s0 i)(hi:¬(i:Int)<s.order.length):s=gW g s0:=by
 rw[<-h.eq]
 cases g.1.toNat-i with
 |zero=>rfl
 |succ n=>simp only[xE];rw[if_neg (by omega)]
def jL(g:cv)(p:List Int×Int)(v:Int):List Int×Int:=
 if 0<=gI p.1 v then p else((gW g v).order.foldl (λl w=>l.set w.toNat p.2) p.1,p.2+1)
def cE(g:cv)(k:Nat):List Int×Int:=(cz k).foldl (jL g) (List.replicate g.1.toNat (-1),0)
def bu(g:cv):List Int×Int×Int:=if c7 g then((cE g g.1.toNat).1,(cE g g.1.toNat).2,0) else([],0,1)
theorem iW(g:cv)(k:Nat):cE g (k+1)=jL g (cE g k) (k:Int):=by
 unfold cE
 rw[dX,List.foldl_append];rfl
theorem ns(g:cv):∀k:Nat,(cE g k).1.length=g.1.toNat/\0<=(cE g k).2/\(cE g k).2<=k:=by
 intro k
 induction k with
 |zero=>simp[cE,cz]
 |succ k ih=>
   rw[iW]
   unfold jL
   have key:∀(l:List Int) (p:List Int) (x:Int),(l.foldl (λl w=>l.set w.toNat x) p).length=p.length:=by
     intro l
     induction l with
     |nil=>intro p x;rfl
     |cons a l ih=>intro p x;rw[List.foldl_cons,ih];simp
   split
   · exact⟨ih.1,ih.2.1,by omega⟩
   · simp only
     rw[key]
     exact⟨ih.1,by omega,by omega⟩
theorem n5{l p:List Int}{x:Int}{k:Nat}(hk:(k:Int)<l.length):(l.take (k+1)).foldl (λl w=>l.set w.toNat x) p=((l.take k).foldl (λl w=>l.set w.toNat x) p).set (gI l (k:Int)).toNat x:=by
 rw[aT hk,List.foldl_append];rfl
theorem k9(x:Int):∀(l p:List Int),(l.foldl (λl w=>l.set w.toNat x) p).length=p.length
 |[],p=>rfl
 |a::l,p=>by rw[List.foldl_cons,k9 x l];simp
end TL
namespace TL
theorem tn{k n:Nat}{x:Int}(hk:k<n):(List.replicate k x++List.replicate (n-k) 0).set (k:Int).toNat x=List.replicate (k+1) x++List.replicate (n-(k+1)) (0:Int):=by
 have e:n-k=(n-(k+1))+1:=by omega
 rw[e,List.replicate_succ]
 simp only[Int.toNat_natCast]
 rw[List.set_append_right _ _ (by simp)]
 simp only[List.length_replicate,Nat.sub_self,List.set_cons_zero]
 rw[List.replicate_succ']
 simp
theorem dT.rl{out:List (List Int)}{g:cv}{k:Nat}(h:dT out g k){v:Int}(h0:0<=v)(h1:v<g.1):((gI out v).length:Int)<=2*(k:Int):=by
 rw[h.at_ v h0 h1]
 have:=tf g v k
 omega
theorem dT.rl2{out:List (List Int)}{g:cv}{k:Nat}(h:dT out g k){u v:Int}(h2:0<=u)(h3:u<g.1)(h0:0<=v)(h1:v<g.1)(a:Int):((gI (out.set u.toNat (gI out u++[a])) v).length:Int)<=2*(k:Int)+1:=by
 have hl:=h.len
 rw[eI h2 (by omega) h0]
 split
 · have:=h.rl h2 h3;simp;omega
 · have:=h.rl h0 h1;omega
theorem dT.done{out:List (List Int)}{g:cv}{k:Nat}(h:dT out g k)(hk:k=g.2.length):∀v,0<=v->v<g.1->gI out v=gV g v:=λv h0 h1=>by
 subst hk;exact h.at_ v h0 h1
theorem dO.yes{O B F:List Int}{s0:Bf}{g:cv}{v h:Int}{j:Nat}(hr:dO ⟨O,B,F⟩ g s0 v j)(hm:c7 g)(hj:(j:Int)<(gV g v).length)(hh:h=gI (gV g v) (j:Int))(c:gI F (fZ g h)<0):dO ⟨O++[fZ g h],B.set (fZ g h).toNat h,F.set (fZ g h).toNat (gI F v+1)⟩ g s0 v (j+1):=by
 have h1:=hr.next hm hj
 rw[<-hh] at h1
 unfold jK at h1
 rw[if_pos (show gI (Bf.mk O B F).far (fZ g h)<0 from c)] at h1
 exact h1
theorem dO.no{O B F:List Int}{s0:Bf}{g:cv}{v h:Int}{j:Nat}(hr:dO ⟨O,B,F⟩ g s0 v j)(hm:c7 g)(hj:(j:Int)<(gV g v).length)(hh:h=gI (gV g v) (j:Int))(c:¬gI F (fZ g h)<0):dO ⟨O,B,F⟩ g s0 v (j+1):=by
 have h1:=hr.next hm hj
 rw[<-hh] at h1
 unfold jK at h1
 rw[if_neg (show¬gI (Bf.mk O B F).far (fZ g h)<0 from c)] at h1
 exact h1
theorem dO.facts{O B F:List Int}{s0:Bf}{g:cv}{v:Int}{j:Nat}(hr:dO ⟨O,B,F⟩ g s0 v j)(hg:0<=g.1):(F.length:Int)=g.1/\(B.length:Int)=g.1/\(O.length:Int)<=g.1/\(0<=v/\v<g.1)/\gI F v<=O.length/\¬gI F v<0:=by
 have h1:=hr.ok
 have hv:=h1.rng v hr.mem
 exact⟨h1.far,h1.by_,h1.len hg,hv,h1.le v hv.1 hv.2,λhh=>(h1.iff v hv.1 hv.2).1 hh hr.mem⟩
theorem fM.facts{O B F:List Int}{g:cv}{s0:Int}{i:Nat}(hr:fM ⟨O,B,F⟩ g s0 i)(hg:0<=g.1):(F.length:Int)=g.1/\(B.length:Int)=g.1/\(O.length:Int)<=g.1/\(i:Int)<=O.length:=⟨hr.ok.far,hr.ok.by_,hr.ok.len hg,hr.le⟩
theorem fM.node{O B F:List Int}{g:cv}{s0:Int}{i:Nat}(hr:fM ⟨O,B,F⟩ g s0 i)(hi:(i:Int)<O.length):0<=gI O (i:Int)/\gI O (i:Int)<g.1:=hr.ok.rng _ (bC (by omega) hi)
theorem fM.row{O B F:List Int}{g:cv}{s0:Int}{i:Nat}(hr:fM ⟨O,B,F⟩ g s0 i)(hi:(i:Int)<O.length):dO ⟨O,B,F⟩ g ⟨O,B,F⟩ (gI O (i:Int)) 0:=dO.start hr.ok (bC (by omega) hi)
theorem qZ{g:cv}{s0:Int}{O B F:List Int}{i:Nat}(h:fM ⟨O,B,F⟩ g s0 i)(hi:¬(i:Int)<O.length):O=(gW g s0).order/\∀x∈O,0<=x/\x<g.1:=⟨congrArg Bf.order (h.done hi),h.ok.rng⟩
end TL
namespace TL
theorem rj{g:cv}{part:List Int}{n:Int}{q:Nat}(h:part=(cE g q).1/\n=(cE g q).2)(c:0<=gI part (q:Int)):part=(cE g (q+1)).1/\n=(cE g (q+1)).2:=by
 have h1:cE g (q+1)=cE g q:=by
   rw[iW]
   unfold jL
   rw[if_pos (by rw[<-h.1];exact c)]
 rw[h1];exact h
theorem xn{g:cv}{part part2 O:List Int}{n:Int}{q j:Nat}(h:part=(cE g q).1/\n=(cE g q).2)(c:¬0<=gI part (q:Int))(hO:O=(gW g (q:Int)).order)(hp:part2=(O.take j).foldl (λl w=>l.set w.toNat n) part)(hj:¬(j:Int)<O.length):part2=(cE g (q+1)).1/\n+1=(cE g (q+1)).2:=by
 rw[List.take_of_length_le (by omega)] at hp
 have h1:cE g (q+1)=((gW g (q:Int)).order.foldl (λl w=>l.set w.toNat (cE g q).2) (cE g q).1,(cE g q).2+1):=by
   rw[iW]
   unfold jL
   rw[if_neg (by rw[<-h.1];exact c)]
 rw[h1]
 exact⟨by rw[hp,hO,h.1,h.2],by rw[h.2]⟩
theorem jn{g:cv}(hm:c7 g){q:Nat}(hq:(q:Int)=g.1){part:List Int}{n:Int}(h:part=(cE g q).1/\n=(cE g q).2):part=(bu g).1/\n=(bu g).2.1/\0=(bu g).2.2:=by
 have e:q=g.1.toNat:=by omega
 subst e
 unfold bu
 rw[if_pos hm]
 exact⟨h.1,h.2,rfl⟩
end TL
namespace TL
end TL
set_option linter.all false
namespace TL
def bX(g:cv):jH:=(List.range g.1.toNat).map λ(v:Nat)=>gV g (v:Int)
theorem dT.first{out:jH}{g:cv}{k:Nat}(h:dT out g k)(hk:k=g.2.length):out=bX g:=by
 have hl:=h.len
 apply qd
 · simp[bX];omega
 · intro i hi
   rw[h.done hk _ (by omega) (by omega)]
   have:i<g.1.toNat:=by omega
   simp[bX,gI,this]
end TL
set_option linter.all false
namespace TL
structure BR(D:Int->Prop)(R:Int->Int->Prop):Prop where
 rfl:∀x,D x->R x x
 symm:∀x y,D x->D y->R x y->R y x
 trans:∀x y z,D x->D y->D z->R x y->R y z->R x z
end TL
set_option linter.all false
namespace TL
theorem jZ{g:cv}{v:Int}(h0:0<=v)(h1:v<g.1):gI (bX g) v=gV g v:=by
 unfold bX gI
 have:v.toNat<g.1.toNat:=by omega
 simp[List.getD_eq_getElem?_getD,this]
 congr 1
 omega
section
end
end TL
set_option linter.all false
namespace TL
open Ieee
def pl(x:Nat):Nat:=x/4503599627370496-1
end TL
set_option linter.all false
namespace TL
open Go
instance:Rp Nat where
 sz:=1
 rep _ _ _ cs x:=cs=[.float .f64 x]
 len h:=by subst h;rfl
 one h:=by subst h;simp[Value.oneCell']
 tr _ _ h:=h
instance:Fl Nat where
 cells x:=[.float .f64 x]
 rep_iff:=Iff.rfl
section
end
end TL
set_option linter.all false
namespace TL
abbrev Pt:=Int×Int
def cO(x y:Int):Int:=if x<y then-1 else if y<x then 1 else 0
end TL
namespace TL
def qC:List Int->Int
 |[]=>0
 |x::l=>if x=0 then qC l else x
theorem wK{l:List Int}{k:Nat}(h:∀j:Nat,j<k->gI l (j:Int)=0)(hk:(k:Int)<l.length)(hx:gI l (k:Int)≠0):gI l (k:Int)=qC l:=by
 induction l generalizing k with
 |nil=>simp at hk;omega
 |cons a l ih=>
   cases k with
   |zero=>
     have e:gI (a::l) ((0:Nat):Int)=a:=by simp[gI]
     rw[e] at hx ⊢
     unfold qC;rw[if_neg hx]
   |succ k=>
     have e:∀j:Nat,gI (a::l) ((j+1:Nat):Int)=gI l (j:Int):=λj=>by simp[gI]
     have e0:gI (a::l) ((0:Nat):Int)=a:=by simp[gI]
     have h0:=h 0 (by omega)
     rw[e0] at h0
     rw[e] at hx ⊢
     unfold qC;rw[if_pos h0]
     exact ih (λj hj=>by rw[<-e];exact h (j+1) (by omega)) (by simp at hk;omega) hx
theorem vI{l:List Int}{k:Nat}(h:∀j:Nat,j<k->gI l (j:Int)=0)(hk:¬(k:Int)<l.length):0=qC l:=by
 induction l generalizing k with
 |nil=>rfl
 |cons a l ih=>
   have e:∀j:Nat,gI (a::l) ((j+1:Nat):Int)=gI l (j:Int):=λj=>by simp[gI]
   have e0:gI (a::l) ((0:Nat):Int)=a:=by simp[gI]
   simp at hk
   have h0:=h 0 (by omega)
   rw[e0] at h0
   unfold qC;rw[if_pos h0]
   exact ih (k:=k-1) (λj hj=>by rw[<-e];exact h (j+1) (by omega)) (by omega)
section
end
end TL
set_option linter.all false
namespace TL
def nz(p:Pt):Prop:=¬(p.1=0/\p.2=0)
theorem xG{α:Type}{R:α->α->Prop}:∀{l1 l2:List α},(∀a,a∈l1->∀b,b∈l1->R a b->¬R b a)->l1.Pairwise R->l2.Pairwise R->(∀x,x∈l1↔x∈l2)->l1=l2
 |[],[],_,_,_,_=>rfl
 |[],b::t2,_,_,_,h=>by have:=(h b).2 (by simp);simp at this
 |a::t1,[],_,_,_,h=>by have:=(h a).1 (by simp);simp at this
 |a::t1,b::t2,ha,h1,h2,h=>by
   rw[List.pairwise_cons] at h1 h2
   have e:a=b:=by
     rcases List.mem_cons.1 ((h a).1 (by simp)) with e|m1
     · exact e
     · rcases List.mem_cons.1 ((h b).2 (by simp)) with e|m2
       · exact e.symm
       · exact absurd (h2.1 a m1) (ha a (by simp) b (by simp[m2]) (h1.1 b m2))
   subst e
   have n1:a∉t1:=λm=>ha a (by simp) a (by simp) (h1.1 a m) (h1.1 a m)
   have n2:a∉t2:=λm=>ha a (by simp) a (by simp) (h2.1 a m) (h2.1 a m)
   have:=xG (R:=R) (l1:=t1) (l2:=t2) (λx hx y hy=>ha x (by simp[hx]) y (by simp[hy])) h1.2 h2.2 λx=>by
     constructor
     · intro m
       rcases List.mem_cons.1 ((h x).1 (by simp[m])) with e|m'
       · subst e;exact absurd m n1
       · exact m'
     · intro m
       rcases List.mem_cons.1 ((h x).2 (by simp[m])) with e|m'
       · subst e;exact absurd m n2
       · exact m'
   rw[this]
section
end
section
end
section
end
end TL
