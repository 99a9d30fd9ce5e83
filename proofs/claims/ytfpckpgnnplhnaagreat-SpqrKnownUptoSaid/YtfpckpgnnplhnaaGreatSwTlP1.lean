/- Plain texts of this claim, part 1. By an AI agent. -/
import Derived.Test.YtfpckpgnnplhnaaGreatSwTlP0
import Derived.Laws.Externs
import Derived.Laws.FloatArith
import Derived.Laws.FloatBits
import Derived.Laws.NewFold
import Derived.Laws.StructEq
import Derived.OrdersHeld
import Derived.Shelf.SlSortCmp.WholeK
set_option linter.all false
namespace TL
open Go
def c9(n:Nat)(done:List Nat):Array Bool:=((List.range n).map λi=>decide (i∈done)).toArray
theorem dQ(n:Nat)(done:List Nat)(j:Nat)(d:Bool):(c9 n done).getD j d=if j<n then decide (j∈done) else d:=by
 unfold c9
 by_cases h:j<n
 · simp[h]
 · simp[h]
theorem db{n i:Nat}(done:List Nat)(hi:i<n):(c9 n done).setIfInBounds i true=c9 n (i::done):=by
 apply Array.ext
 · simp[c9]
 · intro j h1 h2
   have hj:j<n:=by simpa[c9] using h2
   simp only[c9]
   by_cases hij:i=j
   · subst hij;simp
   · have:¬j=i:=λh=>hij h.symm
     simp[Array.getElem_setIfInBounds,hij,this]
section
variable{P:Program}{ops:Array Oper}{Q:Exit->Act->World->Prop}{md:Region.Mode}{qs:Nat->Bool}
def oh(P:Program)(md:Region.Mode)(ops:Array Oper)(qs:Nat->Bool)(Q:Exit->Act->World->Prop):Nat->Array Bool->Act->World->Prop
  |0,listed,a,w=>Region.ready md ops listed=[]/\Q .normal a w
  |fuel+1,listed,a,w=>(Region.ready md ops listed=[]->Q .normal a w)/\
    ∀i∈Region.ready md ops listed,if qs i then stOp P ops w i (λa'=>oh P md ops qs Q fuel (listed.setIfInBounds i true) a' w) a
      else wpOp P ops Q i (oh P md ops qs Q fuel (listed.setIfInBounds i true)) a w
theorem im:∀(fuel:Nat) (listed:Array Bool) (a:Act) (w:World),oh P md ops qs Q fuel listed a w->wpAny P md ops Q fuel listed a w
 |0,_,_,_,h=>h
 |fuel+1,listed,a,w,h=>by
   refine⟨h.1,λi hi=>?_⟩
   have h2:=h.2 i hi
   cases hq:qs i with
   |true=>
     simp only[hq,if_true] at h2
     exact wpOp_of_stOp (λa' h'=>im fuel _ a' w h') h2
   |false=>
     simp only[hq,Bool.false_eq_true,if_false] at h2
     exact wpOp_mono (λa' w' h'=>im fuel _ a' w' h') h2
theorem sE{i:Nat}{oi:Oper}{v:Value}{w:World}{M D:Array Bool}(hi:ops[i]? =some oi)(hsel:∀(j:Nat) (o:Oper) cs b,ops[j]? =some o->o.op≠ .select cs b)(hqi:qs i=true)
    (hM:∀j oj,ops[j]? =some oj->M.getD j false=false->j≠i->∃e∈oj.after,Region.binds md e=true/\M.getD e.on false=false)
    (hMq:∀j oj,ops[j]? =some oj->M.getD j false=true->D.getD j true=false->j≠i->qs j=true):
    ∀(fuel:Nat) (listed:Array Bool) (a:Act),listed.size=ops.size->(∀j,listed.getD j false=true->M.getD j false=true)->(∀j,listed.getD j true=false->D.getD j true=false)->
      (∀j oj,ops[j]? =some oj->j≠i->listed.getD j true=false->(∀e∈oj.after,Region.binds md e=true->e.on≠i)->oi.apart ops oj=true)->
      i∈Region.ready md ops listed->YieldsAt P ops w oi v a->
      oh P md ops qs Q fuel (listed.setIfInBounds i true) (a.put oi.dst v) w->oh P md ops qs Q (fuel+1) listed a w:=by
  intro fuel
  induction fuel with
  |zero=>
    intro listed a _ _ _ _ hr hy H
    refine⟨λh=>(by rw[h] at hr;cases hr),λj hj=>?_⟩
    by_cases hji:j=i
    · subst hji;rw[if_pos hqi];exact hy.stOp hi H
    · have:=ready_mono hj hji
      rw[H.1] at this
      cases this
  |succ fuel ih=>
    intro listed a hsz hsub hD hfree hr hy H
    refine⟨λh=>(by rw[h] at hr;cases hr),λj hj=>?_⟩
    by_cases hji:j=i
    · subst hji;rw[if_pos hqi];exact hy.stOp hi H
    · obtain⟨hjun,oj,hoj,hall⟩:=mem_ready.1 hj
      have hMj:M.getD j false=true:=by
        cases hm:M.getD j false with
        |true=>rfl
        |false=>
          obtain⟨e,he,hb,hn⟩:=hM j oj hoj hm hji
          have:=hsub _ (hall e he hb)
          rw[hn] at this;cases this
      have hqj:=hMq j oj hoj hMj (hD j hjun) hji
      have h1:=H.2 j (ready_mono hj hji)
      rw[if_pos hqj] at h1 ⊢
      have hnot:∀e∈oj.after,Region.binds md e=true->e.on≠i:=λe he hb heq=>by
        have h1:=hall e he hb
        have h0:=(mem_ready.1 hr).1
        rw[heq] at h1
        rw[getD_both h0] at h1
        cases h1
      have h2:=stOp_put hoj (hfree j oj hoj hji hjun hnot) (λcs b=>hsel i oi cs b hi) (λcs b=>hsel j oj cs b hoj) hy h1
      have hfree':∀k ok,ops[k]? =some ok->k≠i->(listed.setIfInBounds j true).getD k true=false->
          (∀e∈ok.after,Region.binds md e=true->e.on≠i)->oi.apart ops ok=true:=λk ok hk hki hun hno=>by
        refine hfree k ok hk hki ?_ hno
        by_cases hjk:j=k
        · subst hjk;exact hjun
        · rw[getD_set_ne true hjk] at hun;exact hun
      have hsub':∀k,(listed.setIfInBounds j true).getD k false=true->M.getD k false=true:=λk hk=>by
        by_cases hjk:j=k
        · subst hjk;exact hMj
        · rw[getD_set_ne false hjk] at hk;exact hsub k hk
      have hD':∀k,(listed.setIfInBounds j true).getD k true=false->D.getD k true=false:=λk hk=>by
        by_cases hjk:j=k
        · subst hjk;exact hD j hjun
        · rw[getD_set_ne true hjk] at hk;exact hD k hk
      refine stOp_mono (λa' h3=>ih (listed.setIfInBounds j true) a' (by simpa using hsz) hsub' hD' hfree' (ready_mono hr (Ne.symm hji)) h3.1 ?_) h2
      rw[Array.setIfInBounds_comm _ _ hji]
      exact h3.2
def aN{α:Type}(s:Sem α):Prop:=∀(P:Program) (w:World) (x:α) (w':World),s.run P w= .ok x w'->eK w.heap.size w w'
theorem aN.bind{α β:Type}{s:Sem α}{f:α->Sem β}(h:aN s)(hf:∀a,aN (f a)):aN (s>>=f):=by
 intro P w x w' hr
 rw[Sem.run_bind] at hr
 cases h1:s.run P w with
 |halt e w1=>rw[h1] at hr;cases hr
 |ok a w1=>
   rw[h1] at hr
   have k1:=h P w a w1 h1
   have k2:=hf a P w1 x w' hr
   exact k1.trans (k2.mono k1.size)
theorem aN.pure{α:Type}(a:α):aN (Pure.pure a:Sem α):=λP w x w' h=>by
 simp only[Sem.run_pure] at h
 cases h;exact eK.refl _ _
theorem aN.halt{α:Type}(e:Halt):aN (Sem.halt e:Sem α):=λP w x w' h=>by cases h
theorem aN.stuck{α:Type}(e:String):aN (Go.stuck e:Sem α):=aN.halt _
theorem aN.unsupported{α:Type}(e:Unsupported):aN (Go.unsupported e:Sem α):=aN.halt _
theorem aN.program:aN Go.program:=λP w x w' h=>by
 simp only[run_program] at h
 cases h;exact eK.refl _ _
theorem aN.new(o:Obj):aN (newObj o):=λP w x w' h=>by
 simp only[run_newObj] at h
 cases h
 exact(eK.refl _ w).alloc (Nat.le_refl _) o
theorem aN.typeInfo(t:TypeId):aN (Go.typeInfo t):=aN.bind aN.program λp=>by
 cases p.info? t with
 |some i=>exact aN.pure i
 |none=>exact aN.stuck _
theorem aN.underlying(t:TypeId):aN (Go.underlying t):=aN.bind aN.program λp=>by
 cases p.underlying t with
 |some i=>exact aN.pure i
 |none=>exact aN.stuck _
theorem aN.sizeOf(t:TypeId):aN (Go.sizeOf t):=aN.bind (aN.typeInfo t) λi=>aN.pure _
theorem aN.zeroValue(t:TypeId):aN (Go.zeroValue t):=aN.bind (aN.typeInfo t) λi=>by
 cases i.zero with
 |some v=>exact aN.pure v
 |none=>exact aN.unsupported _
theorem aN.newVar(t:TypeId)(v:Value):aN (Go.newVar t v):=aN.bind (aN.new _) λ_=>aN.pure _
theorem lO(t:TypeId)(len:Nat)(parts:Array (Nat×Value)):aN (Instr.buildSlice t len parts):=by
 unfold Instr.buildSlice
 refine aN.bind (aN.underlying t) λd=>?_
 split
 · refine aN.bind (aN.sizeOf _) λsize=>?_
   have tail:∀(elem:TypeId) (zero:Array Value),aN (match Instr.fill (λi=>some (i*size,size)) ((Array.range (len*size)).map (zero[· %zero.size]!)) parts.toList with
       |some cells=>(do pure (Value.slice (some (<-newRow elem cells)) len len):Sem Value)
       |_=>Go.stuck "buildSlice: a part of the wrong size"):=λelem zero=>by
     split
     · exact aN.bind (aN.bind (aN.new _) λ_=>aN.pure _) λ_=>aN.pure _
     · exact aN.stuck _
   by_cases h1:len*size>2^24
   · simp only[h1,if_true]
     refine aN.bind (aN.unsupported _) λx=>?_
     by_cases h2:len*size=0
     · rw[if_pos h2]
       exact aN.bind (aN.pure _) λzero=>tail _ zero
     · simp only[h2,if_false]
       exact aN.bind (aN.zeroValue _) λ_=>aN.bind (aN.pure _) λzero=>tail _ zero
   · simp only[h1,if_false]
     by_cases h2:len*size=0
     · rw[if_pos h2]
       exact aN.bind (aN.pure _) λzero=>tail _ zero
     · simp only[h2,if_false]
       exact aN.bind (aN.zeroValue _) λ_=>aN.bind (aN.pure _) λzero=>tail _ zero
 · exact aN.stuck _
theorem zS{P:Program}{w w':World}{s:Sem Value}{nx:Next}(h:(do pure (Next.value (<-s)):Sem Next).run P w= .ok nx w'):∃u,nx= .value u:=by
 rw[Sem.run_bind] at h
 cases hs:s.run P w with
 |ok a w1=>rw[hs] at h;cases h;exact⟨a,rfl⟩
 |halt e w1=>rw[hs] at h;cases h
theorem aN.load(a:Addr)(m:Mode):aN (Go.load a m):=λP w x w' h=>by
 simp only[Go.load,Sem.run] at h
 split at h
 · cases h;exact eK.refl _ _
 · split at h
   · cases h;exact eK.refl _ _
   · cases h
theorem aN.cells(a:Addr):∀(n i:Nat) (acc:Array Value),aN (loadCellsFrom a i n acc)
 |0,_,_=>aN.pure _
 |n+1,i,_=>aN.bind (aN.load _ _) λ_=>aN.cells a n (i+1) _
theorem aN.isAgg(t:TypeId):aN (Go.isAgg t):=aN.bind (aN.underlying t) λd=>by
 split<;>exact aN.pure _
theorem aN.error{α:Type}(m:String):aN (runtimePanic (.error m):Sem α):=aN.bind aN.program λp=>aN.halt _
theorem aN.asIntOf(v:Value):aN (Go.asIntOf v):=by
 unfold Go.asIntOf
 split
 · exact aN.pure _
 · exact aN.unsupported _
 · exact aN.stuck _
theorem aN.asInt(v:Value):aN (Go.asInt v):=aN.bind (aN.asIntOf v) λ_=>aN.pure _
theorem aN.choose(q:Question):aN (Go.choose q):=λP w x w' h=>by
 simp only[Go.choose,Sem.run] at h
 split at h
 · cases h;exact eK.refl _ _
 · cases h;exact⟨rfl,rfl,rfl,Nat.le_refl _,λ_ _=>rfl,Nat.le_succ _⟩
theorem aN.room(n:Nat):aN (askRoom n):=λP w x w' h=>by
 unfold askRoom at h
 split at h
 · simp only[Go.mark,Sem.run] at h
   cases h;exact⟨rfl,rfl,rfl,Nat.le_refl _,λ_ _=>rfl,Nat.le_refl _⟩
 · cases h;exact eK.refl _ _
theorem pu(t:TypeId)(a:Value):aN (Instr.loadAt t a):=by
 unfold Instr.loadAt
 refine aN.bind ?_ λb=>?_
 · unfold Instr.sureAddr
   split
   · exact aN.pure _
   · exact aN.stuck _
 · unfold loadVar
   refine aN.bind (aN.isAgg t) λc=>?_
   split
   · exact aN.bind (aN.sizeOf t) λn=>aN.bind (aN.cells _ _ _ _) λ_=>aN.pure _
   · exact aN.load _ _
theorem mH(t:TypeId)(a b:Value):aN (Instr.makeSlice t a b):=by
 unfold Instr.makeSlice
 refine aN.bind (aN.underlying t) λd=>?_
 split
 · refine aN.bind (aN.asInt _) λl=>aN.bind (aN.asInt _) λc=>aN.bind (aN.typeInfo _) λi=>?_
   have tail:∀(c:Int) (l:Int) (elem:TypeId),aN (do
       let n:=c.toNat*(<-sizeOf elem)
       let zero<-if n=0 then pure #[] else do pure (<-zeroValue elem).cells
       let a<-newRow elem ((Array.range n).map (zero[· %zero.size]!))
       pure (Value.slice (some a) l.toNat c.toNat)):=λc l elem=>by
     refine aN.bind (aN.sizeOf _) λn=>?_
     have last:∀zero:Array Value,aN (do
       let a<-newRow elem ((Array.range (c.toNat*n)).map (zero[· %zero.size]!))
       pure (Value.slice (some a) l.toNat c.toNat)):=λzero=>aN.bind (aN.bind (aN.new _) λ_=>aN.pure _) λ_=>aN.pure _
     by_cases h:c.toNat*n=0
     · simp only[h,if_true]
       have:=last #[]
       simp only[h] at this
       exact aN.bind (aN.pure _) λ_=>aN.bind (aN.bind (aN.new _) λ_=>aN.pure _) λ_=>aN.pure _
     · simp only[h,if_false]
       exact aN.bind (aN.zeroValue _) λ_=>aN.bind (aN.pure _) λz=>last z
   dsimp only
   repeat' (first
     |exact aN.error _
     |exact aN.choose _
     |exact aN.room _
     |exact tail _ _ _
     |exact aN.pure _
     |refine aN.bind ?_ λ_=>?_
     |split)
 · exact aN.stuck _
def jz:Op->Bool
 | .alloc _| .box .. | .buildSlice .. | .load .. | .makeSlice .. =>true
 |_=>false
theorem sg{ρ:Operand->Value}{o:Oper}(h:jz o.op=true):aN (execOp ρ o):=by
 obtain⟨dst,op,ty,pos,after,g⟩:=o
 cases op<;>simp only[jz,Bool.false_eq_true] at h
 case alloc e=>exact aN.bind (aN.bind (aN.zeroValue _) λ_=>aN.bind (aN.newVar _ _) λ_=>aN.pure _) λ_=>aN.pure _
 case box e x=>exact aN.bind (aN.bind (aN.newVar _ _) λ_=>aN.pure _) λ_=>aN.pure _
 case buildSlice t n ps=>exact aN.bind (lO _ _ _) λ_=>aN.pure _
 case load t a=>exact aN.bind (pu _ _) λ_=>aN.pure _
 case makeSlice t a b=>exact aN.bind (mH _ _ _) λ_=>aN.pure _
theorem vz{i:Nat}{oi:Oper}{v:Value}{w0:World}{M D:Array Bool}(hi:ops[i]? =some oi)(hsel:∀(j:Nat) (o:Oper) cs b,ops[j]? =some o->o.op≠ .select cs b)(hqi:qs i=true)
    (hQ:∀c a w,Q (.panic c) (a.put oi.dst v) w->Q (.panic c) a w)
    (hM:∀j oj,ops[j]? =some oj->M.getD j false=false->j≠i->∃e∈oj.after,Region.binds md e=true/\M.getD e.on false=false)
    (hMq:∀j oj,ops[j]? =some oj->M.getD j false=true->D.getD j true=false->j≠i->qs j=true\/jz oj.op=true):
    ∀(fuel:Nat) (listed:Array Bool) (a:Act) (w:World),eK w0.heap.size w0 w->(∀j,listed.getD j false=true->M.getD j false=true)->(∀j,listed.getD j true=false->D.getD j true=false)->
      (∀j oj,ops[j]? =some oj->j≠i->listed.getD j true=false->(∀e∈oj.after,Region.binds md e=true->e.on≠i)->oi.apart ops oj=true)->
      i∈Region.ready md ops listed->(∀w,eK w0.heap.size w0 w->YieldsAt P ops w oi v a)->
      oh P md ops qs Q fuel (listed.setIfInBounds i true) (a.put oi.dst v) w->oh P md ops qs Q (fuel+1) listed a w:=by
  intro fuel
  induction fuel with
  |zero=>
    intro listed a w hw _ _ _ hr hy H
    refine⟨λh=>(by rw[h] at hr;cases hr),λj hj=>?_⟩
    by_cases hji:j=i
    · subst hji;rw[if_pos hqi];exact(hy w hw).stOp hi H
    · have:=ready_mono hj hji
      rw[H.1] at this
      cases this
  |succ fuel ih=>
    intro listed a w hw hsub hD hfree hr hy H
    refine⟨λh=>(by rw[h] at hr;cases hr),λj hj=>?_⟩
    by_cases hji:j=i
    · subst hji;rw[if_pos hqi];exact(hy w hw).stOp hi H
    · obtain⟨hjun,oj,hoj,hall⟩:=mem_ready.1 hj
      have hMj:M.getD j false=true:=by
        cases hm:M.getD j false with
        |true=>rfl
        |false=>
          obtain⟨e,he,hb,hn⟩:=hM j oj hoj hm hji
          have:=hsub _ (hall e he hb)
          rw[hn] at this;cases this
      have hqj:=hMq j oj hoj hMj (hD j hjun) hji
      have h1:=H.2 j (ready_mono hj hji)
      have hnot:∀e∈oj.after,Region.binds md e=true->e.on≠i:=λe he hb heq=>by
        have h1:=hall e he hb
        have h0:=(mem_ready.1 hr).1
        rw[heq] at h1
        rw[getD_both h0] at h1
        cases h1
      have hap:=hfree j oj hoj hji hjun hnot
      have hfree':∀k ok,ops[k]? =some ok->k≠i->(listed.setIfInBounds j true).getD k true=false->
          (∀e∈ok.after,Region.binds md e=true->e.on≠i)->oi.apart ops ok=true:=λk ok hk hki hun hno=>by
        refine hfree k ok hk hki ?_ hno
        by_cases hjk:j=k
        · subst hjk;exact hjun
        · rw[getD_set_ne true hjk] at hun;exact hun
      have hsub':∀k,(listed.setIfInBounds j true).getD k false=true->M.getD k false=true:=λk hk=>by
        by_cases hjk:j=k
        · subst hjk;exact hMj
        · rw[getD_set_ne false hjk] at hk;exact hsub k hk
      have hD':∀k,(listed.setIfInBounds j true).getD k true=false->D.getD k true=false:=λk hk=>by
        by_cases hjk:j=k
        · subst hjk;exact hD j hjun
        · rw[getD_set_ne true hjk] at hk;exact hD k hk
      obtain⟨g1,g2,g3⟩:=Oper.apart_spec hap
      have keep:∀u w,eK w0.heap.size w0 w->YieldsAt P ops w oi v (a.put oj.dst u):=λu w hw=>
        (hy w hw).of_same (execOp_put oi (λcs b=>hsel i oi cs b hi) a oj.dst u g3) (wanted_put oi a oj.dst u g3)
      cases hqj':qs j with
      |true=>
        simp only[hqj',if_true] at h1 ⊢
        obtain⟨u,hyu,hK⟩:=yieldsAt_of_stOp hoj h1
        have hyj:YieldsAt P ops w oj u a:=by
          rcases hyu with⟨k1,k2⟩|⟨k1,k2⟩
          · refine .inl ⟨by rw[<-wanted_put oj a oi.dst v g1];exact k1,?_⟩
            rw[execOp_put oj (λcs b=>hsel j oj cs b hoj) a oi.dst v g1] at k2
            exact k2
          · exact .inr ⟨by rw[<-wanted_put oj a oi.dst v g1];exact k1,k2⟩
        refine hyj.stOp hoj (ih (listed.setIfInBounds j true) (a.put oj.dst u) w hw hsub' hD' hfree' (ready_mono hr (Ne.symm hji)) (keep u) ?_)
        rw[<-Act.put_comm a v u g2,Array.setIfInBounds_comm _ _ hji]
        exact hK
      |false=>
        have hkk:=hqj.resolve_left (by rw[hqj'];simp)
        simp only[hqj',Bool.false_eq_true,if_false] at h1 ⊢
        unfold wpOp at h1 ⊢
        simp only[hoj] at h1 ⊢
        rw[wanted_put oj a oi.dst v g1] at h1
        cases hwt:Region.wanted oj (yielded ops a.tmps) with
        |false=>
          simp only[hwt,Bool.false_eq_true,if_false] at h1 ⊢
          refine ih (listed.setIfInBounds j true) (a.put oj.dst undef) w hw hsub' hD' hfree' (ready_mono hr (Ne.symm hji)) (keep undef) ?_
          rw[<-Act.put_comm a v undef g2,Array.setIfInBounds_comm _ _ hji]
          exact h1
        |true=>
          simp only[hwt,if_true] at h1 ⊢
          have hke:=sg (ρ:=a.eval) hkk P w
          rcases h1 with h1|⟨h1,h2⟩
          · left
            unfold Oper.wp at h1 ⊢
            rw[execOp_put oj (λcs b=>hsel j oj cs b hoj) a oi.dst v g1] at h1
            obtain⟨dst,op,ty,pos,after,gd⟩:=oj
            cases hrun:(execOp a.eval ⟨dst,op,ty,pos,after,gd⟩).run P w with
            |halt x w'=>
              rw[hrun] at h1
              cases x<;>simp only[Oper.upon] at h1 ⊢
              case panic u=>exact hQ _ _ _ h1
            |ok nx w'=>
              rw[hrun] at h1
              have hb:=hke nx w' hrun
              have hw':eK w0.heap.size w0 w':=hw.trans (hb.mono hw.size)
              -- these operations yield values alone
              have hval:∃u,nx= .value u:=by
                cases op<;>simp only[jz,Bool.false_eq_true] at hkk
                all_goals exact zS hrun
              obtain⟨u,rfl⟩:=hval
              simp only[Oper.upon] at h1 ⊢
              refine ih (listed.setIfInBounds j true) (a.put dst u) w' hw' hsub' hD' hfree' (ready_mono hr (Ne.symm hji)) (keep u) ?_
              have h3:=h1
              rw[show(a.put oi.dst v).put dst u=(a.put dst u).put oi.dst v from Act.put_comm a v u g2,Array.setIfInBounds_comm _ _ (Ne.symm hji)] at h3
              exact h3
          · right
            refine⟨?_,h2⟩
            unfold Oper.asks at*
            rw[execOp_put oj (λcs b=>hsel j oj cs b hoj) a oi.dst v g1] at h1
            exact h1
theorem oL{i:Nat}{oi:Oper}{v:Value}(hi:ops[i]? =some oi)(hsel:∀(j:Nat) (o:Oper) cs b,ops[j]? =some o->o.op≠ .select cs b)(hqi:qs i=true)
    (hQ:∀c a w,Q (.panic c) (a.put oi.dst v) w->Q (.panic c) a w):
    ∀(fuel:Nat) (listed:Array Bool) (a:Act) (w:World),
      (∀j oj,ops[j]? =some oj->j≠i->listed.getD j true=false->(∀e∈oj.after,Region.binds md e=true->e.on≠i)->oi.apart ops oj=true)->
      i∈Region.ready md ops listed->Yields P ops oi v a->
      oh P md ops qs Q fuel (listed.setIfInBounds i true) (a.put oi.dst v) w->oh P md ops qs Q (fuel+1) listed a w:=by
  have hat:∀{a:Act} {w:World},Yields P ops oi v a->YieldsAt P ops w oi v a:=λ {a w} hy=>by
    rcases hy with⟨h1,h2⟩|⟨h1,h2⟩
    · exact .inl ⟨h1,.inl (h2 w)⟩
    · exact .inr ⟨h1,h2⟩
  intro fuel
  induction fuel with
  |zero=>
    intro listed a w _ hr hy H
    refine⟨λh=>(by rw[h] at hr;cases hr),λj hj=>?_⟩
    by_cases hji:j=i
    · subst hji;rw[if_pos hqi];exact(hat hy).stOp hi H
    · have:=ready_mono hj hji
      rw[H.1] at this
      cases this
  |succ fuel ih=>
    intro listed a w hfree hr hy H
    refine⟨λh=>(by rw[h] at hr;cases hr),λj hj=>?_⟩
    by_cases hji:j=i
    · subst hji;rw[if_pos hqi];exact(hat hy).stOp hi H
    · obtain⟨hjun,oj,hoj,hall⟩:=mem_ready.1 hj
      have h1:=H.2 j (ready_mono hj hji)
      have hnot:∀e∈oj.after,Region.binds md e=true->e.on≠i:=λe he hb heq=>by
        have h1:=hall e he hb
        have h0:=(mem_ready.1 hr).1
        rw[heq] at h1
        rw[getD_both h0] at h1
        cases h1
      have hap:=hfree j oj hoj hji hjun hnot
      have hfree':∀k ok,ops[k]? =some ok->k≠i->(listed.setIfInBounds j true).getD k true=false->
          (∀e∈ok.after,Region.binds md e=true->e.on≠i)->oi.apart ops ok=true:=λk ok hk hki hun hno=>by
        refine hfree k ok hk hki ?_ hno
        by_cases hjk:j=k
        · subst hjk;exact hjun
        · rw[getD_set_ne true hjk] at hun;exact hun
      cases hqj:qs j with
      |true=>
        simp only[hqj,if_true] at h1 ⊢
        -- a step that leaves the world
        have hy':=hy
        obtain⟨g1,g2,g3⟩:=Oper.apart_spec hap
        have keep:∀(a:Act),Yields P ops oi v a->∀u,Yields P ops oi v (a.put oj.dst u):=λa hy u=>
          hy.of_same (execOp_put oi (λcs b=>hsel i oi cs b hi) a oj.dst u g3) (wanted_put oi a oj.dst u g3)
        obtain⟨u,hyu,hK⟩:=yieldsAt_of_stOp hoj h1
        have hyj:YieldsAt P ops w oj u a:=by
          rcases hyu with⟨k1,k2⟩|⟨k1,k2⟩
          · refine .inl ⟨by rw[<-wanted_put oj a oi.dst v g1];exact k1,?_⟩
            rw[execOp_put oj (λcs b=>hsel j oj cs b hoj) a oi.dst v g1] at k2
            exact k2
          · exact .inr ⟨by rw[<-wanted_put oj a oi.dst v g1];exact k1,k2⟩
        refine hyj.stOp hoj (ih (listed.setIfInBounds j true) (a.put oj.dst u) w hfree' (ready_mono hr (Ne.symm hji)) (keep a hy u) ?_)
        rw[<-Act.put_comm a v u g2,Array.setIfInBounds_comm _ _ hji]
        exact hK
      |false=>
        simp only[hqj,Bool.false_eq_true,if_false] at h1 ⊢
        have h2:=wpOp_put hoj hap (λcs b=>hsel i oi cs b hi) (λcs b=>hsel j oj cs b hoj) hQ hy h1
        refine wpOp_mono (λa' w' h3=>ih (listed.setIfInBounds j true) a' w' hfree' (ready_mono hr (Ne.symm hji)) h3.1 ?_) h2
        rw[Array.setIfInBounds_comm _ _ hji]
        exact h3.2
end
section
variable{P:Program}{n:Nat}{l:List Oper}{qs:List Nat}{K:Fr->World->Prop}{f:Fr}{w:World}{done:List Nat}{fuel:Nat}
def i6(P:Program)(n:Nat)(l:List Oper)(qs:List Nat)(K:Fr->World->Prop)(fuel:Nat)(done:List Nat)(f:Fr)(w:World):Prop:=
  ∀a,Ag n a f->oh P .any l.toArray (λi=>decide (i∈qs)) (λe a' w'=>e= .normal/\∃f',Ag n a' f'/\K f' w') fuel (c9 l.length done) a w
theorem bp{fid:Nat}{R:Ending->World->Prop}{k:List Item}{id:Nat}(γ:ax)(qs:List Nat)(hm:P.follows .mixedOrders=true)
   (h:∀w1,bg no γ w γ w1->i6 P n l qs (fY P fid n R k) l.length [] f w1):fY P fid n R (.code (.region id l.toArray true)::k) f w:=
 jU λa ha=>wp_region_any hm (by
   have h0:=im _ _ _ _ (h _ (bg.refl _ _ _).drew a ha)
   have hmask:c9 l.length []=Array.replicate l.toArray.size false:=by
     apply Array.ext
     · simp[c9]
     · intro j h1 h2;simp[c9]
   rw[hmask] at h0
   simpa using h0)
theorem dw{fid:Nat}{R:Ending->World->Prop}{k:List Item}{id:Nat}{σ:Type}(Mid:σ->Fr->World->Prop)(γ:ax)(qs:List Nat)(hm:P.follows .mixedOrders=true)
    (h:(∀s f w,Mid s f w->fY P fid n R k f w)->∀w1,bg no γ w γ w1->i6 P n l qs (fY P fid n R k) l.length [] f w1)(hk:∀s f w,Mid s f w->fY P fid n R k f w):fY P fid n R (.code (.region id l.toArray true)::k) f w:=
  bp γ qs hm (h hk)
def gX(l:List Oper)(done:List Nat)(i:Nat):Bool:=
 !done.contains i&&match l[i]? with
   |some o=>o.after.all λe=> !Region.binds .any e||done.contains e.on&&decide (e.on<l.length)
   |none=>false
def jh(l:List Oper)(done:List Nat)(i:Nat):Bool:=
 match l[i]? with
 |none=>false
 |some oi=>(List.range l.length).all λj=>j==i||done.contains j||match l[j]? with
     |some oj=>oj.after.any (λe=>Region.binds .any e&&e.on==i)||oi.apart l.toArray oj
     |none=>true
def pP(l:List Oper)(qs done M:List Nat)(i:Nat):Bool:=
  ((List.range l.length).all λj=>M.contains j||j==i||match l[j]? with
      |some oj=>oj.after.any λe=>Region.binds .any e&& !M.contains e.on
      |none=>true)&&
  (M.all λj=>j==i||done.contains j||qs.contains j)&&(done.all λj=>M.contains j&&decide (j<l.length))&&M.all λj=>decide (j<l.length)
def ig(l:List Oper):Bool:=Region.noSelect l.toArray
theorem g5{i:Nat}(h:gX l done i=true):i<l.length/\i∈Region.ready .any l.toArray (c9 l.length done):=by
 unfold gX at h
 simp only[Bool.and_eq_true,Bool.not_eq_true'] at h
 obtain⟨h1,h2⟩:=h
 split at h2
 · rename_i o ho
   have hlt:i<l.length:=(List.getElem?_eq_some_iff.1 ho).1
   refine⟨hlt,mem_ready.2 ⟨by rw[dQ];simp[hlt];simpa using h1,o,by simpa using ho,λe he hb=>?_⟩⟩
   have h3:=Array.all_eq_true_iff_forall_mem.1 h2 e he
   simp only[hb,Bool.not_true,Bool.false_or,Bool.and_eq_true,decide_eq_true_eq] at h3
   rw[dQ,if_pos h3.2]
   simpa using h3.1
 · cases h2
theorem gY{i:Nat}{oi:Oper}(hi:l[i]? =some oi)(h:jh l done i=true)(j:Nat)(oj:Oper)(hj:l.toArray[j]? =some oj)(hne:j≠i)(hun:(c9 l.length done).getD j true=false)
   (hno:∀e∈oj.after,Region.binds .any e=true->e.on≠i):oi.apart l.toArray oj=true:=by
 have hj':l[j]? =some oj:=by simpa using hj
 have hlt:j<l.length:=(List.getElem?_eq_some_iff.1 hj').1
 unfold jh at h
 simp only[hi,List.all_eq_true,List.mem_range] at h
 have h1:=h j hlt
 rw[dQ,if_pos hlt] at hun
 have hd:done.contains j=false:=by simpa using hun
 simp only[hj',Bool.or_eq_true,beq_iff_eq,hne,false_or,hd,Bool.false_eq_true] at h1
 rcases h1 with h1|h1
 · obtain⟨e,he,hb⟩:=Array.any_eq_true'.1 h1
   simp only[Bool.and_eq_true,beq_iff_eq] at hb
   exact absurd hb.2 (hno e he hb.1)
 · exact h1
theorem js(h:ig l=true):∀(j:Nat) (o:Oper) cs b,l.toArray[j]? =some o->o.op≠ .select cs b:=Region.noSelect_spec h
theorem lC{i:Nat}(h:qs.contains i=true):decide (i∈qs)=true:=by simpa using h
variable{dst:Option Tmp}{op:Op}{ty:TypeId}{pos:String}{after:Array Edge}{g:Option (Nat×Bool)}{v:Value}
theorem fw(i:Nat)(M:List Nat)(hi:l[i]? =some ⟨dst,op,ty,pos,after,g⟩)(hn:ig l=true)(hc:(qs.contains i&&gX l done i&&jh l done i&&pP l qs done M i&&kr n ⟨dst,op,ty,pos,after,g⟩)=true)
    (hw:cN l ⟨dst,op,ty,pos,after,g⟩ f=true)(h:(execOp (ev f) ⟨dst,op,ty,pos,after,g⟩).run P w= .ok (.value v) w)(hk:i6 P n l qs K fuel (i::done) (gv f dst v) w):i6 P n l qs K (fuel+1) done f w:=by
  simp only[Bool.and_eq_true] at hc
  obtain⟨⟨⟨⟨hq,hr⟩,hf⟩,hb⟩,hd⟩:=hc
  obtain⟨hlt,hr'⟩:=g5 hr
  intro a ha
  unfold pP at hb
  simp only[Bool.and_eq_true,List.all_eq_true,List.mem_range] at hb
  obtain⟨⟨⟨b1,b2⟩,b3⟩,b4⟩:=hb
  have hgM:∀j,(c9 l.length M).getD j false=true↔j∈M:=λj=>by
    rw[dQ]
    by_cases hjl:j<l.length
    · simp[hjl]
    · simp only[hjl,if_false,Bool.false_eq_true,false_iff]
      exact λhm=>hjl (by simpa using b4 j hm)
  refine sE (v:=v) (M:=c9 l.length M) (D:=c9 l.length done) (by simpa using hi) (js hn) (lC hq) (λj oj hj hm hne=>?_) (λj oj hj hm hD hne=>?_) fuel _ a (by simp[c9]) (λj hj=>?_) (λj hj=>hj) (gY hi hf) hr' ?_ ?_
  · have hj':l[j]? =some oj:=by simpa using hj
    have hjl:j<l.length:=(List.getElem?_eq_some_iff.1 hj').1
    have h1:=b1 j hjl
    have hmM:M.contains j=false:=by
      cases hc:M.contains j with
      |false=>rfl
      |true=>have h9:=(hgM j).2 (by simpa using hc);rw[hm] at h9;cases h9
    simp only[hmM,hj',Bool.false_or,Bool.or_eq_true,beq_iff_eq,hne,false_or] at h1
    obtain⟨e,he,hbb⟩:=Array.any_eq_true'.1 h1
    simp only[Bool.and_eq_true,Bool.not_eq_true'] at hbb
    refine⟨e,he,hbb.1,?_⟩
    cases hc:(c9 l.length M).getD e.on false with
    |false=>rfl
    |true=>
      have:=(hgM _).1 hc
      have h2:=hbb.2
      simp[this] at h2
  · have h1:=b2 j ((hgM j).1 hm)
    have hj':l[j]? =some oj:=by simpa using hj
    have hjl:j<l.length:=(List.getElem?_eq_some_iff.1 hj').1
    rw[dQ,if_pos hjl] at hD
    have hd:done.contains j=false:=by simpa using hD
    simp only[Bool.or_eq_true,beq_iff_eq,hne,hd,false_or,Bool.false_eq_true] at h1
    exact lC h1
  · rw[dQ] at hj
    split at hj
    · have h1:=b3 j (by simpa using hj)
      exact(hgM j).2 (by simpa using h1.1)
    · cases hj
  · refine .inl ⟨?_,.inl ?_⟩
    · rw[ha.yielded];exact hw
    · rw[ha.eval];exact h
  · rw[db done hlt]
    exact hk _ (ha.put hd v)
def pF(l:List Oper)(qs done M:List Nat)(i:Nat):Bool:=
 ((List.range l.length).all λj=>M.contains j||j==i||match l[j]? with
     |some oj=>oj.after.any λe=>Region.binds .any e&& !M.contains e.on
     |none=>true)&&
 (M.all λj=>j==i||done.contains j||qs.contains j||match l[j]? with
     |some oj=>jz oj.op
     |none=>false)&&(done.all λj=>M.contains j&&decide (j<l.length))&&M.all λj=>decide (j<l.length)
theorem D4(i:Nat)(M:List Nat)(hi:l[i]? =some ⟨dst,op,ty,pos,after,g⟩)(hn:ig l=true)(hc:(qs.contains i&&gX l done i&&jh l done i&&pF l qs done M i&&kr n ⟨dst,op,ty,pos,after,g⟩)=true)
    (hw:cN l ⟨dst,op,ty,pos,after,g⟩ f=true)(h:∀w',eK w.heap.size w w'->(execOp (ev f) ⟨dst,op,ty,pos,after,g⟩).run P w'= .ok (.value v) w')(hk:i6 P n l qs K fuel (i::done) (gv f dst v) w):i6 P n l qs K (fuel+1) done f w:=by
  simp only[Bool.and_eq_true] at hc
  obtain⟨⟨⟨⟨hq,hr⟩,hf⟩,hb⟩,hd⟩:=hc
  obtain⟨hlt,hr'⟩:=g5 hr
  intro a ha
  unfold pF at hb
  simp only[Bool.and_eq_true,List.all_eq_true,List.mem_range] at hb
  obtain⟨⟨⟨b1,b2⟩,b3⟩,b4⟩:=hb
  have hgM:∀j,(c9 l.length M).getD j false=true↔j∈M:=λj=>by
    rw[dQ]
    by_cases hjl:j<l.length
    · simp[hjl]
    · simp only[hjl,if_false,Bool.false_eq_true,false_iff]
      exact λhm=>hjl (by simpa using b4 j hm)
  refine vz (v:=v) (w0:=w) (M:=c9 l.length M) (D:=c9 l.length done) (by simpa using hi) (js hn) (lC hq) (λc a w h=>by cases h.1) (λj oj hj hm hne=>?_) (λj oj hj hm hD hne=>?_) fuel _ a w (eK.refl _ _) (λj hj=>?_) (λj hj=>hj) (gY hi hf) hr' (λw' hw'=>?_) ?_
  · have hj':l[j]? =some oj:=by simpa using hj
    have hjl:j<l.length:=(List.getElem?_eq_some_iff.1 hj').1
    have h1:=b1 j hjl
    have hmM:M.contains j=false:=by
      cases hc:M.contains j with
      |false=>rfl
      |true=>have h9:=(hgM j).2 (by simpa using hc);rw[hm] at h9;cases h9
    simp only[hmM,hj',Bool.false_or,Bool.or_eq_true,beq_iff_eq,hne,false_or] at h1
    obtain⟨e,he,hbb⟩:=Array.any_eq_true'.1 h1
    simp only[Bool.and_eq_true,Bool.not_eq_true'] at hbb
    refine⟨e,he,hbb.1,?_⟩
    cases hc:(c9 l.length M).getD e.on false with
    |false=>rfl
    |true=>
      have:=(hgM _).1 hc
      have h2:=hbb.2
      simp[this] at h2
  · have h1:=b2 j ((hgM j).1 hm)
    have hj':l[j]? =some oj:=by simpa using hj
    have hjl:j<l.length:=(List.getElem?_eq_some_iff.1 hj').1
    rw[dQ,if_pos hjl] at hD
    have hd:done.contains j=false:=by simpa using hD
    simp only[hj',Bool.or_eq_true,beq_iff_eq,hne,hd,false_or,Bool.false_eq_true] at h1
    rcases h1 with h1|h1
    · exact .inl (lC h1)
    · exact .inr h1
  · rw[dQ] at hj
    split at hj
    · have h1:=b3 j (by simpa using hj)
      exact(hgM j).2 (by simpa using h1.1)
    · cases hj
  · refine .inl ⟨?_,.inl ?_⟩
    · rw[ha.yielded];exact hw
    · rw[ha.eval];exact h w' hw'
  · rw[db done hlt]
    exact hk _ (ha.put hd v)
theorem cJ(i:Nat)(hi:l[i]? =some ⟨dst,op,ty,pos,after,g⟩)(hn:ig l=true)(hc:(qs.contains i&&gX l done i&&jh l done i&&kr n ⟨dst,op,ty,pos,after,g⟩)=true)
    (hw:cN l ⟨dst,op,ty,pos,after,g⟩ f=true)(h:∀w,(execOp (ev f) ⟨dst,op,ty,pos,after,g⟩).run P w= .ok (.value v) w)(hk:i6 P n l qs K fuel (i::done) (gv f dst v) w):i6 P n l qs K (fuel+1) done f w:=by
  simp only[Bool.and_eq_true] at hc
  obtain⟨⟨⟨hq,hr⟩,hf⟩,hd⟩:=hc
  obtain⟨hlt,hr'⟩:=g5 hr
  intro a ha
  refine oL (v:=v) (by simpa using hi) (js hn) (lC hq) (λc a w h=>by cases h.1) fuel _ a w (gY hi hf) hr' (.inl ⟨by rw[ha.yielded];exact hw,λw=>by rw[ha.eval];exact h w⟩) ?_
  rw[db done hlt]
  exact hk _ (ha.put hd v)
theorem bA(i:Nat)(hi:l[i]? =some ⟨dst,op,ty,pos,after,g⟩)(hn:ig l=true)(hc:(qs.contains i&&gX l done i&&jh l done i&&kr n ⟨dst,op,ty,pos,after,g⟩)=true)
   (hw:cN l ⟨dst,op,ty,pos,after,g⟩ f=false)(hk:i6 P n l qs K fuel (i::done) (gv f dst undef) w):i6 P n l qs K (fuel+1) done f w:=by
 simp only[Bool.and_eq_true] at hc
 obtain⟨⟨⟨hq,hr⟩,hf⟩,hd⟩:=hc
 obtain⟨hlt,hr'⟩:=g5 hr
 intro a ha
 refine oL (v:=undef) (by simpa using hi) (js hn) (lC hq) (λc a w h=>by cases h.1) fuel _ a w (gY hi hf) hr' (.inr ⟨by rw[ha.yielded];exact hw,rfl⟩) ?_
 rw[db done hlt]
 exact hk _ (ha.put hd undef)
theorem fg{i:Nat}{o:Oper}{a:Act}{K':Act->World->Prop}{Q:Exit->Act->World->Prop}{N:Value->World->Prop}(ha:Ag n a f)(hi:l[i]? =some o)(hw:cN l o f=true)(h:fv P o f w N)(hN:∀v w',N v w'->K' (a.put o.dst v) w'):wpOp P l.toArray Q i K' a w:=by
 unfold wpOp
 have hi':l.toArray[i]? =some o:=by simpa using hi
 simp only[hi']
 have hw':Region.wanted o (yielded l.toArray a.tmps)=true:=by rw[ha.yielded];exact hw
 simp only[hw',if_true]
 refine .inl ?_
 unfold Oper.wp
 rw[ha.eval]
 unfold fv at h
 generalize(execOp (ev f) o).run P w=r at*
 cases r with
 |halt x w'=>exact h.elim
 |ok nx w'=>
   cases nx<;>simp only[AQ] at h<;>simp only[Oper.upon]
   case value v=>exact hN _ _ h
   case skip=>exact hN _ _ h
   case enter g args=>
     refine h.mono λe w'' he=>?_
     cases e with
     |returned v=>exact hN _ _ he
     |panicked c=>exact he.elim
     |outgrown=>exact he.elim
theorem CO(i:Nat)(hi:l[i]? =some ⟨dst,op,ty,pos,after,g⟩)(hc:(decide (Region.ready .any l.toArray (c9 l.length done)=[i])&& !qs.contains i&&kr n ⟨dst,op,ty,pos,after,g⟩)=true)
    (hw:cN l ⟨dst,op,ty,pos,after,g⟩ f=true)(h:fv P ⟨dst,op,ty,pos,after,g⟩ f w (λv w'=>i6 P n l qs K fuel (i::done) (gv f dst v) w')):i6 P n l qs K (fuel+1) done f w:=by
  simp only[Bool.and_eq_true,decide_eq_true_eq,Bool.not_eq_true'] at hc
  obtain⟨⟨hr,hq⟩,hd⟩:=hc
  have hlt:i<l.length:=(List.getElem?_eq_some_iff.1 hi).1
  intro a ha
  refine⟨λh0=>(by rw[hr] at h0;cases h0),λj hj=>?_⟩
  rw[hr] at hj
  obtain rfl:j=i:=by simpa using hj
  have hq':decide (j∈qs)=false:=by simpa using hq
  simp only[hq',Bool.false_eq_true,if_false]
  refine fg ha hi hw h λv w' hk=>?_
  rw[db done hlt]
  exact hk _ (ha.put hd v)
theorem BY(i:Nat)(hi:l[i]? =some ⟨dst,op,ty,pos,after,g⟩)(hc:(decide (Region.ready .any l.toArray (c9 l.length done)=[i])&& !qs.contains i&&kr n ⟨dst,op,ty,pos,after,g⟩)=true)
    (hw:cN l ⟨dst,op,ty,pos,after,g⟩ f=false)(hk:i6 P n l qs K fuel (i::done) (gv f dst undef) w):i6 P n l qs K (fuel+1) done f w:=by
  simp only[Bool.and_eq_true,decide_eq_true_eq,Bool.not_eq_true'] at hc
  obtain⟨⟨hr,hq⟩,hd⟩:=hc
  have hlt:i<l.length:=(List.getElem?_eq_some_iff.1 hi).1
  intro a ha
  refine⟨λh0=>(by rw[hr] at h0;cases h0),λj hj=>?_⟩
  rw[hr] at hj
  obtain rfl:j=i:=by simpa using hj
  have hq':decide (j∈qs)=false:=by simpa using hq
  simp only[hq',Bool.false_eq_true,if_false]
  unfold wpOp
  have hi':l.toArray[j]? =some ⟨dst,op,ty,pos,after,g⟩:=by simpa using hi
  simp only[hi']
  have hw':Region.wanted ⟨dst,op,ty,pos,after,g⟩ (yielded l.toArray a.tmps)=false:=by rw[ha.yielded];exact hw
  simp only[hw',Bool.false_eq_true,if_false]
  rw[db done hlt]
  exact hk _ (ha.put hd undef)
theorem de(i j:Nat){dst':Option Tmp}{op':Op}{ty':TypeId}{pos':String}{after':Array Edge}{g':Option (Nat×Bool)}(hi:l[i]? =some ⟨dst,op,ty,pos,after,g⟩)(hj:l[j]? =some ⟨dst',op',ty',pos',after',g'⟩)
    (hc:(decide (Region.ready .any l.toArray (c9 l.length done)=[i,j])&& !qs.contains i&& !qs.contains j&&kr n ⟨dst,op,ty,pos,after,g⟩&&kr n ⟨dst',op',ty',pos',after',g'⟩)=true)
    (hw:cN l ⟨dst,op,ty,pos,after,g⟩ f=true)(hw':cN l ⟨dst',op',ty',pos',after',g'⟩ f=true)
    (h:fv P ⟨dst,op,ty,pos,after,g⟩ f w (λv w'=>i6 P n l qs K fuel (i::done) (gv f dst v) w'))(h':fv P ⟨dst',op',ty',pos',after',g'⟩ f w (λv w'=>i6 P n l qs K fuel (j::done) (gv f dst' v) w')):i6 P n l qs K (fuel+1) done f w:=by
  simp only[Bool.and_eq_true,decide_eq_true_eq,Bool.not_eq_true'] at hc
  obtain⟨⟨⟨⟨hr,hq⟩,hq2⟩,hd⟩,hd'⟩:=hc
  have hlt:i<l.length:=(List.getElem?_eq_some_iff.1 hi).1
  have hlt':j<l.length:=(List.getElem?_eq_some_iff.1 hj).1
  intro a ha
  refine⟨λh0=>(by rw[hr] at h0;cases h0),λk hk=>?_⟩
  rw[hr] at hk
  have hk':k=i\/k=j:=by simpa using hk
  rcases hk' with rfl|rfl
  · have hq':decide (k∈qs)=false:=by simpa using hq
    simp only[hq',Bool.false_eq_true,if_false]
    refine fg ha hi hw h λv w' hk=>?_
    rw[db done hlt]
    exact hk _ (ha.put hd v)
  · have hq':decide (k∈qs)=false:=by simpa using hq2
    simp only[hq',Bool.false_eq_true,if_false]
    refine fg ha hj hw' h' λv w' hk=>?_
    rw[db done hlt']
    exact hk _ (ha.put hd' v)
def Da(P:Program)(n:Nat)(l:List Oper)(qs:List Nat)(K:Fr->World->Prop)(fuel:Nat)(done:List Nat)(f:Fr)(w:World)(i:Nat):Prop:=
  ∀a,Ag n a f->qs.contains i=false/\∃o,l[i]? =some o/\i<l.length/\(cN l o f=true/\kr n o=true/\fv P o f w (λv w'=>i6 P n l qs K fuel (i::done) (gv f o.dst v) w'))
theorem fU(i:Nat)(hi:l[i]? =some ⟨dst,op,ty,pos,after,g⟩)(hc:(!qs.contains i&&kr n ⟨dst,op,ty,pos,after,g⟩)=true)(hw:cN l ⟨dst,op,ty,pos,after,g⟩ f=true)
   (h:fv P ⟨dst,op,ty,pos,after,g⟩ f w (λv w'=>i6 P n l qs K fuel (i::done) (gv f dst v) w')):Da P n l qs K fuel done f w i:=by
 simp only[Bool.and_eq_true,Bool.not_eq_true'] at hc
 exact λa ha=>⟨hc.1,_,hi,(List.getElem?_eq_some_iff.1 hi).1,hw,hc.2,h⟩
def CF(P:Program)(n:Nat)(l:List Oper)(qs:List Nat)(K:Fr->World->Prop)(fuel:Nat)(done:List Nat)(f:Fr)(w:World):List Nat->Prop
 |[]=>True
 |i::r=>Da P n l qs K fuel done f w i/\CF P n l qs K fuel done f w r
theorem CF.mem{L:List Nat}(h:CF P n l qs K fuel done f w L):∀i∈L,Da P n l qs K fuel done f w i:=by
 induction L with
 |nil=>intro i hi;cases hi
 |cons j r ih=>
   intro i hi
   rcases List.mem_cons.1 hi with rfl|hi
   · exact h.1
   · exact ih h.2 i hi
theorem j0(i:Nat)(L:List Nat)(hr:decide (Region.ready .any l.toArray (c9 l.length done)=i::L)=true)(h:CF P n l qs K fuel done f w (i::L)):i6 P n l qs K (fuel+1) done f w:=by
 have hr:=of_decide_eq_true hr
 intro a ha
 refine⟨λh0=>(by rw[hr] at h0;cases h0),λk hk=>?_⟩
 rw[hr] at hk
 obtain⟨hq,o,hi,hlt,hw,hd,ho⟩:=h.mem k (by simpa using hk) a ha
 have hq':decide (k∈qs)=false:=by simpa using hq
 simp only[hq',Bool.false_eq_true,if_false]
 obtain⟨dst,op,ty,pos,after,g⟩:=o
 refine fg ha hi hw ho λv w' hk=>?_
 rw[db done hlt]
 exact hk _ (ha.put hd v)
theorem bV(hr:decide (Region.ready .any l.toArray (c9 l.length done)=[])=true)(h:K f w):i6 P n l qs K 0 done f w:=λ_ ha=>⟨of_decide_eq_true hr,rfl,f,ha,h⟩
end
end TL
set_option linter.all false
namespace TL
open Go
section
variable{P:Program}{n:Nat}{l:List Oper}{S:World->Prop}{K:Fr->World->Prop}{f:Fr}{w:World}{done:List Nat}{fuel:Nat}
def tX(P:Program)(n:Nat)(l:List Oper)(S:World->Prop)(K:Fr->World->Prop)(fuel:Nat)(done:List Nat)(f:Fr)(w:World):Prop:=
  ∀a,Ag n a f->wpAnyH P .any l.toArray (λe a' w'=>e= .normal/\∃f',Ag n a' f'/\K f' w') S fuel (c9 l.length done) a w
theorem bg.same{J:cw->Prop}{γ γ':ax}{w w':World}(h:bg J γ w γ' w'):bg J γ w γ w':=⟨h.os,h.tape,h.output,h.size,λ_ _ _=>rfl,h.keep,h.drawn⟩
theorem iU{fid:Nat}{R:Ending->World->Prop}{k:List Item}{id:Nat}(γ:ax)(J:cw->Prop)(hm:P.follows .mixedOrders=true)
   (h:∀w1,bg no γ w γ w1->tX P n l (λw'=>bg J γ w1 γ w') (fY P fid n R k) l.length [] f w1):fY P fid n R (.code (.region id l.toArray true)::k) f w:=
 jU λa ha=>wp_region_held hm (by
   have h0:=h _ (bg.refl _ _ _).drew a ha
   have hmask:c9 l.length []=Array.replicate l.toArray.size false:=by
     apply Array.ext
     · simp[c9]
     · intro j h1 h2;simp[c9]
   rw[hmask] at h0
   simpa using h0)
theorem dD{fid:Nat}{R:Ending->World->Prop}{k:List Item}{id:Nat}{σ:Type}(Mid:σ->Fr->World->Prop)(γ:ax)(J:cw->Prop)(hm:P.follows .mixedOrders=true)
    (h:(∀s f w,Mid s f w->fY P fid n R k f w)->∀w1,bg no γ w γ w1->tX P n l (λw'=>bg J γ w1 γ w') (fY P fid n R k) l.length [] f w1)(hk:∀s f w,Mid s f w->fY P fid n R k f w):fY P fid n R (.code (.region id l.toArray true)::k) f w:=
  iU γ J hm (h hk)
variable{dst:Option Tmp}{op:Op}{ty:TypeId}{pos:String}{after:Array Edge}{g:Option (Nat×Bool)}{v:Value}
theorem Dj(i:Nat)(hi:l[i]? =some ⟨dst,op,ty,pos,after,g⟩)(hn:ig l=true)(hc:(gX l done i&&jh l done i&&kr n ⟨dst,op,ty,pos,after,g⟩)=true)
   (hw:cN l ⟨dst,op,ty,pos,after,g⟩ f=true)(hS:S w)(h:∀w,S w->(execOp (ev f) ⟨dst,op,ty,pos,after,g⟩).run P w= .ok (.value v) w)(hk:tX P n l S K fuel (i::done) (gv f dst v) w):tX P n l S K (fuel+1) done f w:=by
 simp only[Bool.and_eq_true] at hc
 obtain⟨⟨hr,hf⟩,hd⟩:=hc
 obtain⟨hlt,hr'⟩:=g5 hr
 intro a ha
 refine wpAnyH_first (v:=v) (by simpa using hi) (js hn) (λc a w h=>by cases h.1) fuel _ a w (gY hi hf) hr' (.inl ⟨by rw[ha.yielded];exact hw,λw hs=>by rw[ha.eval];exact h w hs⟩) hS ?_
 rw[db done hlt]
 exact hk _ (ha.put hd v)
def DU(P:Program)(n:Nat)(l:List Oper)(S:World->Prop)(K:Fr->World->Prop)(fuel:Nat)(done:List Nat)(f:Fr)(w:World)(i:Nat):Prop:=
  ∃o,l[i]? =some o/\i<l.length/\(cN l o f=true/\kr n o=true/\fv P o f w (λv w'=>S w'/\tX P n l S K fuel (i::done) (gv f o.dst v) w'))
theorem ca(i:Nat)(hi:l[i]? =some ⟨dst,op,ty,pos,after,g⟩)(hc:kr n ⟨dst,op,ty,pos,after,g⟩=true)(hw:cN l ⟨dst,op,ty,pos,after,g⟩ f=true)
   (h:fv P ⟨dst,op,ty,pos,after,g⟩ f w (λv w'=>S w'/\tX P n l S K fuel (i::done) (gv f dst v) w')):DU P n l S K fuel done f w i:=
 ⟨_,hi,(List.getElem?_eq_some_iff.1 hi).1,hw,hc,h⟩
def Cq(P:Program)(n:Nat)(l:List Oper)(S:World->Prop)(K:Fr->World->Prop)(fuel:Nat)(done:List Nat)(f:Fr)(w:World):List Nat->Prop
 |[]=>True
 |i::r=>DU P n l S K fuel done f w i/\Cq P n l S K fuel done f w r
theorem Cq.mem{L:List Nat}(h:Cq P n l S K fuel done f w L):∀i∈L,DU P n l S K fuel done f w i:=by
 induction L with
 |nil=>intro i hi;cases hi
 |cons j r ih=>
   intro i hi
   rcases List.mem_cons.1 hi with rfl|hi
   · exact h.1
   · exact ih h.2 i hi
theorem cj(i:Nat)(L:List Nat)(hr:decide (Region.ready .any l.toArray (c9 l.length done)=i::L)=true)(h:Cq P n l S K fuel done f w (i::L)):tX P n l S K (fuel+1) done f w:=by
 have hr:=of_decide_eq_true hr
 intro a ha
 refine⟨λh0=>(by rw[hr] at h0;cases h0),λk hk=>?_⟩
 rw[hr] at hk
 obtain⟨o,hi,hlt,hw,hd,ho⟩:=h.mem k (by simpa using hk)
 obtain⟨dst,op,ty,pos,after,g⟩:=o
 refine fg ha hi hw ho λv w' hk=>⟨hk.1,?_⟩
 rw[db done hlt]
 exact hk.2 _ (ha.put hd v)
theorem Er(i:Nat)(hi:l[i]? =some ⟨dst,op,ty,pos,after,g⟩)(hc:(decide (Region.ready .any l.toArray (c9 l.length done)=[i])&&kr n ⟨dst,op,ty,pos,after,g⟩)=true)
   (hw:cN l ⟨dst,op,ty,pos,after,g⟩ f=true)(h:fv P ⟨dst,op,ty,pos,after,g⟩ f w (λv w'=>S w'/\tX P n l S K fuel (i::done) (gv f dst v) w')):tX P n l S K (fuel+1) done f w:=by
 simp only[Bool.and_eq_true] at hc
 exact cj i [] hc.1 ⟨ca i hi hc.2 hw h,trivial⟩
theorem ce(hr:decide (Region.ready .any l.toArray (c9 l.length done)=[])=true)(h:K f w):tX P n l S K 0 done f w:=λ_ ha=>⟨of_decide_eq_true hr,rfl,f,ha,h⟩
end
end TL
namespace TL
open Go
end TL
set_option linter.all false
namespace TL
abbrev bN:=Int×List (Int×Int)
def AL(n:Int)(e:Int×Int):Prop:=(0<=e.1/\e.1<n)/\0<=e.2/\e.2<n
instance (n:Int)(e:Int×Int):Decidable (AL n e):=by unfold AL;infer_instance
def bO(g:bN):Prop:=0<=g.1/\g.1<=1024/\g.2.length<=3072/\∀e∈g.2,AL g.1 e
instance (g:bN):Decidable (bO g):=by unfold bO;infer_instance
def eI(g:bN):Bool:=decide (bO g)
theorem vI{g:bN}(h:bO g):eI g=true:=decide_eq_true h
theorem fc{g:bN}(h:¬bO g):eI g=false:=decide_eq_false h
end TL
namespace TL
def fZ(n:Int):List Int->List Int->Int
  |[],_=>0
  |i::r,seen=>if i<0\/n<=i then 2 else if i∈seen then 18 else fZ n r (seen++[i])
def cK(l:List Int)(n:Int):Int:=fZ n l []
structure eM(seen:List Bool)(l:List Int)(n:Int)(k:Nat):Prop where
 len:(seen.length:Int)=n
 seen:∀i,0<=i->i<n->gI seen i=decide (i∈l.take k)
 rest:fZ n (l.drop k) (l.take k)=cK l n
 all:∀i∈l.take k,0<=i/\i<n
theorem pX{α:Type}[Inhabited α]{xs:List α}{k:Nat}(h:(k:Int)<xs.length):xs.drop k=gI xs k::xs.drop (k+1):=by
 have h':k<xs.length:=by omega
 rw[List.drop_eq_getElem_cons h']
 simp[gI,h']
theorem dJ{α:Type}[Inhabited α]{xs:List α}{i j:Int}{y:α}(hi:0<=i)(hi':i<xs.length)(hj:0<=j):gI (xs.set i.toNat y) j=if j=i then y else gI xs j:=by
 unfold gI
 by_cases h:j=i
 · subst h
   have:j.toNat<xs.length:=by omega
   simp[this]
 · have:i.toNat≠j.toNat:=by omega
   simp[h,List.getElem?_set_ne this]
theorem kA{α:Type}[Inhabited α]{n:Nat}{x:α}{i:Int}(h0:0<=i)(h1:i<n):gI (List.replicate n x) i=x:=by
 have:i.toNat<n:=by omega
 simp[gI,this]
theorem eM.start(l:List Int)(n:Int)(hn:0<=n):eM (List.replicate n.toNat false) l n 0:=
 ⟨by simp;omega,λi h0 h1=>by rw[kA h0 (by omega)];simp,by simp[cK],by simp⟩
theorem eM.next{seen:List Bool}{l:List Int}{n:Int}{k:Nat}(h:eM seen l n k)(hk:(k:Int)<l.length)(h0:0<=gI l k)(h1:gI l k<n)(hs:gI seen (gI l k)=false):eM (seen.set (gI l k).toNat true) l n (k+1):=by
 have ht:=bc hk
 have hd:=pX hk
 have hl:=h.len
 have hni:gI l k∉l.take k:=by
   have:=h.seen _ h0 h1
   rw[hs] at this
   simpa using this.symm
 refine⟨by simpa using h.len,λi h2 h3=>?_,?_,λi hi=>?_⟩
 · rw[dJ h0 (by omega) h2,ht]
   by_cases he:i=gI l k
   · subst he;simp
   · rw[if_neg he,h.seen i h2 h3]
     simp[he]
 · rw[<-h.rest,hd,ht]
   simp only[fZ]
   rw[if_neg (by omega),if_neg hni]
 · rw[ht] at hi
   rcases List.mem_append.1 hi with h'|h'
   · exact h.all i h'
   · obtain rfl:=List.mem_singleton.1 h'
     exact⟨h0,h1⟩
theorem eM.bad{seen:List Bool}{l:List Int}{n:Int}{k:Nat}(h:eM seen l n k)(hk:(k:Int)<l.length)(h0:gI l k<0\/n<=gI l k):(2:Int)=cK l n:=by
 rw[<-h.rest,pX hk];simp only[fZ];rw[if_pos h0]
theorem eM.twice{seen:List Bool}{l:List Int}{n:Int}{k:Nat}(h:eM seen l n k)(hk:(k:Int)<l.length)(h0:0<=gI l k)(h1:gI l k<n)(hs:gI seen (gI l k)=true):(18:Int)=cK l n:=by
 have hni:gI l k∈l.take k:=by
   have:=h.seen _ h0 h1
   rw[hs] at this
   simpa using this.symm
 rw[<-h.rest,pX hk];simp only[fZ];rw[if_neg (by omega),if_pos hni]
theorem eM.done{seen:List Bool}{l:List Int}{n:Int}{k:Nat}(h:eM seen l n k)(hk:¬(k:Int)<l.length):(0:Int)=cK l n:=by
 rw[<-h.rest,List.drop_of_length_le (by omega)];rfl
theorem kC{n:Int}:∀(l seen:List Int),fZ n l seen=0->(∀i∈l,0<=i/\i<n)/\l.Nodup/\∀i∈l,i∉seen
 |[],seen,_=>by simp
 |i::r,seen,h=>by
   simp only[fZ] at h
   split at h
   · cases h
   · split at h
     · cases h
     · rename_i h1 h2
       obtain⟨a,b,c⟩:=kC r (seen++[i]) h
       refine⟨λj hj=>?_,List.nodup_cons.2 ⟨λhi=>c i hi (by simp),b⟩,λj hj=>?_⟩
       · rcases List.mem_cons.1 hj with rfl|hj
         · omega
         · exact a j hj
       · rcases List.mem_cons.1 hj with rfl|hj
         · exact h2
         · exact λhs=>c j hj (by simp[hs])
theorem sk{n:Int}{l:List Int}(h:cK l n=0):(∀i∈l,0<=i/\i<n)/\l.Nodup:=⟨(kC l [] h).1,(kC l [] h).2.1⟩
def gK(nodes:List Int)(v:Int):Int:=if v∈nodes then(nodes.idxOf v:Int)+1 else 0
def nM(g:bN)(nodes:List Int):List Int:=((List.range g.2.length).map (λ(i:Nat)=>(i:Int))).filter λi=>decide ((gI g.2 i).1∈nodes)&&decide ((gI g.2 i).2∈nodes)
def dp(g:bN)(nodes:List Int):bN×List Int×Int:=
 if bO g then
   if cK nodes g.1=0 then(((nodes.length:Int),(nM g nodes).map λi=>(gK nodes (gI g.2 i).1-1,gK nodes (gI g.2 i).2-1)),nM g nodes,0) else((0,[]),[],cK nodes g.1)
 else((0,[]),[],1)
end TL
namespace TL
structure jw(T:List Int)(nodes:List Int)(n:Int)(k:Nat):Prop where
 len:(T.length:Int)=n
 pos:∀v,0<=v->v<n->gI T v=gK (nodes.take k) v
theorem jw.start(nodes:List Int)(n:Int)(hn:0<=n):jw (List.replicate n.toNat 0) nodes n 0:=
 ⟨by simp;omega,λv h0 h1=>by rw[kA h0 (by omega)];simp[gK]⟩
theorem uU{l:List Int}{x v:Int}(hx:x∉l):gK (l++[x]) v=if v=x then(l.length:Int)+1 else gK l v:=by
 unfold gK
 by_cases h:v=x
 · subst h
   simp[List.idxOf_append,hx]
 · by_cases hv:v∈l
   · simp[h,hv,List.idxOf_append]
   · simp[h,hv]
theorem jw.next{T nodes:List Int}{n:Int}{k:Nat}(h:jw T nodes n k)(hk:(k:Int)<nodes.length)(h0:0<=gI nodes k)(h1:gI nodes k<n)(hd:nodes.Nodup):jw (T.set (gI nodes k).toNat ((k:Int)+1)) nodes n (k+1):=by
 have ht:=bc hk
 have hl:=h.len
 have hn:gI nodes k∉nodes.take k:=by
   have h2:(nodes.take (k+1)).Nodup:=hd.sublist (List.take_sublist _ _)
   rw[ht] at h2
   have:=List.nodup_append.1 h2
   intro hm
   exact this.2.2 _ hm _ (by simp) rfl
 have hlk:(nodes.take k).length=k:=by simp;omega
 refine⟨by simpa using h.len,λv h2 h3=>?_⟩
 rw[dJ h0 (by omega) h2,ht,uU hn,h.pos v h2 h3,hlk]
def dL(g:bN)(nodes:List Int)(k:Nat):List Int:=((List.range k).map (λ(i:Nat)=>(i:Int))).filter λi=>decide ((gI g.2 i).1∈nodes)&&decide ((gI g.2 i).2∈nodes)
theorem jB(g:bN)(nodes:List Int)(k:Nat):dL g nodes (k+1)=if(gI g.2 k).1∈nodes/\(gI g.2 k).2∈nodes then dL g nodes k++[(k:Int)] else dL g nodes k:=by
 unfold dL
 rw[List.range_succ,List.map_append,List.filter_append]
 by_cases h:(gI g.2 k).1∈nodes/\(gI g.2 k).2∈nodes
 · rw[if_pos h];simp[h.1,h.2]
 · rw[if_neg h]
   have:¬((gI g.2 (k:Int)).1∈nodes/\(gI g.2 (k:Int)).2∈nodes):=h
   by_cases h1:(gI g.2 (k:Int)).1∈nodes
   · have h2:(gI g.2 (k:Int)).2∉nodes:=λh2=>h ⟨h1,h2⟩
     simp[h1,h2]
   · simp[h1]
theorem te(g:bN)(nodes:List Int)(k:Nat):(dL g nodes k).length<=k:=by
 unfold dL
 have:=List.length_filter_le (λi=>decide ((gI g.2 i).1∈nodes)&&decide ((gI g.2 i).2∈nodes)) ((List.range k).map (λ(i:Nat)=>(i:Int)))
 simpa using this
theorem iH{l:List Int}{v:Int}:0<gK l v↔v∈l:=by
 unfold gK
 by_cases h:v∈l
 · simp[h]
 · simp[h]
theorem mJ(l:List Int)(v:Int):gK l v<=l.length:=by
 unfold gK
 split
 · rename_i h
   have:=List.idxOf_lt_length_iff.2 h
   omega
 · omega
end TL
namespace TL
theorem sN{g:bN}{nodes:List Int}{k:Nat}(h1:0<gK nodes (gI g.2 k).1)(h2:0<gK nodes (gI g.2 k).2):dL g nodes (k+1)=dL g nodes k++[(k:Int)]:=by
 rw[jB,if_pos ⟨iH.1 h1,iH.1 h2⟩]
theorem sC{g:bN}{nodes:List Int}{k:Nat}(h1:¬0<gK nodes (gI g.2 k).1):dL g nodes (k+1)=dL g nodes k:=by
 rw[jB,if_neg λh=>h1 (iH.2 h.1)]
theorem sJ{g:bN}{nodes:List Int}{k:Nat}(h1:¬0<gK nodes (gI g.2 k).2):dL g nodes (k+1)=dL g nodes k:=by
 rw[jB,if_neg λh=>h1 (iH.2 h.2)]
end TL
namespace TL
def bf(g:bN)(h:Int):Int:=pI (gI g.2 (h/2)) (h%2)
def j5(g:bN)(v:Int)(k:Nat):List Int:=((List.range (2*k)).map (λ(i:Nat)=>(i:Int))).filter λh=>decide (bf g h=v)
def d6(g:bN)(v:Int):List Int:=j5 g v g.2.length
theorem n4(g:bN)(k:Nat):bf g (2*(k:Int))=(gI g.2 k).1:=by
 unfold bf
 have h1:2*(k:Int)/2=k:=by omega
 have h2:2*(k:Int)%2=0:=by omega
 rw[h1,h2];rfl
theorem oD(g:bN)(k:Nat):bf g (2*(k:Int)+1)=(gI g.2 k).2:=by
 unfold bf
 have h1:(2*(k:Int)+1)/2=k:=by omega
 have h2:(2*(k:Int)+1)%2=1:=by omega
 rw[h1,h2];rfl
theorem sX(g:bN)(v:Int)(k:Nat):j5 g v (k+1)=j5 g v k++((if(gI g.2 k).1=v then[2*(k:Int)] else[])++(if(gI g.2 k).2=v then[2*(k:Int)+1] else[])):=by
 unfold j5
 rw[show 2*(k+1)=2*k+1+1 by omega,List.range_succ,List.range_succ]
 simp only[List.map_append,List.filter_append,List.map_cons,List.map_nil,List.append_assoc]
 congr 1
 have e1:((2*k:Nat):Int)=2*(k:Int):=by omega
 have e2:((2*k+1:Nat):Int)=2*(k:Int)+1:=by omega
 rw[e1,e2]
 congr 1
 · by_cases h:(gI g.2 (k:Int)).1=v
   · simp[n4,h]
   · simp[n4,h]
 · by_cases h:(gI g.2 (k:Int)).2=v
   · simp[oD,h]
   · simp[oD,h]
theorem vu(g:bN)(v:Int)(k:Nat):(j5 g v k).length<=2*k:=by
 unfold j5
 have:=List.length_filter_le (λh=>decide (bf g h=v)) ((List.range (2*k)).map (λ(i:Nat)=>(i:Int)))
 simpa using this
end TL
namespace TL
theorem jo{α:Type}[Inhabited α]{l l':List α}(hl:l.length=l'.length)(h:∀i:Nat,i<l.length->gI l i=gI l' i):l=l':=by
 apply List.ext_getElem hl
 intro i h1 h2
 have:=h i h1
 simpa[gI,h1,h2] using this
end TL
namespace TL
def qc(e:Int×Int):Int×Int:=(min e.1 e.2,max e.1 e.2)
end TL
namespace TL
theorem kg{g:bN}{k:Nat}(hk:(k:Int)<g.2.length):(g.2.map qc).take (k+1)=(g.2.map qc).take k++[qc (gI g.2 k)]:=by
 rw[bc (by simpa using hk)]
 have h':k<g.2.length:=by omega
 simp[gI,h']
end TL
namespace TL
section
end
end TL
set_option linter.all false
namespace TL
theorem ld{n:Int}:∀(l seen:List Int),(∀i∈l,0<=i/\i<n)->l.Nodup->(∀i∈l,i∉seen)->fZ n l seen=0
 |[],_,_,_,_=>rfl
 |i::r,seen,h1,h2,h3=>by
   have h4:=h1 i (by simp)
   obtain⟨h5,h6⟩:=List.nodup_cons.1 h2
   simp only[fZ]
   rw[if_neg (by omega),if_neg (h3 i (by simp))]
   refine ld r _ (λj hj=>h1 j (by simp[hj])) h6 (λj hj hs=>?_)
   rcases List.mem_append.1 hs with h|h
   · exact h3 j (by simp[hj]) h
   · obtain rfl:=List.mem_singleton.1 h
     exact h5 hj
theorem pH{n:Int}{l:List Int}(h1:∀i∈l,0<=i/\i<n)(h2:l.Nodup):cK l n=0:=ld l [] h1 h2 (by simp)
theorem yc{α β:Type}[Inhabited α][Inhabited β](f:α->β){l:List α}{i:Int}(h0:0<=i)(h1:i<l.length):gI (l.map f) i=f (gI l i):=by
 have:i.toNat<l.length:=by omega
 simp[gI,this]
end TL
set_option linter.all false
namespace TL
def bQ(n:Nat):List Int:=(List.range n).map λ(i:Nat)=>(i:Int)
theorem dP(n:Nat):(bQ n).length=n:=by simp[bQ]
theorem dE(n:Nat):bQ (n+1)=bQ n++[(n:Int)]:=by simp[bQ,List.range_succ]
theorem gm{n:Nat}{x:Int}:x∈bQ n↔0<=x/\x<n:=by
 unfold bQ
 rw[List.mem_map]
 constructor
 · rintro⟨i,hi,rfl⟩
   have:=List.mem_range.1 hi
   omega
 · rintro⟨h1,h2⟩
   exact⟨x.toNat,List.mem_range.2 (by omega),by omega⟩
theorem nH(n:Nat):(bQ n).Nodup:=by
 induction n with
 |zero=>simp[bQ]
 |succ n ih=>
   rw[dE,List.nodup_append]
   refine⟨ih,by simp,λa ha b hb=>?_⟩
   have:=gm.1 ha
   have:=List.mem_singleton.1 hb
   omega
theorem qa{n:Nat}{i:Int}(h0:0<=i)(h1:i<n):gI (bQ n) i=i:=by
 have:i.toNat<n:=by omega
 simp[gI,bQ,this]
 omega
theorem sV:∀(n:Nat) (l:List Int),l.Nodup->(∀x∈l,0<=x/\x<(n:Int))->l.length<=n
 |0,l,_,h=>by
   cases l with
   |nil=>simp
   |cons a l=>have:=h a (by simp);omega
 |n+1,l,hn,h=>by
   have h1:(l.erase (n:Int)).Nodup:=hn.erase _
   have h2:=sV n (l.erase (n:Int)) h1 (λx hx=>by
     have h3:=hn.mem_erase_iff.1 hx
     have:=h x h3.2
     omega)
   by_cases hm:(n:Int)∈l
   · have:=List.length_erase_of_mem hm
     omega
   · rw[List.erase_of_not_mem hm] at h2
     omega
end TL
set_option linter.all false
namespace TL
def k9(g:bN)(i:Int):Bool:=decide (¬(gI g.2 i).1=(gI g.2 i).2)&&decide (¬qc (gI g.2 i)∈(g.2.map qc).take i.toNat)
def gB(g:bN)(k:Nat):List Int:=(bQ k).filter (k9 g)
def cV(g:bN):bN×List Int×Int:=if bO g then((g.1,(gB g g.2.length).map (gI g.2)),gB g g.2.length,0) else((0,[]),[],1)
theorem gR(g:bN)(k:Nat):gB g (k+1)=if k9 g k=true then gB g k++[(k:Int)] else gB g k:=by
 unfold gB
 rw[dE,List.filter_append]
 by_cases h:k9 g (k:Int)=true
 · rw[if_pos h];simp[h]
 · rw[if_neg h];simp[h]
theorem lV(g:bN)(k:Nat):(gB g k).length<=k:=by
 unfold gB
 have:=List.length_filter_le (k9 g) (bQ k)
 rw[dP] at this
 exact this
end TL
namespace TL
structure dC(left:List Int)(out:List (Int×Int))(F:Int×Int->Int)(g:bN)(k:Nat):Prop where
 left:left=gB g k
 out:out=(gB g k).map (gI g.2)
 seen:∀q,F q=(((g.2.map qc).take k).count q:Nat)
theorem dC.start(g:bN):dC [] [] (λ_=>0) g 0:=⟨rfl,rfl,λq=>by simp⟩
section
variable{left:List Int}{out:List (Int×Int)}{F:Int×Int->Int}{g:bN}{k:Nat}
theorem dC.bd(h:dC left out F g k):left.length<=k/\out.length<=k/\∀q,0<=F q/\F q<=k:=by
 refine⟨by rw[h.left];exact lV g k,by rw[h.out,List.length_map];exact lV g k,λq=>?_⟩
 rw[h.seen]
 have h1:=List.count_le_length (a:=q) (l:=(g.2.map qc).take k)
 have h2:((g.2.map qc).take k).length<=k:=List.length_take_le _ _
 omega
theorem dC.seen_next(h:dC left out F g k)(hk:(k:Int)<g.2.length)(q:Int×Int):(if q=qc (gI g.2 k) then F (qc (gI g.2 k))+1 else F q)=(((g.2.map qc).take (k+1)).count q:Nat):=by
 rw[kg hk,List.count_append,h.seen,h.seen]
 by_cases h2:q=qc (gI g.2 (k:Int))
 · subst h2;simp
 · have h3:¬qc (gI g.2 (k:Int))=q:=λh=>h2 h.symm
   simp[h2,h3]
theorem dC.none_iff(h:dC left out F g k):F (qc (gI g.2 k))=0↔¬qc (gI g.2 k)∈(g.2.map qc).take k:=by
 rw[h.seen,<-List.count_eq_zero];omega
theorem dC.take(h:dC left out F g k)(hk:(k:Int)<g.2.length)(c1:¬(gI g.2 k).1=(gI g.2 k).2)(c2:F (min (gI g.2 k).1 (gI g.2 k).2,max (gI g.2 k).1 (gI g.2 k).2)=0):
   dC (left++[(k:Int)]) (out++[gI g.2 k]) (λq=>if q=(min (gI g.2 k).1 (gI g.2 k).2,max (gI g.2 k).1 (gI g.2 k).2) then F (min (gI g.2 k).1 (gI g.2 k).2,max (gI g.2 k).1 (gI g.2 k).2)+1 else F q) g (k+1):=by
 have hp:k9 g (k:Int)=true:=by
   unfold k9
   have:=h.none_iff.1 c2
   simp only[Int.toNat_natCast,Bool.and_eq_true,decide_eq_true_eq]
   exact⟨c1,this⟩
 refine⟨by rw[gR,if_pos hp,h.left],by rw[gR,if_pos hp,h.out];simp,λq=>h.seen_next hk q⟩
theorem dC.skip(h:dC left out F g k)(hk:(k:Int)<g.2.length)(c:(gI g.2 k).1=(gI g.2 k).2\/¬F (min (gI g.2 k).1 (gI g.2 k).2,max (gI g.2 k).1 (gI g.2 k).2)=0):
   dC left out (λq=>if q=(min (gI g.2 k).1 (gI g.2 k).2,max (gI g.2 k).1 (gI g.2 k).2) then F (min (gI g.2 k).1 (gI g.2 k).2,max (gI g.2 k).1 (gI g.2 k).2)+1 else F q) g (k+1):=by
 have hp:¬k9 g (k:Int)=true:=by
   unfold k9
   simp only[Int.toNat_natCast,Bool.and_eq_true,decide_eq_true_eq]
   rintro⟨c1,c3⟩
   rcases c with c|c
   · exact c1 c
   · exact c (h.none_iff.2 c3)
 exact⟨by rw[gR,if_neg hp,h.left],by rw[gR,if_neg hp,h.out],λq=>h.seen_next hk q⟩
end
end TL
set_option linter.all false
namespace TL
end TL
namespace TL
theorem sf(g:bN):∀k:Nat,(k:Int)<=g.2.length->(((gB g k).map (gI g.2)).map qc).Nodup/\(∀q∈((gB g k).map (gI g.2)).map qc,q∈(g.2.map qc).take k)/\(∀d∈(gB g k).map (gI g.2),d∈g.2/\¬d.1=d.2):=by
  intro k
  induction k with
  |zero=>intro _;simp[gB,bQ]
  |succ k ih=>
    intro hk
    obtain⟨a,b,c⟩:=ih (by omega)
    rw[gR,kg (by omega)]
    by_cases hp:k9 g (k:Int)=true
    · rw[if_pos hp]
      have hp':=hp
      unfold k9 at hp'
      simp only[Int.toNat_natCast,Bool.and_eq_true,decide_eq_true_eq] at hp'
      simp only[List.map_append,List.map_cons,List.map_nil]
      refine⟨?_,λq hq=>?_,λd hd=>?_⟩
      · rw[List.nodup_append]
        refine⟨a,by simp,λx hx y hy=>?_⟩
        obtain rfl:=List.mem_singleton.1 hy
        intro e
        exact hp'.2 (e▸b x hx)
      · rcases List.mem_append.1 hq with h|h
        · exact List.mem_append.2 (.inl (b q h))
        · exact List.mem_append.2 (.inr h)
      · rcases List.mem_append.1 hd with h|h
        · exact c d h
        · obtain rfl:=List.mem_singleton.1 h
          exact⟨bz (by omega) (by omega),hp'.1⟩
    · rw[if_neg hp]
      exact⟨a,λq hq=>List.mem_append.2 (.inl (b q hq)),c⟩
theorem nA{g:bN}(hm:bO g):cV g=((g.1,(gB g g.2.length).map (gI g.2)),gB g g.2.length,0):=by unfold cV;rw[if_pos hm]
theorem rN{g:bN}(hm:bO g):bO (cV g).1:=by
 obtain⟨m1,m2,m3,m4⟩:=hm
 rw[nA ⟨m1,m2,m3,m4⟩]
 refine⟨m1,m2,?_,λd hd=>m4 d ((sf g _ (Int.le_refl _)).2.2 d hd).1⟩
 have:=lV g g.2.length
 simp only[List.length_map];omega
end TL
namespace TL
end TL
set_option linter.all false
namespace TL
def qg(g:bN)(v:Int)(h:Nat):List Int:=((List.range h).map (λ(i:Nat)=>(i:Int))).filter λh=>decide (bf g h=v)
theorem uH(g:bN)(v:Int)(h:Nat):qg g v (h+1)=if bf g h=v then qg g v h++[(h:Int)] else qg g v h:=by
 unfold qg
 rw[List.range_succ,List.map_append,List.filter_append]
 by_cases e:bf g (h:Int)=v
 · rw[if_pos e];simp[e]
 · rw[if_neg e];simp[e]
theorem x6(g:bN)(v:Int)(h:Nat):(qg g v h).length<=h:=by
 unfold qg
 have:=List.length_filter_le (λh=>decide (bf g h=v)) ((List.range h).map (λ(i:Nat)=>(i:Int)))
 simpa using this
theorem wX(g:bN)(v:Int){h:Nat}(hh:h=2*g.2.length):qg g v h=d6 g v:=by subst hh;rfl
theorem A0{g:bN}(hm:bO g){h:Int}(h0:0<=h)(h1:h<2*(g.2.length:Int)):0<=bf g h/\bf g h<g.1:=by
 have hok:=hm.2.2.2 _ (bz (xs:=g.2) (i:=h/2) (by omega) (by omega))
 unfold AL at hok
 unfold bf pI
 split<;>omega
end TL
set_option linter.all false
namespace TL
open Go
section
variable{P:Program}{f:Fr}{w:World}{dst:Option Tmp}{ty:TypeId}{pos:String}{after:Array Edge}{g:Option (Nat×Bool)}{t t' e:TypeId}{x y:Operand}
theorem ae{a:Addr}(hx:ev f x= .pointer (some a)):(execOp (ev f) ⟨dst,.nilCheck x,ty,pos,after,g⟩).run P w= .ok (.value (.pointer (some a))) w:=by
 simp only[execOp,hx,Sem.run_pure]
end
end TL
namespace TL
open Go
section
end
end TL
namespace TL
open Go
section
end
end TL
namespace TL
open Go
theorem fI{f:Fr}{x:Operand}{xs:List Operand}{v:Value}{vs:List Value}(h:ev f x=v)(h2:xs.map (ev f)=vs):(x::xs).map (ev f)=v::vs:=by subst h h2;rfl
end TL
set_option linter.all false
namespace TL
abbrev j7:=List (List Int)
theorem qV{n:Int}{l:List Int}(h0:0<=n)(hn:l.Nodup)(h:∀x∈l,0<=x/\x<n):(l.length:Int)<=n:=by
 have:=sV n.toNat l hn (λx hx=>by have:=h x hx;omega)
 omega
section
end
def cH(s:List Int)(v:Int):Int:=if v∈s then(s.idxOf v:Int) else-1
theorem yU{s:List Int}{v:Int}{i:Nat}(h:∀j:Nat,j<i->¬v=gI s (j:Int))(hi:(i:Int)<s.length)(he:v=gI s (i:Int)):(i:Int)=cH s v:=by
 have hlt:i<s.length:=by omega
 have e:gI s (i:Int)=s[i]:=by simp[gI,hlt]
 have hm:v∈s:=by rw[he];exact bz (by omega) hi
 unfold cH
 rw[if_pos hm]
 have hlt2:=List.idxOf_lt_length_iff.2 hm
 have h1:¬s.idxOf v<i:=λhlt'=>h _ hlt' (by simp[gI,hlt2])
 have h2:¬i<s.idxOf v:=λhlt'=>by
   have:=List.not_of_lt_findIdx (xs:=s) (p:=(· ==v)) (i:=i) hlt'
   simp at this
   exact this (by rw[<-e,<-he])
 omega
theorem Bo{s:List Int}{v:Int}{i:Nat}(h:∀j:Nat,j<i->¬v=gI s (j:Int))(hi:¬(i:Int)<s.length):(-1:Int)=cH s v:=by
 unfold cH
 rw[if_neg]
 intro hm
 obtain⟨j,hj,e⟩:=List.mem_iff_getElem.1 hm
 exact h j (by omega) (by simp[gI,hj,e])
end TL
namespace TL
end TL
set_option linter.all false
namespace TL
open Go
class Ky (K:Type) where
  val:K->Value
structure mt(P:Program)(kt:TypeId)(K:Type)[DecidableEq K][Ky K]:Prop where
 check:∀(b:Bool) (k:K) (w:World),(Instr.checkKey b 10000 kt (Ky.val k)).run P w= .ok () w
 find:∀(k:K) (es:List MapEntry) (ks:List K) (w:World),es.map (·.key)=ks.map Ky.val->(Instr.findKey kt (Ky.val k) es).run P w= .ok ((ks.findIdx? (· =k)).bind λi=>(es[i]?).map λe=>(i,e.val)) w
 bits:∀k:K,Instr.sameBits 10000 (Ky.val k) (Ky.val k)=true
structure cW(K:Type) where
  key:K
  val:Int
  born:Nat
def dj{K:Type}[Ky K](e:cW K):MapEntry:={key:=Ky.val e.key,val:=.int .i64 e.val,born:=e.born}
def eN{K:Type}[DecidableEq K](es:List (cW K))(k:K):Int:=((es.find? λe=>decide (e.key=k)).map (·.val)).getD 0
structure Dd{K:Type}(es:List (cW K))(clock:Nat):Prop where
 keys:(es.map (·.key)).Nodup
 born:(es.map (·.born)).Nodup
 lt:∀e∈es,e.born<clock
def Mp{K:Type}[DecidableEq K][Ky K](γ:ax)(J:cw->Prop)(w:World)(v:Value)(F:K->Int):Prop:=
  ∃(r:Nat) (es:List (cW K)) (clock:Nat),v= .map (some r)/\J (γ r)/\w.heap[r]? =some (.map (es.map dj).toArray clock)/\Dd es clock/\F=eN es
def EL{K:Type}[DecidableEq K][Ky K](γ:ax)(J:cw->Prop)(w:World)(v:Value)(F:K->Int)(s:Int)(k:K):Prop:=
  ∃(r:Nat) (es:List (cW K)) (clock:Nat),v= .map (some r)/\J (γ r)/\w.heap[r]? =some (.map (es.map dj).toArray clock)/\Dd es clock/\F=eN es/\∃(i:Nat) (e:cW K),es[i]? =some e/\e.key=k/\(e.born:Int)=s
theorem Mp.chg{K:Type}[DecidableEq K][Ky K]{γ γ':ax}{J J':cw->Prop}{w w':World}{v:Value}{F:K->Int}(h:Mp γ J w v F)(hc:bg J' γ w γ' w')(hJ:∀c,J c->¬J' c):Mp γ' J w' v F:=by
 obtain⟨r,es,clock,h1,h2,h3,h4⟩:=h
 exact⟨r,es,clock,h1,by rw[hc.col r (cZ h3) (hJ _ h2)];exact h2,by rw[hc.keep r (cZ h3) (hJ _ h2)];exact h3,h4⟩
theorem jR{K:Type}[DecidableEq K][Ky K](es:List (cW K))(k:K):(((es.map (·.key)).findIdx? (· =k)).bind λi=>((es.map dj)[i]?).map λe=>(i,e.val))=((es.map (·.key)).findIdx? (· =k)).map λi=>(i,Value.int .i64 (eN es k)):=by
 cases h:(es.map (·.key)).findIdx? (· =k) with
 |none=>rfl
 |some i=>
   obtain⟨hi,hk,hlt⟩:=List.findIdx?_eq_some_iff_getElem.1 h
   have hi':i<es.length:=by simpa using hi
   have hke:es[i].key=k:=by simpa using hk
   have hf:es.find? (λe=>decide (e.key=k))=some es[i]:=by
     rw[List.find?_eq_some_iff_getElem]
     refine⟨by simpa using hke,i,hi',rfl,λj hj=>?_⟩
     have:=hlt j hj
     simpa using this
   simp[hi',dj,eN,hf]
section
variable{P:Program}{f:Fr}{w:World}{dst:Option Tmp}{ty:TypeId}{pos:String}{after:Array Edge}{g:Option (Nat×Bool)}{t:TypeId}{x y z:Operand}{N:Value->World->Prop}
theorem cm{r:Nat}{es:Array MapEntry}{clock:Nat}(h:w.heap[r]? =some (.map es clock)):(getObj r).run P w= .ok (.map es clock) w:=by
 simp[getObj,Sem.run,h]
theorem dY{r:Nat}{es:Array MapEntry}{clock:Nat}{o:Obj}(h:w.heap[r]? =some (.map es clock)):(setObj r o).run P w= .ok () {w with heap:=w.heap.setIfInBounds r o}:=by
 simp[setObj,Sem.run,h]
theorem fS(γ:ax){r:Nat}(o:Obj){J:cw->Prop}(hJ:J (γ r)):bg J γ w γ {w with heap:=w.heap.setIfInBounds r o}:=
 ⟨rfl,rfl,rfl,by simp,λ_ _ _=>rfl,λk _ hk=>by
   have:r≠k:=λh=>hk (h▸hJ)
   simp[Array.getElem?_setIfInBounds_ne this],Nat.le_refl _⟩
theorem fj{r:Nat}{o o':Obj}(h:w.heap[r]? =some o'):({w with heap:=w.heap.setIfInBounds r o}:World).heap[r]? =some o:=by
 have:=cZ h
 simp[this]
theorem pf{K:Type}[DecidableEq K][Ky K](γ:ax)(J:cw->Prop)(c:cw)(hJ:J c)(hk:∀γ' w' v,bg no γ w γ' w'->Mp (K:=K) γ' J w' v (λ_=>0)->N v w'):fv P ⟨dst,.makeMap t none,ty,pos,after,g⟩ f w N:=by
 refine ao (v:=.map (some w.heap.size)) (w':=w.alloc (.map #[] 0)) (by simp[execOp,Instr.makeMap]) (hk (i4 γ w.heap.size c) _ _ (fk γ w _ c) ⟨w.heap.size,[],0,rfl,by simpa[i4] using hJ,by rw[dc];rfl,⟨by simp,by simp,by simp⟩,?_⟩)
 funext k;simp[eN]
theorem dx{K:Type}[DecidableEq K][Ky K]{γ:ax}{J:cw->Prop}{v u:Value}{F:K->Int}{kt et size bytes:Nat}{agg:Bool}(k:K)(ht:P.underlying t=some (.map kt et))(hk:mt P kt K)(he:Tp P et agg size bytes (.int .i64 0))(hx:ev f x=v)(hm:Mp γ J w v F)(hy:ev f y=u)(hu:u=Ky.val k):
   (execOp (ev f) ⟨dst,.lookup t x y false,ty,pos,after,g⟩).run P w= .ok (.value (.int .i64 (F k))) w:=by
 obtain⟨r,es,clock,rfl,hJ,hb,hok,rfl⟩:=hm
 obtain⟨i,hi,_,_,hz⟩:=he.info
 subst hu
 have hf:=hk.find k (es.map dj) (es.map (·.key)) w (by simp[dj,Function.comp_def])
 rw[jR] at hf
 cases h:(es.map (·.key)).findIdx? (· =k) with
 |none=>
   rw[h] at hf
   have h0:eN es k=0:=by
     have hn:es.find? (λe=>decide (e.key=k))=none:=by
       rw[List.find?_eq_none]
       intro e he
       have:=List.findIdx?_eq_none_iff.1 h (e.key) (List.mem_map_of_mem he)
       simpa using this
     simp[eN,hn]
   simp[execOp,hx,hy,Instr.lookup,aO ht,cm hb,hk.check,hf,eF hi hz,h0]
 |some i=>
   rw[h] at hf
   simp[execOp,hx,hy,Instr.lookup,aO ht,cm hb,hk.check,hf]
theorem eO{K:Type}[DecidableEq K][Ky K]{γ:ax}{J:cw->Prop}{v u:Value}{F:K->Int}{kt et size bytes:Nat}{agg:Bool}(k:K)(ht:P.underlying t=some (.map kt et))(hk:mt P kt K)(he:Tp P et agg size bytes (.int .i64 0))(hx:ev f x=v)(hm:Mp γ J w v F)(hy:ev f y=u)(hu:u=Ky.val k)
   (hn:∀w' s,bg J γ w γ w'->EL γ J w' v F s k->N (.tuple (List.toArray [.int .i64 (F k),.int .i64 s])) w'):fv P ⟨dst,.mapEntry t x y,ty,pos,after,g⟩ f w N:=by
 obtain⟨r,es,clock,rfl,hJ,hb,hok,rfl⟩:=hm
 obtain⟨q,hi,_,_,hz⟩:=he.info
 subst hu
 have hf:=hk.find k (es.map dj) (es.map (·.key)) w (by simp[dj,Function.comp_def])
 rw[jR] at hf
 cases h:(es.map (·.key)).findIdx? (· =k) with
 |none=>
   rw[h] at hf
   have hnk:∀e∈es,e.key≠k:=λe he=>by
     have:=List.findIdx?_eq_none_iff.1 h (e.key) (List.mem_map_of_mem he)
     simpa using this
   have h0:eN es k=0:=by
     have hn:es.find? (λe=>decide (e.key=k))=none:=by
       rw[List.find?_eq_none]
       intro e he
       simpa using hnk e he
     simp[eN,hn]
   refine ao (v:=.tuple (List.toArray [.int .i64 (eN es k),.int .i64 (clock:Int)])) (w':={w with heap:=w.heap.setIfInBounds r (.map ((es++[(⟨k,0,clock⟩:cW K)]).map dj).toArray (clock+1))}) ?_ ?_
   rotate_left
   · refine hn _ _ (fS γ _ hJ) ⟨r,es++[⟨k,0,clock⟩],clock+1,rfl,hJ,fj hb,⟨?_,?_,?_⟩,?_,es.length,⟨k,0,clock⟩,by simp,rfl,rfl⟩
     rotate_left 3
     · funext k'
       simp only[eN,List.find?_append]
       by_cases hkk:k=k'
       · subst hkk
         have hn:es.find? (λe=>decide (e.key=k))=none:=by
           rw[List.find?_eq_none]
           intro e he
           simpa using hnk e he
         simp[hn]
       · cases es.find? (λe=>decide (e.key=k'))<;>simp[hkk]
     · rw[List.map_append,List.nodup_append]
       refine⟨hok.keys,by simp,λa ha b hb=>?_⟩
       obtain⟨e,he,rfl⟩:=List.mem_map.1 ha
       have:b=k:=by simpa using hb
       subst this;exact hnk e he
     · rw[List.map_append,List.nodup_append]
       refine⟨hok.born,by simp,λa ha b hb=>?_⟩
       obtain⟨e,he,rfl⟩:=List.mem_map.1 ha
       have:b=clock:=by simpa using hb
       subst this;exact Nat.ne_of_lt (hok.lt e he)
     · intro e he
       rcases List.mem_append.1 he with h|h
       · exact Nat.lt_succ_of_lt (hok.lt e h)
       · obtain rfl:=List.mem_singleton.1 h;exact Nat.lt_succ_self _
   · simp[execOp,hx,hy,Instr.mapEntry,aO ht,cm hb,hk.check,hf,eF hi hz,dY hb,h0,dj,goInt]
 |some i=>
   rw[h] at hf
   obtain⟨hil,hke,_⟩:=List.findIdx?_eq_some_iff_getElem.1 h
   have hi':i<es.length:=by simpa using hil
   have hke':es[i].key=k:=by simpa using hke
   have hsame:(es.map dj).modify i (λe=>{e with key:=Ky.val k})=es.map dj:=by
     apply List.ext_getElem?
     intro j
     rw[List.getElem?_modify]
     by_cases hij:i=j
     · subst hij;simp[hi',dj,hke']
     · simp[hij]
   refine ao (v:=.tuple (List.toArray [.int .i64 (eN es k),.int .i64 ((es[i].born:Nat):Int)])) (w':={w with heap:=w.heap.setIfInBounds r (.map (es.map dj).toArray clock)}) ?_
     (hn _ _ (fS γ _ hJ) ⟨r,es,clock,rfl,hJ,fj hb,hok,rfl,i,es[i],by simp,hke',rfl⟩)
   have hkb:=hk.bits k
   have hold:(Instr.keyThatStays (Ky.val k) (Ky.val k)).run P w= .ok (Ky.val k) w:=by simp[Instr.keyThatStays,hkb]
   simp[execOp,hx,hy,Instr.mapEntry,aO ht,cm hb,hk.check,hf,hi',dj,hke',hold,dY hb,goInt]
   rw[hsame]
theorem dR{K:Type}[DecidableEq K][Ky K]{γ:ax}{J:cw->Prop}{v:Value}{F:K->Int}{s m:Int}{k:K}(hx:ev f x=v)(hm:EL γ J w v F s k)(hy:ev f y= .int .i64 s)(hz:ev f z= .int .i64 m)
   (hn:∀w',bg J γ w γ w'->Mp γ J w' v (λk'=>if k'=k then m else F k')->N undef w'):fv P ⟨dst,.entryStore t x y z,ty,pos,after,g⟩ f w N:=by
 obtain⟨r,es,clock,rfl,hJ,hb,hok,rfl,i,e,hie,rfl,rfl⟩:=hm
 have hi':i<es.length:=(List.getElem?_eq_some_iff.1 hie).1
 have hei:es[i]=e:=(List.getElem?_eq_some_iff.1 hie).2
 have hfi:((es.map dj).toArray.findIdx? (λq=>(q.born:Int)==(e.born:Int)))=some i:=by
   rw[List.findIdx?_toArray,List.findIdx?_eq_some_iff_getElem]
   refine⟨by simpa using hi',by simp[dj,hei],λj hj=>?_⟩
   have hj':j<es.length:=by omega
   have hne:es[j].born≠e.born:=λh=>by
     have h1:(es.map (·.born))[j]'(by simpa using hj')=(es.map (·.born))[i]'(by simpa using hi'):=by simp[hei,h]
     have:=(List.getElem_inj hok.born).1 h1
     omega
   simp[dj]
   omega
 have hmod:(es.map dj).modify i (λq=>{q with val:=.int .i64 m})=(es.modify i (λq=>{q with val:=m})).map dj:=by
   apply List.ext_getElem?
   intro j
   rw[List.getElem?_modify,List.getElem?_map,List.getElem?_map,List.getElem?_modify]
   by_cases hij:i=j
   · subst hij;simp[hi',dj]
   · simp[hij]
 have hkeys:(es.modify i (λq=>{q with val:=m})).map (·.key)=es.map (·.key):=by
   apply List.ext_getElem?
   intro j
   rw[List.getElem?_map,List.getElem?_map,List.getElem?_modify]
   by_cases hij:i=j
   · subst hij;simp[hi']
   · simp[hij]
 have hborn:(es.modify i (λq=>{q with val:=m})).map (·.born)=es.map (·.born):=by
   apply List.ext_getElem?
   intro j
   rw[List.getElem?_map,List.getElem?_map,List.getElem?_modify]
   by_cases hij:i=j
   · subst hij;simp[hi']
   · simp[hij]
 refine gj (w':={w with heap:=w.heap.setIfInBounds r (.map ((es.modify i (λq=>{q with val:=m})).map dj).toArray clock)}) ?_
   (hn _ (fS γ _ hJ) ⟨r,es.modify i (λq=>{q with val:=m}),clock,rfl,hJ,fj hb,⟨by rw[hkeys];exact hok.keys,by rw[hborn];exact hok.born,λq hq=>?_⟩,?_⟩)
 · simp[execOp,hx,hy,hz,Instr.entryStore,cm hb,asInt,asIntOf,hfi,dY hb]
   rw[<-hmod]
 · have:q.born∈es.map (·.born):=by rw[<-hborn];exact List.mem_map_of_mem hq
   obtain⟨q',hq',he'⟩:=List.mem_map.1 this
   rw[<-he'];exact hok.lt q' hq'
 · funext k'
   -- the entry of k' in the changed list
   have hfind:∀(l:List (cW K)),(l.map (·.key)).Nodup->∀j (hj:j<l.length),eN l l[j].key=l[j].val:=by
     intro l hl j hj
     have hf:l.find? (λe=>decide (e.key=l[j].key))=some l[j]:=by
       rw[List.find?_eq_some_iff_getElem]
       refine⟨by simp,j,hj,rfl,λq hq=>?_⟩
       have hne:l[q].key≠l[j].key:=λh=>by
         have h1:(l.map (·.key))[q]'(by simp;omega)=(l.map (·.key))[j]'(by simpa using hj):=by simp[h]
         have:=(List.getElem_inj hl).1 h1
         omega
       simpa using hne
     simp[eN,hf]
   by_cases hkk:k'=e.key
   · subst hkk
     rw[if_pos rfl]
     have h1:=hfind (es.modify i (λq=>{q with val:=m})) (by rw[hkeys];exact hok.keys) i (by simpa using hi')
     simp[List.getElem_modify,hei] at h1
     exact h1.symm
   · rw[if_neg hkk]
     have hfe:(es.modify i (λq=>{q with val:=m})).find? (λe=>decide (e.key=k'))=es.find? (λe=>decide (e.key=k')):=by
       have hgen:∀(l:List (cW K)) (i:Nat) (e:cW K),l[i]? =some e->k'≠e.key->(l.modify i (λq=>{q with val:=m})).find? (λe=>decide (e.key=k'))=l.find? (λe=>decide (e.key=k')):=by
         intro l
         induction l with
         |nil=>intro i e h;simp at h
         |cons a l ih=>
           intro i e h hne
           cases i with
           |zero=>
             obtain rfl:a=e:=by simpa using h
             have:decide (a.key=k')=false:=by simpa using λh=>hne h.symm
             simp[List.find?_cons,this]
           |succ i=>
             have h':l[i]? =some e:=by simpa using h
             simp only[List.modify_succ_cons,List.find?_cons,ih i e h' hne]
       exact hgen es i e hie hkk
     simp[eN,hfe]
end
instance:Ky Int where
 val k:=.int .i64 k
instance:Ky (Int×Int) where
 val k:=.agg (List.toArray [.int .i64 k.1,.int .i64 k.2])
theorem cq{P:Program}{kt e bytes:Nat}{z:Value}(ht:P.underlying kt=some (.array 2 e))(he:P.underlying e=some (.int .i64))(hp:Tp P e false 1 bytes z):mt P kt (Int×Int) where
 check b k w:=by
   obtain⟨i,hi,hs,_⟩:=hp.info
   have h0:=λ(x y:Int)=>iz (P:=P) (w:=w) (cs:= #[.int .i64 x,.int .i64 y]) (o:=0) hp (v:=.int .i64 x) (by rfl)
   have h1:=λ(x y:Int)=>iz (P:=P) (w:=w) (cs:= #[.int .i64 x,.int .i64 y]) (o:=1) hp (v:=.int .i64 y) (by rfl)
   have hr:(List.range' 0 2 1)=[0,1]:=rfl
   have hc:∀x:Int,(Instr.checkKey b 9999 e (.int .i64 x)).run P w= .ok () w:=λx=>by
     rw[Instr.checkKey]
     simp only[Sem.run_bind,aO he,Result.andThen_ok]
     rfl
   show(Instr.checkKey b (9999+1) kt _).run P w=_
   rw[Instr.checkKey]
   simp only[Ky.val,Sem.run_bind,aO ht,Result.andThen_ok]
   rw[Std.Legacy.Range.forIn_eq_forIn_range']
   simp only[Std.Legacy.Range.size,Nat.sub_zero,Nat.reduceAdd,Nat.reduceSub,Nat.div_one,hr]
   simp[dg hi,hs,h0,h1,hc]
 find k es ks w hm:=by
   have hfn:∀(es:List MapEntry) (i:Nat),es≠[]->(∀e∈es,∃c,e.key= .agg c)->Instr.findNow (.array 2 e) (Ky.val k) es i=none:=by
     intro es i h0 _
     cases es with
     |nil=>exact absurd rfl h0
     |cons a l=>simp[Instr.findNow,Instr.sameNow]
   have hask:∀(es:List MapEntry) (ks:List (Int×Int)) (i:Nat),es.map (·.key)=ks.map Ky.val->(Instr.findAsking kt (Ky.val k) es i).run P w= .ok ((ks.findIdx? (· =k)).bind λj=>(es[j]?).map λe=>(i+j,e.val)) w:=by
     intro es
     induction es with
     |nil=>
       intro ks i h
       have:ks=[]:=by cases ks<;>simp at h ⊢
       subst this;simp[Instr.findAsking]
     |cons a l ih=>
       intro ks i h
       cases ks with
       |nil=>simp at h
       |cons q ks=>
         simp only[List.map_cons,List.cons.injEq] at h
         obtain⟨ha,hl⟩:=h
         have heq:=qf (P:=P) (w:=w) (a:=k) (b:=q) ht he hp
         have heq':(Op.equal kt (Ky.val k) a.key).run P w= .ok (decide (k=q)) w:=by rw[ha];exact heq
         by_cases hkq:k=q
         · subst hkq
           simp[Instr.findAsking,heq',List.findIdx?_cons]
         · have hqk:¬q=k:=λh=>hkq h.symm
           have ih':=ih ks (i+1) hl
           simp[Instr.findAsking,heq',hkq,List.findIdx?_cons,hqk,ih']
           cases ks.findIdx? (λx=>decide (x=k)) with
           |none=>rfl
           |some j=>simp[Nat.add_comm 1 j,Nat.add_assoc]
   simp only[Instr.findKey,Sem.run_bind,aO ht,Result.andThen_ok]
   cases es with
   |nil=>
     have:ks=[]:=by cases ks<;>simp at hm ⊢
     subst this;simp[Instr.findNow]
   |cons a l=>
     rw[hfn (a::l) 0 (by simp) (λe he=>by
       have:e.key∈(a::l).map (·.key):=List.mem_map_of_mem he
       rw[hm] at this
       obtain⟨q,_,hq⟩:=List.mem_map.1 this
       exact⟨_,hq.symm⟩)]
     simp only[hask (a::l) ks 0 hm,Nat.zero_add]
 bits k:=by
   show Instr.sameBits (9999+1) _ _=true
   simp[Ky.val,Instr.sameBits]
theorem be{P:Program}{kt:Nat}(ht:P.underlying kt=some (.int .i64)):mt P kt Int where
 check b k w:=by
   show(Instr.checkKey b (9999+1) kt _).run P w=_
   rw[Instr.checkKey]
   simp only[Ky.val,Sem.run_bind,aO ht,Result.andThen_ok]
   rfl
 find k es ks w hm:=by
   have hnow:∀(es:List MapEntry) (ks:List Int) (i:Nat),es.map (·.key)=ks.map Ky.val->Instr.findNow (.int .i64) (Ky.val k) es i=some ((ks.findIdx? (· =k)).bind λj=>(es[j]?).map λe=>(i+j,e.val)):=by
     intro es
     induction es with
     |nil=>
       intro ks i h
       have:ks=[]:=by cases ks<;>simp at h ⊢
       subst this;simp[Instr.findNow]
     |cons a l ih=>
       intro ks i h
       cases ks with
       |nil=>simp at h
       |cons q ks=>
         simp only[List.map_cons,List.cons.injEq] at h
         obtain⟨ha,hl⟩:=h
         have hs:Instr.sameNow (.int .i64) (Ky.val k) a.key=some (k==q):=by rw[ha];simp[Ky.val,Instr.sameNow]
         by_cases hkq:k=q
         · subst hkq
           simp[Instr.findNow,hs,List.findIdx?_cons]
         · have hqk:¬q=k:=λh=>hkq h.symm
           have ih':=ih ks (i+1) hl
           have hb:(k==q)=false:=by simpa using hkq
           simp[Instr.findNow,hs,hb,List.findIdx?_cons,hqk,ih']
           cases ks.findIdx? (λx=>decide (x=k)) with
           |none=>rfl
           |some j=>simp[Nat.add_comm 1 j,Nat.add_assoc]
   simp only[Instr.findKey,Sem.run_bind,aO ht,Result.andThen_ok,hnow es ks 0 hm,Nat.zero_add]
   rfl
 bits k:=by
   show Instr.sameBits (9999+1) _ _=true
   simp[Ky.val,Instr.sameBits]
end TL
namespace TL
open Go
theorem EL.mp{K:Type}[DecidableEq K][Ky K]{γ:ax}{J:cw->Prop}{w:World}{v:Value}{F:K->Int}{s:Int}{k:K}(h:EL γ J w v F s k):Mp γ J w v F:=by
 obtain⟨r,es,clock,h1,h2,h3,h4,h5,_⟩:=h
 exact⟨r,es,clock,h1,h2,h3,h4,h5⟩
end TL
set_option linter.all false
namespace TL
open Go
def Md{K:Type}[DecidableEq K][Ky K](γ:ax)(J:cw->Prop)(w:World)(v:Value)(F:K->Int)(D:List K):Prop:=
 ∃(r:Nat) (es:List (cW K)) (clock:Nat),v= .map (some r)/\J (γ r)/\w.heap[r]? =some (.map (es.map dj).toArray clock)/\Dd es clock/\F=eN es/\D=es.map (·.key)
variable{K:Type}[DecidableEq K][Ky K]
theorem Md.chg{γ γ':ax}{J J':cw->Prop}{w w':World}{v:Value}{F:K->Int}{D:List K}(h:Md γ J w v F D)(hc:bg J' γ w γ' w')(hJ:∀c,J c->¬J' c):Md γ' J w' v F D:=by
 obtain⟨r,es,clock,h1,h2,h3,h4⟩:=h
 exact⟨r,es,clock,h1,by rw[hc.col r (cZ h3) (hJ _ h2)];exact h2,by rw[hc.keep r (cZ h3) (hJ _ h2)];exact h3,h4⟩
theorem Md.mp{γ:ax}{J:cw->Prop}{w:World}{v:Value}{F:K->Int}{D:List K}(h:Md γ J w v F D):Mp γ J w v F:=by
 obtain⟨r,es,clock,h1,h2,h3,h4,h5,_⟩:=h
 exact⟨r,es,clock,h1,h2,h3,h4,h5⟩
theorem Md.bel{γ:ax}{J:cw->Prop}{w w':World}{v:Value}{F:K->Int}{D:List K}(h:Md γ J w v F D)(hc:eK w.heap.size w w'):Md γ J w' v F D:=by
 obtain⟨r,es,clock,h1,h2,h3,h4⟩:=h
 exact⟨r,es,clock,h1,h2,by rw[hc.block r (cZ h3)];exact h3,h4⟩
section
variable{P:Program}{f:Fr}{w:World}{dst:Option Tmp}{ty:TypeId}{pos:String}{after:Array Edge}{g:Option (Nat×Bool)}{t:TypeId}{x y z:Operand}{N:Value->World->Prop}
theorem ep(γ:ax)(J:cw->Prop)(c:cw)(hJ:J c)(hk:∀γ' w' v,bg no γ w γ' w'->Md (K:=K) γ' J w' v (λ_=>0) []->N v w'):fv P ⟨dst,.makeMap t none,ty,pos,after,g⟩ f w N:=by
 refine ao (v:=.map (some w.heap.size)) (w':=w.alloc (.map #[] 0)) (by simp[execOp,Instr.makeMap]) (hk (i4 γ w.heap.size c) _ _ (fk γ w _ c) ⟨w.heap.size,[],0,rfl,by simpa[i4] using hJ,by rw[dc];rfl,⟨by simp,by simp,by simp⟩,?_,rfl⟩)
 funext k;simp[eN]
theorem i8{γ:ax}{J:cw->Prop}{v u:Value}{F:K->Int}{D:List K}{kt et size bytes:Nat}{agg:Bool}(k:K)(ht:P.underlying t=some (.map kt et))(hk:mt P kt K)(he:Tp P et agg size bytes (.int .i64 0))(hx:ev f x=v)(hm:Md γ J w v F D)(hy:ev f y=u)(hu:u=Ky.val k):
   (execOp (ev f) ⟨dst,.lookup t x y true,ty,pos,after,g⟩).run P w= .ok (.value (.tuple #[.int .i64 (F k),.bool (decide (k∈D))])) w:=by
 obtain⟨r,es,clock,rfl,hJ,hb,hok,rfl,rfl⟩:=hm
 obtain⟨i,hi,_,_,hz⟩:=he.info
 subst hu
 have hf:=hk.find k (es.map dj) (es.map (·.key)) w (by simp[dj,Function.comp_def])
 rw[jR] at hf
 cases h:(es.map (·.key)).findIdx? (· =k) with
 |none=>
   rw[h] at hf
   have hnk:k∉es.map (·.key):=λhmm=>by
     have:=List.findIdx?_eq_none_iff.1 h k hmm
     simp at this
   have h0:eN es k=0:=by
     have hn:es.find? (λe=>decide (e.key=k))=none:=by
       rw[List.find?_eq_none]
       intro e he
       have:=List.findIdx?_eq_none_iff.1 h (e.key) (List.mem_map_of_mem he)
       simpa using this
     simp[eN,hn]
   rw[decide_eq_false hnk]
   simp[execOp,hx,hy,Instr.lookup,aO ht,cm hb,hk.check,hf,eF hi hz,h0]
 |some i=>
   rw[h] at hf
   obtain⟨hil,hke,_⟩:=List.findIdx?_eq_some_iff_getElem.1 h
   have hke':(es.map (·.key))[i]=k:=by simpa using hke
   have hmm:k∈es.map (·.key):=by rw[<-hke'];exact List.getElem_mem hil
   rw[decide_eq_true hmm]
   simp[execOp,hx,hy,Instr.lookup,aO ht,cm hb,hk.check,hf]
theorem jS{γ:ax}{J:cw->Prop}{v:Value}{F:K->Int}{D:List K}{kt et:Nat}(ht:P.underlying t=some (.map kt et))(hx:ev f x=v)(hm:Md γ J w v F D):
   (execOp (ev f) ⟨dst,.call {callee:=.builtin .len,args:= #[x],argTypes:= #[t]},ty,pos,after,g⟩).run P w= .ok (.value (.int .i64 (D.length:Int))) w:=by
 obtain⟨r,es,clock,rfl,hJ,hb,hok,rfl,rfl⟩:=hm
 simp[execOp,resolve,invoke,builtin,hx,Builtin.len_,aO ht,cm hb,goInt]
end
end TL
namespace TL
open Go
variable{K:Type}[DecidableEq K][Ky K]
theorem rO{es:List (cW K)}{m:Int}(hn:(es.map (·.key)).Nodup){i:Nat}{e:cW K}(hie:es[i]? =some e):eN (es.modify i (λq=>{q with val:=m}))=λk'=>if k'=e.key then m else eN es k':=by
 have hi':i<es.length:=(List.getElem?_eq_some_iff.1 hie).1
 have hei:es[i]=e:=(List.getElem?_eq_some_iff.1 hie).2
 have hkeys:(es.modify i (λq=>{q with val:=m})).map (·.key)=es.map (·.key):=by
   apply List.ext_getElem?
   intro j
   rw[List.getElem?_map,List.getElem?_map,List.getElem?_modify]
   by_cases hij:i=j
   · subst hij;simp[hi']
   · simp[hij]
 funext k'
 have hfind:∀(l:List (cW K)),(l.map (·.key)).Nodup->∀j (hj:j<l.length),eN l l[j].key=l[j].val:=by
   intro l hl j hj
   have hf:l.find? (λe=>decide (e.key=l[j].key))=some l[j]:=by
     rw[List.find?_eq_some_iff_getElem]
     refine⟨by simp,j,hj,rfl,λq hq=>?_⟩
     have hne:l[q].key≠l[j].key:=λh=>by
       have h1:(l.map (·.key))[q]'(by simp;omega)=(l.map (·.key))[j]'(by simpa using hj):=by simp[h]
       have:=(List.getElem_inj hl).1 h1
       omega
     simpa using hne
   simp[eN,hf]
 by_cases hkk:k'=e.key
 · subst hkk
   rw[if_pos rfl]
   have h1:=hfind (es.modify i (λq=>{q with val:=m})) (by rw[hkeys];exact hn) i (by simpa using hi')
   simp[List.getElem_modify,hei] at h1
   exact h1
 · rw[if_neg hkk]
   have hfe:(es.modify i (λq=>{q with val:=m})).find? (λe=>decide (e.key=k'))=es.find? (λe=>decide (e.key=k')):=by
     have hgen:∀(l:List (cW K)) (i:Nat) (e:cW K),l[i]? =some e->k'≠e.key->(l.modify i (λq=>{q with val:=m})).find? (λe=>decide (e.key=k'))=l.find? (λe=>decide (e.key=k')):=by
       intro l
       induction l with
       |nil=>intro i e h;simp at h
       |cons a l ih=>
         intro i e h hne
         cases i with
         |zero=>
           obtain rfl:a=e:=by simpa using h
           have:decide (a.key=k')=false:=by simpa using λh=>hne h.symm
           simp[List.find?_cons,this]
         |succ i=>
           have h':l[i]? =some e:=by simpa using h
           simp only[List.modify_succ_cons,List.find?_cons,ih i e h' hne]
     exact hgen es i e hie hkk
   simp[eN,hfe]
section
variable{P:Program}{f:Fr}{w:World}{dst:Option Tmp}{ty:TypeId}{pos:String}{after:Array Edge}{g:Option (Nat×Bool)}{t:TypeId}{x y z:Operand}{N:Value->World->Prop}
theorem eQ{γ:ax}{J:cw->Prop}{v u:Value}{F:K->Int}{D:List K}{kt et:Nat}{m:Int}(k:K)(ht:P.underlying t=some (.map kt et))(hk:mt P kt K)(hx:ev f x=v)(hm:Md γ J w v F D)(hy:ev f y=u)(hu:u=Ky.val k)(hz:ev f z= .int .i64 m)
   (hn:∀w',bg J γ w γ w'->Md γ J w' v (λk'=>if k'=k then m else F k') (if k∈D then D else D++[k])->N undef w'):fv P ⟨dst,.mapUpdate t x y z,ty,pos,after,g⟩ f w N:=by
 obtain⟨r,es,clock,rfl,hJ,hb,hok,rfl,rfl⟩:=hm
 subst hu
 have hf:=hk.find k (es.map dj) (es.map (·.key)) w (by simp[dj,Function.comp_def])
 rw[jR] at hf
 cases h:(es.map (·.key)).findIdx? (· =k) with
 |none=>
   rw[h] at hf
   have hnk:∀e∈es,e.key≠k:=λe he=>by
     have:=List.findIdx?_eq_none_iff.1 h (e.key) (List.mem_map_of_mem he)
     simpa using this
   have hnD:k∉es.map (·.key):=λhmm=>by obtain⟨e,he,hke⟩:=List.mem_map.1 hmm;exact hnk e he hke
   refine gj (w':={w with heap:=w.heap.setIfInBounds r (.map ((es++[(⟨k,m,clock⟩:cW K)]).map dj).toArray (clock+1))}) ?_
     (hn _ (fS γ _ hJ) ⟨r,es++[⟨k,m,clock⟩],clock+1,rfl,hJ,fj hb,⟨?_,?_,?_⟩,?_,by rw[if_neg hnD];simp⟩)
   · simp[execOp,hx,hy,hz,Instr.mapUpdate,aO ht,cm hb,hk.check,hf,dY hb,dj]
   · rw[List.map_append,List.nodup_append]
     refine⟨hok.keys,by simp,λa ha b hb=>?_⟩
     have:b=k:=by simpa using hb
     subst this;intro e;subst e;exact hnD ha
   · rw[List.map_append,List.nodup_append]
     refine⟨hok.born,by simp,λa ha b hb=>?_⟩
     obtain⟨e,he,rfl⟩:=List.mem_map.1 ha
     have:b=clock:=by simpa using hb
     subst this;exact Nat.ne_of_lt (hok.lt e he)
   · intro e he
     rcases List.mem_append.1 he with h|h
     · exact Nat.lt_succ_of_lt (hok.lt e h)
     · obtain rfl:=List.mem_singleton.1 h;exact Nat.lt_succ_self _
   · funext k'
     simp only[eN,List.find?_append]
     by_cases hkk:k'=k
     · subst hkk
       have hn:es.find? (λe=>decide (e.key=k'))=none:=by
         rw[List.find?_eq_none]
         intro e he
         simpa using hnk e he
       simp[hn]
     · have hkk':¬k=k':=λe=>hkk e.symm
       rw[if_neg hkk]
       cases es.find? (λe=>decide (e.key=k'))<;>simp[hkk']
 |some i=>
   rw[h] at hf
   obtain⟨hil,hke,_⟩:=List.findIdx?_eq_some_iff_getElem.1 h
   have hi':i<es.length:=by simpa using hil
   have hke':es[i].key=k:=by simpa using hke
   have hmod:(es.map dj).modify i (λq=>{q with key:=Ky.val k,val:=.int .i64 m})=(es.modify i (λq=>{q with val:=m})).map dj:=by
     apply List.ext_getElem?
     intro j
     rw[List.getElem?_modify,List.getElem?_map,List.getElem?_map,List.getElem?_modify]
     by_cases hij:i=j
     · subst hij;simp[hi',dj,hke']
     · simp[hij]
   have hkeys:(es.modify i (λq=>{q with val:=m})).map (·.key)=es.map (·.key):=by
     apply List.ext_getElem?
     intro j
     rw[List.getElem?_map,List.getElem?_map,List.getElem?_modify]
     by_cases hij:i=j
     · subst hij;simp[hi']
     · simp[hij]
   have hborn:(es.modify i (λq=>{q with val:=m})).map (·.born)=es.map (·.born):=by
     apply List.ext_getElem?
     intro j
     rw[List.getElem?_map,List.getElem?_map,List.getElem?_modify]
     by_cases hij:i=j
     · subst hij;simp[hi']
     · simp[hij]
   have hkb:=hk.bits k
   have hold:(Instr.keyThatStays (Ky.val k) (Ky.val k)).run P w= .ok (Ky.val k) w:=by simp[Instr.keyThatStays,hkb]
   refine gj (w':={w with heap:=w.heap.setIfInBounds r (.map ((es.modify i (λq=>{q with val:=m})).map dj).toArray clock)}) ?_
     (hn _ (fS γ _ hJ) ⟨r,es.modify i (λq=>{q with val:=m}),clock,rfl,hJ,fj hb,⟨by rw[hkeys];exact hok.keys,by rw[hborn];exact hok.born,λq hq=>?_⟩,?_,by rw[if_pos (by rw[<-hke'];exact List.mem_map_of_mem (List.getElem_mem hi')),hkeys]⟩)
   · simp[execOp,hx,hy,hz,Instr.mapUpdate,aO ht,cm hb,hk.check,hf,hi',dj,hke',hold,dY hb]
     rw[<-hmod]
   · have:q.born∈es.map (·.born):=by rw[<-hborn];exact List.mem_map_of_mem hq
     obtain⟨q',hq',he'⟩:=List.mem_map.1 this
     rw[<-he'];exact hok.lt q' hq'
   · rw[rO hok.keys (e:=es[i]) (by simp),hke']
end
end TL
set_option linter.all false
namespace TL
open Go
abbrev vi(x:Int):Value:=Value.int .i64 x
abbrev vp(b o:Nat):Value:=Value.pointer (some ⟨b,o,none⟩)
abbrev vn:Value:=Value.slice none 0 0
abbrev vt(l:List Value):Value:=Value.tuple (List.toArray l)
abbrev vg(l:List Value):Value:=Value.agg (List.toArray l)
theorem cg(L:List Nat){γ γ':ax}{w w':World}(h:bg (inl L) γ w γ' w'):bg (inl L) γ w γ' w':=h
theorem dt{p:Prop}[Decidable p](h:p):decide p=true:=decide_eq_true h
theorem df{p:Prop}[Decidable p](h:¬p):decide p=false:=decide_eq_false h
section
variable{P:Program}{all rest:List Oper}{K:Fr->World->Prop}{f:Fr}{w w':World}{x:Operand}
variable{dst:Option Tmp}{op:Op}{ty:TypeId}{pos:String}{after:Array Edge}{g:Option (Nat×Bool)}{o:Oper}
theorem lv(v:Value)(hw:cN all ⟨dst,op,ty,pos,after,g⟩ f=true)(h:(execOp (ev f) ⟨dst,op,ty,pos,after,g⟩).run P w= .ok (.value v) w')(hk:ka P all rest K (gv f dst v) w'):ka P all (⟨dst,op,ty,pos,after,g⟩::rest) K f w:=mg hw h hk
theorem lx{v:Value}(h:(execOp (ev f) ⟨dst,op,ty,pos,after,none⟩).run P w= .ok (.value v) w')(hk:ka P all rest K (gv f dst v) w'):ka P all (⟨dst,op,ty,pos,after,none⟩::rest) K f w:=mg rfl h hk
theorem lw(v:Value)(h:(execOp (ev f) ⟨dst,op,ty,pos,after,none⟩).run P w= .ok (.value v) w')(hk:ka P all rest K (gv f dst v) w'):ka P all (⟨dst,op,ty,pos,after,none⟩::rest) K f w:=mg rfl h hk
theorem mv(v:Value)(hk:ka P all rest K (gv f dst v) w)(h:ev f x=v:=by exact rfl):ka P all (⟨dst,.move x,ty,pos,after,none⟩::rest) K f w:=mg rfl (ar h) hk
theorem ma(v:Value)(hk:ka P all rest K (gv f dst v) w)(h:ev f x=v:=by exact rfl):ka P all (⟨dst,.assign x,ty,pos,after,none⟩::rest) K f w:=mg rfl (bK h) hk
theorem mi(v:Int)(hk:ka P all rest K (gv f dst (.int .i64 v)) w)(h:ev f x= .int .i64 v:=by exact rfl):ka P all (⟨dst,.move x,ty,pos,after,none⟩::rest) K f w:=mg rfl (ar h) hk
theorem ai(v:Int)(hk:ka P all rest K (gv f dst (.int .i64 v)) w)(h:ev f x= .int .i64 v:=by exact rfl):ka P all (⟨dst,.assign x,ty,pos,after,none⟩::rest) K f w:=mg rfl (bK h) hk
theorem mz{v:Value}(h:ev f x=v)(hk:ka P all rest K (gv f dst v) w):ka P all (⟨dst,.move x,ty,pos,after,none⟩::rest) K f w:=mg rfl (ar h) hk
theorem lo(h:fv P ⟨dst,op,ty,pos,after,none⟩ f w (λv w'=>ka P all rest K (gv f dst v) w')):ka P all (⟨dst,op,ty,pos,after,none⟩::rest) K f w:=cy rfl h
theorem wy{j:Nat}{x:Bool}{d:Nat}{b:Bool}(hx:b=x)(hg:o.guard=some (j,x):=by exact rfl)(hj:(all[j]?).bind (·.dst)=some d:=by exact rfl)(hb:f d= .bool b:=by exact rfl):cN all o f=true:=Dn hg hj hb hx
theorem wn{j:Nat}{x:Bool}{d:Nat}{b:Bool}(hx:b= !x)(hg:o.guard=some (j,x):=by exact rfl)(hj:(all[j]?).bind (·.dst)=some d:=by exact rfl)(hb:f d= .bool b:=by exact rfl):cN all o f=false:=Dw hg hj hb hx
variable{C:World->Prop}{KQ:Fr->Prop}
theorem qv(v:Value)(h:∀w,C w->(execOp (ev f) ⟨dst,op,ty,pos,after,none⟩).run P w= .ok (.value v) w)(hk:mK P all C rest KQ (gv f dst v)):mK P all C (⟨dst,op,ty,pos,after,none⟩::rest) KQ f:=ia rfl h hk
theorem qx{v:Value}(h:∀w,C w->(execOp (ev f) ⟨dst,op,ty,pos,after,none⟩).run P w= .ok (.value v) w)(hk:mK P all C rest KQ (gv f dst v)):mK P all C (⟨dst,op,ty,pos,after,none⟩::rest) KQ f:=ia rfl h hk
theorem qm(v:Value)(hk:mK P all C rest KQ (gv f dst v))(h:ev f x=v:=by exact rfl):mK P all C (⟨dst,.move x,ty,pos,after,none⟩::rest) KQ f:=ia rfl (λ_ _=>ar h) hk
theorem qz{v:Value}(h:ev f x=v)(hk:mK P all C rest KQ (gv f dst v)):mK P all C (⟨dst,.move x,ty,pos,after,none⟩::rest) KQ f:=ia rfl (λ_ _=>ar h) hk
end
section
variable{P:Program}{n:Nat}{l:List Oper}{S:World->Prop}{K:Fr->World->Prop}{f:Fr}{w:World}{done:List Nat}{fuel:Nat}{qs:List Nat}
variable{dst:Option Tmp}{op:Op}{ty:TypeId}{pos:String}{after:Array Edge}{g:Option (Nat×Bool)}{v:Value}
theorem ht(i:Nat)(hi:l[i]? =some ⟨dst,op,ty,pos,after,none⟩)(hS:S w)(h:∀w,S w->(execOp (ev f) ⟨dst,op,ty,pos,after,none⟩).run P w= .ok (.value v) w)(hk:tX P n l S K fuel (i::done) (gv f dst v) w)(hn:ig l=true:=by kernel_rfl)(hc:(gX l done i&&jh l done i&&kr n ⟨dst,op,ty,pos,after,none⟩)=true:=by kernel_rfl):tX P n l S K (fuel+1) done f w:=Dj i hi hn hc rfl hS h hk
theorem xv(i:Nat)(M:List Nat)(hi:l[i]? =some ⟨dst,op,ty,pos,after,none⟩)(h:(execOp (ev f) ⟨dst,op,ty,pos,after,none⟩).run P w= .ok (.value v) w)(hk:i6 P n l qs K fuel (i::done) (gv f dst v) w)(hn:ig l=true:=by kernel_rfl)(hc:(qs.contains i&&gX l done i&&jh l done i&&pP l qs done M i&&kr n ⟨dst,op,ty,pos,after,none⟩)=true:=by kernel_rfl):i6 P n l qs K (fuel+1) done f w:=fw i M hi hn hc rfl h hk
theorem xh(i:Nat)(M:List Nat)(hi:l[i]? =some ⟨dst,op,ty,pos,after,none⟩)(h:∀w',eK w.heap.size w w'->(execOp (ev f) ⟨dst,op,ty,pos,after,none⟩).run P w'= .ok (.value v) w')(hk:i6 P n l qs K fuel (i::done) (gv f dst v) w)(hn:ig l=true:=by kernel_rfl)(hc:(qs.contains i&&gX l done i&&jh l done i&&pF l qs done M i&&kr n ⟨dst,op,ty,pos,after,none⟩)=true:=by kernel_rfl):i6 P n l qs K (fuel+1) done f w:=D4 i M hi hn hc rfl h hk
theorem xp(i:Nat)(hi:l[i]? =some ⟨dst,op,ty,pos,after,none⟩)(h:∀w,(execOp (ev f) ⟨dst,op,ty,pos,after,none⟩).run P w= .ok (.value v) w)(hk:i6 P n l qs K fuel (i::done) (gv f dst v) w)(hn:ig l=true:=by kernel_rfl)(hc:(qs.contains i&&gX l done i&&jh l done i&&kr n ⟨dst,op,ty,pos,after,none⟩)=true:=by kernel_rfl):i6 P n l qs K (fuel+1) done f w:=cJ i hi hn hc rfl h hk
end
section
variable{γ γ':ax}{w w':World}{v:Value}{j k:Nat}{L:List Nat}
theorem Ow.cn{α:Type}[Rp α]{J S:cw->Prop}{xs:List α}(h:Ow γ J S w v xs)(hc:bg no γ w γ' w'):Ow γ' J S w' v xs:=h.chg hc (dT _) (dT _)
def Eh(δ g:ax)(_w:World)(ren:Nat->Nat):Prop:=∃(B:Nat) (γ:ax),g=TL.glue B γ δ ren/\∀b,b<B->(δ b).1=0
theorem hU{δ:ax}(γ:ax)(fr:dz w δ w')(ren:Nat->Nat):∃g,bg no γ w g w'/\Eh δ g w' ren:=
 ⟨_,Aq fr.below γ δ ren,_,γ,rfl,fr.col⟩
theorem Ow.gl{α:Type}[Rp α]{δ g:ax}{ren:Nat->Nat}{i:Nat}{xs:List α}(h:Ow δ (is i) (is i) w v xs)(G:Eh δ g w ren)(k:Nat)(hi:Nat.beq i 0=false:=by exact rfl)(hr:ren i=k:=by exact rfl):Ow g (is k) (is k) w v xs:=by
 obtain⟨B,γ,rfl,h1⟩:=G
 exact h.glue h1 hi hr
theorem dr.gl{α:Type}[Rp α]{δ g:ax}{ren:Nat->Nat}{i:Nat}{xs:List (List α)}(h:dr δ i w v xs)(G:Eh δ g w ren)(k:Nat)(hi:Nat.beq i 0=false:=by exact rfl)(hr:ren i=k:=by exact rfl):dr g k w v xs:=by
 obtain⟨B,γ,rfl,h1⟩:=G
 exact h.glue h1 hi hr
end
section
end
end TL
set_option linter.all false
namespace TL
open Go Go.Proofs Go.Shelf Go.Sort Go.Lib
theorem eK.grown2{w w':World}(h:eK w.heap.size w w'):∃q os,w'=grow (w.drewN q) os:=by
 obtain⟨h1,h2,h3,h4,h5,h6⟩:=h
 refine⟨w'.drawn-w.drawn,w'.heap.extract w.heap.size w'.heap.size,?_⟩
 have hh:w'.heap=w.heap++w'.heap.extract w.heap.size w'.heap.size:=by
   apply Array.ext_getElem?
   intro k
   rw[Array.getElem?_append]
   by_cases hk:k<w.heap.size
   · rw[if_pos hk];exact h5 k hk
   · rw[if_neg hk,Array.getElem?_extract]
     split
     · rw[show w.heap.size+(k-w.heap.size)=k by omega]
     · exact Array.getElem?_eq_none (by omega)
 have hd:w'.drawn=w.drawn+(w'.drawn-w.drawn):=by omega
 cases w with
 |mk a b c d e=>
   cases w' with
   |mk a' b' c' d' e'=>
     simp only[grow,World.drewN] at*
     subst h1 h2 h3
     simp only[World.mk.injEq,true_and,and_true]
     exact⟨hh,hd⟩
section
variable{γ:ax}{w:World}{j b:Nat}
theorem pD{d:Array Value}{c:Array Value}{k:Nat}(h:k<d.size)(hc:k<c.size):(putCells id 0 d c)[k]? =some d[k]! :=by
 simp[putCells,h,hc]
end
end TL
set_option linter.all false
namespace TL
end TL
namespace TL
structure dW(out:List (List Int))(g:bN)(k:Nat):Prop where
  len:(out.length:Int)=g.1
  at_:∀v,0<=v->v<g.1->gI out v=j5 g v k
theorem dW.start{g:bN}(h:0<=g.1):dW (List.replicate g.1.toNat []) g 0:=⟨by simp;omega,λv h0 h1=>by rw[kA h0 (by omega)];simp[j5]⟩
theorem dW.next{out:List (List Int)}{g:bN}{k:Nat}(h:dW out g k)(h1:0<=(gI g.2 k).1)(h2:(gI g.2 k).1<g.1)(h3:0<=(gI g.2 k).2)(h4:(gI g.2 k).2<g.1){a b:Int}(ha:a=2*(k:Int))(hb:b=2*(k:Int)+1):
   dW ((out.set (gI g.2 k).1.toNat (gI out (gI g.2 k).1++[a])).set (gI g.2 k).2.toNat (gI (out.set (gI g.2 k).1.toNat (gI out (gI g.2 k).1++[a])) (gI g.2 k).2++[b])) g (k+1):=by
 have hl:=h.len
 refine⟨by simpa using hl,λv h5 h6=>?_⟩
 rw[dJ h3 (by simp;omega) h5,dJ h1 (by omega) h3,dJ h1 (by omega) h5,sX,h.at_ _ h1 h2,h.at_ _ h3 h4,h.at_ v h5 h6,ha,hb]
 by_cases e2:v=(gI g.2 (k:Int)).2
 · by_cases e1:v=(gI g.2 (k:Int)).1
   · rw[<-e1,<-e2];simp
   · have e3:¬(gI g.2 (k:Int)).2=(gI g.2 (k:Int)).1:=λh=>e1 (e2.trans h)
     have e6:¬(gI g.2 (k:Int)).1=(gI g.2 (k:Int)).2:=λh=>e3 h.symm
     simp[e2,e3,e6]
 · have e4:¬(gI g.2 (k:Int)).2=v:=λh=>e2 h.symm
   by_cases e1:v=(gI g.2 (k:Int)).1
   · rw[if_neg e2,if_pos e1,if_neg e4,if_pos e1.symm,<-e1];simp
   · have e5:¬(gI g.2 (k:Int)).1=v:=λh=>e1 h.symm
     rw[if_neg e2,if_neg e1,if_neg e4,if_neg e5];simp
end TL
namespace TL
end TL
set_option linter.all false
namespace TL
def cF(g:bN)(h:Int):Int:=pI (gI g.2 (h/2)) (1-h%2)
theorem fQ{g:bN}(hm:bO g){h:Int}(h0:0<=h)(h1:h<2*(g.2.length:Int)):0<=cF g h/\cF g h<g.1:=by
 have hok:=hm.2.2.2 _ (bz (xs:=g.2) (i:=h/2) (by omega) (by omega))
 unfold AL at hok
 unfold cF pI
 split<;>omega
structure Bf where
 order:List Int
 by_:List Int
 far:List Int
def fL(g:bN)(v:Int)(s:Bf)(h:Int):Bf:=
 if gI s.far (cF g h)<0 then⟨s.order++[cF g h],s.by_.set (cF g h).toNat h,s.far.set (cF g h).toNat (gI s.far v+1)⟩ else s
def n3(g:bN)(v:Int)(s:Bf):Bf:=(d6 g v).foldl (fL g v) s
def my(g:bN):Nat->Nat->Bf->Bf
 |0,_,s=>s
 |n+1,i,s=>if i<s.order.length then my g n (i+1) (n3 g (gI s.order (i:Int)) s) else s
def eZ(g:bN)(s0:Int):Bf:=⟨[s0],List.replicate g.1.toNat (-1),(List.replicate g.1.toNat (-1)).set s0.toNat 0⟩
def cR(g:bN)(s0:Int):Bf:=my g g.1.toNat 0 (eZ g s0)
structure jY(g:bN)(s:Bf):Prop where
 far:(s.far.length:Int)=g.1
 by_:(s.by_.length:Int)=g.1
 nodup:s.order.Nodup
 rng:∀x∈s.order,0<=x/\x<g.1
 iff:∀w,0<=w->w<g.1->(gI s.far w<0↔w∉s.order)
 le:∀w,0<=w->w<g.1->gI s.far w<=s.order.length
theorem jY.start{g:bN}{s0:Int}(h0:0<=s0)(h1:s0<g.1):jY g (eZ g s0):=by
 refine⟨by simp[eZ];omega,by simp[eZ];omega,by simp[eZ],by simp[eZ];omega,λw hw0 hw1=>?_,λw hw0 hw1=>?_⟩
 · simp only[eZ]
   rw[dJ h0 (by simp;omega) hw0]
   by_cases e:w=s0
   · subst e;simp
   · rw[if_neg e,kA hw0 (by omega)];simp[e]
 · simp only[eZ]
   rw[dJ h0 (by simp;omega) hw0]
   by_cases e:w=s0
   · subst e;simp
   · rw[if_neg e,kA hw0 (by omega)];simp
theorem jY.len{g:bN}{s:Bf}(h:jY g s)(hg:0<=g.1):(s.order.length:Int)<=g.1:=qV hg h.nodup h.rng
theorem jY.one{g:bN}{s:Bf}{v h:Int}(hs:jY g s)(hv:v∈s.order)(h0:0<=cF g h)(h1:cF g h<g.1):jY g (fL g v s h):=by
 obtain⟨hv0,hv1⟩:=hs.rng v hv
 unfold fL
 by_cases c:gI s.far (cF g h)<0
 · rw[if_pos c]
   have hn:=(hs.iff _ h0 h1).1 c
   have hf:=hs.far
   have hlv:=hs.le v hv0 hv1
   refine⟨by simpa using hs.far,by simpa using hs.by_,?_,λx hx=>?_,λw hw0 hw1=>?_,λw hw0 hw1=>?_⟩
   · rw[List.nodup_append]
     refine⟨hs.nodup,by simp,λa ha b hb=>?_⟩
     obtain rfl:=List.mem_singleton.1 hb
     intro e;subst e;exact hn ha
   · rcases List.mem_append.1 hx with hx|hx
     · exact hs.rng x hx
     · obtain rfl:=List.mem_singleton.1 hx;exact⟨h0,h1⟩
   · simp only
     rw[dJ h0 (by omega) hw0]
     by_cases e:w=cF g h
     · subst e
       rw[if_pos rfl]
       have hx:¬gI s.far v<0:=λhh=>(hs.iff v hv0 hv1).1 hh hv
       constructor
       · intro hh;omega
       · intro hh;simp at hh
     · rw[if_neg e,hs.iff w hw0 hw1];simp[e]
   · simp only
     rw[dJ h0 (by omega) hw0]
     by_cases e:w=cF g h
     · subst e;rw[if_pos rfl];simp;omega
     · rw[if_neg e]
       have:=hs.le w hw0 hw1
       simp;omega
 · rw[if_neg c];exact hs
end TL
namespace TL
theorem f4{g:bN}{v h:Int}(hh:h∈d6 g v):(0<=h/\h<2*(g.2.length:Int))/\bf g h=v:=by
 unfold d6 j5 at hh
 obtain⟨h1,h2⟩:=List.mem_filter.1 hh
 obtain⟨k,hk,rfl⟩:=List.mem_map.1 h1
 have:=List.mem_range.1 hk
 exact⟨by omega,by simpa using h2⟩
theorem ov(g:bN)(v:Int)(s:Bf)(h:Int):∃t,(fL g v s h).order=s.order++t:=by
 unfold fL
 split
 · exact⟨_,rfl⟩
 · exact⟨[],by simp⟩
structure dS(s:Bf)(g:bN)(s0:Bf)(v:Int)(j:Nat):Prop where
  eq:s=((d6 g v).take j).foldl (fL g v) s0
  ok:jY g s
  mem:v∈s.order
  pre:∃t,s.order=s0.order++t
theorem dS.start{g:bN}{s0:Bf}{v:Int}(h:jY g s0)(hv:v∈s0.order):dS s0 g s0 v 0:=⟨rfl,h,hv,[],by simp⟩
theorem dS.next{s s0:Bf}{g:bN}{v:Int}{j:Nat}(h:dS s g s0 v j)(hm:bO g)(hj:(j:Int)<(d6 g v).length):dS (fL g v s (gI (d6 g v) (j:Int))) g s0 v (j+1):=by
 have hin:=(f4 (bz (xs:=d6 g v) (i:=(j:Int)) (by omega) hj)).1
 have ht:=fQ hm hin.1 hin.2
 obtain⟨t,ht2⟩:=h.pre
 obtain⟨t',ht3⟩:=ov g v s (gI (d6 g v) (j:Int))
 refine⟨by rw[bc hj,List.foldl_append,<-h.eq];rfl,h.ok.one h.mem ht.1 ht.2,by rw[ht3];simp[h.mem],t++t',by rw[ht3,ht2,List.append_assoc]⟩
theorem dS.done{s s0:Bf}{g:bN}{v:Int}{j:Nat}(h:dS s g s0 v j)(hj:¬(j:Int)<(d6 g v).length):s=n3 g v s0:=by
 rw[h.eq,List.take_of_length_le (by omega)];rfl
structure g0(s:Bf)(g:bN)(s0:Int)(i:Nat):Prop where
  ok:jY g s
  le:(i:Int)<=s.order.length
  eq:my g (g.1.toNat-i) i s=cR g s0
theorem g0.start{g:bN}{s0:Int}(h0:0<=s0)(h1:s0<g.1):g0 (eZ g s0) g s0 0:=⟨jY.start h0 h1,by omega,rfl⟩
theorem g0.next{s s':Bf}{g:bN}{s0:Int}{i j:Nat}(h:g0 s g s0 i)(hg:0<=g.1)(hi:(i:Int)<s.order.length)(hr:dS s' g s (gI s.order (i:Int)) j)(hj:¬(j:Int)<(d6 g (gI s.order (i:Int))).length):g0 s' g s0 (i+1):=by
 obtain⟨t,ht⟩:=hr.pre
 have hl:=h.ok.len hg
 refine⟨hr.ok,by rw[ht];simp;omega,?_⟩
 rw[<-h.eq,show g.1.toNat-i=(g.1.toNat-(i+1))+1 by omega]
 simp only[my]
 rw[if_pos (by omega),hr.done hj]
theorem g0.done{s:Bf}{g:bN}{s0:Int}{i:Nat}(h:g0 s g s0 i)(hi:¬(i:Int)<s.order.length):s=cR g s0:=by
 rw[<-h.eq]
 cases g.1.toNat-i with
 |zero=>rfl
 |succ n=>simp only[my];rw[if_neg (by omega)]
def kV(g:bN)(p:List Int×Int)(v:Int):List Int×Int:=
 if 0<=gI p.1 v then p else((cR g v).order.foldl (λl w=>l.set w.toNat p.2) p.1,p.2+1)
def cI(g:bN)(k:Nat):List Int×Int:=(bQ k).foldl (kV g) (List.replicate g.1.toNat (-1),0)
def bx(g:bN):List Int×Int×Int:=if bO g then((cI g g.1.toNat).1,(cI g g.1.toNat).2,0) else([],0,1)
theorem jn(g:bN)(k:Nat):cI g (k+1)=kV g (cI g k) (k:Int):=by
 unfold cI
 rw[dE,List.foldl_append];rfl
theorem oJ(g:bN):∀k:Nat,(cI g k).1.length=g.1.toNat/\0<=(cI g k).2/\(cI g k).2<=k:=by
 intro k
 induction k with
 |zero=>simp[cI,bQ]
 |succ k ih=>
   rw[jn]
   unfold kV
   have key:∀(l:List Int) (p:List Int) (x:Int),(l.foldl (λl w=>l.set w.toNat x) p).length=p.length:=by
     intro l
     induction l with
     |nil=>intro p x;rfl
     |cons a l ih=>intro p x;rw[List.foldl_cons,ih];simp
   split
   · exact⟨ih.1,ih.2.1,by omega⟩
   · simp only
     rw[key]
     exact⟨ih.1,by omega,by omega⟩
theorem nX{l p:List Int}{x:Int}{k:Nat}(hk:(k:Int)<l.length):(l.take (k+1)).foldl (λl w=>l.set w.toNat x) p=((l.take k).foldl (λl w=>l.set w.toNat x) p).set (gI l (k:Int)).toNat x:=by
 rw[bc hk,List.foldl_append];rfl
theorem gL(x:Int):∀(l p:List Int),(l.foldl (λl w=>l.set w.toNat x) p).length=p.length
 |[],p=>rfl
 |a::l,p=>by rw[List.foldl_cons,gL x l];simp
end TL
namespace TL
theorem pm{k n:Nat}{x:Int}(hk:k<n):(List.replicate k x++List.replicate (n-k) 0).set (k:Int).toNat x=List.replicate (k+1) x++List.replicate (n-(k+1)) (0:Int):=by
 have e:n-k=(n-(k+1))+1:=by omega
 rw[e,List.replicate_succ]
 simp only[Int.toNat_natCast]
 rw[List.set_append_right _ _ (by simp)]
 simp only[List.length_replicate,Nat.sub_self,List.set_cons_zero]
 rw[List.replicate_succ']
 simp
theorem dW.rl{out:List (List Int)}{g:bN}{k:Nat}(h:dW out g k){v:Int}(h0:0<=v)(h1:v<g.1):((gI out v).length:Int)<=2*(k:Int):=by
 rw[h.at_ v h0 h1]
 have:=vu g v k
 omega
theorem dW.rl2{out:List (List Int)}{g:bN}{k:Nat}(h:dW out g k){u v:Int}(h2:0<=u)(h3:u<g.1)(h0:0<=v)(h1:v<g.1)(a:Int):((gI (out.set u.toNat (gI out u++[a])) v).length:Int)<=2*(k:Int)+1:=by
 have hl:=h.len
 rw[dJ h2 (by omega) h0]
 split
 · have:=h.rl h2 h3;simp;omega
 · have:=h.rl h0 h1;omega
theorem dW.done{out:List (List Int)}{g:bN}{k:Nat}(h:dW out g k)(hk:k=g.2.length):∀v,0<=v->v<g.1->gI out v=d6 g v:=λv h0 h1=>by
 subst hk;exact h.at_ v h0 h1
theorem dS.yes{O B F:List Int}{s0:Bf}{g:bN}{v h:Int}{j:Nat}(hr:dS ⟨O,B,F⟩ g s0 v j)(hm:bO g)(hj:(j:Int)<(d6 g v).length)(hh:h=gI (d6 g v) (j:Int))(c:gI F (cF g h)<0):dS ⟨O++[cF g h],B.set (cF g h).toNat h,F.set (cF g h).toNat (gI F v+1)⟩ g s0 v (j+1):=by
 have h1:=hr.next hm hj
 rw[<-hh] at h1
 unfold fL at h1
 rw[if_pos (show gI (Bf.mk O B F).far (cF g h)<0 from c)] at h1
 exact h1
theorem dS.no{O B F:List Int}{s0:Bf}{g:bN}{v h:Int}{j:Nat}(hr:dS ⟨O,B,F⟩ g s0 v j)(hm:bO g)(hj:(j:Int)<(d6 g v).length)(hh:h=gI (d6 g v) (j:Int))(c:¬gI F (cF g h)<0):dS ⟨O,B,F⟩ g s0 v (j+1):=by
 have h1:=hr.next hm hj
 rw[<-hh] at h1
 unfold fL at h1
 rw[if_neg (show¬gI (Bf.mk O B F).far (cF g h)<0 from c)] at h1
 exact h1
theorem dS.facts{O B F:List Int}{s0:Bf}{g:bN}{v:Int}{j:Nat}(hr:dS ⟨O,B,F⟩ g s0 v j)(hg:0<=g.1):(F.length:Int)=g.1/\(B.length:Int)=g.1/\(O.length:Int)<=g.1/\(0<=v/\v<g.1)/\gI F v<=O.length/\¬gI F v<0:=by
 have h1:=hr.ok
 have hv:=h1.rng v hr.mem
 exact⟨h1.far,h1.by_,h1.len hg,hv,h1.le v hv.1 hv.2,λhh=>(h1.iff v hv.1 hv.2).1 hh hr.mem⟩
theorem g0.facts{O B F:List Int}{g:bN}{s0:Int}{i:Nat}(hr:g0 ⟨O,B,F⟩ g s0 i)(hg:0<=g.1):(F.length:Int)=g.1/\(B.length:Int)=g.1/\(O.length:Int)<=g.1/\(i:Int)<=O.length:=⟨hr.ok.far,hr.ok.by_,hr.ok.len hg,hr.le⟩
theorem g0.node{O B F:List Int}{g:bN}{s0:Int}{i:Nat}(hr:g0 ⟨O,B,F⟩ g s0 i)(hi:(i:Int)<O.length):0<=gI O (i:Int)/\gI O (i:Int)<g.1:=hr.ok.rng _ (bz (by omega) hi)
theorem g0.row{O B F:List Int}{g:bN}{s0:Int}{i:Nat}(hr:g0 ⟨O,B,F⟩ g s0 i)(hi:(i:Int)<O.length):dS ⟨O,B,F⟩ g ⟨O,B,F⟩ (gI O (i:Int)) 0:=dS.start hr.ok (bz (by omega) hi)
theorem sA{g:bN}{s0:Int}{O B F:List Int}{i:Nat}(h:g0 ⟨O,B,F⟩ g s0 i)(hi:¬(i:Int)<O.length):O=(cR g s0).order/\∀x∈O,0<=x/\x<g.1:=⟨congrArg Bf.order (h.done hi),h.ok.rng⟩
end TL
namespace TL
theorem sQ{g:bN}{part:List Int}{n:Int}{q:Nat}(h:part=(cI g q).1/\n=(cI g q).2)(c:0<=gI part (q:Int)):part=(cI g (q+1)).1/\n=(cI g (q+1)).2:=by
 have h1:cI g (q+1)=cI g q:=by
   rw[jn]
   unfold kV
   rw[if_pos (by rw[<-h.1];exact c)]
 rw[h1];exact h
theorem x8{g:bN}{part part2 O:List Int}{n:Int}{q j:Nat}(h:part=(cI g q).1/\n=(cI g q).2)(c:¬0<=gI part (q:Int))(hO:O=(cR g (q:Int)).order)(hp:part2=(O.take j).foldl (λl w=>l.set w.toNat n) part)(hj:¬(j:Int)<O.length):part2=(cI g (q+1)).1/\n+1=(cI g (q+1)).2:=by
 rw[List.take_of_length_le (by omega)] at hp
 have h1:cI g (q+1)=((cR g (q:Int)).order.foldl (λl w=>l.set w.toNat (cI g q).2) (cI g q).1,(cI g q).2+1):=by
   rw[jn]
   unfold kV
   rw[if_neg (by rw[<-h.1];exact c)]
 rw[h1]
 exact⟨by rw[hp,hO,h.1,h.2],by rw[h.2]⟩
theorem ki{g:bN}(hm:bO g){q:Nat}(hq:(q:Int)=g.1){part:List Int}{n:Int}(h:part=(cI g q).1/\n=(cI g q).2):part=(bx g).1/\n=(bx g).2.1/\0=(bx g).2.2:=by
 have e:q=g.1.toNat:=by omega
 subst e
 unfold bx
 rw[if_pos hm]
 exact⟨h.1,h.2,rfl⟩
end TL
namespace TL
end TL
set_option linter.all false
namespace TL
def aX(g:bN):j7:=(List.range g.1.toNat).map λ(v:Nat)=>d6 g (v:Int)
theorem dW.first{out:j7}{g:bN}{k:Nat}(h:dW out g k)(hk:k=g.2.length):out=aX g:=by
 have hl:=h.len
 apply jo
 · simp[aX];omega
 · intro i hi
   rw[h.done hk _ (by omega) (by omega)]
   have:i<g.1.toNat:=by omega
   simp[aX,gI,this]
structure fb(out:j7)(g:bN)(h:Nat):Prop where
  len:(out.length:Int)=g.1
  at_:∀v,0<=v->v<g.1->gI out v=qg g v h
theorem fb.start{g:bN}(h:0<=g.1):fb (List.replicate g.1.toNat []) g 0:=⟨by simp;omega,λv h0 h1=>by rw[kA h0 (by omega)];simp[qg]⟩
theorem fb.next{out:j7}{g:bN}{h:Nat}(hi:fb out g h)(h0:0<=bf g h)(h1:bf g h<g.1):fb (out.set (bf g h).toNat (gI out (bf g h)++[(h:Int)])) g (h+1):=by
 have hl:=hi.len
 refine⟨by simpa using hl,λv h2 h3=>?_⟩
 rw[dJ h0 (by omega) h2,uH]
 by_cases e:v=bf g (h:Int)
 · rw[if_pos e,if_pos e.symm,hi.at_ _ h0 h1,<-e]
 · rw[if_neg e,if_neg (λh=>e h.symm),hi.at_ v h2 h3]
theorem fb.bd{out:j7}{g:bN}{h:Nat}(hi:fb out g h){v:Int}(h0:0<=v)(h1:v<g.1):(gI out v).length<=h:=by
 rw[hi.at_ v h0 h1];exact x6 g v h
theorem fb.done{out:j7}{g:bN}{h:Nat}(hi:fb out g h)(hh:h=2*g.2.length):out=aX g:=by
 have hl:=hi.len
 apply jo
 · simp[aX];omega
 · intro i hlt
   rw[hi.at_ _ (by omega) (by omega),wX g _ hh]
   have:i<g.1.toNat:=by omega
   simp[aX,gI,this]
end TL
set_option linter.all false
namespace TL
structure EV(D:Int->Prop)(R:Int->Int->Prop):Prop where
 rfl:∀x,D x->R x x
 symm:∀x y,D x->D y->R x y->R y x
 trans:∀x y z,D x->D y->D z->R x y->R y z->R x z
def ke(g:bN)(v:Int):Prop:=0<=v/\v<g.1
def Cn(g:bN)(u v:Int):Prop:=∀R:Int->Int->Prop,EV (ke g) R->(∀e∈g.2,R e.1 e.2)->R u v
theorem Cn.eqv(g:bN):EV (ke g) (Cn g):=
 ⟨λx hx R hR _=>hR.rfl x hx,λx y hx hy h R hR he=>hR.symm x y hx hy (h R hR he),λx y z hx hy hz h1 h2 R hR he=>hR.trans x y z hx hy hz (h1 R hR he) (h2 R hR he)⟩
theorem Cn.edge{g:bN}{e:Int×Int}(h:e∈g.2):Cn g e.1 e.2:=λR _ he=>he e h
theorem Cn.half{g:bN}(hm:bO g){h:Int}(h0:0<=h)(h1:h<2*(g.2.length:Int)):Cn g (bf g h) (cF g h):=by
 have hin:=bz (xs:=g.2) (i:=h/2) (by omega) (by omega)
 have hok:=hm.2.2.2 _ hin
 have hc:=Cn.edge hin
 unfold bf cF pI
 have h2:h%2=0\/h%2=1:=by omega
 rcases h2 with e|e
 · rw[e];simpa using hc
 · rw[e]
   exact(Cn.eqv g).symm _ _ hok.1 hok.2 (by simpa using hc)
theorem Dl{g:bN}{i:Nat}(hi:(i:Int)<g.2.length):2*(i:Int)∈d6 g (gI g.2 (i:Int)).1/\2*(i:Int)+1∈d6 g (gI g.2 (i:Int)).2/\cF g (2*(i:Int))=(gI g.2 (i:Int)).2/\cF g (2*(i:Int)+1)=(gI g.2 (i:Int)).1:=by
 have e1:(2*(i:Int))/2=i:=by omega
 have e2:(2*(i:Int))%2=0:=by omega
 have e3:(2*(i:Int)+1)/2=i:=by omega
 have e4:(2*(i:Int)+1)%2=1:=by omega
 refine⟨?_,?_,by unfold cF;rw[e1,e2];simp[pI],by unfold cF;rw[e3,e4];simp[pI]⟩
 · unfold d6 j5
   refine List.mem_filter.2 ⟨List.mem_map.2 ⟨2*i,List.mem_range.2 (by omega),by push_cast;rfl⟩,?_⟩
   simp only[decide_eq_true_eq]
   unfold bf;rw[e1,e2];simp[pI]
 · unfold d6 j5
   refine List.mem_filter.2 ⟨List.mem_map.2 ⟨2*i+1,List.mem_range.2 (by omega),by push_cast;rfl⟩,?_⟩
   simp only[decide_eq_true_eq]
   unfold bf;rw[e3,e4];simp[pI]
theorem uQ{g:bN}{S:Int->Prop}(hS:∀x h,S x->h∈d6 g x->S (cF g h)){u v:Int}(hc:Cn g u v):S u->S v:=by
 refine(hc (λu v=>S u↔S v) ⟨λ_ _=>Iff.rfl,λ_ _ _ _ h=>h.symm,λ_ _ _ _ _ _ h1 h2=>h1.trans h2⟩ (λe he=>?_)).1
 obtain⟨i,hi,rfl⟩:=List.mem_iff_getElem.1 he
 have e:gI g.2 (i:Int)=g.2[i]:=by simp[gI,hi]
 obtain⟨a,b,c,d⟩:=Dl (g:=g) (i:=i) (by omega)
 rw[e] at a b c d
 exact⟨λh=>by rw[<-c];exact hS _ _ h a,λh=>by rw[<-d];exact hS _ _ h b⟩
theorem vy(g:bN)(v:Int)(s:Bf)(h:Int):∀x∈(fL g v s h).order,x∈s.order\/x=cF g h:=by
 intro x hx
 unfold fL at hx
 split at hx
 · rcases List.mem_append.1 hx with hx|hx
   · exact .inl hx
   · exact .inr (List.mem_singleton.1 hx)
 · exact .inl hx
theorem pi{g:bN}(hm:bO g){v:Int}:∀(l:List Int) (s:Bf),(∀h∈l,h∈d6 g v)->jY g s->v∈s.order->
   jY g (l.foldl (fL g v) s)/\(∃t,(l.foldl (fL g v) s).order=s.order++t)/\(∀x∈(l.foldl (fL g v) s).order,x∈s.order\/∃h∈d6 g v,x=cF g h)/\∀h∈l,cF g h∈(l.foldl (fL g v) s).order
 |[],s,_,hs,hv=>⟨hs,⟨[],by simp⟩,λx hx=>.inl hx,by simp⟩
 |a::l,s,hl,hs,hv=>by
   have hin:=(f4 (hl a (by simp))).1
   have ht:=fQ hm hin.1 hin.2
   have h1:=hs.one (v:=v) (h:=a) hv ht.1 ht.2
   obtain⟨t,ht1⟩:=ov g v s a
   have ha:cF g a∈(fL g v s a).order:=by
     by_cases c:gI s.far (cF g a)<0
     · unfold fL;rw[if_pos c];simp
     · rw[ht1]
       have:cF g a∈s.order:=Classical.byContradiction λhn=>c ((hs.iff _ ht.1 ht.2).2 hn)
       simp[this]
   obtain⟨k1,⟨t2,k2⟩,k3,k4⟩:=pi hm l (fL g v s a) (λh hh=>hl h (by simp[hh])) h1 (by rw[ht1];simp[hv])
   rw[List.foldl_cons]
   refine⟨k1,⟨t++t2,by rw[k2,ht1,List.append_assoc]⟩,λx hx=>?_,λh hh=>?_⟩
   · rcases k3 x hx with hx|hx
     · rcases vy g v s a x hx with hx|hx
       · exact .inl hx
       · exact .inr ⟨a,hl a (by simp),hx⟩
     · exact .inr hx
   · rcases List.mem_cons.1 hh with rfl|hh
     · rw[k2];simp[ha]
     · exact k4 h hh
theorem tW{g:bN}(hm:bO g){s0:Int}:∀(n i:Nat) (s:Bf),jY g s->(∀x∈s.order,Cn g s0 x)->s0∈s.order->ke g s0->(∀q:Nat,q<i->(q:Int)<s.order.length->∀h∈d6 g (gI s.order (q:Int)),cF g h∈s.order)->(g.1:Int)<=n+i->
   jY g (my g n i s)/\(∀x∈(my g n i s).order,Cn g s0 x)/\s0∈(my g n i s).order/\∀x∈(my g n i s).order,∀h∈d6 g x,cF g h∈(my g n i s).order
 |0,i,s,hs,hc,h0,hd,hq,hn=>by
   refine⟨hs,hc,h0,λx hx h hh=>?_⟩
   obtain⟨q,hq1,e⟩:=List.mem_iff_getElem.1 hx
   have hl:=hs.len hm.1
   change q<s.order.length at hq1
   have eq1:gI s.order (q:Int)=x:=by simp only[my] at e;simp[gI,hq1,e]
   exact hq q (by omega) (by omega) h (by rw[eq1];exact hh)
 |n+1,i,s,hs,hc,h0,hd,hq,hn=>by
   simp only[my]
   by_cases c:i<s.order.length
   · rw[if_pos c]
     have hv:=bz (xs:=s.order) (i:=(i:Int)) (by omega) (by omega)
     obtain⟨k1,⟨t,k2⟩,k3,k4⟩:=pi hm (v:=gI s.order (i:Int)) (d6 g (gI s.order (i:Int))) s (λh hh=>hh) hs hv
     have hvd:=hs.rng _ hv
     have hpre:∀q:Nat,(q:Int)<s.order.length->gI (n3 g (gI s.order (i:Int)) s).order (q:Int)=gI s.order (q:Int):=λq hq'=>by
       unfold n3;rw[k2];unfold gI
       have:((q:Int)).toNat<s.order.length:=by omega
       simp only[Int.toNat_natCast] at this ⊢
       simp[List.getD_eq_getElem?_getD,List.getElem?_append_left this]
     refine tW hm n (i+1) (n3 g (gI s.order (i:Int)) s) k1 (λx hx=>?_) (by unfold n3;rw[k2];simp[h0]) hd (λq hq1 hq2 h hh=>?_) (by omega)
     · rcases k3 x hx with hx|⟨h,hh,rfl⟩
       · exact hc x hx
       · have hin:=f4 hh
         have h1:=Cn.half hm hin.1.1 hin.1.2
         rw[hin.2] at h1
         exact(Cn.eqv g).trans _ _ _ hd hvd (fQ hm hin.1.1 hin.1.2) (hc _ hv) h1
     · by_cases e:q=i
       · subst e
         rw[hpre q (by omega)] at hh
         exact k4 h hh
       · have hq3:(q:Int)<s.order.length:=by omega
         rw[hpre q hq3] at hh
         have:=hq q (by omega) hq3 h hh
         unfold n3;rw[k2];simp[this]
   · rw[if_neg c]
     refine⟨hs,hc,h0,λx hx h hh=>?_⟩
     obtain⟨q,hq1,e⟩:=List.mem_iff_getElem.1 hx
     have eq1:gI s.order (q:Int)=x:=by simp[gI,hq1,e]
     exact hq q (by omega) (by omega) h (by rw[eq1];exact hh)
theorem mm{g:bN}(hm:bO g){s0:Int}(h0:ke g s0):(∀x∈(cR g s0).order,ke g x)/\∀x,x∈(cR g s0).order↔Cn g s0 x:=by
 obtain⟨k1,k2,k3,k4⟩:=tW hm (s0:=s0) g.1.toNat 0 (eZ g s0) (jY.start h0.1 h0.2) (by simp[eZ];exact(Cn.eqv g).rfl s0 h0) (by simp[eZ]) h0 (λq hq=>by omega) (by have:=hm.1;omega)
 refine⟨k1.rng,λx=>⟨k2 x,λhc=>?_⟩⟩
 exact uQ (S:=λx=>x∈(cR g s0).order) (λx h hx hh=>k4 x hx h hh) hc k3
theorem pY{n:Int}:∀(O p:List Int) (v:Int),0<=v->v<p.length->(∀x∈O,0<=x/\x<p.length)->gI (O.foldl (λl w=>l.set w.toNat n) p) v=if v∈O then n else gI p v
 |[],p,v,h0,h1,_=>by simp
 |a::O,p,v,h0,h1,ho=>by
   have ha:=ho a (by simp)
   rw[List.foldl_cons,pY O _ v h0 (by simpa using h1) (λx hx=>by simpa using ho x (by simp[hx])),dJ ha.1 ha.2 h0]
   by_cases e:v=a
   · subst e;simp
   · by_cases hv:v∈O
     · simp[hv]
     · simp[hv,e]
end TL
set_option linter.all false
namespace TL
def ly(c:List Int):Nat:=(c.filter λx=>decide (x<0)).length
theorem yI{c:List Int}{w n:Int}(h0:0<=w)(h1:w<c.length)(hc:gI c w<0)(hn:0<=n):ly (c.set w.toNat n)+1=ly c:=by
 have hlt:w.toNat<c.length:=by omega
 have e0:gI c w=c[w.toNat]:=by simp[gI,hlt]
 have e1:c=c.take w.toNat++c[w.toNat]::c.drop (w.toNat+1):=by
   rw[<-List.drop_eq_getElem_cons hlt,List.take_append_drop]
 have e2:c.set w.toNat n=c.take w.toNat++n::c.drop (w.toNat+1):=List.set_eq_take_append_cons_drop.trans (if_pos hlt)
 rw[e2]
 conv=>rhs;rw[e1]
 unfold ly
 rw[List.filter_append,List.filter_append,List.filter_cons,List.filter_cons,if_neg (by simp;omega),if_pos (by rw[<-e0];simpa using hc)]
 simp
 omega
theorem jm{g:bN}{v:Int}(h0:0<=v)(h1:v<g.1):gI (aX g) v=d6 g v:=by
 unfold aX gI
 have:v.toNat<g.1.toNat:=by omega
 simp[List.getD_eq_getElem?_getD,this]
 congr 1
 omega
theorem uK(g:bN)(h:0<=g.1):((aX g).length:Int)=g.1:=by simp[aX];omega
section
end
end TL
set_option linter.all false
namespace TL
open Ieee
def pl(x:Nat):Nat:=x/4503599627370496-1
end TL
set_option linter.all false
namespace TL
open Go
instance:Rp Nat where
 sz:=1
 rep _ _ _ cs x:=cs=[.float .f64 x]
 len h:=by subst h;rfl
 one h:=by subst h;simp[Value.oneCell']
 tr _ _ h:=h
instance:Fl Nat where
 cells x:=[.float .f64 x]
 rep_iff:=Iff.rfl
section
end
end TL
set_option linter.all false
namespace TL
abbrev Pt:=Int×Int
def cT(x y:Int):Int:=if x<y then-1 else if y<x then 1 else 0
end TL
namespace TL
def s9:List Int->Int
 |[]=>0
 |x::l=>if x=0 then s9 l else x
theorem AS{l:List Int}{k:Nat}(h:∀j:Nat,j<k->gI l (j:Int)=0)(hk:(k:Int)<l.length)(hx:gI l (k:Int)≠0):gI l (k:Int)=s9 l:=by
 induction l generalizing k with
 |nil=>simp at hk;omega
 |cons a l ih=>
   cases k with
   |zero=>
     have e:gI (a::l) ((0:Nat):Int)=a:=by simp[gI]
     rw[e] at hx ⊢
     unfold s9;rw[if_neg hx]
   |succ k=>
     have e:∀j:Nat,gI (a::l) ((j+1:Nat):Int)=gI l (j:Int):=λj=>by simp[gI]
     have e0:gI (a::l) ((0:Nat):Int)=a:=by simp[gI]
     have h0:=h 0 (by omega)
     rw[e0] at h0
     rw[e] at hx ⊢
     unfold s9;rw[if_pos h0]
     exact ih (λj hj=>by rw[<-e];exact h (j+1) (by omega)) (by simp at hk;omega) hx
theorem xR{l:List Int}{k:Nat}(h:∀j:Nat,j<k->gI l (j:Int)=0)(hk:¬(k:Int)<l.length):0=s9 l:=by
 induction l generalizing k with
 |nil=>rfl
 |cons a l ih=>
   have e:∀j:Nat,gI (a::l) ((j+1:Nat):Int)=gI l (j:Int):=λj=>by simp[gI]
   have e0:gI (a::l) ((0:Nat):Int)=a:=by simp[gI]
   simp at hk
   have h0:=h 0 (by omega)
   rw[e0] at h0
   unfold s9;rw[if_pos h0]
   exact ih (k:=k-1) (λj hj=>by rw[<-e];exact h (j+1) (by omega)) (by omega)
section
end
end TL
set_option linter.all false
namespace TL
def nz(p:Pt):Prop:=¬(p.1=0/\p.2=0)
theorem yW{α:Type}{R:α->α->Prop}:∀{l1 l2:List α},(∀a,a∈l1->∀b,b∈l1->R a b->¬R b a)->l1.Pairwise R->l2.Pairwise R->(∀x,x∈l1↔x∈l2)->l1=l2
 |[],[],_,_,_,_=>rfl
 |[],b::t2,_,_,_,h=>by have:=(h b).2 (by simp);simp at this
 |a::t1,[],_,_,_,h=>by have:=(h a).1 (by simp);simp at this
 |a::t1,b::t2,ha,h1,h2,h=>by
   rw[List.pairwise_cons] at h1 h2
   have e:a=b:=by
     rcases List.mem_cons.1 ((h a).1 (by simp)) with e|m1
     · exact e
     · rcases List.mem_cons.1 ((h b).2 (by simp)) with e|m2
       · exact e.symm
       · exact absurd (h2.1 a m1) (ha a (by simp) b (by simp[m2]) (h1.1 b m2))
   subst e
   have n1:a∉t1:=λm=>ha a (by simp) a (by simp) (h1.1 a m) (h1.1 a m)
   have n2:a∉t2:=λm=>ha a (by simp) a (by simp) (h2.1 a m) (h2.1 a m)
   have:=yW (R:=R) (l1:=t1) (l2:=t2) (λx hx y hy=>ha x (by simp[hx]) y (by simp[hy])) h1.2 h2.2 λx=>by
     constructor
     · intro m
       rcases List.mem_cons.1 ((h x).1 (by simp[m])) with e|m'
       · subst e;exact absurd m n1
       · exact m'
     · intro m
       rcases List.mem_cons.1 ((h x).2 (by simp[m])) with e|m'
       · subst e;exact absurd m n2
       · exact m'
   rw[this]
section
end
section
end
section
end
end TL
set_option linter.all false
namespace TL
def iK{β:Type}(f:Nat->List β):Nat->List β
  |0=>[]
  |k+1=>iK f k++f k
section
variable{β:Type}{f h:Nat->List β}{k n:Nat}{x:β}{F B:List β}
theorem mR{c:Nat}:∀{k:Nat},(∀j,j<k->(f j).length<=c)->(iK f k).length<=k*c
 |0,_=>by simp[iK]
 |k+1,e=>by
   have h1:=mR (k:=k) λj hj=>e j (by omega)
   have h2:=e k (by omega)
   rw[iK,List.length_append,Nat.succ_mul]
   omega
end
def fl{β:Type}(p:Prop)[Decidable p](x:β):List β:=if p then[x] else[]
section
variable{β:Type}{p:Prop}[Decidable p]{x:β}
theorem pS(h:p):fl p x=[x]:=if_pos h
theorem tP(h:¬p):fl p x=[]:=if_neg h
theorem y6:(fl p x).length<=1:=by unfold fl;split<;>simp
end
section
end
end TL
namespace TL
section
end
section
end
end TL
namespace TL
end TL
namespace TL
section
end
section
end
section
end
section
end
end TL
