/- Plain texts of this claim, part 2. By an AI agent. -/
import Derived.Test.YtkhfimgjcdeejaaTlP1
import Derived.Laws.Externs
import Derived.Laws.FloatArith
import Derived.Laws.FloatBits
import Derived.Laws.NewFold
/-
  TlStill: in a region that draws its order: an operation before which only reading ones may come is taken first.
  By an AI agent.
-/
set_option linter.all false
namespace TL
open Go
theorem aH.asBool(v:Value):aH (Go.asBool v):=by
 unfold Go.asBool
 repeat' (first|exact aH.pure _|exact aH.stuck _|exact aH.unsupported _|split)
theorem jJ(op:BinOp)(x y:ByteArray):aH (Op.stringOp op x y):=by
 unfold Op.stringOp
 dsimp only
 repeat' (first|exact aH.pure _|exact aH.stuck _|exact aH.unsupported _|split)
theorem ob(x y:Value):aH (Builtin.min2 x y):=by
 unfold Builtin.min2
 repeat' (first|exact aH.pure _|exact aH.stuck _|exact aH.unsupported _|exact aH.bind (aH.choose _) λ_=>aH.pure _|exact aH.bind (jJ _ _ _) λ_=>aH.bind (aH.asBool _) λ_=>aH.pure _|split)
theorem ol(x y:Value):aH (Builtin.max2 x y):=by
 unfold Builtin.max2
 repeat' (first|exact aH.pure _|exact aH.stuck _|exact aH.unsupported _|exact aH.bind (aH.choose _) λ_=>aH.pure _|exact aH.bind (jJ _ _ _) λ_=>aH.bind (aH.asBool _) λ_=>aH.pure _|split)
theorem iq{f:Value->Value->Sem Value}(hf:∀x y,aH (f x y)):∀(l:List Value) (x:Value),aH (l.foldlM f x)
 |[],x=>by simp only[List.foldlM_nil];exact aH.pure _
 |y::l,x=>by simp only[List.foldlM_cons];exact aH.bind (hf x y) λz=>iq hf l z
def ek:Op->Bool
 | .call c=>match c.callee with
   | .builtin .min| .builtin .max=>true
   |_=>false
 |o=>fu o
theorem nD{ρ:Operand->Value}{o:Oper}(h:ek o.op=true):aH (execOp ρ o)/\∀P w nx w',(execOp ρ o).run P w= .ok nx w'->∃u,nx= .value u:=by
 obtain⟨dst,op,ty,pos,after,g⟩:=o
 cases op
 case call c=>
   obtain⟨callee,args,at_⟩:=c
   cases callee with
   |builtin b=>
     cases b<;>simp only[ek,Bool.false_eq_true] at h
     case min=>
       have e:execOp ρ ⟨dst,.call {callee:=.builtin .min,args:=args,argTypes:=at_},ty,pos,after,g⟩=(do pure (Next.value (<-Builtin.min_ at_ ty (args.map ρ)))):=by
         simp[execOp,resolve,invoke,builtin]
       rw[e]
       refine⟨aH.bind ?_ λ_=>aH.pure _,λP w nx w' hr=>jg hr⟩
       unfold Builtin.min_
       split
       · exact aH.stuck _
       · exact iq ob _ _
     case max=>
       have e:execOp ρ ⟨dst,.call {callee:=.builtin .max,args:=args,argTypes:=at_},ty,pos,after,g⟩=(do pure (Next.value (<-Builtin.max_ at_ ty (args.map ρ)))):=by
         simp[execOp,resolve,invoke,builtin]
       rw[e]
       refine⟨aH.bind ?_ λ_=>aH.pure _,λP w nx w' hr=>jg hr⟩
       unfold Builtin.max_
       split
       · exact aH.stuck _
       · exact iq ol _ _
   |_=>simp only[ek,Bool.false_eq_true] at h
 all_goals
   first
   |(simp only[ek,fu,Bool.false_eq_true] at h;done)
   |exact⟨kH (by simpa[ek] using h),λP w nx w' hr=>jg hr⟩
section
variable{P:Program}{ops:Array Oper}{Q:Exit->Act->World->Prop}{md:Region.Mode}{S:World->Prop}
def xg(P:Program)(ops:Array Oper)(w:World)(o:Oper)(v:Value)(a:Act):Prop:=Region.wanted o (yielded ops a.tmps)=true/\(execOp a.eval o).run P w= .ok (.value v) w
theorem xg.wpOp{i:Nat}{o:Oper}{v:Value}{a:Act}{w:World}(hi:ops[i]? =some o)(hy:xg P ops w o v a){K:Act->World->Prop}(h:K (a.put o.dst v) w):wpOp P ops Q i K a w:=by
 unfold Go.wpOp
 simp only[hi,hy.1,if_true,Oper.wp,hy.2,Oper.upon]
 exact .inl h
theorem nU{i:Nat}{oi:Oper}{v:Value}{w0:World}{M D:Array Bool}(hi:ops[i]? =some oi)(hsel:∀(j:Nat) (o:Oper) cs b,ops[j]? =some o->o.op≠ .select cs b)
   (hQ:∀c a w,Q (.panic c) (a.put oi.dst v) w->Q (.panic c) a w)
   (hM:∀j oj,ops[j]? =some oj->M.getD j false=false->j≠i->∃e∈oj.after,Region.binds md e=true/\M.getD e.on false=false)
   (hMq:∀j oj,ops[j]? =some oj->M.getD j false=true->D.getD j true=false->j≠i->ek oj.op=true):
   ∀(fuel:Nat) (listed:Array Bool) (a:Act) (w:World),cW w0.heap.size w0 w->S w->(∀j,listed.getD j false=true->M.getD j false=true)->(∀j,listed.getD j true=false->D.getD j true=false)->
     (∀j oj,ops[j]? =some oj->j≠i->listed.getD j true=false->(∀e∈oj.after,Region.binds md e=true->e.on≠i)->oi.apart ops oj=true)->
     i∈Region.ready md ops listed->(∀w,cW w0.heap.size w0 w->xg P ops w oi v a)->
     wpAnyH P md ops Q S fuel (listed.setIfInBounds i true) (a.put oi.dst v) w->wpAnyH P md ops Q S (fuel+1) listed a w:=by
 intro fuel
 induction fuel with
 |zero=>
   intro listed a w hw hS _ _ _ hr hy H
   refine⟨λh=>(by rw[h] at hr;cases hr),λj hj=>?_⟩
   by_cases hji:j=i
   · subst hji;exact(hy w hw).wpOp hi ⟨hS,H⟩
   · have:=ready_mono hj hji
     rw[H.1] at this
     cases this
 |succ fuel ih=>
   intro listed a w hw hS hsub hD hfree hr hy H
   refine⟨λh=>(by rw[h] at hr;cases hr),λj hj=>?_⟩
   by_cases hji:j=i
   · subst hji;exact(hy w hw).wpOp hi ⟨hS,H⟩
   · obtain⟨hjun,oj,hoj,hall⟩:=mem_ready.1 hj
     have hMj:M.getD j false=true:=by
       cases hm:M.getD j false with
       |true=>rfl
       |false=>
         obtain⟨e,he,hb,hn⟩:=hM j oj hoj hm hji
         have:=hsub _ (hall e he hb)
         rw[hn] at this;cases this
     have hkk:=hMq j oj hoj hMj (hD j hjun) hji
     have h1:=H.2 j (ready_mono hj hji)
     have hnot:∀e∈oj.after,Region.binds md e=true->e.on≠i:=λe he hb heq=>by
       have h1:=hall e he hb
       have h0:=(mem_ready.1 hr).1
       rw[heq] at h1
       rw[getD_both h0] at h1
       cases h1
     have hap:=hfree j oj hoj hji hjun hnot
     have hfree':∀k ok,ops[k]? =some ok->k≠i->(listed.setIfInBounds j true).getD k true=false->
         (∀e∈ok.after,Region.binds md e=true->e.on≠i)->oi.apart ops ok=true:=λk ok hk hki hun hno=>by
       refine hfree k ok hk hki ?_ hno
       by_cases hjk:j=k
       · subst hjk;exact hjun
       · rw[getD_set_ne true hjk] at hun;exact hun
     have hsub':∀k,(listed.setIfInBounds j true).getD k false=true->M.getD k false=true:=λk hk=>by
       by_cases hjk:j=k
       · subst hjk;exact hMj
       · rw[getD_set_ne false hjk] at hk;exact hsub k hk
     have hD':∀k,(listed.setIfInBounds j true).getD k true=false->D.getD k true=false:=λk hk=>by
       by_cases hjk:j=k
       · subst hjk;exact hD j hjun
       · rw[getD_set_ne true hjk] at hk;exact hD k hk
     obtain⟨g1,g2,g3⟩:=Oper.apart_spec hap
     have keep:∀u w,cW w0.heap.size w0 w->xg P ops w oi v (a.put oj.dst u):=λu w hw=>by
       obtain⟨k1,k2⟩:=hy w hw
       refine⟨by rw[wanted_put oi a oj.dst u g3];exact k1,?_⟩
       rw[execOp_put oi (λcs b=>hsel i oi cs b hi) a oj.dst u g3];exact k2
     unfold Go.wpOp at h1 ⊢
     simp only[hoj] at h1 ⊢
     rw[wanted_put oj a oi.dst v g1] at h1
     cases hwt:Region.wanted oj (yielded ops a.tmps) with
     |false=>
       simp only[hwt,Bool.false_eq_true,if_false] at h1 ⊢
       refine⟨h1.1,ih (listed.setIfInBounds j true) (a.put oj.dst undef) w hw h1.1 hsub' hD' hfree' (ready_mono hr (Ne.symm hji)) (keep undef) ?_⟩
       rw[<-Act.put_comm a v undef g2,Array.setIfInBounds_comm _ _ hji]
       exact h1.2
     |true=>
       simp only[hwt,if_true] at h1 ⊢
       obtain⟨hke,hval⟩:=nD (ρ:=a.eval) hkk
       rcases h1 with h1|⟨h1,h2⟩
       · left
         unfold Oper.wp at h1 ⊢
         rw[execOp_put oj (λcs b=>hsel j oj cs b hoj) a oi.dst v g1] at h1
         obtain⟨dst,op,ty,pos,after,gd⟩:=oj
         cases hrun:(execOp a.eval ⟨dst,op,ty,pos,after,gd⟩).run P w with
         |halt x w'=>
           rw[hrun] at h1
           cases x<;>simp only[Oper.upon] at h1 ⊢
           case panic u=>exact hQ _ _ _ h1
         |ok nx w'=>
           rw[hrun] at h1
           have hb:=hke P w nx w' hrun
           have hw':cW w0.heap.size w0 w':=hw.trans (hb.mono hw.size)
           obtain⟨u,rfl⟩:=hval P w nx w' hrun
           simp only[Oper.upon] at h1 ⊢
           refine⟨h1.1,ih (listed.setIfInBounds j true) (a.put dst u) w' hw' h1.1 hsub' hD' hfree' (ready_mono hr (Ne.symm hji)) (keep u) ?_⟩
           have h3:=h1.2
           rw[show(a.put oi.dst v).put dst u=(a.put dst u).put oi.dst v from Act.put_comm a v u g2,Array.setIfInBounds_comm _ _ (Ne.symm hji)] at h3
           exact h3
       · right
         refine⟨?_,h2⟩
         unfold Oper.asks at*
         rw[execOp_put oj (λcs b=>hsel j oj cs b hoj) a oi.dst v g1] at h1
         exact h1
end
end TL
namespace TL
open Go
section
variable{P:Program}{n:Nat}{l:List Oper}{S:World->Prop}{K:Fr->World->Prop}{f:Fr}{w:World}{done:List Nat}{fuel:Nat}
variable{dst:Option Tmp}{op:Op}{ty:TypeId}{pos:String}{after:Array Edge}{g:Option (Nat×Bool)}{v:Value}
def oT(l:List Oper)(done M:List Nat)(i:Nat):Bool:=
 ((List.range l.length).all λj=>M.contains j||j==i||match l[j]? with
     |some oj=>oj.after.any λe=>Region.binds .any e&& !M.contains e.on
     |none=>true)&&
 (M.all λj=>j==i||done.contains j||match l[j]? with
     |some oj=>ek oj.op
     |none=>false)&&(done.all λj=>M.contains j&&decide (j<l.length))&&M.all λj=>decide (j<l.length)
theorem k6(i:Nat)(M:List Nat)(hi:l[i]? =some ⟨dst,op,ty,pos,after,g⟩)(hn:fK l=true)(hc:(fm l done i&&gW l done i&&oT l done M i&&kM n ⟨dst,op,ty,pos,after,g⟩)=true)
    (hw:cT l ⟨dst,op,ty,pos,after,g⟩ f=true)(hS:S w)(h:∀w',cW w.heap.size w w'->(execOp (ev f) ⟨dst,op,ty,pos,after,g⟩).run P w'= .ok (.value v) w')(hk:oK P n l S K fuel (i::done) (fT f dst v) w):oK P n l S K (fuel+1) done f w:=by
  simp only[Bool.and_eq_true] at hc
  obtain⟨⟨⟨hr,hf⟩,hb⟩,hd⟩:=hc
  obtain⟨hlt,hr'⟩:=eH hr
  intro a ha
  unfold oT at hb
  simp only[Bool.and_eq_true,List.all_eq_true,List.mem_range] at hb
  obtain⟨⟨⟨b1,b2⟩,b3⟩,b4⟩:=hb
  have hgM:∀j,(c8 l.length M).getD j false=true↔j∈M:=λj=>by
    rw[cC]
    by_cases hjl:j<l.length
    · simp[hjl]
    · simp only[hjl,if_false,Bool.false_eq_true,false_iff]
      exact λhm=>hjl (by simpa using b4 j hm)
  refine nU (v:=v) (w0:=w) (M:=c8 l.length M) (D:=c8 l.length done) (by simpa using hi) (gN hn) (λc a w h=>by cases h.1) (λj oj hj hm hne=>?_) (λj oj hj hm hD hne=>?_) fuel _ a w (cW.refl _ _) hS (λj hj=>?_) (λj hj=>hj) (fp hi hf) hr' (λw' hw'=>?_) ?_
  · have hj':l[j]? =some oj:=by simpa using hj
    have hjl:j<l.length:=(List.getElem?_eq_some_iff.1 hj').1
    have h1:=b1 j hjl
    have hmM:M.contains j=false:=by
      cases hc:M.contains j with
      |false=>rfl
      |true=>have h9:=(hgM j).2 (by simpa using hc);rw[hm] at h9;cases h9
    simp only[hmM,hj',Bool.false_or,Bool.or_eq_true,beq_iff_eq,hne,false_or] at h1
    obtain⟨e,he,hbb⟩:=Array.any_eq_true'.1 h1
    simp only[Bool.and_eq_true,Bool.not_eq_true'] at hbb
    refine⟨e,he,hbb.1,?_⟩
    cases hc:(c8 l.length M).getD e.on false with
    |false=>rfl
    |true=>
      have:=(hgM _).1 hc
      have h2:=hbb.2
      simp[this] at h2
  · have h1:=b2 j ((hgM j).1 hm)
    have hj':l[j]? =some oj:=by simpa using hj
    have hjl:j<l.length:=(List.getElem?_eq_some_iff.1 hj').1
    rw[cC,if_pos hjl] at hD
    have hd:done.contains j=false:=by simpa using hD
    simp only[hj',Bool.or_eq_true,beq_iff_eq,hne,hd,false_or,Bool.false_eq_true] at h1
    exact h1
  · rw[cC] at hj
    split at hj
    · have h1:=b3 j (by simpa using hj)
      exact(hgM j).2 (by simpa using h1.1)
    · cases hj
  · refine⟨?_,?_⟩
    · rw[ha.yielded];exact hw
    · rw[ha.eval];exact h w' hw'
  · rw[dh done hlt]
    exact hk _ (ha.put hd v)
end
end TL
namespace TL
open Go
def qr:List Nat->List Item->List Item
  |[],k=>k
  |1::c,.code (.seq x y)::k=>qr c (.code x:: .code y::k)
  |2::c,.code (.cond _ _ y)::k=>qr c (.code y::k)
  |3::c,.code (.cond _ x _)::k=>qr c (.code x::k)
  |0::c,_::k=>qr c k
  |_,k=>k
theorem nr(c:List Nat){P:Program}{fid n:Nat}{R:Ending->World->Prop}{k:List Item}{f:Fr}{w:World}{σ:Type}(Mid:σ->Fr->World->Prop)
    (h:(∀s f w,Mid s f w->eh P fid n R (qr c k) f w)->eh P fid n R k f w)(hk:∀s f w,Mid s f w->eh P fid n R (qr c k) f w):eh P fid n R k f w:=h hk
end TL
set_option linter.unusedVariables false
namespace TL
variable{a b c d:Int×Int}
theorem o1{A B C D:Prop}[Decidable A](h:decide A=true):A\/B\/C\/D:=.inl (of_decide_eq_true h)
theorem o2{A B C D:Prop}[Decidable B](h:decide B=true):A\/B\/C\/D:=.inr (.inl (of_decide_eq_true h))
theorem o3{A B C D:Prop}[Decidable C](h:decide C=true):A\/B\/C\/D:=.inr (.inr (.inl (of_decide_eq_true h)))
theorem o4{A B C D:Prop}[Decidable D](h:decide D=true):A\/B\/C\/D:=.inr (.inr (.inr (of_decide_eq_true h)))
theorem o5{A B C D:Prop}[Decidable A][Decidable B][Decidable C][Decidable D](h1:¬decide A=true)(h2:¬decide B=true)(h3:¬decide C=true)(h4:¬decide D=true):¬(A\/B\/C\/D):=by
 rintro(h|h|h|h)
 · exact h1 (decide_eq_true h)
 · exact h2 (decide_eq_true h)
 · exact h3 (decide_eq_true h)
 · exact h4 (decide_eq_true h)
end TL
/-
  TlCyc: lists gone round: what stands behind what; rotations turned, and moved.
  By an AI agent.
-/
set_option linter.all false
namespace TL
def xP(l:List Int)(h:Int):Int:=gI l ((((l.idxOf h:Nat):Int)+1)%(l.length:Int))
section
variable{g:cP}{r:tN}{to:List Int}
end
end TL
/-
  TlOrb: going round by a permutation; two places changed; what that does to the numbers of rounds.
  By an AI agent.
-/
set_option linter.all false
namespace TL
def tr(a b x:Int):Int:=if x=a then b else if x=b then a else x
end TL
/-
  TlEul: Euler's count of a rotation.
  By an AI agent.
-/
set_option linter.all false
namespace TL
def cy(r:tN)(x:Int):Int:=match r.find? (λl=>decide (x∈l)) with
  |some l=>xP l x
  |none=>x
end TL
/-
  TlDual: faces as nodes: the dual, corners' faces, edges laid, taken and split, ways over faces, as plain functions.
  By an AI agent.
-/
set_option linter.all false
namespace TL
def v9(g:cP)(r:tN)(c:Int×Int):Prop:=(0<=c.1/\c.1<g.1)/\if((gI r c.1).length:Int)=0 then c.2= -1 else c.2∈gI r c.1
instance (g:cP)(r:tN)(c:Int×Int):Decidable (v9 g r c):=by unfold v9;infer_instance
theorem rf{l:List Int}{x:Int}:decide (0<=iy l x)=decide (x∈l):=by
 unfold iy
 by_cases h:x∈l
 · rw[if_pos h,decide_eq_true h,decide_eq_true (by omega)]
 · rw[if_neg h,decide_eq_false h];rfl
end TL
namespace TL
end TL
namespace TL
end TL
namespace TL
section
variable{g:cP}{r:tN}{a b:Int×Int}
end
end TL
/-
  TlArr: the whole of an array that lies in a list, as a list.
  By an AI agent.
-/
set_option linter.all false
namespace TL
open Go
def oC(v:Value)(i:Nat):Value:=.slice (some (aU v 2 i)) 2 2
section
variable{P:Program}{f:Fr}{w:World}{dst:Option Tmp}{ty:TypeId}{pos:String}{after:Array Edge}{g:Option (Nat×Bool)}{t e:TypeId}{x y:Operand}
theorem fF{v:Value}{i:Nat}(ht:P.underlying t=some (.array 2 e))(hs:(P.info? e).map (·.size)=some 1)(hx:ev f x= .pointer (some (aU v 2 i))):
   (execOp (ev f) ⟨dst,.slice t x none none none,ty,pos,after,g⟩).run P w= .ok (.value (oC v i)) w:=by
 cases hq:P.info? e with
 |none=>simp[hq] at hs
 |some q=>
   have hsub:execOp (ev f) ⟨dst,.slice t x none none none,ty,pos,after,g⟩=(do pure (.value (<-Instr.sliceAt t (.pointer (some (aU v 2 i))) none none none))):=by
     simp[execOp,hx]
   rw[hsub]
   have ha:(aU v 2 i).add 0=aU v 2 i:=by rw[i4,Nat.add_zero,<-i1]
   simp[Instr.sliceAt,Instr.sureAddr,Instr.sliceBounds,bK ht,cO hq,oC,ha]
theorem lA{γ:aW}{S:cM->Prop}{v:Value}{xs:List (Int×Int)}{i:Int}(hs:Sl γ S w v xs)(h0:0<=i)(h1:i<xs.length):Sl γ S w (oC v i.toNat) [(gI xs i).1,(gI xs i).2]:=by
 have hg:=gG h0 h1
 rcases hs with⟨⟨_,rfl⟩,rfl⟩|⟨b,off,cap,rfl,_,hx⟩
 · simp at h1;omega
 · obtain⟨hb,hS,cs,hcs,hr⟩:=hx _ _ hg
   have hr':cs=[.int .i64 (gI xs i).1,.int .i64 (gI xs i).2]:=by
     have:=Fl.rep_iff.1 hr
     simpa[Fl.cells] using this
   refine .inr ⟨b,off+i.toNat*2,2,rfl,⟨by simp,by simp⟩,λj x hj=>?_⟩
   have hc0:=hcs 0 (by decide)
   have hc1:=hcs 1 (by decide)
   rw[hr'] at hc0 hc1
   have hlt:j<2:=by have:=(List.getElem?_eq_some_iff.1 hj).1;simpa using this
   rcases(by omega:j=0\/j=1) with rfl|rfl
   · have hx0:(gI xs i).1=x:=by simpa using hj
     refine⟨hb,hS,[.int .i64 (gI xs i).1],λq hq=>?_,by rw[hx0];rfl⟩
     have:q=0:=by have h9:q<1:=hq;omega
     subst this
     exact hc0
   · have hx0:(gI xs i).2=x:=by simpa using hj
     refine⟨hb,hS,[.int .i64 (gI xs i).2],λq hq=>?_,by rw[hx0];rfl⟩
     have:q=0:=by have h9:q<1:=hq;omega
     subst this
     exact hc1
end
end TL
/-
  TlJudge2: what is told of a plot; its rotation.
  By an AI agent.
-/
set_option linter.all false
namespace TL
def bx(p:cv):List Pt:=p.1++p.2.flatten
theorem nM{p:cv}{l:List Pt}{k:Nat}(h:l=p.1++(p.2.take k).flatten/\(l.length:Int)<=1024+4096*(k:Int))(hk:(k:Int)<p.2.length)(hl:(gI p.2 (k:Int)).length<=4096):l++gI p.2 (k:Int)=p.1++(p.2.take (k+1)).flatten/\((l++gI p.2 (k:Int)).length:Int)<=1024+4096*((k+1:Nat):Int):=by
 refine⟨by rw[e9 hk,h.1];simp,?_⟩
 rw[List.length_append];have:=h.2;omega
theorem ph{p:cv}{l:List Pt}{k:Nat}(h:l=p.1++(p.2.take k).flatten)(hk:¬(k:Int)<p.2.length):l=bx p:=by
 rw[List.take_of_length_le (by omega)] at h;exact h
def gA(p:cv):Nat->Int
 |0=>0
 |k+1=>gA p k+(((gI p.2 (k:Int)).length:Int)-2)
theorem mS{p:cv}(h:∀e:Int,0<=e->e<p.2.length->2<=((gI p.2 e).length:Int)/\dy (gI p.2 e)):∀k:Nat,(k:Int)<=p.2.length->0<=gA p k/\gA p k<=4096*(k:Int)
 |0,_=>by simp[gA]
 |k+1,hk=>by
   have h1:=mS h k (by omega)
   obtain⟨h2,h3,_⟩:=h (k:Int) (by omega) (by omega)
   unfold gA;omega
def g5(f:Nat->Bool):Nat->Bool
 |0=>true
 |k+1=>g5 f k&&f k
def oa(l:List Pt)(j:Nat):Bool:=decide ((gI l (j:Int)).1=(gI l ((j:Int)+1)).1\/(gI l (j:Int)).2=(gI l ((j:Int)+1)).2)
def xJ(p:cv)(e:Nat):Bool:=g5 (oa (gI p.2 (e:Int))) ((gI p.2 (e:Int)).length-1)
def kZ(p:cv)(k:Nat):Bool:=g5 (xJ p) k
section
variable{p:cv}{l:List Pt}{a b:Bool}{i k:Nat}
theorem uJ(h:a=kZ p k):1<=(1:Nat)/\a=(kZ p k&&g5 (oa l) (1-1)):=⟨Nat.le_refl _,by rw[h];simp[g5]⟩
theorem xA(h:1<=i/\a=(kZ p k&&g5 (oa l) (i-1)))(ha:a=true)(hx:(gI l ((i:Int)-1)).1=(gI l (i:Int)).1):1<=i+1/\true=(kZ p k&&g5 (oa l) (i+1-1)):=by
 obtain⟨h1,h2⟩:=h
 refine⟨by omega,?_⟩
 obtain⟨j,rfl⟩:∃j,i=j+1:=⟨i-1,by omega⟩
 have e:(((j+1:Nat):Int)-1)=(j:Int):=by omega
 have e2:((j+1:Nat):Int)=(j:Int)+1:=by omega
 rw[e,e2] at hx
 rw[Nat.add_sub_cancel,g5,<-Bool.and_assoc]
 rw[Nat.add_sub_cancel] at h2
 rw[<-h2,ha]
 unfold oa
 rw[decide_eq_true (.inl hx)];rfl
theorem xL(h:1<=i/\a=(kZ p k&&g5 (oa l) (i-1)))(ha:a=true)(hx:¬(gI l ((i:Int)-1)).1=(gI l (i:Int)).1):1<=i+1/\decide ((gI l ((i:Int)-1)).2=(gI l (i:Int)).2)=(kZ p k&&g5 (oa l) (i+1-1)):=by
 obtain⟨h1,h2⟩:=h
 refine⟨by omega,?_⟩
 obtain⟨j,rfl⟩:∃j,i=j+1:=⟨i-1,by omega⟩
 have e:(((j+1:Nat):Int)-1)=(j:Int):=by omega
 have e2:((j+1:Nat):Int)=(j:Int)+1:=by omega
 rw[e,e2] at hx ⊢
 rw[Nat.add_sub_cancel,g5,<-Bool.and_assoc]
 rw[Nat.add_sub_cancel] at h2
 rw[<-h2,ha]
 unfold oa
 rw[Bool.true_and,decide_eq_decide]
 exact⟨.inr,λh=>h.resolve_left hx⟩
theorem xj(h:1<=i/\a=(kZ p k&&g5 (oa l) (i-1)))(ha:¬a=true):1<=i+1/\false=(kZ p k&&g5 (oa l) (i+1-1)):=by
 obtain⟨h1,h2⟩:=h
 refine⟨by omega,?_⟩
 obtain⟨j,rfl⟩:∃j,i=j+1:=⟨i-1,by omega⟩
 rw[Nat.add_sub_cancel,g5,<-Bool.and_assoc]
 rw[Nat.add_sub_cancel] at h2
 rw[<-h2,Bool.eq_false_iff.2 ha];rfl
theorem vN(hb:b=kZ p k)(h:1<=i/\a=(kZ p k&&g5 (oa (gI p.2 (k:Int))) (i-1)))(hi:¬(i:Int)<(gI p.2 (k:Int)).length)(hi2:(i:Int)<=(gI p.2 (k:Int)).length):a=kZ p (k+1):=by
 have:i=(gI p.2 (k:Int)).length:=by omega
 rw[h.2,this];rfl
end
def eT(p:cv):Int×Int:=
 if 0<((bx p).length:Int) then((m8 (bx p) (bx p).length).1-(lG (bx p) (bx p).length).1,(m8 (bx p) (bx p).length).2-(lG (bx p) (bx p).length).2) else(0,0)
def dL(p:cv):Int×Int×Int×Bool×Bool:=(gA p p.2.length,(eT p).1,(eT p).2,decide (gA p p.2.length=0),kZ p p.2.length)
def ag(g:cP)(p:cv):(Int×Int×Int×Bool×Bool)×Int:=
 if dp g then if c9 g p=[] then(dL p,0) else((0,0,0,false,false),24) else((0,0,0,false,false),1)
section
variable{g:cP}{p:cv}
theorem sv(h:kP g p):∀q∈bx p,ck q:=by
 intro q hq
 unfold bx at hq
 rcases List.mem_append.1 hq with hq|hq
 · obtain⟨i,hi,rfl⟩:=List.mem_iff_getElem.1 hq
   have:=h.pt (i:Int) (by omega) (by omega)
   rwa[show gI p.1 (i:Int)=p.1[i] by simp[gI,hi]] at this
 · obtain⟨l,hl,hq⟩:=List.mem_flatten.1 hq
   obtain⟨i,hi,rfl⟩:=List.mem_iff_getElem.1 hl
   have:=(h.ln (i:Int) (by omega) (by omega)).2.2
   rw[show gI p.2 (i:Int)=p.2[i] by simp[gI,hi]] at this
   exact this q hq
theorem sq{l:List Pt}(h:∀q∈l,ck q)(h0:0<l.length):∀k:Nat,k<=l.length->ck (lG l k)/\ck (m8 l k)
 |0,_=>⟨h _ (ba (by omega) (by omega)),h _ (ba (by omega) (by omega))⟩
 |k+1,hk=>by
   obtain⟨h1,h2⟩:=sq h h0 k (by omega)
   have h3:=h _ (ba (xs:=l) (i:=(k:Int)) (by omega) (by omega))
   unfold lG m8
   unfold ck at*
   simp only
   omega
theorem r4(h:¬dp g):ag g p=((0,0,0,false,false),1):=by unfold ag;rw[if_neg h]
theorem pL(h:dp g){F:List cr}(hF:F=c9 g p)(h1:0<(F.length:Int)):ag g p=((0,0,0,false,false),24):=by
 unfold ag
 rw[if_pos h,if_neg]
 intro e
 rw[hF,e] at h1
 simp at h1
theorem kz(h:dp g)(h1:c9 g p=[]):ag g p=(dL p,0):=by unfold ag;rw[if_pos h,if_pos h1]
theorem wi{n:Int}{a:Bool}{k q:Nat}{x1 x2 y1 y2:Int}(hn:n=gA p k)(ha:a=kZ p k)(hk:k=p.2.length)(h0:0<((bx p).length:Int))(hb:(x1=(lG (bx p) q).1/\x2=(lG (bx p) q).2)/\y1=(m8 (bx p) q).1/\y2=(m8 (bx p) q).2)(hq:q=(bx p).length):
   (n,y1-x1,y2-x2,decide (n=0),a)=dL p:=by
 obtain⟨⟨e1,e2⟩,e3,e4⟩:=hb
 subst hk hq
 unfold dL eT
 rw[if_pos h0,hn,ha,e1,e2,e3,e4]
theorem vC{n:Int}{a:Bool}{k:Nat}(hn:n=gA p k)(ha:a=kZ p k)(hk:k=p.2.length)(h0:¬0<((bx p).length:Int)):(n,0,0,decide (n=0),a)=dL p:=by
 subst hk
 unfold dL eT
 rw[if_neg h0,hn,ha]
end
def xi(p:cv)(l:List Int):List Pt:=l.map (xo p)
def vT(p:cv)(o:Pt)(l:List Int):Prop:=∃j:Nat,j<l.length/\0<j/\ru (cH (gI (xi p l) (gI (arL o (xi p l)) ((j:Int)-1))) o) (cH (gI (xi p l) (gI (arL o (xi p l)) (j:Int))) o)
noncomputable instance (p:cv) (o:Pt) (l:List Int):Decidable (vT p o l):=by unfold vT;infer_instance
def wH(g:cP)(p:cv):Prop:=∃v:Nat,v<g.1.toNat/\vT p (gI p.1 (v:Int)) (xE g (v:Int))
noncomputable instance (g:cP) (p:cv):Decidable (wH g p):=by unfold wH;infer_instance
end TL
/-
  TlGeomF: the document's way to tell how two segments meet: by the ends that both have.
  By an AI agent.
-/
set_option linter.all false
namespace TL
def dK(a b c d:Pt)(ends:List Pt):Nat->List Pt
 |0=>[]
 |k+1=>if cD a b c d (gI ends (k:Int))/\gI ends (k:Int)∉dK a b c d ends k then dK a b c d ends k++[gI ends (k:Int)] else dK a b c d ends k
def bU(a b c d:Pt):Int:=if eO a b c d then 1 else if(dK a b c d [a,b,c,d] 4).length=0 then 0 else if(dK a b c d [a,b,c,d] 4).length=1 then 2 else 3
section
variable{a b c d:Pt}{ends:List Pt}
theorem mY:∀k:Nat,(dK a b c d ends k).length<=k
 |0=>by simp[dK]
 |k+1=>by
   have:=mY k
   unfold dK
   split
   · simp;omega
   · omega
theorem ka:∀k:Nat,(dK a b c d ends k).Nodup
 |0=>by simp[dK]
 |k+1=>by
   have:=ka k
   unfold dK
   split
   · rename_i h
     rw[List.nodup_append]
     refine⟨this,by simp,λx hx y hy e=>?_⟩
     obtain rfl:=List.mem_singleton.1 hy
     rw[e] at hx;exact h.2 hx
   · exact this
theorem nb:∀{k:Nat} {e:Pt},e∈dK a b c d ends k↔(∃j:Nat,j<k/\gI ends (j:Int)=e)/\cD a b c d e
 |0,e=>by simp[dK]
 |k+1,e=>by
   have ih:=nb (k:=k) (e:=e)
   unfold dK
   constructor
   · intro h
     split at h
     · rename_i hc
       rcases List.mem_append.1 h with h|h
       · obtain⟨⟨j,hj,e1⟩,h2⟩:=ih.1 h
         exact⟨⟨j,by omega,e1⟩,h2⟩
       · obtain rfl:=List.mem_singleton.1 h
         exact⟨⟨k,by omega,rfl⟩,hc.1⟩
     · obtain⟨⟨j,hj,e1⟩,h2⟩:=ih.1 h
       exact⟨⟨j,by omega,e1⟩,h2⟩
   · rintro⟨⟨j,hj,e1⟩,h2⟩
     by_cases hk:j=k
     · subst hk
       by_cases hm:gI ends (j:Int)∈dK a b c d ends j
       · rw[if_neg (λh=>h.2 hm),<-e1];exact hm
       · rw[if_pos ⟨by rw[e1];exact h2,hm⟩,<-e1];simp
     · have:=ih.2 ⟨⟨j,by omega,e1⟩,h2⟩
       split
       · simp[this]
       · exact this
theorem uz{e:Pt}:(∃j:Nat,j<4/\gI [a,b,c,d] (j:Int)=e)↔e∈[a,b,c,d]:=by
 constructor
 · rintro⟨j,hj,rfl⟩
   exact ba (by omega) (by simp;omega)
 · intro h
   obtain⟨j,hj,rfl⟩:=List.mem_iff_getElem.1 h
   exact⟨j,by simpa using hj,by unfold gI;rw[Int.toNat_natCast,List.getD_eq_getElem?_getD,List.getElem?_eq_getElem hj];rfl⟩
theorem qI{k:Nat}{l:List Pt}(h:l=dK a b c d ends k)(h1:cD a b c d (gI ends (k:Int)))(h2:gI ends (k:Int)∉l):l++[gI ends (k:Int)]=dK a b c d ends (k+1):=by
 rw[dK,if_pos ⟨h1,by rw[<-h];exact h2⟩,h]
theorem mJ{k:Nat}{l:List Pt}(h:l=dK a b c d ends k)(h1:¬cD a b c d (gI ends (k:Int))):l=dK a b c d ends (k+1):=by
 rw[dK,if_neg (λh'=>h1 h'.1),h]
theorem rF{k:Nat}{l:List Pt}(h:l=dK a b c d ends k)(h2:gI ends (k:Int)∈l):l=dK a b c d ends (k+1):=by
 rw[dK,if_neg (λh'=>h'.2 (by rw[<-h];exact h2)),h]
theorem mG(ha:cV a)(hb:cV b)(hc:cV c)(hd:cV d):bU a b c d=bL a b c d:=by
  have hm:∀e,e∈dK a b c d [a,b,c,d] 4↔e∈[a,b,c,d]/\cD a b c d e:=λe=>by rw[nb,uz]
  have hn:=ka (a:=a) (b:=b) (c:=c) (d:=d) (ends:=[a,b,c,d]) 4
  generalize hL:dK a b c d [a,b,c,d] 4=L at hm hn
  unfold bU
  rw[hL]
  rcases jA ha hb hc hd with⟨h1,h2,h3⟩|⟨h1,h2⟩|⟨h1,h2,⟨e,he,hbe⟩,h4⟩|⟨h1,h2,e,he,e',he',hbb,hne⟩
  · have:L=[]:=List.eq_nil_iff_forall_not_mem.2 λe he=>h3 e ((hm e).1 he).1 ((hm e).1 he).2
    rw[if_neg h2,this,h1];rfl
  · rw[if_pos h2,h1]
  · have hL1:L.length=1:=by
      have p1:=List.length_pos_of_mem ((hm e).2 ⟨he,hbe⟩)
      match L,hm,hn,p1 with
      |[x],_,_,_=>rfl
      |x::y::l,hm,hn,_=>
        have mx:=(hm x).1 (by simp)
        have my:=(hm y).1 (by simp)
        have:=h4 x mx.1 y my.1 mx.2 my.2
        rw[this] at hn
        simp at hn
    rw[if_neg h2,hL1,h1];rfl
  · have hL2:2<=L.length:=by
      have m1:=(hm e).2 ⟨he,hbb.1⟩
      have m2:=(hm e').2 ⟨he',hbb.2⟩
      match L,m1,m2 with
      |[x],m1,m2=>
        have k1:=List.mem_singleton.1 m1
        have k2:=List.mem_singleton.1 m2
        exact absurd (k1.trans k2.symm) hne
      |x::y::l,_,_=>simp
    rw[if_neg h2,if_neg (by omega),if_neg (by omega),h1]
theorem oH(h1:bG a b c*bG a b d<0)(h2:bG c d a*bG c d b<0):1=bU a b c d:=by unfold bU;rw[if_pos ⟨h1,h2⟩]
theorem ta{l:List Pt}(h:l=dK a b c d [a,b,c,d] 4)(hc:¬eO a b c d):(l.length=0->0=bU a b c d)/\(l.length=1->2=bU a b c d)/\(l.length≠0->l.length≠1->3=bU a b c d):=by
 unfold bU
 rw[if_neg hc,<-h]
 refine⟨λh=>by rw[if_pos h],λh=>by rw[if_neg (by omega),if_pos h],λh1 h2=>by rw[if_neg h1,if_neg h2]⟩
end
end TL
namespace TL
def sI(l:List Pt)(e:Pt):Nat->Bool
  |0=>true
  |k+1=>sI l e k&& !decide (gI l (k:Int)=e)
theorem oU{l:List Pt}{e:Pt}:∀k:Nat,sI l e k=true↔∀j:Nat,j<k->gI l (j:Int)≠e
 |0=>by simp[sI]
 |k+1=>by
   unfold sI
   rw[Bool.and_eq_true,oU k]
   constructor
   · rintro⟨h1,h2⟩ j hj
     by_cases c:j=k
     · subst c;simpa using h2
     · exact h1 j (by omega)
   · intro h
     exact⟨λj hj=>h j (by omega),by simpa using h k (by omega)⟩
theorem v5{l:List Pt}{e:Pt}{k:Nat}(hk:¬(k:Int)<l.length)(hk2:k<=l.length):sI l e k=true↔e∉l:=by
 rw[oU]
 constructor
 · intro h hm
   obtain⟨j,hj,rfl⟩:=List.mem_iff_getElem.1 hm
   exact h j (by omega) (by simp[gI,hj])
 · intro h j hj e0
   exact h (by rw[<-e0];exact ba (by omega) (by omega))
section
variable{a b c d:Pt}
end
end TL
namespace TL
theorem qh{a b c d:Pt}(ha:cV a)(hb:cV b)(hc:cV c)(hd:cV d){i:Nat}(hi:(i:Int)<4):cV (gI [a,b,c,d] (i:Int)):=by
 have hm:gI [a,b,c,d] (i:Int)∈[a,b,c,d]:=ba (by omega) (by simp;omega)
 simp only[List.mem_cons,List.not_mem_nil,or_false] at hm
 rcases hm with hm|hm|hm|hm<;>rw[hm]<;>assumption
end TL
/-
  TlJudge3: a plot's rotation: the half-edges of each node, turned.
  By an AI agent.
-/
set_option linter.all false
namespace TL
theorem dx{α β:Type}[Inhabited α][Inhabited β]{f:α->β}{l:List α}{i:Int}(h0:0<=i)(h1:i<l.length):gI (l.map f) i=f (gI l i):=by
 have h:i.toNat<l.length:=by omega
 unfold gI
 rw[List.getD_eq_getElem?_getD,List.getD_eq_getElem?_getD,List.getElem?_map,List.getElem?_eq_getElem h];rfl
theorem vr{α:Type}[Inhabited α]{l:List α}{x:α}(h:x∈l):∃j:Nat,j<l.length/\gI l (j:Int)=x:=by
 obtain⟨j,hj,rfl⟩:=List.mem_iff_getElem.1 h
 exact⟨j,hj,by simp[gI,hj]⟩
section
variable{g:cP}{p:cv}
structure xW(g:cP)(p:cv):Prop where
  sh:kP g p
  pl:∀v w:Nat,v<w->w<p.1.length->gI p.1 (v:Int)≠gI p.1 (w:Int)
  en:∀e:Int,0<=e->e<p.2.length->li g p e
  si:∀e:Int,0<=e->e<p.2.length->fc (gI p.2 e)
  nd:∀e v:Nat,e<p.2.length->v<p.1.length->(v:Int)≠(gI g.2 (e:Int)).1->(v:Int)≠(gI g.2 (e:Int)).2->¬eV (gI p.2 (e:Int)) (gI p.1 (v:Int))
  ap:∀e f:Nat,e<f->f<p.2.length->jl (gI p.2 (e:Int)) (gI p.2 (f:Int)) (iE g p (e:Int) (f:Int))
theorem oF:du g p=[]↔xW g p:=by
 unfold du
 by_cases hs:c9 g p=[]
 · rw[if_pos hs]
   have hsh:=fQ.1 hs
   rw[List.append_eq_nil_iff,List.append_eq_nil_iff]
   constructor
   · rintro⟨⟨h1,h2⟩,h3⟩
     rw[if_pos h2,List.append_eq_nil_iff] at h3
     unfold ec at h2
     rw[List.append_eq_nil_iff,cE,cE] at h2
     refine⟨hsh,λv w hvw hw e=>?_,λe h0 h4=>?_,λe h0 h4=>?_,λe v he hv hn1 hn2 ho=>?_,λe f hef hf=>?_⟩
     · have k1:=cE.1 h1 v (by omega)
       have k2:=cE.1 k1 w hw
       exact gn.1 k2 ⟨hvw,e⟩
     · have k1:=h2.1 e.toNat (by omega)
       have k2:=gn.1 k1
       rw[Int.toNat_of_nonneg h0] at k2
       exact Classical.not_not.1 k2
     · have k1:=h2.2 e.toNat (by omega)
       have k2:=gn.1 k1
       rw[Int.toNat_of_nonneg h0] at k2
       exact Classical.not_not.1 k2
     · have k1:=cE.1 h3.1 e he
       have k2:=cE.1 k1 v hv
       exact gn.1 k2 ⟨⟨hn1,hn2⟩,ho⟩
     · have k1:=cE.1 h3.2 e (by omega)
       have k2:=cE.1 k1 f hf
       exact Classical.not_not.1 λc=>gn.1 k2 ⟨hef,c⟩
   · intro h
     have hL:ec g p=[]:=by
       unfold ec
       rw[List.append_eq_nil_iff]
       exact⟨ew λe he=>ei (Classical.not_not.2 (h.en _ (by omega) (by omega))),ew λe he=>ei (Classical.not_not.2 (h.si _ (by omega) (by omega)))⟩
     refine⟨⟨ew λv hv=>ew λw hw=>ei λc=>h.pl v w c.1 hw c.2,hL⟩,?_⟩
     rw[if_pos hL,List.append_eq_nil_iff]
     exact⟨ew λe he=>ew λv hv=>ei λc=>h.nd e v he hv c.1.1 c.1.2 c.2,ew λe he=>ew λf hf=>ei λc=>c.2 (h.ap e f c.1 hf)⟩
 · rw[if_neg hs]
   exact⟨λh=>absurd h hs,λh=>absurd (fQ.2 h.sh) hs⟩
end
end TL
/-
  TlJudge4: directions around a point; a plot turned by a quarter; the example's rotation.
  By an AI agent.
-/
set_option linter.all false
namespace TL
section
variable{u v w:Pt}
end
section
variable{p:cv}{o:Pt}{l:List Int}
end
section
variable{u v:Pt}{i k:Int}
def xc(u:Pt):Prop:=0<=u.1/\0<u.2
instance (u:Pt):Decidable (xc u):=by unfold xc;infer_instance
end
section
variable{o:Pt}{ps:List Pt}
end
end TL
/-
  TlJStr: straight lines between points: which two are told.
  By an AI agent.
-/
set_option linter.all false
namespace TL
def x7(g:cP)(i k:Int)(q:Int):Prop:=pI (gI g.2 i) q=(gI g.2 k).1\/pI (gI g.2 i) q=(gI g.2 k).2
instance (g:cP)(i k q:Int):Decidable (x7 g i k q):=by unfold x7;infer_instance
section
variable{g:cP}{p:cv}{i k c m:Int}{j:Nat}
theorem wK(hm:dp g)(h0:0<=i)(h1:i<g.2.length)(q:Int):0<=pI (gI g.2 i) q/\pI (gI g.2 i) q<g.1:=by
 obtain⟨⟨a,b⟩,c,d⟩:=jQ hm h0 h1
 unfold pI
 split
 · exact⟨a,b⟩
 · exact⟨c,d⟩
def xM(g:cP)(p:cv)(i k:Int):Prop:=∃x∈iE g p i k,cD (gI (gI p.2 i) 0) (gI (gI p.2 i) 1) (gI (gI p.2 k) 0) (gI (gI p.2 k) 1) x
instance (g:cP)(p:cv)(i k:Int):Decidable (xM g p i k):=by unfold xM;infer_instance
end
section
variable{g:cP}{at_:List Pt}{Ls:List (List Pt)}{e:Nat}
variable{i k:Int}
end
section
variable{t:Bool}{A S:Prop}[Decidable A][Decidable S]{m c:Int}
end
end TL
/-
  TlJAll: the document of layer 11 says what the judge says.
  By an AI agent.
-/
set_option linter.all false
namespace TL
section
variable{g:cP}{p:cv}{v w e f i k:Nat}{F G:List cr}
theorem xq{b:Bool}(h:¬b=true):(!b)=true:=by cases b<;>simp_all
theorem xw{b:Bool}(h:b=true):¬(!b)=true:=by cases b<;>simp_all
theorem tS(h:decide (ck (gI p.1 (v:Int)))=true):jD p v=[]:=ei (Classical.not_not.2 (of_decide_eq_true h))
theorem sK(h:¬decide (ck (gI p.1 (v:Int)))=true):jD p v=[(2,(v:Int),0)]:=fJ λc=>h (decide_eq_true c)
def ml(g:cP)(p:cv)(e f:Int)(i k:Nat):List Pt:=fl (pI (gI g.2 e) (i:Int)=pI (gI g.2 f) (k:Int)) (gI p.1 (pI (gI g.2 e) (i:Int)))
def io(g:cP)(p:cv)(e f:Int)(i:Nat):List Pt:=bI (ml g p e f i) 2
def dB(g:cP)(p:cv)(e f:Int):List Pt:=bI (io g p e f) 2
theorem nz{e f:Int}:(io g p e f i).length<=2:=cR λ_=>gm
theorem rA{e f:Int}:(dB g p e f).length<=4:=iJ (c:=2) λ_ _=>nz
theorem t4{e f:Int}{L:List Pt}(h:L=bI (io g p e f) i++bI (ml g p e f i) k)(hi:i<=2)(hk:k<=2):L.length<=6:=by
 have h1:=iJ (f:=io g p e f) (c:=2) (k:=i) λ_ _=>nz
 have h2:=cR (f:=ml g p e f i) (k:=k) λ_=>gm
 rw[h,List.length_append];omega
theorem re{e f:Int}{L:List Pt}(h:L=bI (io g p e f) i):L=bI (io g p e f) i++bI (ml g p e f i) 0:=by rw[h];simp[bI]
theorem tk{e f:Int}{L:List Pt}(h:L=bI (io g p e f) i++bI (ml g p e f i) k)(hk:k=2):L=bI (io g p e f) (i+1):=by subst hk;exact h
theorem tt{e f:Int}{L:List Pt}(h:L=bI (io g p e f) i)(hk:i=2):L=dB g p e f:=by subst hk;exact h
theorem kL{e f:Int}{x:Pt}:x∈dB g p e f↔x∈iE g p e f:=by
 rw[sD]
 unfold dB
 rw[iN]
 unfold io ml
 constructor
 · rintro⟨i,hi,hx⟩
   obtain⟨k,hk,hx⟩:=iN.1 hx
   obtain⟨h1,rfl⟩:=il.1 hx
   have a:i=0\/i=1:=by omega
   have b:k=0\/k=1:=by omega
   refine⟨_,?_,?_,rfl⟩
   · rcases a with rfl|rfl
     · exact .inl rfl
     · exact .inr rfl
   · rw[h1]
     rcases b with rfl|rfl
     · exact .inl rfl
     · exact .inr rfl
 · rintro⟨v,h1,h2,rfl⟩
   rcases h1 with rfl|rfl
   · refine⟨0,by omega,iN.2 ?_⟩
     rcases h2 with h2|h2
     · exact⟨0,by omega,il.2 ⟨h2,rfl⟩⟩
     · exact⟨1,by omega,il.2 ⟨h2,rfl⟩⟩
   · refine⟨1,by omega,iN.2 ?_⟩
     rcases h2 with h2|h2
     · exact⟨0,by omega,il.2 ⟨h2,rfl⟩⟩
     · exact⟨1,by omega,il.2 ⟨h2,rfl⟩⟩
theorem i6{e f:Int}(hm:dp g)(hs:kP g p)(h0:0<=e)(h1:e<g.2.length):∀x∈dB g p e f,ck x:=λx hx=>x0 hm hs h0 h1 x (kL.1 hx)
theorem pu{B C:List Pt}(hB:∀x,x∈B↔x∈C){s t:Sg}(ha:cV s.1)(hb:cV s.2)(hc:cV t.1)(hd:cV t.2):kj B s t↔¬di s t C:=by
 have hX:(∃x∈B,cD s.1 s.2 t.1 t.2 x)↔∃x∈C,cD s.1 s.2 t.1 t.2 x:=⟨λ⟨x,h1,h2⟩=>⟨x,(hB x).1 h1,h2⟩,λ⟨x,h1,h2⟩=>⟨x,(hB x).2 h1,h2⟩⟩
 unfold kj di
 rw[hX]
 rcases jA ha hb hc hd with⟨h1,_⟩|⟨h1,_⟩|⟨h1,_,⟨e,he,hbe⟩,_⟩|⟨h1,_⟩
 · rw[h1];simp
 · rw[h1];simp
 · rw[h1]
   constructor
   · rintro(h|h|⟨_,q,hq,hbq,hqn⟩)
     · exact absurd h (by decide)
     · exact absurd h.1 (by decide)
     · rintro(h|⟨_,x,hx,hbx⟩)
       · exact absurd h (by decide)
       · have h5:=qG ha hb hc hd h1 hq hbq hbx
         rw[h5] at hx
         exact hqn ((hB _).2 hx)
   · intro h
     refine .inr (.inr ⟨⟨by decide,by decide⟩,e,he,hbe,λhc=>h (.inr ⟨.inr rfl,e,(hB _).1 hc,hbe⟩)⟩)
 · rw[h1];simp
theorem q3{a b B C:List Pt}(ha:2<=(a.length:Int))(hb:2<=(b.length:Int))(hoa:dy a)(hob:dy b)(hB:∀x,x∈B↔x∈C):dH a b B↔¬jl a b C:=by
 have hbd:∀{a:List Pt},dy a->∀s∈jh a (a.length-1),cV s.1/\cV s.2:=λ {a} h s hs=>by
   obtain⟨i,hi,rfl⟩:=e7.1 hs
   exact⟨(h.2 _ (ba (by omega) (by omega))).bd,(h.2 _ (ba (by omega) (by omega))).bd⟩
 unfold dH aA
 rw[if_neg (by omega),if_neg (by omega)]
 constructor
 · rintro⟨s,hs,t,ht,h⟩ hA
   obtain⟨h1,h2⟩:=hbd hoa s hs
   obtain⟨h3,h4⟩:=hbd hob t ht
   exact(pu hB h1 h2 h3 h4).1 h (hA s hs t ht)
 · intro h
   refine Classical.byContradiction λhn=>h λs hs t ht=>?_
   obtain⟨h1,h2⟩:=hbd hoa s hs
   obtain⟨h3,h4⟩:=hbd hob t ht
   exact Classical.not_not.1 λc=>hn ⟨s,hs,t,ht,(pu hB h1 h2 h3 h4).2 c⟩
theorem mR{b:Bool}(hm:dp g)(hs:kP g p)(he:(e:Int)<p.2.length)(hf:(f:Int)<p.2.length)(hef:e<f)(hb:b=decide (dH (gI p.2 (e:Int)) (gI p.2 (f:Int)) (dB g p (e:Int) (f:Int))))(h:b=true):ej g p e f=[(8,(e:Int),(f:Int))]:=by
 obtain⟨a1,a2,a3⟩:=hs.ln (e:Int) (by omega) he
 obtain⟨b1,b2,b3⟩:=hs.ln (f:Int) (by omega) hf
 exact fJ ⟨hef,(q3 a1 b1 ⟨a2,a3⟩ ⟨b2,b3⟩ λx=>kL).1 (of_decide_eq_true (hb▸h))⟩
theorem nS{b:Bool}(hm:dp g)(hs:kP g p)(he:(e:Int)<p.2.length)(hf:(f:Int)<p.2.length)(hb:b=decide (dH (gI p.2 (e:Int)) (gI p.2 (f:Int)) (dB g p (e:Int) (f:Int))))(h:¬b=true):ej g p e f=[]:=by
 obtain⟨a1,a2,a3⟩:=hs.ln (e:Int) (by omega) he
 obtain⟨b1,b2,b3⟩:=hs.ln (f:Int) (by omega) hf
 exact ei λc=>h (hb.trans (decide_eq_true ((q3 a1 b1 ⟨a2,a3⟩ ⟨b2,b3⟩ λx=>kL).2 c.2)))
theorem sM{l:List Pt}{q:Pt}(hi:(i:Int)+1<l.length)(h:decide (cA (gI l (i:Int)) (gI l ((i:Int)+1)) q)=true):true=decide (eV l q):=(decide_eq_true (nk.2 ⟨i,by omega,of_decide_eq_true h⟩)).symm
theorem wv{l:List Pt}{q:Pt}(h:∀j:Nat,j<i->¬cA (gI l (j:Int)) (gI l ((j:Int)+1)) q)(hi:¬(i:Int)+1<l.length):false=decide (eV l q):=
 (decide_eq_false λc=>by
   obtain⟨j,hj,hq⟩:=nk.1 c
   exact h j (by omega) hq).symm
theorem t7(hF:F=bI (fO p) v):F=bI (fO p) v++bI (iA p v) (v+1)/\v<v+1:=by
 refine⟨?_,by omega⟩
 rw[ew (f:=iA p v) (k:=v+1) λj hj=>ei λh=>by omega,List.append_nil];exact hF
theorem vD(hG:G=bI (fO p) v++bI (iA p v) w)(hw:w=p.1.length):G=bI (fO p) (v+1):=by subst hw;exact hG
theorem wh(hn:p.1.length<=1024)(hv:v<=1024)(hw:w<=1024)(hG:G=bI (fO p) v++bI (iA p v) w):G.length<=9450000:=by
 have h1:=sk hn hv (G:=bI (fO p) v) rfl
 have h2:=cR (f:=iA p v) (k:=w) (mM v)
 rw[hG,List.length_append];omega
theorem wx(hG:G=bI (fO p) v++bI (iA p v) w)(hvw:v<w)(h:gI p.1 (v:Int)=gI p.1 (w:Int)):G++[(4,(v:Int),(w:Int))]=bI (fO p) v++bI (iA p v) (w+1):=eZ hG (fJ ⟨hvw,h⟩)
theorem x8(hG:G=bI (fO p) v++bI (iA p v) w)(h:¬gI p.1 (v:Int)=gI p.1 (w:Int)):G=bI (fO p) v++bI (iA p v) (w+1):=gh hG (ei λc=>h c.2)
section
variable{a:Bool}{l:List Pt}
end
end
end TL
namespace TL
section
variable{g:cP}{p:cv}{r:tN}
end
end TL
namespace TL
end TL
/-
  TlFloat: floating numbers that are no NaN and have no sign: their bits, as a natural number, stand as they do; sums, roots and quotients of such.
  By an AI agent.
-/
set_option linter.all false
namespace TL
open Ieee
abbrev br:Nat:=9218868437227405312
abbrev ke:Nat:=9221120237041090561
def mg(x:Nat):Nat:=if x<4503599627370496 then x else 4503599627370496+x%4503599627370496
def pl(x:Nat):Nat:=x/4503599627370496-1
def vl(x:Nat):Nat:=mg x*2^pl x
theorem pQ:double.binade=4503599627370496:=by decide
theorem lp:double.infRung=br:=by decide
theorem th:double.signWeight=9223372036854775808:=by decide
theorem tu:double.leastPlace= -1074:=by decide
theorem cw{x:Nat}(h:x<br):double.read x= .number false (mg x) (-1074+(pl x:Nat)):=by
 unfold Format.read
 simp only[pQ,lp,th,tu]
 have hh:x<9218868437227405312:=h
 have h1:x/9223372036854775808=0:=Nat.div_eq_of_lt (by omega)
 have h2:x%9223372036854775808=x:=Nat.mod_eq_of_lt (by omega)
 rw[h1,h2]
 by_cases hx:x<4503599627370496
 · rw[if_pos hx]
   have:pl x=0:=by unfold pl;omega
   simp[mg,hx,this]
 · rw[if_neg hx,if_pos h]
   simp[mg,hx,pl]
theorem jb:double.read br= .infinity false:=by decide
theorem fB{x:Nat}(h:x<=br):(∃m i,double.read x= .number false m i)\/double.read x= .infinity false:=by
 rcases Nat.lt_or_ge x br with c|c
 · exact .inl ⟨_,_,cw c⟩
 · rw[show x=br by omega];exact .inr jb
theorem fA{x:Nat}:mg x=0↔x=0:=by unfold mg;split<;>omega
theorem ki(x:Nat):mg x<9007199254740992:=by unfold mg;split<;>omega
theorem pN{x y:Nat}(h:x<=y):pl x<=pl y:=by unfold pl;omega
theorem pO{x y:Nat}(h:x<y):vl x<vl y:=by
 unfold vl
 by_cases e:pl x=pl y
 · rw[e]
   refine Nat.mul_lt_mul_of_pos_right ?_ (Nat.two_pow_pos _)
   unfold mg;unfold pl at e
   split<;>split<;>omega
 · have hp:=pN (Nat.le_of_lt h)
   obtain⟨d,hd⟩:∃d,pl y=pl x+1+d:=⟨pl y-pl x-1,by omega⟩
   have hy:4503599627370496<=mg y:=by
     unfold pl at e hd;unfold mg;split<;>omega
   rw[hd,Nat.pow_add,Nat.pow_succ]
   have hx:=ki x
   have h1:0<2^pl x:=Nat.two_pow_pos _
   have h2:1<=2^d:=Nat.two_pow_pos _
   calc mg x*2^pl x<9007199254740992*2^pl x:=Nat.mul_lt_mul_of_pos_right hx h1
     _=4503599627370496*(2^pl x*2*1):=by omega
     _<=mg y*(2^pl x*2*2^d):=Nat.mul_le_mul hy (Nat.mul_le_mul_left _ h2)
theorem uV{x y:Nat}(h:x<=y):vl x<=vl y:=by
 rcases Nat.lt_or_ge x y with c|c
 · exact Nat.le_of_lt (pO c)
 · rw[show x=y by omega];exact Nat.le_refl _
theorem eN(m k:Nat):m <<< k=m*2^k:=Nat.shiftLeft_eq m k
theorem pV(a b:Nat):min (-1074+(a:Int)) (-1074+(b:Int))= -1074+((min a b:Nat):Int):=by omega
theorem ve(a b:Nat):(-1074+(a:Int)-(-1074+((min a b:Nat):Int))).toNat=a-min a b:=by omega
theorem sw(a b:Nat):(-1074+(b:Int)-(-1074+((min a b:Nat):Int))).toNat=b-min a b:=by omega
theorem hZ{a b:Nat}(h:b<=a):2^(a-b)*2^b=2^a:=by rw[<-Nat.pow_add];congr 1;omega
theorem tj(a b:Nat):compare (a:Int) (b:Int)=compare a b:=by
 rcases Nat.lt_trichotomy a b with h|h|h
 · simp[compare,compareOfLessAndEq,h]
 · subst h;simp[compare,compareOfLessAndEq]
 · have h1:¬a<b:=by omega
   have h2:¬a=b:=by omega
   have h3:¬(a:Int)<b:=by omega
   have h4:¬(a:Int)=b:=by omega
   simp[compare,compareOfLessAndEq,h1,h2,h3,h4]
theorem ip{a b:Nat}(h:a<b):compare a b= .lt:=by simp[compare,compareOfLessAndEq,h]
theorem ir{a b:Nat}(h:b<a):compare a b= .gt:=by simp[compare,compareOfLessAndEq,Nat.not_lt.2 (Nat.le_of_lt h),Nat.ne_of_gt h]
theorem gV(a:Nat):compare a a= .eq:=by simp[compare,compareOfLessAndEq]
theorem gP{x y:Nat}(hx:x<=br)(hy:y<=br):double.order x y=some (compare x y):=by
  unfold Format.order
  rcases Nat.lt_or_ge x br with cx|cx<;>rcases Nat.lt_or_ge y br with cy|cy
  · rw[cw cx,cw cy]
    simp only[Datum.order,signed,pV,ve,sw,tj,eN,Bool.false_eq_true,if_false]
    have k1:=hZ (a:=pl x) (b:=min (pl x) (pl y)) (by omega)
    have k2:=hZ (a:=pl y) (b:=min (pl x) (pl y)) (by omega)
    have h0:0<2^min (pl x) (pl y):=Nat.two_pow_pos _
    have e1:vl x=mg x*2^(pl x-min (pl x) (pl y))*2^min (pl x) (pl y):=by rw[Nat.mul_assoc,k1];rfl
    have e2:vl y=mg y*2^(pl y-min (pl x) (pl y))*2^min (pl x) (pl y):=by rw[Nat.mul_assoc,k2];rfl
    rcases Nat.lt_trichotomy x y with c|c|c
    · rw[ip c];congr 1;refine ip ?_
      have:=pO c;rw[e1,e2] at this;exact Nat.lt_of_mul_lt_mul_right this
    · subst c;rw[gV,gV]
    · rw[ir c];congr 1;refine ir ?_
      have:=pO c;rw[e1,e2] at this;exact Nat.lt_of_mul_lt_mul_right this
  · rw[cw cx,show y=br by omega,jb];simp[Datum.order,ip cx]
  · rw[cw cy,show x=br by omega,jb];simp[Datum.order,ir cy]
  · rw[show x=br by omega,show y=br by omega,jb];simp[Datum.order,gV]
theorem eW(m:Nat)(p:Int):double.nearest false m p<=br:=by
 unfold Format.nearest
 dsimp only
 split
 · simp[Format.word]
 · simp only[Format.word,Bool.false_eq_true,if_false]
   exact Nat.le_trans (Nat.min_le_right _ _) (Nat.le_of_eq lp)
theorem em:double.write (.infinity false)=br:=by decide
theorem l9(s:Bool){r:Nat}(h:r<=br):∀q t,double.read (double.word s r)≠ .nan q t:=by
 intro q t
 unfold Format.read
 simp only[pQ,lp,th,tu]
 have h2:double.word s r%9223372036854775808=r:=by
   have h':r<=9218868437227405312:=h
   unfold Format.word;rw[th];split<;>omega
 rw[h2]
 have h':r<=9218868437227405312:=h
 split
 · simp
 · split
   · simp
   · rename_i c;have c':¬r<9218868437227405312:=c
     rw[if_pos (show r=br by show r=9218868437227405312;omega)];simp
theorem qX(s:Bool)(m:Nat)(p:Int):∃r,r<=br/\double.nearest s m p=double.word s r:=by
 unfold Format.nearest
 dsimp only
 split
 · exact⟨0,by omega,rfl⟩
 · exact⟨_,Nat.le_trans (Nat.min_le_right _ _) (Nat.le_of_eq lp),rfl⟩
def dS(x y:Nat):Nat:=(double.add x y).getD ke
def dN(x y:Nat):Nat:=(double.sub x y).getD ke
def dv(x y:Nat):Nat:=(double.mul x y).getD ke
def bb(x y:Nat):Nat:=(double.div x y).getD ke
def aJ(x:Nat):Nat:=(double.sqrt x).getD ke
theorem qF{o:Option Nat}{d:Nat}(h:o.isSome=true):o=some (o.getD d):=by cases o<;>simp_all
theorem gC{x y:Nat}(hx:x<=br)(hy:y<=br):double.add x y=some (dS x y)/\dS x y<=br:=by
 have:∃z,double.add x y=some z/\z<=br:=by
   unfold Format.add
   rcases fB hx with⟨m,i,e⟩|e<;>rcases fB hy with⟨n,j,e'⟩|e'<;>rw[e,e']
   · refine⟨_,rfl,?_⟩
     have k:(if signed false m (i-min i j).toNat+signed false n (j-min i j).toNat=0 then false&&false else decide (signed false m (i-min i j).toNat+signed false n (j-min i j).toNat<0))=false:=by
       simp only[signed,Bool.false_eq_true,if_false]
       split
       · rfl
       · exact decide_eq_false (Int.not_lt.2 (Int.add_nonneg (Int.natCast_nonneg _) (Int.natCast_nonneg _)))
     simp only[k]
     exact eW _ _
   · exact⟨_,rfl,Nat.le_of_eq em⟩
   · exact⟨_,rfl,Nat.le_of_eq em⟩
   · exact⟨_,rfl,Nat.le_of_eq em⟩
 obtain⟨z,h1,h2⟩:=this
 unfold dS;rw[h1];exact⟨rfl,h2⟩
theorem rn{x y:Nat}(hx:x<br)(hy:y<=br):double.sub x y=some (dN x y):=by
 refine qF ?_
 unfold Format.sub
 rw[cw hx]
 rcases fB hy with⟨n,j,e⟩|e<;>rw[e]<;>rfl
def jG(x:Nat):Prop:=∀q t,double.read x≠ .nan q t
theorem hP{d:Datum}(h:∀q t,d≠ .nan q t):jG (double.write d):=by
 cases d with
 |nan q t=>exact absurd rfl (h q t)
 |infinity s=>exact l9 s (r:=br) (Nat.le_refl _)
 |number s m i=>
   obtain⟨r,hr,e⟩:=qX s m i
   show jG (double.nearest s m i)
   rw[e];exact l9 s hr
theorem uG{x y:Nat}(hx:x<br)(hy:y<=br):jG (dN x y):=by
 have h:=rn hx hy
 unfold Format.sub at h
 rw[cw hx] at h
 rcases fB hy with⟨n,j,e⟩|e<;>rw[e] at h
 · rw[<-Option.some.inj h];exact hP (λq t=>by simp)
 · rw[<-Option.some.inj h];exact hP (λq t=>by simp)
theorem vj{x:Nat}(h:jG x):double.mul x x=some (dv x x)/\dv x x<=br:=by
 have:∃z,double.mul x x=some z/\z<=br:=by
   unfold Format.mul
   cases e:double.read x with
   |nan q t=>exact absurd e (h q t)
   |infinity s=>exact⟨_,rfl,by cases s<;>decide⟩
   |number s m i=>
     refine⟨_,rfl,?_⟩
     simp only[Datum.product,Bool.xor_self]
     exact eW _ _
 obtain⟨z,h1,h2⟩:=this
 unfold dv;rw[h1];exact⟨rfl,h2⟩
theorem rl{x y:Nat}(hx:x<br)(hy:y<br):double.mul x y=some (dv x y)/\dv x y<=br:=by
 have:∃z,double.mul x y=some z/\z<=br:=by
   unfold Format.mul
   rw[cw hx,cw hy]
   exact⟨_,rfl,eW _ _⟩
 obtain⟨z,h1,h2⟩:=this
 unfold dv;rw[h1];exact⟨rfl,h2⟩
theorem mh{x y:Nat}(hx:x<=br)(hy:y<br)(h:¬y=0):double.div x y=some (bb x y)/\bb x y<=br:=by
 have:∃z,double.div x y=some z/\z<=br:=by
   unfold Format.div
   rw[cw hy]
   have h0:¬mg y=0:=λe=>h (fA.1 e)
   rcases fB hx with⟨m,i,e⟩|e<;>rw[e]
   · simp only[Datum.quotient,if_neg h0,Option.map_some]
     exact⟨_,rfl,eW _ _⟩
   · exact⟨_,rfl,Nat.le_of_eq em⟩
 obtain⟨z,h1,h2⟩:=this
 unfold bb;rw[h1];exact⟨rfl,h2⟩
theorem iQ{x:Nat}(hx:x<=br):double.sqrt x=some (aJ x)/\aJ x<=br:=by
 have:∃z,double.sqrt x=some z/\z<=br:=by
   unfold Format.sqrt
   rcases fB hx with⟨m,i,e⟩|e<;>rw[e]
   · simp only[Datum.root]
     split
     · exact⟨_,rfl,eW _ _⟩
     · exact⟨_,rfl,eW _ _⟩
   · exact⟨_,rfl,Nat.le_of_eq em⟩
 obtain⟨z,h1,h2⟩:=this
 unfold aJ;rw[h1];exact⟨rfl,h2⟩
end TL
/-
  TlFloat2: how far a rounded number lies from what is rounded; sums and roots that are finite; sums with nought.
  By an AI agent.
-/
set_option linter.all false
namespace TL
open Ieee
def iU(n d:Nat):Nat:=n/2^d+(if 2^d<2*(n%2^d)\/2^d=2*(n%2^d)/\n/2^d%2=1 then 1 else 0)
theorem vx(s:Bool)(n d:Nat):Toward.even.cut s n d=iU n d:=by
 unfold Toward.cut iU
 simp only[eN,Nat.one_mul]
 have hb:∀g:Nat,(n/g+(decide (g<2*(n%g))||g==2*(n%g)&&n/g%2==1).toNat)=n/g+(if g<2*(n%g)\/g=2*(n%g)/\n/g%2=1 then 1 else 0):=by
   intro g
   congr 1
   by_cases c:g<2*(n%g)\/g=2*(n%g)/\n/g%2=1
   · rw[if_pos c]
     have:(decide (g<2*(n%g))||g==2*(n%g)&&n/g%2==1)=true:=by simpa using c
     rw[this];rfl
   · rw[if_neg c]
     have:(decide (g<2*(n%g))||g==2*(n%g)&&n/g%2==1)=false:=by
       rw[<-Bool.not_eq_true];simpa using c
     rw[this];rfl
 rw[hb]
 rcases(Nat.lt_or_ge (n.log2+2) d).symm with c|c
 · rw[Nat.min_eq_left c]
 · rw[Nat.min_eq_right (Nat.le_of_lt c)]
   have h1:n<2^(n.log2+1):=Nat.lt_log2_self
   have h2:2^(n.log2+2)=2*2^(n.log2+1):=by rw[Nat.pow_succ];omega
   have h3:2^(n.log2+2)<=2^d:=Nat.pow_le_pow_right (by omega) (by omega)
   rw[Nat.div_eq_of_lt (show n<2^(n.log2+2) by omega),Nat.mod_eq_of_lt (show n<2^(n.log2+2) by omega),Nat.div_eq_of_lt (show n<2^d by omega),Nat.mod_eq_of_lt (show n<2^d by omega)]
   rw[if_neg (by omega),if_neg (by omega)]
theorem kx(n d k:Nat):iU (n*2^k) (d+k)=iU n d:=by
 unfold iU
 have h0:0<2^k:=Nat.two_pow_pos _
 rw[Nat.pow_add,Nat.mul_div_mul_right _ _ h0,Nat.mul_mod_mul_right]
 have e:2*(n%2^d*2^k)=2*(n%2^d)*2^k:=by rw[Nat.mul_assoc]
 rw[e]
 congr 1
 have a1:2^d*2^k<2*(n%2^d)*2^k↔2^d<2*(n%2^d):=⟨λh=>Nat.lt_of_mul_lt_mul_right h,λh=>Nat.mul_lt_mul_of_pos_right h h0⟩
 have a2:2^d*2^k=2*(n%2^d)*2^k↔2^d=2*(n%2^d):=⟨λh=>Nat.eq_of_mul_eq_mul_right h0 h,λh=>congrArg (· *2^k) h⟩
 simp only[a1,a2]
theorem lb(n:Nat):iU n 0=n:=by unfold iU;simp[Nat.mod_one]
def rd(T:Nat):Nat:=if T=0 then 0 else min ((T.log2-52)*4503599627370496+iU T (T.log2-52)) br
theorem ij{m:Nat}(h:m≠0)(k:Nat):(m*2^k).log2=m.log2+k:=by
 have h0:0<2^k:=Nat.two_pow_pos _
 have hp:m*2^k≠0:=by
   intro e;rcases Nat.mul_eq_zero.1 e with c|c<;>omega
 refine(Nat.log2_eq_iff hp).2 ⟨?_,?_⟩
 · rw[Nat.pow_add];exact Nat.mul_le_mul_right _ (Nat.log2_self_le h)
 · rw[Nat.add_right_comm,Nat.pow_add];exact Nat.mul_lt_mul_of_pos_right Nat.lt_log2_self h0
theorem hU(m i:Nat):double.nearest false m (-1074+(i:Int))=rd (m*2^i):=by
 unfold Format.nearest rd
 by_cases h:m=0
 · subst h;simp[Format.word]
 have h0:0<2^i:=Nat.two_pow_pos _
 have hp:m*2^i≠0:=by
   intro e;rcases Nat.mul_eq_zero.1 e with c|c<;>omega
 rw[if_neg h,if_neg hp]
 simp only[pQ,tu,Format.word,Bool.false_eq_true,if_false,vx,ij h,show double.fractionBits=52 from rfl]
 have hI:double.infRung=br:=lp
 rw[hI]
 have e1:(max (-1074+(i:Int)+(m.log2:Int)-((52:Nat):Int)) (-1074)-(-1074)).toNat=m.log2+i-52:=by omega
 rw[e1]
 congr 2
 rw[eN]
 rcases(Nat.lt_or_ge (m.log2+i-52) i).symm with c|c
 · have e2:((-1074+(i:Int))-max (-1074+(i:Int)+(m.log2:Int)-((52:Nat):Int)) (-1074)).toNat=0:=by omega
   have e3:(max (-1074+(i:Int)+(m.log2:Int)-((52:Nat):Int)) (-1074)-(-1074+(i:Int))).toNat=m.log2+i-52-i:=by omega
   rw[e2,e3,Nat.pow_zero,Nat.mul_one]
   conv=>rhs;rw[show m.log2+i-52=(m.log2+i-52-i)+i by omega]
   rw[kx]
 · have e2:((-1074+(i:Int))-max (-1074+(i:Int)+(m.log2:Int)-((52:Nat):Int)) (-1074)).toNat=i-(m.log2+i-52):=by omega
   have e3:(max (-1074+(i:Int)+(m.log2:Int)-((52:Nat):Int)) (-1074)-(-1074+(i:Int))).toNat=0:=by omega
   rw[e2,e3,lb]
   generalize hE:m.log2+i-52=E at c ⊢
   have dV:=kx (m*2^(i-E)) 0 E
   rw[Nat.zero_add,lb,Nat.mul_assoc,<-Nat.pow_add,Nat.sub_add_cancel (Nat.le_of_lt c)] at dV
   exact dV.symm
theorem lK{T:Nat}(h:T≠0):rd T≠0:=by
 unfold rd;rw[if_neg h]
 have h1:1<=T/2^(T.log2-52):=by
   refine(Nat.le_div_iff_mul_le (Nat.two_pow_pos _)).2 ?_
   rw[Nat.one_mul]
   exact Nat.le_trans (Nat.pow_le_pow_right (by omega) (by omega)) (Nat.log2_self_le h)
 have h2:1<=iU T (T.log2-52):=Nat.le_trans h1 (Nat.le_add_right _ _)
 have hI:br=9218868437227405312:=rfl
 have h3:1<=(T.log2-52)*4503599627370496+iU T (T.log2-52):=by omega
 rw[Nat.min_def];split<;>omega
theorem qk{T k:Nat}(h:T<2^(k+1))(hk:52<=k):rd T<=(k-50)*4503599627370496:=by
  unfold rd
  by_cases h0:T=0
  · rw[if_pos h0];exact Nat.zero_le _
  rw[if_neg h0]
  refine Nat.le_trans (Nat.min_le_left _ _) ?_
  have hl:T.log2<=k:=by have:=(Nat.log2_lt h0).2 h;omega
  have h1:T/2^(T.log2-52)<9007199254740992:=by
    refine(Nat.div_lt_iff_lt_mul (Nat.two_pow_pos _)).2 ?_
    refine Nat.lt_of_lt_of_le (Nat.lt_log2_self (n:=T)) ?_
    rw[show(9007199254740992:Nat)=2^53 by decide,<-Nat.pow_add]
    exact Nat.pow_le_pow_right (by omega) (by omega)
  have h2:iU T (T.log2-52)<=9007199254740992:=by
    unfold iU;split<;>omega
  omega
theorem vh{x e:Nat}(h:x<=e*4503599627370496)(he:1<=e):vl x<=2^(51+e):=by
 have h1:vl (e*4503599627370496)=2^(51+e):=by
   unfold vl mg pl
   rw[if_neg (by omega),Nat.mul_mod_left,Nat.mul_div_cancel _ (by omega),Nat.add_zero,show(4503599627370496:Nat)=2^52 by decide,<-Nat.pow_add]
   congr 1;omega
 rw[<-h1];exact uV h
theorem sB{x y:Nat}(hx:x<br)(hy:y<br):dS x y=rd (vl x+vl y):=by
 unfold dS Format.add
 rw[cw hx,cw hy]
 simp only[Datum.sum,signed,pV,ve,sw,eN,Bool.false_eq_true,if_false,Option.map_some,Option.getD_some]
 have k1:=hZ (a:=pl x) (b:=min (pl x) (pl y)) (by omega)
 have k2:=hZ (a:=pl y) (b:=min (pl x) (pl y)) (by omega)
 have k:(if((mg x*2^(pl x-min (pl x) (pl y)):Nat):Int)+((mg y*2^(pl y-min (pl x) (pl y)):Nat):Int)=0 then false&&false else decide (((mg x*2^(pl x-min (pl x) (pl y)):Nat):Int)+((mg y*2^(pl y-min (pl x) (pl y)):Nat):Int)<0))=false:=by
   split
   · rfl
   · exact decide_eq_false (Int.not_lt.2 (Int.add_nonneg (Int.natCast_nonneg _) (Int.natCast_nonneg _)))
 rw[k]
 show double.nearest false _ _=_
 rw[hU]
 congr 1
 rw[<-Int.natCast_add,Int.natAbs_natCast,Nat.add_mul,Nat.mul_assoc,k1,Nat.mul_assoc,k2]
 rfl
theorem td:vl 0=0:=rfl
theorem uB{x y:Nat}(hx:x<br)(hy:y<br)(h:x≠0):dS x y≠0:=by
 rw[sB hx hy]
 refine lK ?_
 have:0<vl x:=by have:=pO (show 0<x by omega);rw[td] at this;exact this
 omega
theorem wc{x y e:Nat}(hx:x<=e*4503599627370496)(hy:y<=e*4503599627370496)(he:1<=e)(h2:e<2047):dS x y<=(e+2)*4503599627370496:=by
  have hI:br=9218868437227405312:=rfl
  rw[sB (by omega) (by omega)]
  have h1:=vh hx he
  have h2:=vh hy he
  have h3:2^(52+e)=2*2^(51+e):=by rw[show 52+e=51+e+1 by omega,Nat.pow_succ];omega
  have h4:2^(52+e+1)=2*2^(52+e):=by rw[Nat.pow_succ];omega
  have h5:0<2^(51+e):=Nat.two_pow_pos _
  have:=qk (T:=vl x+vl y) (k:=52+e) (by omega) (by omega)
  rw[show 52+e-50=e+2 by omega] at this
  exact this
theorem gx(n:Nat):∀t r:Nat,Datum.rootFrom n t r<r+2^t
 |0,r=>by simp[Datum.rootFrom]
 |t+1,r=>by
   unfold Datum.rootFrom
   simp only[eN,Nat.one_mul]
   have h0:0<2^t:=Nat.two_pow_pos _
   split
   · have:=gx n t (r+2^t);rw[Nat.pow_succ];omega
   · have:=gx n t r;rw[Nat.pow_succ];omega
theorem ul{x e:Nat}(hx:x<=e*4503599627370496)(he:1<=e)(h2:e<2047):aJ x<=(520+e/2)*4503599627370496/\(x≠0->aJ x≠0):=by
  have hI:br=9218868437227405312:=rfl
  unfold aJ Format.sqrt
  rw[cw (by omega)]
  simp only[Datum.root]
  by_cases h0:mg x=0
  · have hx0:=fA.1 h0
    subst hx0
    simp only[if_pos h0,Option.map_some,Option.getD_some]
    refine⟨?_,λh=>absurd rfl h⟩
    have:double.write (.number false (mg 0) (-1074+(pl 0:Nat)))=0:=by decide
    rw[this];exact Nat.zero_le _
  simp only[if_neg h0,Option.map_some,Option.getD_some,Bool.false_eq_true,if_false,show double.fractionBits+2=54 from rfl]
  generalize hm1:2*54-(mg x).log2=m1
  generalize hm2:m1+((-1074+(pl x:Int)-(m1:Int))%2).toNat=m2
  generalize hn:mg x <<< m2=n
  generalize hw:Datum.rootFrom n (n.log2/2+1) 0=q
  have hl:(mg x).log2<=52:=by have:=(Nat.log2_lt h0 (k:=53)).2 (ki x);omega
  have hp:pl x<=e-1:=by unfold pl;omega
  have hnl:n.log2=(mg x).log2+m2:=by rw[<-hn,eN,ij h0]
  have hnb:n.log2<=109:=by omega
  have hq:=gx n (n.log2/2+1) 0
  rw[hw] at hq
  have hq2:2^(n.log2/2+1)<=2^55:=Nat.pow_le_pow_right (by omega) (by omega)
  have hb:(q*q !=n).toNat<=1:=by cases(q*q !=n)<;>simp
  have hj:∃j:Nat,(-1074+(pl x:Int)-(m2:Int))/2-1= -1074+(j:Int)/\j<=508+e/2:=by
    refine⟨((-1074+(pl x:Int)-(m2:Int))/2-1+1074).toNat,?_,?_⟩<;>omega
  obtain⟨j,hj1,hj2⟩:=hj
  show double.nearest false _ _<=_/\(x≠0->double.nearest false _ _≠0)
  rw[hj1,hU]
  refine⟨?_,λhx0=>lK ?_⟩
  · have hT:(2*q+(q*q !=n).toNat)*2^j<2^(569+e/2+1):=by
      have a1:2*q+(q*q !=n).toNat<2^57:=by
        have:(2:Nat)^57=4*2^55:=by decide
        omega
      calc(2*q+(q*q !=n).toNat)*2^j<2^57*2^j:=Nat.mul_lt_mul_of_pos_right a1 (Nat.two_pow_pos _)
        _=2^(57+j):=(Nat.pow_add _ _ _).symm
        _<=_:=Nat.pow_le_pow_right (by omega) (by omega)
    have:=qk hT (by omega)
    refine Nat.le_trans this (Nat.mul_le_mul_right _ (by omega))
  · intro e0
    rcases Nat.mul_eq_zero.1 e0 with c|c
    · have hq0:q=0:=by omega
      have hn0:n=0:=by
        rw[hq0] at c
        by_cases hz:n=0
        · exact hz
        · have:((0:Nat)*0 !=n)=true:=by simp;omega
          rw[this] at c;simp at c
      rw[<-hn,eN] at hn0
      rcases Nat.mul_eq_zero.1 hn0 with d|d
      · exact h0 d
      · have:=Nat.two_pow_pos m2;omega
    · have:=Nat.two_pow_pos j;omega
def oE(n:Nat):Nat:=double.nearest false n 0
theorem mj(n:Nat):oE n=rd (n*2^1074):=hU n 1074
theorem s8{n:Nat}(k:Nat)(h:n<2^64):n*2^k<2^(63+k+1):=by
 rw[show 63+k+1=64+k by omega,Nat.pow_add]
 exact Nat.mul_lt_mul_of_pos_right h (Nat.two_pow_pos _)
theorem uH{n:Nat}(h:n<2^64):oE n<=1088*4503599627370496:=by
 rw[mj]
 exact Nat.le_trans (qk (s8 1074 h) (by decide)) (by decide)
theorem ss{n:Nat}(h:n≠0):oE n≠0:=by
 rw[mj];refine lK ?_
 intro e;rcases Nat.mul_eq_zero.1 e with c|c
 · exact h c
 · have:=Nat.two_pow_pos 1074;omega
end TL
/-
  TlFl: floating numbers in a walk: what each operation comes to.
  By an AI agent.
-/
set_option linter.all false
namespace TL
open Go
abbrev Fb:=Nat
instance:Rp Nat where
 sz:=1
 rep _ _ _ cs x:=cs=[.float .f64 x]
 len h:=by subst h;rfl
 one h:=by subst h;simp[Value.oneCell']
 tr _ _ h:=h
instance:Fl Nat where
 cells x:=[.float .f64 x]
 rep_iff:=Iff.rfl
def aF(m:Int):Nat:=FloatKind.f64.nearest m
theorem iP(n:Nat):aF (n:Int)=oE n:=by
 unfold aF FloatKind.nearest FloatKind.encode oE
 rw[decide_eq_false (by omega)];rfl
theorem iH{m:Int}(h:0<=m):aF m<=br:=by
 obtain⟨n,rfl⟩:=Int.eq_ofNat_of_zero_le h
 rw[iP];exact eW _ _
theorem ku{m:Int}(h:0<=m)(h2:m<9223372036854775808):aF m<=1088*4503599627370496:=by
 obtain⟨n,rfl⟩:=Int.eq_ofNat_of_zero_le h
 rw[iP]
 refine uH ?_
 have:(n:Int)<9223372036854775808:=h2
 have e:(2:Nat)^64=18446744073709551616:=by decide
 omega
theorem iK{m:Int}(h:0<m):aF m≠0:=by
 obtain⟨n,rfl⟩:=Int.eq_ofNat_of_zero_le (Int.le_of_lt h)
 rw[iP]
 refine ss ?_
 have:0<(n:Int):=h
 omega
theorem qS:aF 0=0:=by decide
def cQ(x:Nat):Bool:=Ieee.double.order x x !=some .eq
theorem qc{x:Nat}(h:x<=br):cQ x=false:=by
 unfold cQ;rw[gP h h,gV];rfl
theorem rx(t:Nat)(q:Nat×Nat):cQ ((Question.nanBits .f64 q.1 q.2).cut t)=true:=by
 have h:∃n s,(Question.nanBits .f64 q.1 q.2).cut t=s*9223372036854775808+(9218868437227405313+n)/\n<4503599627370495/\s<2:=by
   refine⟨(t/2)%(2^52-1),t%2,?_,Nat.mod_lt _ (by decide),Nat.mod_lt _ (by decide)⟩
   simp only[Question.cut];omega
 obtain⟨n,s,e,hn,hs⟩:=h
 rw[e]
 unfold cQ Ieee.Format.order Ieee.Format.read
 simp only[pQ,lp,th,tu]
 have h2:(s*9223372036854775808+(9218868437227405313+n))%9223372036854775808=9218868437227405313+n:=by omega
 rw[h2]
 have hI:br=9218868437227405312:=rfl
 rw[if_neg (by omega),if_neg (by omega),if_neg (by omega)]
 rfl
section
variable{P:Program}{f:Fr}{w:World}{dst:Option Tmp}{ty:TypeId}{pos:String}{after:Array Edge}{g:Option (Nat×Bool)}{t t' s d:TypeId}{x y:Operand}{a b r:Nat}
variable{N:Value->World->Prop}
theorem nm{m:Int}{us:TypeDesc}(hs:P.underlying s=some us)(hd:P.underlying d=some (.float .f64))(hx:ev f x= .int .i64 m):(execOp (ev f) ⟨dst,.convert s d x,ty,pos,after,g⟩).run P w= .ok (.value (.float .f64 (aF m))) w:=by
 simp[execOp,convert,hx,bK hs,bK hd,Conv.intToFloat,aF]
theorem h7(op:BinOp):(eqGuard op t x y (.float .f64 a) (.float .f64 b)).run P w= .ok () w:=by
 unfold eqGuard
 split<;>rfl
theorem oc(hx:ev f x= .float .f64 a)(hy:ev f y= .float .f64 b)(h:Ieee.double.add a b=some r):(execOp (ev f) ⟨dst,.binOp .add t x y t',ty,pos,after,g⟩).run P w= .ok (.value (.float .f64 r)) w:=
 kE .add hx hy (h7 _) (run_float_arith w .add t .f64 a b r h)
theorem vU(hx:ev f x= .float .f64 a)(hy:ev f y= .float .f64 b)(h:Ieee.double.sub a b=some r):(execOp (ev f) ⟨dst,.binOp .sub t x y t',ty,pos,after,g⟩).run P w= .ok (.value (.float .f64 r)) w:=
 kE .sub hx hy (h7 _) (run_float_arith w .sub t .f64 a b r h)
theorem sy(hx:ev f x= .float .f64 a)(hy:ev f y= .float .f64 b)(h:Ieee.double.mul a b=some r):(execOp (ev f) ⟨dst,.binOp .mul t x y t',ty,pos,after,g⟩).run P w= .ok (.value (.float .f64 r)) w:=
 kE .mul hx hy (h7 _) (run_float_arith w .mul t .f64 a b r h)
theorem oy(hx:ev f x= .float .f64 a)(hy:ev f y= .float .f64 b)(h:Ieee.double.div a b=some r):(execOp (ev f) ⟨dst,.binOp .quo t x y t',ty,pos,after,g⟩).run P w= .ok (.value (.float .f64 r)) w:=
 kE .quo hx hy (h7 _) (run_float_arith w .quo t .f64 a b r h)
def fR:Option Nat->Nat->Prop
  |some v,r=>r=v
  |none,r=>cQ r=true
theorem rI(γ:aW)(w:World):bu no γ w γ w.drew:=⟨rfl,rfl,rfl,Nat.le_refl _,λ_ _ _=>rfl,λ_ _ _=>rfl,Nat.le_succ _⟩
theorem oo(γ:aW)(hx:ev f x= .float .f64 a)(hy:ev f y= .float .f64 b)(hk:∀r w',bu no γ w γ w'->fR (Ieee.double.div a b) r->N (.float .f64 r) w'):gT P ⟨dst,.binOp .quo t x y t',ty,pos,after,g⟩ f w N:=by
 have hg:=h7 (P:=P) (w:=w) (t:=t) (x:=x) (y:=y) (a:=a) (b:=b) .quo
 unfold gT
 cases e:Ieee.double.div a b with
 |some v=>
   rw[oy hx hy e]
   exact hk v w (bu.refl _ _ _) (by rw[e];rfl)
 |none=>
   have h:(binOp .quo t (.float .f64 a) (.float .f64 b)).run P w= .ok (.float .f64 ((Question.nanBits .f64 a b).cut (w.tape w.drawn (.nanBits .f64 a b)))) w.drew:=by
     have e':FloatKind.f64.format.div a b=none:=e
     simp[binOp,Op.floatArith,e',run_choose_drew,Question.forced]
   have h2:(execOp (ev f) ⟨dst,.binOp .quo t x y t',ty,pos,after,g⟩).run P w= .ok (.value (.float .f64 ((Question.nanBits .f64 a b).cut (w.tape w.drawn (.nanBits .f64 a b))))) w.drew:=by
     simp only[execOp,hx,hy,Sem.run_bind,hg,Result.andThen_ok,h,Sem.run_pure]
   rw[h2]
   exact hk _ _ (rI _ _) (by rw[e];exact rx _ (a,b))
theorem oh{op:BinOp}{q:Bool}(hx:ev f x= .float .f64 a)(hy:ev f y= .float .f64 b)(h:∀w:World,(binOp op t (.float .f64 a) (.float .f64 b)).run P w= .ok (.bool q) w):(execOp (ev f) ⟨dst,.binOp op t x y t',ty,pos,after,g⟩).run P w= .ok (.value (.bool q)) w:=
 kE op hx hy (h7 _) (h w)
theorem pH{q:Bool}(hx:ev f x= .float .f64 a)(hy:ev f y= .float .f64 b)(h:(Ieee.double.order a b==some .eq)=q):(execOp (ev f) ⟨dst,.binOp .eql t x y t',ty,pos,after,g⟩).run P w= .ok (.value (.bool q)) w:=
 oh hx hy (λw=>by rw[binOp_float_cmp_eql];show Sem.run P (pure (Value.bool (Ieee.double.order a b==some .eq))) w=_;rw[h];rfl)
theorem uP{q:Bool}(hx:ev f x= .float .f64 a)(hy:ev f y= .float .f64 b)(h:(Ieee.double.order a b !=some .eq)=q):(execOp (ev f) ⟨dst,.binOp .neq t x y t',ty,pos,after,g⟩).run P w= .ok (.value (.bool q)) w:=
 oh hx hy (λw=>by rw[binOp_float_cmp_neq];show Sem.run P (pure (Value.bool (Ieee.double.order a b !=some .eq))) w=_;rw[h];rfl)
theorem vz(ha:a<=br)(hb:b<=br):(Ieee.double.order a b==some .eq)=decide (a=b):=by
 rw[gP ha hb]
 rcases Nat.lt_trichotomy a b with h|h|h
 · rw[ip h,decide_eq_false (by omega)];rfl
 · rw[h,gV];simp
 · rw[ir h,decide_eq_false (by omega)];rfl
theorem ov(hx:ev f x= .float .f64 a)(hy:ev f y= .float .f64 b)(ha:a<=br)(hb:b<=br):(execOp (ev f) ⟨dst,.binOp .eql t x y t',ty,pos,after,g⟩).run P w= .ok (.value (.bool (decide (a=b)))) w:=
 pH hx hy (vz ha hb)
theorem dJ(hx:ev f x= .float .f64 a)(hy:ev f y= .float .f64 a):(execOp (ev f) ⟨dst,.binOp .neq t x y t',ty,pos,after,g⟩).run P w= .ok (.value (.bool (cQ a))) w:=
  uP hx hy rfl
theorem vq{at_:Array TypeId}(hx:ev f x= .float .f64 a)(hy:ev f y= .float .f64 b)(ha:a<=br)(hb:b<=br):(execOp (ev f) ⟨dst,.call {callee:=.builtin .min,args:= #[x,y],argTypes:=at_},ty,pos,after,g⟩).run P w= .ok (.value (.float .f64 (min a b))) w:=by
 have h:(Builtin.min2 (.float .f64 a) (.float .f64 b)).run P w= .ok (.float .f64 (min a b)) w:=by
   have e:FloatKind.f64.format.order a b=some (compare a b):=gP ha hb
   rcases Nat.lt_trichotomy a b with h|h|h
   · rw[ip h] at e;simp only[Builtin.min2,e,Nat.min_eq_left (Nat.le_of_lt h)];rfl
   · rw[h,gV] at e;simp only[Builtin.min2,h,e,Nat.min_self,ite_self];rfl
   · rw[ir h] at e;simp only[Builtin.min2,e,Nat.min_eq_right (Nat.le_of_lt h)];rfl
 simp[execOp,resolve,invoke,builtin,hx,hy,Builtin.min_,h]
theorem wm{at_:Array TypeId}(hx:ev f x= .float .f64 a)(hy:ev f y= .float .f64 b)(ha:a<=br)(hb:b<=br):(execOp (ev f) ⟨dst,.call {callee:=.builtin .max,args:= #[x,y],argTypes:=at_},ty,pos,after,g⟩).run P w= .ok (.value (.float .f64 (max a b))) w:=by
 have h:(Builtin.max2 (.float .f64 a) (.float .f64 b)).run P w= .ok (.float .f64 (max a b)) w:=by
   have e:FloatKind.f64.format.order a b=some (compare a b):=gP ha hb
   rcases Nat.lt_trichotomy a b with h|h|h
   · rw[ip h] at e;simp only[Builtin.max2,e,Nat.max_eq_right (Nat.le_of_lt h)];rfl
   · rw[h,gV] at e;simp only[Builtin.max2,h,e,Nat.max_self,ite_self];rfl
   · rw[ir h] at e;simp only[Builtin.max2,e,Nat.max_eq_left (Nat.le_of_lt h)];rfl
 simp[execOp,resolve,invoke,builtin,hx,hy,Builtin.max_,h]
theorem ra{fid:Nat}{fn:Func}{e:Array Value->Sem Value}{v u:Value}{at_:Array TypeId}(hf:P.funcs[fid]? =some fn)(hname:(fn.name== "runtime.NumGoroutine")=false)(hb:fn.body.isNone=true)(hn:(Extern.findNext fn).isNone=true)(he:Extern.find fn=some e)(hx:ev f x=v)(h:(e #[v]).run P w= .ok u w):
   (execOp (ev f) ⟨dst,.call {callee:=.value (.func fid),args:= #[x],argTypes:=at_},ty,pos,after,g⟩).run P w= .ok (.value u) w:=by
 have hn':Extern.findNext fn=none:=by simpa using hn
 have:=run_callFunc_extern hf hname hb hn' he #[v] w
 rw[h] at this
 have ha:(#[x]).map (ev f)= #[v]:=by simp[hx]
 have h0:∀q:Operand,ev f (.func fid)= .func (.func fid) #[] #[]:=λ_=>rfl
 simp only[execOp,resolve,h0 x,Deferred.ofValue,invoke,ha,Sem.run_bind,Sem.run_pure,Result.andThen_ok,Array.append_empty,Array.empty_append]
 exact this
theorem vw{fid:Nat}{fn:Func}{at_:Array TypeId}(hf:P.funcs[fid]? =some fn)(hname:(fn.name== "runtime.NumGoroutine")=false)(hb:fn.body.isNone=true)(hn:(Extern.findNext fn).isNone=true)(he:Extern.find fn=some Extern.MathSqrt.sqrt)(hx:ev f x= .float .f64 a)(h:Ieee.double.sqrt a=some r):
   (execOp (ev f) ⟨dst,.call {callee:=.value (.func fid),args:= #[x],argTypes:=at_},ty,pos,after,g⟩).run P w= .ok (.value (.float .f64 r)) w:=
 ra hf hname hb hn he hx (by
   have h':FloatKind.f64.format.sqrt a=some r:=h
   have e:Extern.MathSqrt.sqrt #[.float .f64 a]=(match FloatKind.f64.format.sqrt a with|some r=>pure (.float .f64 r)|none=>do pure (.float .f64 (<-choose (.nanBits .f64 a a)))):=rfl
   rw[e,h'];rfl)
theorem kt{fid:Nat}{fn:Func}{at_:Array TypeId}{n:Int}(hf:P.funcs[fid]? =some fn)(hname:(fn.name== "runtime.NumGoroutine")=false)(hb:fn.body.isNone=true)(hn:(Extern.findNext fn).isNone=true)(he:Extern.find fn=some Extern.MathFloatBits.float64frombits)(hx:ev f x= .int .u64 n):
   (execOp (ev f) ⟨dst,.call {callee:=.value (.func fid),args:= #[x],argTypes:=at_},ty,pos,after,g⟩).run P w= .ok (.value (.float .f64 n.toNat)) w:=
 ra hf hname hb hn he hx rfl
end
end TL
/-
  TlMet: what layer 29 (metric) computes, in plain words.
  By an AI agent.
-/
set_option linter.all false
namespace TL
open Go
def nQ(a b:Pt):Int:=(b.1-a.1)*(b.1-a.1)+(b.2-a.2)*(b.2-a.2)
def bC(a b:Pt):Nat:=aF (nQ a b)
def kg(l:List Pt)(k:Nat):Nat:=aJ (bC (gI l (k:Int)) (gI l ((k:Int)+1)))
def iD(l:List Pt):Nat->Nat
 |0=>kg l 0
 |k+1=>dS (iD l k) (kg l (k+1))
def el(l:List Pt):Nat:=iD l (l.length-2)
def aT(p:cv):List Nat:=p.2.map el
def lT(l:List Nat):Nat->Nat
 |0=>0
 |k+1=>dS (lT l k) (gI l (k:Int))
def kw(l:List Nat):Nat->Nat
 |0=>br
 |k+1=>min (kw l k) (gI l (k:Int))
def kf(l:List Nat):Nat->Nat
 |0=>0
 |k+1=>max (kf l k) (gI l (k:Int))
def vO(m:Nat)(l:List Nat):Nat->Nat
 |0=>0
 |k+1=>dS (vO m l k) (dv (dN (gI l (k:Int)) m) (dN (gI l (k:Int)) m))
def jI(l:List Nat):Nat:=bb (lT l l.length) (aF (l.length:Int))
def im(l:List Nat):Nat:=bb (kf l l.length) (kw l l.length)
def ms(l:List Nat):Nat:=bb (vO (jI l) l l.length) (aF (l.length:Int))
def k9(g:cP)(p:cv):Nat:=bb (aF g.1) (aF (((dL p).2.1+1)*((dL p).2.2.1+1)))
abbrev wG:=Nat×Nat×Nat×Nat×Nat×Nat×Nat
def x5(l:List Nat)(x:Nat):wG:=(lT l l.length,jI l,kw l l.length,kf l l.length,im l,ms l,x)
def bl(g:cP)(p:cv):Int:=if dp g then(ag g p).2 else 1
def al(g:cP)(p:cv):wG×Int:=if bl g p=0 then(x5 (aT p) (k9 g p),0) else((0,0,0,0,0,0,0),bl g p)
def bP(g:cP)(p:cv):List Nat×Int:=if bl g p=0 then(aT p,0) else([],bl g p)
theorem jp(x:Int):0<=x*x:=by
 rcases Int.le_total 0 x with h|h
 · exact Int.mul_nonneg h h
 · exact Int.mul_nonneg_of_nonpos_of_nonpos h h
theorem o9(a b:Pt):0<=nQ a b:=Int.add_nonneg (jp _) (jp _)
theorem cY(a b:Pt):bC a b<=br:=iH (o9 a b)
theorem pj(l:List Pt)(k:Nat):kg l k<=br:=(iQ (cY _ _)).2
theorem m9(l:List Pt):∀k,iD l k<=br
 |0=>pj l 0
 |k+1=>(gC (m9 l k) (pj l (k+1))).2
theorem tf(l:List Pt):el l<=br:=m9 l _
theorem lH{p:cv}{k:Int}(h0:0<=k)(h:k<p.2.length):gI (aT p) k=el (gI p.2 k):=by
 obtain⟨n,rfl⟩:=Int.eq_ofNat_of_zero_le h0
 have hn:n<p.2.length:=by omega
 simp[gI,aT,hn]
theorem pe(p:cv)(k:Int):gI (aT p) k<=br:=by
 unfold gI
 rcases Nat.lt_or_ge k.toNat (aT p).length with h|h
 · have e:(aT p).getD k.toNat default=(aT p)[k.toNat]:=by simp[h]
   rw[e]
   have hm:(aT p)[k.toNat]∈aT p:=List.getElem_mem _
   obtain⟨q,_,hq⟩:=List.mem_map.1 hm
   rw[<-hq];exact tf _
 · have e:(aT p).getD k.toNat default=0:=by simp[List.getD,h]
   rw[e];exact Nat.zero_le _
theorem sd{l:List Pt}{i s:Nat}(h:s=iD l (i-2)/\2<=i):dS s (aJ (bC (gI l ((i:Int)-1)) (gI l (i:Int))))=iD l (i+1-2)/\2<=i+1:=by
 obtain⟨h1,h2⟩:=h
 obtain⟨k,rfl⟩:∃k,i=k+2:=⟨i-2,by omega⟩
 refine⟨?_,by omega⟩
 rw[h1,show k+2-2=k by omega,show k+2+1-2=k+1 by omega]
 show _=dS (iD l k) (kg l (k+1))
 unfold kg
 rw[show(((k+2:Nat):Int)-1)=((k+1:Nat):Int) by omega,show((k+2:Nat):Int)=((k+1:Nat):Int)+1 by omega]
theorem ur{l:List Pt}{i s:Nat}(h:s=iD l (i-2)/\2<=i)(hi:¬(i:Int)<(l.length:Int))(hle:(i:Int)<=max (l.length:Int) 2)(h2:2<=l.length):s=el l:=by
 rw[h.1];unfold el;congr 1;omega
theorem oJ{g:cP}{p:cv}(h:¬dp g):bl g p=1:=by unfold bl;rw[if_neg h]
theorem lD{g:cP}{p:cv}(h:dp g):bl g p=(ag g p).2:=by unfold bl;rw[if_pos h]
theorem ey{g:cP}{p:cv}(h:bl g p=0):dp g/\kP g p/\(ag g p).1=dL p:=by
 by_cases hm:dp g
 · rw[lD hm] at h
   unfold ag at h ⊢
   rw[if_pos hm] at h ⊢
   by_cases hs:c9 g p=[]
   · rw[if_pos hs];exact⟨hm,fQ.1 hs,rfl⟩
   · rw[if_neg hs] at h;exact absurd h (by decide)
 · rw[oJ hm] at h;exact absurd h (by decide)
theorem oQ{l:List Nat}(h:∀k,gI l k<=br):∀k,lT l k<=br
 |0=>Nat.zero_le _
 |k+1=>(gC (oQ h k) (h _)).2
theorem x9{o:Option Nat}{r v:Nat}(h:fR o r)(e:o=some v):r=v:=by subst e;exact h
end TL
namespace TL
open Go
def ar(x:Nat):Nat:=if cQ x=true then ke else x
theorem ut{x:Nat}(h:cQ x=true):ke=ar x:=by unfold ar;rw[if_pos h]
theorem ua{x:Nat}(h:¬cQ x=true):x=ar x:=by unfold ar;rw[if_neg h]
theorem tX{x:Nat}(h:¬cQ x=true)(h0:x=0):0=ar x:=by unfold ar;rw[if_neg h,h0]
theorem l5{x:Int}(h1: -2097152<=x)(h2:x<=2097152):x*x<=4398046511104:=by
 rcases Int.le_total 0 x with h|h
 · calc x*x<=2097152*2097152:=Int.mul_le_mul h2 h2 h (by omega)
     _=_:=rfl
 · have e:x*x=(-x)*(-x):=(Int.neg_mul_neg x x).symm
   rw[e]
   calc(-x)*(-x)<=2097152*2097152:=Int.mul_le_mul (by omega) (by omega) (by omega) (by omega)
     _=_:=rfl
theorem qT{p:cv}{l:List Nat}{k:Nat}(h:l=(p.2.take k).map el)(hk:(k:Int)<(p.2.length:Int)):l++[el (gI p.2 (k:Int))]=(p.2.take (k+1)).map el:=by
 have hk':k<p.2.length:=by omega
 rw[h,List.take_succ_eq_append_getElem hk',List.map_append]
 simp[gI,hk']
theorem s9{p:cv}{l:List Nat}{k:Nat}(h:l=(p.2.take k).map el)(hk:¬(k:Int)<(p.2.length:Int)):l=aT p:=by
 rw[h,List.take_of_length_le (by omega)];rfl
end TL
namespace TL
open Go
theorem oe{x y v:Nat}(hx:x<=br)(hy:y<=br)(h:Ieee.double.div x y=some v):v<=br:=by
 unfold Ieee.Format.div at h
 rcases fB hx with⟨m,i,e⟩|e<;>rcases fB hy with⟨n,j,e'⟩|e'<;>rw[e,e'] at h
 · simp only[Ieee.Datum.quotient] at h
   split at h
   · split at h
     · cases h
     · rw[<-Option.some.inj h];exact Nat.le_of_eq em
   · rw[<-Option.some.inj h];exact eW _ _
 · rw[<-Option.some.inj h];exact eW _ _
 · rw[<-Option.some.inj h];exact Nat.le_of_eq em
 · cases h
theorem xF{o:Option Nat}{r:Nat}(h:fR o r)(hn:¬cQ r=true):r=o.getD ke:=by
 cases o with
 |some v=>exact h
 |none=>exact absurd h hn
theorem xG{o:Option Nat}{r:Nat}(h:fR o r)(hv:∀v,o=some v->v<=br)(ht:cQ r=true):ar r=o.getD ke:=by
 cases o with
 |some v=>
   obtain rfl:r=v:=h
   rw[qc (hv r rfl)] at ht;cases ht
 |none=>unfold ar;rw[if_pos ht];rfl
theorem kv{o:Option Nat}{r:Nat}(h:fR o r)(hv:∀v,o=some v->v<=br):cQ r=true\/r<=br:=by
 cases o with
 |some v=>exact .inr (by obtain rfl:r=v:=h;exact hv r rfl)
 |none=>exact .inl h
theorem mm{m:Int}(h:0<=m)(h2:m<9223372036854775808):aF m<br:=by
 have:=ku h h2
 have hI:br=9218868437227405312:=rfl
 omega
theorem mH{l:List Nat}{s r:Nat}(hl:∀k,gI l k<=br)(hs:s=lT l l.length)(h:fR (Ieee.double.div s (aF (l.length:Int))) r)(h0:0<l.length)(hb:(l.length:Int)<9223372036854775808):r=jI l/\r<=br:=by
 have:=mh (x:=s) (y:=aF (l.length:Int)) (by rw[hs];exact oQ hl _) (mm (by omega) hb) (iK (by omega))
 have e:=x9 h this.1
 refine⟨?_,by rw[e];exact this.2⟩
 rw[e,hs];rfl
theorem wo{l:List Nat}{r:Nat}(h:0<l.length->r=jI l):vO r l l.length=vO (jI l) l l.length:=by
 rcases Nat.eq_zero_or_pos l.length with c|c
 · rw[c];rfl
 · rw[h c]
theorem nC{l:List Pt}:∀k,(lG l k).1<=(m8 l k).1/\(lG l k).2<=(m8 l k).2
 |0=>⟨Int.le_refl _,Int.le_refl _⟩
 |k+1=>by
   obtain⟨h1,h2⟩:=nC (l:=l) k
   unfold lG m8
   simp only
   omega
theorem t8{g:cP}{p:cv}(hs:kP g p)(hlp:(ag g p).1=dL p):((0<=(ag g p).1.2.1/\(ag g p).1.2.1<=2097152)/\0<=(ag g p).1.2.2.1/\(ag g p).1.2.2.1<=2097152)/\0<((ag g p).1.2.1+1)*((ag g p).1.2.2.1+1)/\((ag g p).1.2.1+1)*((ag g p).1.2.2.1+1)<=4398050705409:=by
 rw[hlp]
 have hw:(0<=(dL p).2.1/\(dL p).2.1<=2097152)/\0<=(dL p).2.2.1/\(dL p).2.2.1<=2097152:=by
   show(0<=(eT p).1/\(eT p).1<=2097152)/\0<=(eT p).2/\(eT p).2<=2097152
   unfold eT
   split
   · rename_i h0
     have:=sq (sv hs) (by omega) (bx p).length (Nat.le_refl _)
     have h2:=nC (l:=bx p) (bx p).length
     unfold ck at this
     simp only
     omega
   · decide
 refine⟨hw,Int.mul_pos (by omega) (by omega),?_⟩
 calc((dL p).2.1+1)*((dL p).2.2.1+1)<=2097153*2097153:=Int.mul_le_mul (by omega) (by omega) (by omega) (by omega)
   _=_:=rfl
theorem d8{g:cP}{p:cv}(h:bl g p=0):al g p=(x5 (aT p) (k9 g p),0):=by unfold al;rw[if_pos h]
theorem rB{g:cP}{p:cv}(h:¬bl g p=0):al g p=((0,0,0,0,0,0,0),bl g p):=by unfold al;rw[if_neg h]
end TL
namespace TL
open Go
theorem lM{o:Option Nat}{r v:Nat}(h:fR o r)(hv:∀v,o=some v->v<=br)(e:o.getD ke=v):(cQ r=true->ar r=v)/\(¬cQ r=true->r=v):=
 ⟨λt=>(xG h hv t).trans e,λt=>(xF h t).trans e⟩
theorem wL{r v:Nat}(h:r<=br)(e:r=v):(cQ r=true->ar r=v)/\(¬cQ r=true->r=v):=
 ⟨λt=>absurd t (by rw[qc h];decide),λ_=>e⟩
theorem dG{g:cP}{p:cv}{a b c d e f x:Nat}(h:bl g p=0)(ha:a=lT (aT p) (aT p).length)(hb:b=jI (aT p))(hc:c=kw (aT p) (aT p).length)(hd:d=kf (aT p) (aT p).length)(he:e=im (aT p))(hf:f=ms (aT p))(hx:x=k9 g p):(a,b,c,d,e,f,x)=(al g p).1:=by
 rw[d8 h,ha,hb,hc,hd,he,hf,hx];rfl
theorem uu{g:cP}{p:cv}(hlp:(ag g p).1=dL p):bb (aF g.1) (aF (((ag g p).1.2.1+1)*((ag g p).1.2.2.1+1)))=k9 g p:=by rw[hlp];rfl
end TL
namespace TL
open Go
abbrev kN:=Int×Int×Nat
def lI(a b:Pt):kN:=(b.1-a.1,b.2-a.2,aJ (bC a b))
def ia(L:List (List kN))(a b:Pt)(v:Int):List (List kN):=if a=b then L else L.set v.toNat (gI L v++[lI a b])
def aE(g:cP)(p:cv):Nat->List (List kN)
 |0=>List.replicate g.1.toNat []
 |e+1=>ia (ia (aE g p e) (gI (gI p.2 (e:Int)) 0) (gI (gI p.2 (e:Int)) 1) (gI g.2 (e:Int)).1) (gI (gI p.2 (e:Int)) (((gI p.2 (e:Int)).length:Int)-1)) (gI (gI p.2 (e:Int)) (((gI p.2 (e:Int)).length:Int)-2)) (gI g.2 (e:Int)).2
theorem nH(L:List (List kN))(a b:Pt)(v:Int):(ia L a b v).length=L.length:=by
 unfold ia;split
 · rfl
 · rw[List.length_set]
theorem lg(g:cP)(p:cv):∀e,(aE g p e).length=g.1.toNat
 |0=>List.length_replicate ..
 |e+1=>by unfold aE;rw[nH,nH,lg g p e]
theorem lC{L M X:List (List kN)}{a b a' b':Pt}{u v:Int}(h1:a=b/\M=L\/¬a=b/\M=L.set u.toNat (gI L u++[lI a b]))(h2:a'=b'/\X=M\/¬a'=b'/\X=M.set v.toNat (gI M v++[lI a' b'])):X=ia (ia L a b u) a' b' v:=by
 have e1:M=ia L a b u:=by
   unfold ia
   rcases h1 with⟨c,h⟩|⟨c,h⟩
   · rw[if_pos c,h]
   · rw[if_neg c,h]
 rw[<-e1];unfold ia
 rcases h2 with⟨c,h⟩|⟨c,h⟩
 · rw[if_pos c,h]
 · rw[if_neg c,h]
end TL
namespace TL
open Go
theorem ed{L:List (List kN)}{n:Nat}{u v:Int}{x:kN}(h:∀v,(gI L v).length<=n):(gI (L.set u.toNat (gI L u++[x])) v).length<=n+1:=by
 unfold gI
 rw[List.getD_eq_getElem?_getD,List.getElem?_set]
 split
 · split
   · have:=h u;simp;unfold gI at this;simpa using this
   · exact Nat.zero_le _
 · have:=h v;unfold gI at this;rw[List.getD_eq_getElem?_getD] at this;omega
theorem mT{L:List (List kN)}{a b:Pt}{u:Int}{n:Nat}(h:∀v,(gI L v).length<=n)(v:Int):(gI (ia L a b u) v).length<=n+1:=by
 unfold ia;split
 · have:=h v;omega
 · exact ed h
theorem lu(g:cP)(p:cv):∀(e:Nat) (v:Int),(gI (aE g p e) v).length<=2*e
 |0,v=>by
   show(gI (List.replicate g.1.toNat []) v).length<=0
   unfold gI;rw[List.getD_eq_getElem?_getD,List.getElem?_replicate];split
   · exact Nat.le_refl _
   · exact Nat.le_refl _
 |e+1,v=>by
   have:=mT (a:=gI (gI p.2 (e:Int)) (((gI p.2 (e:Int)).length:Int)-1)) (b:=gI (gI p.2 (e:Int)) (((gI p.2 (e:Int)).length:Int)-2)) (u:=(gI g.2 (e:Int)).2) (mT (a:=gI (gI p.2 (e:Int)) 0) (b:=gI (gI p.2 (e:Int)) 1) (u:=(gI g.2 (e:Int)).1) (lu g p e)) v
   unfold aE;omega
end TL
namespace TL
theorem d7{α:Type}{xs:List α}{y:α}{n:Nat}(h:xs.length<=n)(hn:n<1099511627776):xs.length+[y].length<=1099511627776:=by
 show xs.length+1<=_;omega
end TL
namespace TL
open Go
end TL
/-
  TlMet2: the small plot that layer 29's statements try first, and what MetricEdges says.
  By an AI agent.
-/
set_option linter.all false
namespace TL
open Go
abbrev BG:cP:=(2,[(0,1)])
abbrev BP:cv:=([(0,0),(3,4)],[[(0,0),(3,4)]])
theorem uj:∀k:Int,gI (aT BP) k<br:=by
 have h:aT BP=[4617315517961601024]:=by decide+kernel
 intro k
 rw[h];unfold gI
 match k.toNat with
 |0=>decide
 |n+1=>show(0:Nat)<br;decide
theorem rt:(al BG BP).1.2.2.2.2.1<=br:=by decide+kernel
end TL
namespace TL
open Go
section
variable{ps:List Pt}
theorem kK{a b:Pt}(ha:ck a)(hb:ck b):aJ (bC a b)<=1064*4503599627370496/\(a≠b->aJ (bC a b)≠0):=by
  obtain⟨⟨a1,a2⟩,a3,a4⟩:=ha
  obtain⟨⟨b1,b2⟩,b3,b4⟩:=hb
  have m1:=jp (b.1-a.1)
  have m2:=jp (b.2-a.2)
  have m3:=l5 (x:=b.1-a.1) (by omega) (by omega)
  have m4:=l5 (x:=b.2-a.2) (by omega) (by omega)
  have h1:0<=nQ a b:=o9 a b
  have h2:nQ a b<9223372036854775808:=by unfold nQ;omega
  obtain⟨k1,k2⟩:=ul (x:=bC a b) (e:=1088) (ku h1 h2) (by omega) (by omega)
  refine⟨k1,λhne=>k2 (iK ?_)⟩
  rcases Int.lt_or_eq_of_le h1 with c|c
  · exact c
  · exfalso
    have e1:(b.1-a.1)*(b.1-a.1)=0:=by unfold nQ at c;omega
    have e2:(b.2-a.2)*(b.2-a.2)=0:=by unfold nQ at c;omega
    have f1:b.1-a.1=0:=by rcases Int.mul_eq_zero.1 e1 with c|c<;>exact c
    have f2:b.2-a.2=0:=by rcases Int.mul_eq_zero.1 e2 with c|c<;>exact c
    exact hne (Prod.ext (by omega) (by omega))
end
end TL
namespace TL
open Go
section
variable{ps:List Pt}{Ls:List (List Pt)}
end
end TL
/-
  TlFloat3: from below: roots and products that are far from nothing; a quotient of the greater by the less; numbers with a sign.
  By an AI agent.
-/
set_option linter.all false
namespace TL
open Ieee
theorem sg{T k:Nat}(h:2^k<=T)(hk:52<=k):min ((k-51)*4503599627370496) br<=rd T:=by
  have h0:T≠0:=by have:=Nat.two_pow_pos k;omega
  unfold rd;rw[if_neg h0]
  have hl:k<=T.log2:=(Nat.le_log2 h0).2 h
  have h1:4503599627370496<=T/2^(T.log2-52):=by
    refine(Nat.le_div_iff_mul_le (Nat.two_pow_pos _)).2 ?_
    rw[show(4503599627370496:Nat)=2^52 by decide,<-Nat.pow_add,show 52+(T.log2-52)=T.log2 by omega]
    exact Nat.log2_self_le h0
  have h2:4503599627370496<=iU T (T.log2-52):=Nat.le_trans h1 (Nat.le_add_right _ _)
  have h3:(k-51)*4503599627370496<=(T.log2-52)*4503599627370496+iU T (T.log2-52):=by omega
  omega
theorem gK(n:Nat):∀t r:Nat,r<=Datum.rootFrom n t r
 |0,r=>Nat.le_refl _
 |t+1,r=>by
   unfold Datum.rootFrom
   simp only[eN,Nat.one_mul]
   split
   · exact Nat.le_trans (Nat.le_add_right _ _) (gK n t _)
   · exact gK n t r
theorem t5(n:Nat)(h:n≠0):2^(n.log2/2)<=Datum.rootFrom n (n.log2/2+1) 0:=by
 unfold Datum.rootFrom
 simp only[eN,Nat.one_mul,Nat.zero_add]
 have:2^(n.log2/2)*2^(n.log2/2)<=n:=by
   rw[<-Nat.pow_add]
   exact Nat.le_trans (Nat.pow_le_pow_right (by omega) (by omega)) (Nat.log2_self_le h)
 rw[if_pos this]
 exact gK n _ _
theorem wr{a q j:Nat}(b:Nat)(h:2^a<=q)(hj:b<=j):2^(a+b)<=q*2^j:=by
 rw[Nat.pow_add]
 exact Nat.mul_le_mul h (Nat.pow_le_pow_right (by omega) hj)
theorem wq{a b c q j:Nat}(h:2^a<=q)(hj:b<=j)(hab:52<=a+b)(hc:c<=min ((a+b-51)*4503599627370496) br):c<=rd (q*2^j):=
 Nat.le_trans hc (sg (wr b h hj) hab)
theorem tG{x:Nat}(hx:x<br)(h1:1023*4503599627370496<=x):1000*4503599627370496<=aJ x:=by
 have hI:br=9218868437227405312:=rfl
 have hm:¬mg x=0:=λe=>by have:=fA.1 e;omega
 unfold aJ Format.sqrt
 rw[cw hx]
 simp only[Datum.root,if_neg hm,Option.map_some,Option.getD_some,Bool.false_eq_true,if_false,show double.fractionBits+2=54 from rfl]
 generalize hm1:2*54-(mg x).log2=m1
 generalize hm2:m1+((-1074+(pl x:Int)-(m1:Int))%2).toNat=m2
 generalize hn:mg x <<< m2=n
 generalize hw:Datum.rootFrom n (n.log2/2+1) 0=q
 have hlm:52<=(mg x).log2:=(Nat.le_log2 hm).2 (by unfold mg;rw[if_neg (by omega)];show 4503599627370496<=_;omega)
 have hlu:(mg x).log2<=52:=by have:=(Nat.log2_lt hm (k:=53)).2 (ki x);omega
 have hp:1022<=pl x:=by unfold pl;omega
 have hpu:pl x<=2046:=by unfold pl;omega
 have hnl:n.log2=(mg x).log2+m2:=by rw[<-hn,eN,ij hm]
 have hn0:n≠0:=by
   rw[<-hn,eN];intro e
   rcases Nat.mul_eq_zero.1 e with c|c
   · exact hm c
   · have:=Nat.two_pow_pos m2;omega
 have hq:=t5 n hn0
 rw[hw] at hq
 have hq2:2^54<=2^(n.log2/2):=Nat.pow_le_pow_right (by omega) (by omega)
 have hj:∃j:Nat,(-1074+(pl x:Int)-(m2:Int))/2-1= -1074+(j:Int)/\1015<=j:=by
   refine⟨((-1074+(pl x:Int)-(m2:Int))/2-1+1074).toNat,?_,?_⟩<;>omega
 obtain⟨j,hj1,hj2⟩:=hj
 show _<=double.nearest false _ _
 rw[hj1,hU]
 have a1:2^55<=2*q+(q*q !=n).toNat:=by
   have:(2:Nat)^55=2*2^54:=by decide
   omega
 exact wq a1 hj2 (by decide) (by decide)
theorem uv{n:Nat}(h:n≠0):1023*4503599627370496<=oE n:=by
 rw[mj]
 generalize hK:(1074:Nat)=K
 have hT:2^K<=n*2^K:=Nat.le_mul_of_pos_left _ (by omega)
 have h9:=sg hT (by clear hT;omega)
 have hI:br=9218868437227405312:=rfl
 clear hT
 omega
theorem vy{x y:Nat}(hx:x<br)(hy:y<br)(h:1074<=pl x+pl y):dv x y=rd (mg x*mg y*2^(pl x+pl y-1074)):=by
 unfold dv Format.mul
 rw[cw hx,cw hy]
 simp only[Datum.product,Bool.xor_self,Option.map_some,Option.getD_some]
 show double.nearest false _ _=_
 rw[show(-1074+(pl x:Int)+(-1074+(pl y:Int)))= -1074+((pl x+pl y-1074:Nat):Int) by omega,hU]
theorem uy{x y:Nat}(hx:1000*4503599627370496<=x)(hx2:x<=1100*4503599627370496)(hy:1000*4503599627370496<=y)(hy2:y<=1100*4503599627370496):dv x y<br/\dv x y≠0:=by
 have hI:br=9218868437227405312:=rfl
 have p1:999<=pl x:=by unfold pl;omega
 have p2:999<=pl y:=by unfold pl;omega
 have p3:pl x<=1099:=by unfold pl;omega
 have p4:pl y<=1099:=by unfold pl;omega
 rw[vy (by omega) (by omega) (by omega)]
 generalize hk:pl x+pl y-1074=k
 have hk2:k<=1124:=by omega
 constructor
 · have a1:mg x*mg y<2^106:=by
     have:=Nat.mul_lt_mul'' (ki x) (ki y)
     exact Nat.lt_of_lt_of_le this (by decide)
   have hT:mg x*mg y*2^k<2^(1229+1):=by
     calc mg x*mg y*2^k<2^106*2^k:=Nat.mul_lt_mul_of_pos_right a1 (Nat.two_pow_pos _)
       _=2^(106+k):=(Nat.pow_add _ _ _).symm
       _<=2^(1229+1):=Nat.pow_le_pow_right (by omega) (by omega)
   have h9:=qk hT (by omega)
   have h8:(1229-50)*4503599627370496=5309743960669814784:=by decide
   rw[h8] at h9
   exact Nat.lt_of_le_of_lt h9 (by rw[hI];decide)
 · refine lK ?_
   have m1:mg x≠0:=λe=>by have:=fA.1 e;omega
   have m2:mg y≠0:=λe=>by have:=fA.1 e;omega
   intro e
   rcases Nat.mul_eq_zero.1 e with c|c
   · rcases Nat.mul_eq_zero.1 c with c|c
     · exact m1 c
     · exact m2 c
   · have:=Nat.two_pow_pos k;omega
theorem vK{my mx A B C D E M d:Nat}(e1:A*B=D)(e2:M*B*C=D*E)(hv:my*C<=mx*E)(hd:mx*M=d)(hB:0<B)(hC:0<C):my*A<=d:=by
 refine Nat.le_of_mul_le_mul_right (c:=B*C) ?_ (Nat.mul_pos hB hC)
 calc my*A*(B*C)=my*C*(A*B):=by ac_rfl
   _=my*C*D:=by rw[e1]
   _<=mx*E*D:=Nat.mul_le_mul_right _ hv
   _=mx*(D*E):=by ac_rfl
   _=mx*(M*B*C):=by rw[e2]
   _=mx*M*(B*C):=by ac_rfl
   _=d*(B*C):=by rw[hd]
theorem ue{A J D q s:Nat}(e1:A*(2*J)=D)(h:A<=q):D<=(2*q+s)*J:=by
 calc D=2*A*J:=by rw[<-e1];ac_rfl
   _<=_:=Nat.mul_le_mul_right _ (by omega)
theorem vW{k T c:Nat}(h:2^k<=T)(hk:52<=k)(hc:c<=min ((k-51)*4503599627370496) br):c<=rd T:=Nat.le_trans hc (sg h hk)
theorem sW{mx my mo j px py d K:Nat}(hmy:my≠0)(hd:mx*2^mo=d)(hd0:d≠0)(hv:my*2^py<=mx*2^px)(hj:j+mo+1=K+px-py)(hpl:py<=px):2^K<=(2*(d/my)+(d%my !=0).toNat)*2^j:=by
 rcases Nat.lt_or_ge j K with c|c
 · have e1:2^(K-1-j)*2^(j+1)=2^K:=by rw[<-Nat.pow_add];congr 1;omega
   have e2:2^mo*2^(j+1)*2^py=2^K*2^px:=by rw[<-Nat.pow_add,<-Nat.pow_add,<-Nat.pow_add];congr 1;omega
   have hk:my*2^(K-1-j)<=d:=vK e1 e2 hv hd (Nat.two_pow_pos _) (Nat.two_pow_pos _)
   have hk2:2^(K-1-j)<=d/my:=(Nat.le_div_iff_mul_le (by omega)).2 (by rw[Nat.mul_comm];exact hk)
   exact ue (by rw[<-e1,Nat.pow_succ,Nat.mul_comm 2]) hk2
 · have h1:1<=2*(d/my)+(d%my !=0).toNat:=by
     have hdm:=Nat.div_add_mod d my
     by_cases hq:d/my=0
     · rw[hq,Nat.mul_zero,Nat.zero_add] at hdm
       have:(d%my !=0)=true:=by simp;omega
       rw[this];show 1<=_+1;omega
     · omega
   calc 2^K<=2^j:=Nat.pow_le_pow_right (by omega) c
     _=1*2^j:=(Nat.one_mul _).symm
     _<=_:=Nat.mul_le_mul_right _ h1
theorem tg{x y:Nat}(hx:x<br)(hyx:y<=x)(h0:y≠0):4607182418800017408<=bb x y:=by
  have hI:br=9218868437227405312:=rfl
  have hy:y<br:=by omega
  have hv:=uV hyx
  have hmy:mg y≠0:=λe=>h0 (fA.1 e)
  have hmx:mg x≠0:=λe=>h0 (by have:=fA.1 e;omega)
  have hpl:=pN hyx
  unfold bb Format.div
  rw[cw hx,cw hy]
  simp only[Datum.quotient,if_neg hmy,Option.map_some,Option.getD_some,Bool.xor_self,show double.fractionBits+2=54 from rfl]
  generalize hmo:54+(mg y).log2-(mg x).log2=mo
  have hlx:(mg x).log2<=52:=by have:=(Nat.log2_lt hmx (k:=53)).2 (ki x);omega
  have hly:(mg y).log2<=52:=by have:=(Nat.log2_lt hmy (k:=53)).2 (ki y);omega
  show _<=double.nearest false _ _
  rw[eN]
  generalize hd:mg x*2^mo=d
  have hj:∃j:Nat,(-1074+(pl x:Int)-(-1074+(pl y:Int))-(mo:Int)-1)= -1074+(j:Int)/\j+mo+1=1074+pl x-pl y:=by
    refine⟨(pl x-pl y+1074-mo-1),?_,?_⟩<;>omega
  obtain⟨j,hj1,hj2⟩:=hj
  rw[hj1,hU]
  have hd0:d≠0:=by
    rw[<-hd];intro e
    rcases Nat.mul_eq_zero.1 e with c|c
    · exact hmx c
    · have:=Nat.two_pow_pos mo;omega
  exact vW (sW (K:=1074) hmy hd hd0 hv (by omega) hpl) (by decide) (by decide)
end TL
/-
  TlMet3: pairs of edges that meet, and angles, of layer 29 (metric), in plain words.
  By an AI agent.
-/
set_option linter.all false
namespace TL
open Go
def eJ(g:cP)(p:cv)(e f:Int)(s t:Sg):Prop:=∃x∈iE g p e f,cD s.1 s.2 t.1 t.2 x
instance (g:cP)(p:cv)(e f:Int)(s t:Sg):Decidable (eJ g p e f s t):=by unfold eJ;infer_instance
structure sQ(s t:Sg):Prop where
 a:ck s.1
 b:ck s.2
 c:ck t.1
 d:ck t.2
section
variable{g:cP}{p:cv}{e f:Int}{s t:Sg}{x:Pt}
theorem qR{a b q:Pt}(ha:ck a)(hb:ck b)(hq:ck q):(db a b q).1=decide (cA a b q):=by unfold db;rw[if_pos ⟨ha,hb,hq⟩]
theorem wT(h:decide ((gI g.2 e).1∈[(gI g.2 f).1,(gI g.2 f).2])=true):gI p.1 (gI g.2 e).1∈iE g p e f:=by
 unfold iE fl;rw[if_pos (of_decide_eq_true h)];simp
theorem sF(h:decide ((gI g.2 e).2∈[(gI g.2 f).1,(gI g.2 f).2])=true):gI p.1 (gI g.2 e).2∈iE g p e f:=by
 unfold iE fl;rw[if_pos (of_decide_eq_true h)];simp
theorem vZ(h:x∈iE g p e f):((gI g.2 e).1∈[(gI g.2 f).1,(gI g.2 f).2]/\x=gI p.1 (gI g.2 e).1)\/((gI g.2 e).2∈[(gI g.2 f).1,(gI g.2 f).2]/\x=gI p.1 (gI g.2 e).2):=by
 unfold iE at h
 rcases List.mem_append.1 h with h|h
 · unfold fl at h;split at h
   · exact .inl ⟨by assumption,by simpa using h⟩
   · cases h
 · unfold fl at h;split at h
   · exact .inr ⟨by assumption,by simpa using h⟩
   · cases h
theorem oY{q:Pt}(ho:sQ s t)(hq:ck q)(hm:q∈iE g p e f)(h1:(db s.1 s.2 q).1=true)(h2:(db t.1 t.2 q).1=true):true=decide (eJ g p e f s t):=by
 rw[qR ho.a ho.b hq] at h1
 rw[qR ho.c ho.d hq] at h2
 exact(decide_eq_true ⟨q,hm,of_decide_eq_true h1,of_decide_eq_true h2⟩).symm
theorem j2(ho:sQ s t)(h1q:ck (gI p.1 (gI g.2 e).1))(h2q:ck (gI p.1 (gI g.2 e).2))
   (h1:¬decide ((gI g.2 e).1∈[(gI g.2 f).1,(gI g.2 f).2])=true\/¬(db s.1 s.2 (gI p.1 (gI g.2 e).1)).1=true\/¬(db t.1 t.2 (gI p.1 (gI g.2 e).1)).1=true)
   (h2:¬decide ((gI g.2 e).2∈[(gI g.2 f).1,(gI g.2 f).2])=true\/¬(db s.1 s.2 (gI p.1 (gI g.2 e).2)).1=true\/¬(db t.1 t.2 (gI p.1 (gI g.2 e).2)).1=true):false=decide (eJ g p e f s t):=by
 refine(decide_eq_false ?_).symm
 rintro⟨x,hx,k1,k2⟩
 rw[qR ho.a ho.b h1q,qR ho.c ho.d h1q] at h1
 rw[qR ho.a ho.b h2q,qR ho.c ho.d h2q] at h2
 rcases vZ hx with⟨hm,rfl⟩|⟨hm,rfl⟩
 · rcases h1 with h|h|h
   · exact h (decide_eq_true hm)
   · exact h (decide_eq_true k1)
   · exact h (decide_eq_true k2)
 · rcases h2 with h|h|h
   · exact h (decide_eq_true hm)
   · exact h (decide_eq_true k1)
   · exact h (decide_eq_true k2)
theorem lY{a b c d:Pt}(ho:sQ (a,b) (c,d)):(cS a b c d).1=bL a b c d:=by unfold cS;rw[if_pos ⟨⟨ho.a,ho.b⟩,ho.c,ho.d⟩]
theorem tQ{a b c d:Pt}:dA a b c d=0\/dA a b c d=1\/dA a b c d=2\/dA a b c d=3:=by
 unfold dA;dsimp only;split
 · omega
 · split<;>omega
theorem qj{a b c d:Pt}:bL a b c d=0\/bL a b c d=1\/bL a b c d=2\/bL a b c d=3:=by
 unfold bL;split
 · exact tQ
 · split
   · omega
   · split<;>omega
variable{a b c d:Pt}
theorem xC(ho:sQ (a,b) (c,d))(h3:¬(cS a b c d).1=3)(h0:¬0<(cS a b c d).1):decide (di (a,b) (c,d) (iE g p e f))=true:=by
 rw[lY ho] at h3 h0
 refine decide_eq_true (.inl ?_)
 rcases qj (a:=a) (b:=b) (c:=c) (d:=d) with h|h|h|h<;>simp only<;>omega
theorem xm(ho:sQ (a,b) (c,d))(h3:¬(cS a b c d).1=3)(h0:0<(cS a b c d).1)(hs:decide (eJ g p e f (a,b) (c,d))=true):decide (di (a,b) (c,d) (iE g p e f))=true:=by
 rw[lY ho] at h3 h0
 refine decide_eq_true (.inr ⟨?_,of_decide_eq_true hs⟩)
 rcases qj (a:=a) (b:=b) (c:=c) (d:=d) with h|h|h|h<;>simp only<;>omega
theorem xk(ho:sQ (a,b) (c,d))(h3:(cS a b c d).1=3):¬decide (di (a,b) (c,d) (iE g p e f))=true:=by
 rw[lY ho] at h3
 intro h
 rcases of_decide_eq_true h with h|⟨h,_⟩<;>simp only at h<;>omega
theorem xH(ho:sQ (a,b) (c,d))(h0:0<(cS a b c d).1)(hs:¬decide (eJ g p e f (a,b) (c,d))=true):¬decide (di (a,b) (c,d) (iE g p e f))=true:=by
 rw[lY ho] at h0
 intro h
 rcases of_decide_eq_true h with h|⟨_,h⟩
 · simp only at h;omega
 · exact hs (decide_eq_true h)
end
def kW(g:cP)(p:cv)(e f:Int):Prop:=¬jl (gI p.2 e) (gI p.2 f) (iE g p e f)
instance (g:cP)(p:cv)(e f:Int):Decidable (kW g p e f):=by unfold kW;infer_instance
theorem wJ{g:cP}{p:cv}{e f:Int}(h:false=decide (jl (gI p.2 e) (gI p.2 f) (iE g p e f))):true=decide (kW g p e f):=
 (decide_eq_true (of_decide_eq_false h.symm)).symm
theorem xK{g:cP}{p:cv}{e f:Int}(h:true=decide (jl (gI p.2 e) (gI p.2 f) (iE g p e f))):false=decide (kW g p e f):=
 (decide_eq_false (λc=>c (of_decide_eq_true h.symm))).symm
def kO(g:cP)(p:cv)(e:Nat):Nat->Int
 |0=>0
 |f+1=>kO g p e f+if e<f/\kW g p (e:Int) (f:Int) then 1 else 0
def kD(g:cP)(p:cv)(m:Nat):Nat->Int
 |0=>0
 |e+1=>kD g p m e+kO g p e m
def aS(g:cP)(p:cv):Int×Int:=if bl g p=0 then(kD g p g.2.length g.2.length,0) else(0,bl g p)
section
variable{g:cP}{p:cv}{e m:Nat}
theorem pY:∀f:Nat,f<=e+1->kO g p e f=0
 |0,_=>rfl
 |f+1,h=>by unfold kO;rw[pY f (by omega),if_neg (λc=>by omega)];rfl
theorem ow:∀f:Nat,0<=kO g p e f/\kO g p e f<=f
 |0=>⟨Int.le_refl _,Int.le_refl _⟩
 |f+1=>by have:=ow f;unfold kO;split<;>omega
theorem sr(hm:m<=3072):∀e:Nat,0<=kD g p m e/\kD g p m e<=3072*(e:Int)
 |0=>⟨Int.le_refl _,Int.le_refl _⟩
 |e+1=>by
   have:=sr hm e
   have:=ow (g:=g) (p:=p) (e:=e) m
   unfold kD;omega
theorem xB{n:Int}{f:Nat}(h:n=kD g p m e+kO g p e f/\e<f)(hb:decide (kW g p (e:Int) (f:Int))=true):n+1=kD g p m e+kO g p e (f+1)/\e<f+1:=by
 refine⟨?_,by omega⟩
 unfold kO;rw[if_pos ⟨h.2,of_decide_eq_true hb⟩,h.1];omega
theorem xD{n:Int}{f:Nat}(h:n=kD g p m e+kO g p e f/\e<f)(hb:¬decide (kW g p (e:Int) (f:Int))=true):n=kD g p m e+kO g p e (f+1)/\e<f+1:=by
 refine⟨?_,by omega⟩
 unfold kO;rw[if_neg (λc=>hb (decide_eq_true c.2)),h.1];omega
theorem n7(h:∀e f:Nat,e<f->f<m->¬kW g p (e:Int) (f:Int)):∀e:Nat,kD g p m e=0
 |0=>rfl
 |e+1=>by
   unfold kD;rw[n7 h e]
   have:∀f:Nat,f<=m->kO g p e f=0:=by
     intro f
     induction f with
     |zero=>intro _;rfl
     |succ f ih=>intro hf;unfold kO;rw[ih (by omega),if_neg (λc=>h e f c.1 (by omega) c.2)];rfl
   rw[this m (Nat.le_refl _)];rfl
theorem oV{q:cv}(h:∀f:Nat,f<m->(kW g p (e:Int) (f:Int)↔kW g q (e:Int) (f:Int))):∀f:Nat,f<=m->kO g p e f=kO g q e f
 |0,_=>rfl
 |f+1,hf=>by
   unfold kO;rw[oV h f (by omega)]
   have:=h f (by omega)
   by_cases c:e<f/\kW g p (e:Int) (f:Int)
   · rw[if_pos c,if_pos ⟨c.1,this.1 c.2⟩]
   · rw[if_neg c,if_neg (λd=>c ⟨d.1,this.2 d.2⟩)]
theorem oM{q:cv}(h:∀e f:Nat,e<m->f<m->(kW g p (e:Int) (f:Int)↔kW g q (e:Int) (f:Int))):∀e:Nat,e<=m->kD g p m e=kD g q m e
 |0,_=>rfl
 |e+1,he=>by unfold kD;rw[oM h e (by omega),oV (m:=m) (λf hf=>h e f (by omega) hf) m (Nat.le_refl _)]
end
end TL
/-
  TlLit: a list of lists that is written out, with one list in it, as an owned list of lists.
  By an AI agent.
-/
set_option linter.all false
namespace TL
open Go
end TL
namespace TL
open Go
end TL
namespace TL
open Go
theorem ld{P:Program}{f:Fr}{w:World}{dst:Option Tmp}{ty:TypeId}{pos:String}{after:Array Edge}{g:Option (Nat×Bool)}{x:Operand}{a:Nat}{fid:Nat}{fn:Func}{at_:Array TypeId}(hf:P.funcs[fid]? =some fn)(hname:(fn.name== "runtime.NumGoroutine")=false)(hb:fn.body.isNone=true)(hn:(Extern.findNext fn).isNone=true)(he:Extern.find fn=some Extern.MathFloatBits.float64bits)(hx:ev f x= .float .f64 a):
   (execOp (ev f) ⟨dst,.call {callee:=.value (.func fid),args:= #[x],argTypes:=at_},ty,pos,after,g⟩).run P w= .ok (.value (.int .u64 (a:Int))) w:=
 ra hf hname hb hn he hx rfl
theorem vX{P:Program}{f:Fr}{w:World}{dst:Option Tmp}{ty:TypeId}{pos:String}{after:Array Edge}{g:Option (Nat×Bool)}{t t':TypeId}{x y:Operand}{a b:Nat}(hx:ev f x= .float .f64 a)(hy:ev f y= .float .f64 b)(ha:a<=br)(hb:b<=br):(execOp (ev f) ⟨dst,.binOp .geq t x y t',ty,pos,after,g⟩).run P w= .ok (.value (.bool (decide (b<=a)))) w:=
 oh hx hy (λw=>by
   rw[binOp_float_cmp_geq]
   show Sem.run P (pure (Value.bool (Ieee.double.order a b==some .gt||Ieee.double.order a b==some .eq))) w=_
   rw[gP ha hb]
   rcases Nat.lt_trichotomy a b with h|h|h
   · rw[ip h,decide_eq_false (by omega)];rfl
   · rw[h,gV,decide_eq_true (by omega)];rfl
   · rw[ir h,decide_eq_true (by omega)];rfl)
end TL
/-
  TlMet4: numbers with a sign, and angles, of layer 29 (metric).
  By an AI agent.
-/
set_option linter.all false
namespace TL
open Go Ieee
theorem mq{x:Nat}(h:jG x):(∃s m i,double.read x= .number s m i)\/∃s,double.read x= .infinity s:=by
 cases e:double.read x with
 |nan q t=>exact absurd e (h q t)
 |infinity s=>exact .inr ⟨s,rfl⟩
 |number s m i=>exact .inl ⟨s,m,i,rfl⟩
theorem la{a b:Nat}(ha:jG a)(hb:jG b):∃o,double.order a b=some o:=by
 unfold Format.order
 rcases mq ha with⟨s,m,i,e⟩|⟨s,e⟩<;>rcases mq hb with⟨t,n,j,e'⟩|⟨t,e'⟩<;>rw[e,e']<;>exact⟨_,rfl⟩
def gr(a b:Nat):Nat:=match double.order a b with
 |some .lt=>b
 |some .gt=>a
 |some .eq=>if(double.read a).neg then b else a
 |none=>ke
theorem qK{a b:Nat}(ha:jG a)(hb:jG b):jG (gr a b):=by
 obtain⟨o,e⟩:=la ha hb
 unfold gr;rw[e]
 cases o with
 |lt=>exact hb
 |gt=>exact ha
 |eq=>dsimp only;split<;>assumption
theorem rX(m:Int):jG (aF m):=by
 unfold aF FloatKind.nearest FloatKind.encode
 exact hP (d:=.number (m<0) m.natAbs 0) (λq t=>by simp)
theorem pf{x y:Nat}(hx:jG x)(hy:y<br)(h:¬y=0):double.div x y=some (bb x y)/\jG (bb x y):=by
 have h0:¬mg y=0:=λe=>h (fA.1 e)
 have:∃d,(double.read x).quotient (double.fractionBits+2) (double.read y)=some d/\∀q t,d≠ .nan q t:=by
   rw[cw hy]
   rcases mq hx with⟨s,m,i,e⟩|⟨s,e⟩<;>rw[e]
   · simp only[Datum.quotient,if_neg h0]
     exact⟨_,rfl,λq t=>by simp⟩
   · exact⟨_,rfl,λq t=>by simp⟩
 obtain⟨d,h1,h2⟩:=this
 have h3:double.div x y=some (double.write d):=by unfold Format.div;rw[h1];rfl
 unfold bb;rw[h3];exact⟨rfl,hP h2⟩
theorem wt:jG 13830554455654793216:=by
 have h:double.read 13830554455654793216= .number true 4503599627370496 (-52):=by decide
 intro q t;rw[h];simp
section
variable{P:Program}{f:Fr}{w:World}{dst:Option Tmp}{ty:TypeId}{pos:String}{after:Array Edge}{g:Option (Nat×Bool)}{x y:Operand}{a b:Nat}
theorem uR{at_:Array TypeId}(hx:ev f x= .float .f64 a)(hy:ev f y= .float .f64 b)(ha:jG a)(hb:jG b):(execOp (ev f) ⟨dst,.call {callee:=.builtin .max,args:= #[x,y],argTypes:=at_},ty,pos,after,g⟩).run P w= .ok (.value (.float .f64 (gr a b))) w:=by
 have h:(Builtin.max2 (.float .f64 a) (.float .f64 b)).run P w= .ok (.float .f64 (gr a b)) w:=by
   obtain⟨o,e⟩:=la ha hb
   have e':FloatKind.f64.format.order a b=some o:=e
   unfold gr
   cases o with
   |lt=>simp only[Builtin.max2,e',e];rfl
   |gt=>simp only[Builtin.max2,e',e];rfl
   |eq=>simp only[Builtin.max2,e',e];rfl
 simp[execOp,resolve,invoke,builtin,hx,hy,Builtin.max_,h]
end
def sG(w:kN):Prop:=(-2097152<=w.1/\w.1<=2097152)/\(-2097152<=w.2.1/\w.2.1<=2097152)/\1000*4503599627370496<=w.2.2/\w.2.2<=1100*4503599627370496
theorem vJ{a b:Pt}(ha:ck a)(hb:ck b)(h:¬a=b):sG (lI a b):=by
 have hI:br=9218868437227405312:=rfl
 obtain⟨s1,s2⟩:=kK ha hb
 have hs:=o9 a b
 have hpos:nQ a b≠0:=λe=>s2 h (by unfold bC;rw[e,qS];decide+kernel)
 have hlow:1000*4503599627370496<=aJ (bC a b):=by
   obtain⟨⟨a1,a2⟩,a3,a4⟩:=ha
   obtain⟨⟨b1,b2⟩,b3,b4⟩:=hb
   have m3:=l5 (x:=b.1-a.1) (by omega) (by omega)
   have m4:=l5 (x:=b.2-a.2) (by omega) (by omega)
   have hlt:nQ a b<9223372036854775808:=by unfold nQ;omega
   have hf:bC a b=oE (nQ a b).toNat:=by
     unfold bC
     conv=>lhs;rw[show nQ a b=(((nQ a b).toNat:Nat):Int) by omega]
     exact iP _
   refine tG (by have:=ku hs hlt;unfold bC;omega) ?_
   rw[hf];exact uv (by omega)
 obtain⟨⟨a1,a2⟩,a3,a4⟩:=ha
 obtain⟨⟨b1,b2⟩,b3,b4⟩:=hb
 unfold lI sG
 dsimp only
 omega
theorem pa{L:List (List kN)}{a b:Pt}{v:Int}(ha:ck a)(hb:ck b)(h:∀v,∀w∈gI L v,sG w):∀u,∀w∈gI (ia L a b v) u,sG w:=by
 intro u w hw
 unfold ia at hw
 split at hw
 · exact h u w hw
 · rename_i hne
   unfold gI at hw
   rw[List.getD_eq_getElem?_getD,List.getElem?_set] at hw
   split at hw
   · split at hw
     · have hw2:w∈gI L v++[lI a b]:=hw
       rcases List.mem_append.1 hw2 with k|k
       · exact h v w k
       · obtain rfl:=List.mem_singleton.1 k;exact vJ ha hb hne
     · cases hw
   · rw[<-List.getD_eq_getElem?_getD] at hw;exact h u w hw
theorem nN{g:cP}{p:cv}(hs:kP g p):∀e:Nat,e<=p.2.length->∀v,∀w∈gI (aE g p e) v,sG w
 |0,_,v,w,hw=>by
   unfold aE gI at hw
   rw[List.getD_eq_getElem?_getD,List.getElem?_replicate] at hw
   split at hw<;>cases hw
 |e+1,he,v,w,hw=>by
   obtain⟨h1,h2,h3⟩:=hs.ln (e:Int) (by omega) (by omega)
   have k:=λ(i:Int) (h0:0<=i) (hi:i<((gI p.2 (e:Int)).length:Int))=>h3 _ (ba h0 hi)
   unfold aE at hw
   exact pa (k _ (by omega) (by omega)) (k _ (by omega) (by omega)) (pa (k _ (by omega) (by omega)) (k _ (by omega) (by omega)) (nN hs e (by omega))) v w hw
def xr(a b:kN):Int:=a.1*b.1+a.2.1*b.2.1
def xI(a b:kN):Nat:=bb (aF (xr a b)) (dv a.2.2 b.2.2)
def r6(m:Nat)(a:kN)(bs:List kN):Nat->Nat
 |0=>m
 |j+1=>gr (r6 m a bs j) (xI a (gI bs (j:Int)))
def kR(r:List kN)(i:Nat):List kN:=List.drop (Int.toNat ((i:Int)+1)) (List.take (Int.toNat (r.length:Int)) r)
def nB(m:Nat)(r:List kN):Nat->Nat
 |0=>m
 |i+1=>r6 (nB m r i) (gI r (i:Int)) (kR r i) (kR r i).length
def jo(L:List (List kN)):Nat->Nat
 |0=>13830554455654793216
 |v+1=>nB (jo L v) (gI L (v:Int)) (gI L (v:Int)).length
def aV(g:cP)(p:cv):Nat×Int:=if bl g p=0 then(jo (aE g p g.2.length) (aE g p g.2.length).length,0) else(0,bl g p)
theorem lm{g:cP}{p:cv}(h:¬bl g p=0):aV g p=(0,bl g p):=by unfold aV;rw[if_neg h]
theorem jj{g:cP}{p:cv}(h:bl g p=0):aV g p=(jo (aE g p g.2.length) (aE g p g.2.length).length,0):=by unfold aV;rw[if_pos h]
theorem lf{g:cP}{p:cv}(h:¬bl g p=0):aS g p=(0,bl g p):=by unfold aS;rw[if_neg h]
theorem iL{g:cP}{p:cv}(h:bl g p=0):aS g p=(kD g p g.2.length g.2.length,0):=by unfold aS;rw[if_pos h]
theorem j7{a b:kN}(ha:sG a)(hb:sG b):dv a.2.2 b.2.2<br/\dv a.2.2 b.2.2≠0:=uy ha.2.2.1 ha.2.2.2 hb.2.2.1 hb.2.2.2
theorem iY{a:kN}(ha:sG a):a.2.2<br:=by
 have:=ha.2.2.2
 have hI:br=9218868437227405312:=rfl
 omega
theorem uU{x y:Int}(h1: -2097152<=x)(h2:x<=2097152)(h3: -2097152<=y)(h4:y<=2097152): -4398046511104<=x*y/\x*y<=4398046511104:=by
 have k1:x*y<=4398046511104:=by
   rcases Int.le_total 0 x with hx|hx<;>rcases Int.le_total 0 y with hy|hy
   · calc x*y<=2097152*2097152:=Int.mul_le_mul h2 h4 hy (by omega)
       _=_:=rfl
   · have:=Int.mul_nonpos_of_nonneg_of_nonpos hx hy;omega
   · have:=Int.mul_nonpos_of_nonpos_of_nonneg hx hy;omega
   · rw[<-Int.neg_mul_neg]
     calc(-x)*(-y)<=2097152*2097152:=Int.mul_le_mul (by omega) (by omega) (by omega) (by omega)
       _=_:=rfl
 have k2: -(x*y)<=4398046511104:=by
   rw[<-Int.neg_mul]
   rcases Int.le_total 0 x with hx|hx<;>rcases Int.le_total 0 y with hy|hy
   · have:=Int.mul_nonpos_of_nonpos_of_nonneg (show-x<=0 by omega) hy;omega
   · rw[<-Int.neg_mul_neg]
     calc(- -x)*(-y)<=2097152*2097152:=Int.mul_le_mul (by omega) (by omega) (by omega) (by omega)
       _=_:=rfl
   · calc(-x)*y<=2097152*2097152:=Int.mul_le_mul (by omega) (by omega) hy (by omega)
       _=_:=rfl
   · have:=Int.mul_nonpos_of_nonneg_of_nonpos (show 0<= -x by omega) hy;omega
 omega
end TL
namespace TL
theorem wY{x y:wG}(h0:decide (x.1=y.1)=true)(h1:decide (x.2.1=y.2.1)=true)(h2:decide (x.2.2.1=y.2.2.1)=true)(h3:decide (x.2.2.2.1=y.2.2.2.1)=true)(h4:decide (x.2.2.2.2.1=y.2.2.2.2.1)=true)(h5:decide (x.2.2.2.2.2.1=y.2.2.2.2.2.1)=true):decide (x.2.2.2.2.2.2=y.2.2.2.2.2.2)=decide (x=y):=by
 rw[decide_eq_decide]
 refine⟨λh=>?_,λh=>by rw[h]⟩
 exact Prod.ext (of_decide_eq_true h0) (Prod.ext (of_decide_eq_true h1) (Prod.ext (of_decide_eq_true h2) (Prod.ext (of_decide_eq_true h3) (Prod.ext (of_decide_eq_true h4) (Prod.ext (of_decide_eq_true h5) h)))))
theorem l6{α:Type}[DecidableEq α]{x y:wG}(k:wG->α)(h:¬decide (k x=k y)=true):false=decide (x=y):=
 (decide_eq_false (λe=>h (decide_eq_true (congrArg k e)))).symm
end TL
/-
  TlJTr: plots moved as a whole: their flaws.
  By an AI agent.
-/
set_option linter.all false
namespace TL
structure tK(T:Pt->Pt)(D:Pt->Prop):Prop where
  inj:∀a b,T a=T b->a=b
  ok:∀a,D a->(ck (T a)↔ck a)
  on:∀a b q,cA (T a) (T b) (T q)↔cA a b q
  meet:∀a b c d,ck a->ck b->ck c->ck d->ck (T a)->ck (T b)->ck (T c)->ck (T d)->bL (T a) (T b) (T c) (T d)=bL a b c d
def rg(a:Pt):Prop:=(-524288<=a.1/\a.1<=524288)/\ -524288<=a.2/\a.2<=524288
theorem ww{q:Pt}(hq:(-1000<=q.1/\q.1<=1000)/\ -1000<=q.2/\q.2<=1000):tK (λa=>bR a q) rg:=
 ⟨λa b h=>by
     have h1:=congrArg Prod.fst h
     have h2:=congrArg Prod.snd h
     simp only[bR] at h1 h2
     exact Prod.ext (by omega) (by omega),
  λa h=>by unfold rg at h;unfold ck bR;simp only;omega,λ_ _ _=>oL,λa b c d h1 h2 h3 h4 k1 k2 k3 k4=>rZ h1.bd h2.bd h3.bd h4.bd k1.bd k2.bd k3.bd k4.bd⟩
def s4(T:Pt->Pt)(p:cv):cv:=(p.1.map T,p.2.map (List.map T))
section
variable{T:Pt->Pt}{D:Pt->Prop}{g:cP}{p:cv}{l a b but:List Pt}{q:Pt}{i k:Nat}
theorem tK.eq(hT:tK T D){x y:Pt}:T x=T y↔x=y:=⟨hT.inj x y,λh=>by rw[h]⟩
theorem tK.both(hT:tK T D){x y u v z:Pt}:cD (T x) (T y) (T u) (T v) (T z)↔cD x y u v z:=by unfold cD;rw[hT.on,hT.on]
theorem tK.only(hT:tK T D){s t:Sg}(h1:ck s.1)(h2:ck s.2)(h3:ck t.1)(h4:ck t.2)(k1:ck (T s.1))(k2:ck (T s.2))(k3:ck (T t.1))(k4:ck (T t.2)):di (T s.1,T s.2) (T t.1,T t.2) (but.map T)↔di s t but:=by
 unfold di
 simp only
 rw[hT.meet _ _ _ _ h1 h2 h3 h4 k1 k2 k3 k4]
 have:(∃x∈but.map T,cD (T s.1) (T s.2) (T t.1) (T t.2) x)↔∃x∈but,cD s.1 s.2 t.1 t.2 x:=by
   constructor
   · rintro⟨x,hx,h⟩
     obtain⟨y,hy,rfl⟩:=List.mem_map.1 hx
     exact⟨y,hy,hT.both.1 h⟩
   · rintro⟨x,hx,h⟩
     exact⟨T x,List.mem_map_of_mem hx,hT.both.2 h⟩
 rw[this]
theorem tK.apa(hT:tK T D)(ha:dy a)(hb:dy b)(ha':dy (a.map T))(hb':dy (b.map T)):jl (a.map T) (b.map T) (but.map T)↔jl a b but:=by
 have dV:∀j:Nat,j+1<a.length->∀q:Nat,q+1<b.length->(di (gI (a.map T) (j:Int),gI (a.map T) ((j:Int)+1)) (gI (b.map T) (q:Int),gI (b.map T) ((q:Int)+1)) (but.map T)↔di (gI a (j:Int),gI a ((j:Int)+1)) (gI b (q:Int),gI b ((q:Int)+1)) but):=by
   intro j hj q hq
   rw[dx (by omega) (by omega),dx (by omega) (by omega),dx (by omega) (by omega),dx (by omega) (by omega)]
   have o1:∀i:Int,0<=i->i<a.length->ck (gI a i)/\ck (T (gI a i)):=λi h0 h1=>⟨ha.2 _ (ba h0 h1),ha'.2 _ (List.mem_map_of_mem (ba h0 h1))⟩
   have o2:∀i:Int,0<=i->i<b.length->ck (gI b i)/\ck (T (gI b i)):=λi h0 h1=>⟨hb.2 _ (ba h0 h1),hb'.2 _ (List.mem_map_of_mem (ba h0 h1))⟩
   have x1:=o1 (j:Int) (by omega) (by omega)
   have x2:=o1 ((j:Int)+1) (by omega) (by omega)
   have y1:=o2 (q:Int) (by omega) (by omega)
   have y2:=o2 ((q:Int)+1) (by omega) (by omega)
   exact hT.only (s:=(gI a (j:Int),gI a ((j:Int)+1))) (t:=(gI b (q:Int),gI b ((q:Int)+1))) x1.1 x2.1 y1.1 y2.1 x1.2 x2.2 y1.2 y2.2
 rw[jO,jO,List.length_map,List.length_map]
 exact⟨λh j hj q hq=>(dV j hj q hq).1 (h j hj q hq),λh j hj q hq=>(dV j hj q hq).2 (h j hj q hq)⟩
theorem r9{v:Int}(h0:0<=v)(h1:v<p.1.length):gI (s4 T p).1 v=T (gI p.1 v):=dx h0 h1
theorem jC{e:Int}(h0:0<=e)(h1:e<p.2.length):gI (s4 T p).2 e=(gI p.2 e).map T:=dx h0 h1
theorem jT:(s4 T p).1.length=p.1.length/\(s4 T p).2.length=p.2.length:=⟨List.length_map _,List.length_map _⟩
end
section
variable{g:cP}{p:cv}
end
def gX(p:cv):Nat->Int
 |0=>(p.1.length:Int)
 |k+1=>gX p k+((gI p.2 (k:Int)).length:Int)+1
theorem qf{p:cv}(h1:(p.1.length:Int)<=1048576)(h:∀l∈p.2,l.length<=1048576):∀k:Nat,(k:Int)<=p.2.length->0<=gX p k/\gX p k<=1048576+1048577*(k:Int)
 |0,_=>by unfold gX;omega
 |k+1,hk=>by
   have h2:=qf h1 h k (by omega)
   have h3:=h _ (ba (xs:=p.2) (i:=(k:Int)) (by omega) (by omega))
   unfold gX;omega
def dI(g:cP)(p:cv):Prop:=gX p p.2.length<=400/\(¬dp g\/g.1<=30/\(g.2.length:Int)<=40)
instance (g:cP)(p:cv):Decidable (dI g p):=by unfold dI;infer_instance
theorem pJ{p:cv}:∀k:Nat,(p.1.length:Int)+k<=gX p k/\∀e:Nat,e<k->((gI p.2 (e:Int)).length:Int)<=gX p k
 |0=>⟨by unfold gX;omega,λe he=>by omega⟩
 |k+1=>by
   obtain⟨h1,h2⟩:=pJ (p:=p) k
   refine⟨by unfold gX;omega,λe he=>?_⟩
   unfold gX
   by_cases c:e=k
   · subst c;omega
   · have:=h2 e (by omega);omega
theorem qH{g:cP}{p:cv}(h:dI g p):(dp g->(g.2.length:Int)<=2000)/\((p.1.length:Int)<=400/\(p.2.length:Int)<=400)/\∀e:Int,0<=e->e<p.2.length->((gI p.2 e).length:Int)<=400:=by
 obtain⟨h1,h2⟩:=pJ (p:=p) p.2.length
 obtain⟨h3,h4⟩:=h
 refine⟨λhm=>?_,⟨by omega,by omega⟩,λe h0 he=>?_⟩
 · rcases h4 with h4|h4
   · exact absurd hm h4
   · omega
 · have:=h2 e.toNat (by omega)
   rw[Int.toNat_of_nonneg h0] at this
   omega
end TL
namespace TL
def u5(q:Pt):Prop:=(-9223372036854775808<=q.1/\q.1<=9223372036854775807)/\ -9223372036854775808<=q.2/\q.2<=9223372036854775807
def vG(p:cv):Prop:=((p.1.length:Int)<=1048576/\(p.2.length:Int)<=1048576/\∀l∈p.2,l.length<=1048576)/\(∀q∈p.1,u5 q)/\∀l∈p.2,∀q∈l,u5 q
section
variable{g:cP}{p:cv}{l r:List Pt}{L:List (List Pt)}{k e:Nat}
end
end TL
namespace TL
section
variable{α:Type}[Inhabited α][DecidableEq α]{a b:List α}{k:Nat}
end
section
variable{g:cP}{p:cv}{n:Int}{e:Nat}
theorem xd(h:n=gX p e)(he:e=p.2.length)(h1:¬n<=400):false=decide (dI g p):=by
 subst he;exact(decide_eq_false λc=>h1 (by rw[h];exact c.1)).symm
theorem wQ(h:n=gX p e)(he:e=p.2.length)(h1:n<=400)(h2:¬dm g=true):true=decide (dI g p):=by
 subst he;exact(decide_eq_true ⟨by rw[<-h];exact h1,.inl λc=>h2 (decide_eq_true c)⟩).symm
theorem xa(h:n=gX p e)(he:e=p.2.length)(h1:n<=400)(h2:dm g=true)(h3:g.1<=30):decide ((g.2.length:Int)<=40)=decide (dI g p):=by
 subst he
 rw[decide_eq_decide]
 exact⟨λc=>⟨by rw[<-h];exact h1,.inr ⟨h3,c⟩⟩,λc=>(c.2.resolve_left λq=>q (of_decide_eq_true h2)).2⟩
theorem wN(h:n=gX p e)(he:e=p.2.length)(h1:n<=400)(h2:dm g=true)(h3:¬g.1<=30):false=decide (dI g p):=by
 subst he
 exact(decide_eq_false λc=>h3 (c.2.resolve_left λq=>q (of_decide_eq_true h2)).1).symm
end
end TL
/-
  TlMet5: a plot that is moved measures the same; a plot without flaws has no crossings, and a ratio from 1 up.
  By an AI agent.
-/
set_option linter.all false
namespace TL
open Go
theorem mA{l:List Pt}(h:∀q∈l,ck q):∀k:Nat,k+1<l.length->k<=400->iD l k<=(1064+2*k)*4503599627370496
 |0,hk,_=>(kK (h _ (ba (i:=((0:Nat):Int)) (by omega) (by omega))) (h _ (ba (i:=((0:Nat):Int)+1) (by omega) (by omega)))).1
 |k+1,hk,h4=>by
   have h1:=mA h k (by omega) (by omega)
   have h2:=(kK (h _ (ba (xs:=l) (i:=((k+1:Nat):Int)) (by omega) (by omega))) (h _ (ba (xs:=l) (i:=((k+1:Nat):Int)+1) (by omega) (by omega)))).1
   obtain⟨e,he⟩:∃e,e=1064+2*k:=⟨_,rfl⟩
   rw[<-he] at h1
   have h3:kg l (k+1)<=e*4503599627370496:=by
     unfold kg
     exact Nat.le_trans h2 (Nat.mul_le_mul_right _ (by clear h1 h2;omega))
   have h5:=wc h1 h3 (by clear h1 h2 h3;omega) (by clear h1 h2 h3;omega)
   have h6:1064+2*(k+1)=e+2:=by omega
   rw[h6]
   exact h5
theorem s7{l:List Pt}(h:∀q∈l,ck q)(h2:2<=l.length)(h4:l.length<=400):el l<br:=by
 have hI:br=9218868437227405312:=rfl
 have:=mA h (l.length-2) (by omega) (by omega)
 unfold el;omega
theorem fS{g:cP}{p:cv}(hs:kP g p)(h4:∀e:Int,0<=e->e<p.2.length->((gI p.2 e).length:Int)<=400)(k:Int):gI (aT p) k<br:=by
 have hI:br=9218868437227405312:=rfl
 by_cases h:k.toNat<p.2.length
 · have e:gI (aT p) k=el (gI p.2 (k.toNat:Int)):=by
     rw[show gI (aT p) k=gI (aT p) ((k.toNat:Nat):Int) by unfold gI;rfl]
     exact lH (by omega) (by omega)
   rw[e]
   have:=hs.ln (k.toNat:Int) (by omega) (by omega)
   exact s7 this.2.2 (by omega) (by have:=h4 (k.toNat:Int) (by omega) (by omega);omega)
 · unfold gI
   have e:(aT p).getD k.toNat default=0:=by simp[List.getD,aT,h]
   rw[e];decide
theorem kJ{l:List Pt}(h:∀q∈l,ck q)(h0:gI l 0≠gI l 1):∀k:Nat,k+1<l.length->k<=400->iD l k≠0
 |0,hk,_=>(kK (h _ (ba (i:=((0:Nat):Int)) (by omega) (by omega))) (h _ (ba (i:=((0:Nat):Int)+1) (by omega) (by omega)))).2 h0
 |k+1,hk,h4=>by
   have hI:br=9218868437227405312:=rfl
   have h1:=mA h k (by omega) (by omega)
   have h2:=(kK (h _ (ba (xs:=l) (i:=((k+1:Nat):Int)) (by omega) (by omega))) (h _ (ba (xs:=l) (i:=((k+1:Nat):Int)+1) (by omega) (by omega)))).1
   unfold iD
   exact uB (by omega) (by unfold kg;omega) (kJ h h0 k (by omega) (by omega))
theorem mc{l:List Nat}(h:∀k:Int,0<=k->k<l.length->gI l k≠0):∀k:Nat,k<=l.length->kw l k≠0
 |0,_=>by show br≠0;decide
 |k+1,hk=>by
   have h1:=mc h k (by omega)
   have h2:=h (k:Int) (by omega) (by omega)
   unfold kw;omega
theorem pi{l:List Nat}:∀k:Nat,kw l (k+1)<=gI l (k:Int)/\gI l (k:Int)<=kf l (k+1)
 |k=>by unfold kw kf;omega
theorem lZ{l:List Nat}(h:∀k:Int,gI l k<br):∀k:Nat,kf l k<br
 |0=>by show 0<br;decide
 |k+1=>by have:=lZ h k;have:=h (k:Int);unfold kf;omega
theorem sf{g:cP}{p:cv}(hm:dp g)(hf:bl g p=0)(hc:du g p=[])(h4:∀e:Int,0<=e->e<p.2.length->((gI p.2 e).length:Int)<=400)(hn:0<(g.2.length:Int)):4607182418800017408<=(al g p).1.2.2.2.2.1:=by
 have hck:=oF.1 hc
 have hs:=hck.sh
 have hs2:=hs.m
 rw[d8 hf]
 show 4607182418800017408<=im (aT p)
 unfold im
 have hl:(aT p).length=p.2.length:=List.length_map _
 obtain⟨n,hn2⟩:∃n,(aT p).length=n+1:=⟨(aT p).length-1,by omega⟩
 have hpos:∀k:Int,0<=k->k<(aT p).length->gI (aT p) k≠0:=by
   intro k h0 h1
   rw[lH h0 (by omega)]
   obtain⟨a1,a2⟩:=hs.ln k h0 (by omega)
   have h400:=h4 k h0 (by omega)
   have hsim:=(hck.si k h0 (by omega)) 0 (by omega) (by omega)
   unfold el
   exact kJ a2.2 hsim.1 _ (by omega) (by omega)
 rw[hn2]
 have hq:=pi (l:=aT p) n
 exact tg (lZ (fS hs h4) _) (by omega) (mc hpos (n+1) (by omega))
theorem tn{g:cP}{p:cv}(hc:du g p=[]):(aS g p).1=0:=by
 have hck:=oF.1 hc
 have hs2:=hck.sh.m
 unfold aS
 split
 · exact n7 (λe f hef hf c=>c (hck.ap e f hef (by omega))) _
 · rfl
section
variable{g:cP}{p:cv}{t:Pt}
abbrev dO(t:Pt)(p:cv):cv:=s4 (λa=>bR a t) p
theorem pP(a b:Pt):nQ (bR a t) (bR b t)=nQ a b:=by
 unfold nQ bR
 have e1:b.1+t.1-(a.1+t.1)=b.1-a.1:=by omega
 have e2:b.2+t.2-(a.2+t.2)=b.2-a.2:=by omega
 rw[e1,e2]
theorem uo{a b:Pt}:bR a t=bR b t↔a=b:=by
 refine⟨λh=>?_,λh=>by rw[h]⟩
 have h1:=congrArg Prod.fst h
 have h2:=congrArg Prod.snd h
 simp only[bR] at h1 h2
 exact Prod.ext (by omega) (by omega)
theorem mV{l:List Pt}{k:Nat}(h:k+1<l.length):kg (l.map λa=>bR a t) k=kg l k:=by
 unfold kg bC
 rw[dx (by omega) (by omega),dx (by omega) (by omega),pP]
theorem mQ{l:List Pt}:∀k:Nat,k+1<l.length->iD (l.map λa=>bR a t) k=iD l k
 |0,h=>mV h
 |k+1,h=>by unfold iD;rw[mQ k (by omega),mV h]
theorem n3(hs:kP g p):aT (dO t p)=aT p:=by
 unfold aT
 show(p.2.map (List.map λa=>bR a t)).map el=_
 rw[List.map_map]
 refine List.map_congr_left λl hl=>?_
 obtain⟨j,hj,rfl⟩:=vr hl
 have:=hs.ln (j:Int) (by omega) (by omega)
 show el (List.map _ _)=_
 unfold el
 rw[List.length_map]
 exact mQ _ (by omega)
theorem s6(a b:Pt):lI (bR a t) (bR b t)=lI a b:=by
 unfold lI bC
 rw[pP]
 unfold bR
 have e1:b.1+t.1-(a.1+t.1)=b.1-a.1:=by omega
 have e2:b.2+t.2-(a.2+t.2)=b.2-a.2:=by omega
 rw[e1,e2]
theorem mP(L:List (List kN))(a b:Pt)(v:Int):ia L (bR a t) (bR b t) v=ia L a b v:=by
 unfold ia
 rw[s6]
 by_cases c:a=b
 · rw[if_pos c,if_pos (by rw[c])]
 · rw[if_neg c,if_neg (λe=>c (uo.1 e))]
theorem l8(hs:kP g p):∀e:Nat,e<=p.2.length->aE g (dO t p) e=aE g p e
 |0,_=>rfl
 |e+1,he=>by
   have:=hs.ln (e:Int) (by omega) (by omega)
   unfold aE
   rw[l8 hs e (by omega),jC (by omega) (by omega),List.length_map,dx (by omega) (by omega),dx (by omega) (by omega),dx (by omega) (by omega),dx (by omega) (by omega),mP,mP]
theorem rE:bx (dO t p)=(bx p).map λa=>bR a t:=by
 unfold bx
 show p.1.map _++(p.2.map _).flatten=_
 rw[List.map_append,List.map_flatten]
theorem rW{l:List Pt}(h:l≠[]):∀k:Nat,k<=l.length->lG (l.map λa=>bR a t) k=bR (lG l k) t/\m8 (l.map λa=>bR a t) k=bR (m8 l k) t
 |0,_=>by
   have h0:0<l.length:=by cases l;exact absurd rfl h;simp
   unfold lG m8
   rw[dx (by omega) (by omega)];exact⟨rfl,rfl⟩
 |k+1,hk=>by
   obtain⟨h1,h2⟩:=rW h k (by omega)
   unfold lG m8
   rw[h1,h2,dx (by omega) (by omega)]
   unfold bR
   constructor
   · exact Prod.ext (by simp only;omega) (by simp only;omega)
   · exact Prod.ext (by simp only;omega) (by simp only;omega)
theorem rN:eT (dO t p)=eT p:=by
 unfold eT
 rw[rE,List.length_map]
 split
 · rename_i h
   have hne:bx p≠[]:=λe=>by rw[e] at h;simp at h
   obtain⟨h1,h2⟩:=rW (t:=t) hne (bx p).length (Nat.le_refl _)
   rw[h1,h2]
   unfold bR
   exact Prod.ext (by simp only;omega) (by simp only;omega)
 · rfl
theorem r8:k9 g (dO t p)=k9 g p:=by
 have h:=rN (p:=p) (t:=t)
 unfold k9
 have e1:(dL (dO t p)).2.1=(dL p).2.1:=show(eT _).1=(eT _).1 from congrArg Prod.fst h
 have e2:(dL (dO t p)).2.2.1=(dL p).2.2.1:=show(eT _).2=(eT _).2 from congrArg Prod.snd h
 rw[e1,e2]
theorem r3(hs:kP g p)(hq:dy (bx (dO t p))):kP g (dO t p):=by
 have l1:(dO t p).1.length=p.1.length:=jT.1
 have l2:(dO t p).2.length=p.2.length:=jT.2
 have hs1:=hs.n
 have hs2:=hs.m
 refine⟨by omega,by omega,λv h0 h1=>hq.2 _ ?_,λe h0 h1=>?_⟩
 · unfold bx;exact List.mem_append_left _ (ba h0 h1)
 · have k:=hs.ln e h0 (by omega)
   have e1:gI (dO t p).2 e=(gI p.2 e).map λa=>bR a t:=jC h0 (by omega)
   refine⟨by rw[e1,List.length_map];exact k.1,?_,λq hq2=>hq.2 _ ?_⟩
   · rw[e1,List.length_map];exact k.2.1
   · unfold bx;exact List.mem_append_right _ (List.mem_flatten.2 ⟨_,ba h0 h1,hq2⟩)
theorem jy(hf:bl g p=0)(hq:dy (bx (dO t p))):bl g (dO t p)=0:=by
 obtain⟨hm,hs,_⟩:=ey hf
 rw[lD hm,kz hm (fQ.2 (r3 hs hq))]
theorem lJ(hf:bl g p=0)(hq:dy (bx (dO t p))):al g (dO t p)=al g p:=by
 obtain⟨hm,hs,_⟩:=ey hf
 rw[d8 hf,d8 (jy hf hq),n3 hs,r8]
theorem jt(hf:bl g p=0)(hq:dy (bx (dO t p))):aV g (dO t p)=aV g p:=by
 obtain⟨hm,hs,_⟩:=ey hf
 have hs2:=hs.m
 rw[jj hf,jj (jy hf hq),l8 hs _ (by omega)]
theorem jw(ht:(-1000<=t.1/\t.1<=1000)/\ -1000<=t.2/\t.2<=1000)(hf:bl g p=0)(hq:dy (bx (dO t p))):aS g (dO t p)=aS g p:=by
 obtain⟨hm,hs,_⟩:=ey hf
 have hs':=r3 hs hq
 have hs1:=hs.n
 have hs2:=hs.m
 have l2:(dO t p).2.length=p.2.length:=jT.2
 rw[iL hf,iL (jy hf hq)]
 congr 1
 refine(oM (λe f he hf2=>?_) _ (Nat.le_refl _)).symm
 obtain⟨hm1,hm2,hm3,hm4⟩:=hm
 obtain⟨⟨x1,x2⟩,x3,x4⟩:=hm4 _ (ba (xs:=g.2) (i:=(e:Int)) (by omega) (by omega))
 have es:iE g (dO t p) (e:Int) (f:Int)=(iE g p (e:Int) (f:Int)).map λa=>bR a t:=by
   unfold iE fl
   rw[r9 x1 (by omega),r9 x3 (by omega),List.map_append]
   split<;>split<;>rfl
 have k1:=(hs.ln (e:Int) (by omega) (by omega)).2
 have k2:=(hs.ln (f:Int) (by omega) (by omega)).2
 have k3:=(hs'.ln (e:Int) (by omega) (by omega)).2
 have k4:=(hs'.ln (f:Int) (by omega) (by omega)).2
 rw[jC (by omega) (by omega)] at k3 k4
 unfold kW
 rw[jC (by omega) (by omega),jC (by omega) (by omega),es]
 exact not_congr ((ww ht).apa k1 k2 k3 k4).symm
end
end TL
namespace TL
open Go
theorem rD{g:cP}{p:cv}(hf:bl g p=0)(hc:du g p=[])(h4:∀e:Int,0<=e->e<p.2.length->((gI p.2 e).length:Int)<=400)(hn:0<(g.2.length:Int)):(al g p).1.2.2.2.2.1<=br:=by
 have hck:=oF.1 hc
 have hs:=hck.sh
 have hs2:=hs.m
 rw[d8 hf]
 show im (aT p)<=br
 unfold im
 have hl:(aT p).length=p.2.length:=List.length_map _
 obtain⟨n,hn2⟩:∃n,(aT p).length=n+1:=⟨(aT p).length-1,by omega⟩
 have hpos:∀k:Int,0<=k->k<(aT p).length->gI (aT p) k≠0:=by
   intro k h0 h1
   rw[lH h0 (by omega)]
   obtain⟨a1,a2⟩:=hs.ln k h0 (by omega)
   have h400:=h4 k h0 (by omega)
   have hsim:=(hck.si k h0 (by omega)) 0 (by omega) (by omega)
   unfold el
   exact kJ a2.2 hsim.1 _ (by omega) (by omega)
 rw[hn2]
 have hq:=pi (l:=aT p) n
 have hx:=fS hs h4 (n:Int)
 exact(mh (Nat.le_of_lt (lZ (fS hs h4) _)) (by omega) (mc hpos (n+1) (by omega))).2
theorem wI{g:cP}{p:cv}(h:(al g p).2=0):bl g p=0:=by
 unfold al at h
 by_cases c:bl g p=0
 · exact c
 · rw[if_neg c] at h;exact h
theorem rj{g:cP}{p:cv}(h:¬(al g p).2=0):(aS g p).1=0:=by
 unfold aS
 by_cases c:bl g p=0
 · exact absurd (by rw[d8 c]) h
 · rw[if_neg c]
theorem lQ{α:Type}{l:List α}(h:(l.length:Int)=0):l=[]:=List.eq_nil_of_length_eq_zero (by omega)
theorem mw{p:cv}{t:Pt}(h:∀e:Int,0<=e->e<p.2.length->((gI p.2 e).length:Int)<=400):∀e:Int,0<=e->e<(dO t p).2.length->((gI (dO t p).2 e).length:Int)<=400:=λe h0 h1=>by
 have l2:(dO t p).2.length=p.2.length:=jT.2
 rw[jC h0 (by omega),List.length_map];exact h e h0 (by omega)
theorem jq{g:cP}{p:cv}{t:Pt}(hs:kP g p)(h4:∀e:Int,0<=e->e<p.2.length->((gI p.2 e).length:Int)<=400)(k:Int):gI (aT (dO t p)) k<br:=by
 rw[n3 hs];exact fS hs h4 k
end TL
/-
  TlJMov: a plot moved, its nodes named anew: as many flaws of each kind, and the same told of it.
  By an AI agent.
-/
set_option linter.all false
namespace TL
section
variable{f h:Nat->Nat}{F:Nat->Nat->Nat}{n m:Nat}
end
section
variable{n:Nat}{s:Nat->Nat}{E E':Nat->Nat->Prop}[∀v w,Decidable (E v w)][∀v w,Decidable (E' v w)]
end
section
variable{g:cP}{p q:cv}{to:List Int}
end
section
variable{g:cP}{p q:cv}{to:List Int}{t:Pt}
end
end TL
namespace TL
section
variable{g:cP}{p:cv}{to:List Int}{t:Pt}{qA l r:List Pt}{qL L:List (List Pt)}{v e k i:Nat}
theorem i3(h:r=(l.take k).map λa=>bR a t)(hk:(k:Int)<l.length):r++[((gI l (k:Int)).1+t.1,(gI l (k:Int)).2+t.2)]=(l.take (k+1)).map λa=>bR a t:=by
 rw[e9 hk,List.map_append,h];rfl
theorem jx(h:r=(l.take k).map λa=>bR a t):r.length<=k:=by rw[h,List.length_map,List.length_take];omega
theorem m5(h:L=(p.2.take e).map (List.map λa=>bR a t))(he:(e:Int)<p.2.length)(hr:r=((gI p.2 (e:Int)).take k).map λa=>bR a t)(hk:¬(k:Int)<(gI p.2 (e:Int)).length):L++[r]=(p.2.take (e+1)).map (List.map λa=>bR a t):=by
 have e1:(gI p.2 (e:Int)).take k=gI p.2 (e:Int):=List.take_of_length_le (by omega)
 rw[e9 he,List.map_append,h,hr,e1];rfl
theorem nV(h:L=(p.2.take e).map (List.map λa=>bR a t)):L.length<=e:=by rw[h,List.length_map,List.length_take];omega
end
end TL
