/- Plain texts of this claim, part 0. By an AI agent. -/
import Derived.Below
import Derived.Deep.Quiet
import Derived.Laws.AppendOwn
import Derived.Laws.MakeOwn
import Derived.Laws.Sem
import Derived.StillTail
set_option linter.all false
namespace TL
open Go
abbrev Fr:=Nat->Value
def gv(f:Fr)(d:Option Nat)(v:Value):Fr:=
 match d with
 |some d=>λi=>bif Nat.beq i d then v else f i
 |none=>f
def ev(f:Fr):Operand->Value
 | .tmp t=>f t
 | .const v=>v
 | .global g=>.pointer (some ⟨g,0,none⟩)
 | .func g=>.func (.func g) #[] #[]
structure Ag(n:Nat)(a:Act)(f:Fr):Prop where
 defers:a.defers=[]
 size:a.tmps.size=n
 get:∀i,a.tmps.getD i undef=f i
theorem Ag.eval{n:Nat}{a:Act}{f:Fr}(h:Ag n a f):a.eval=ev f:=by
 funext x
 cases x<;>simp[Act.eval,ev]
 rename_i t
 have:=h.get t
 simpa using this
def kr(n:Nat)(o:Oper):Bool:=
 match o.dst with
 |some d=>Nat.blt d n
 |none=>true
theorem Ag.put{n:Nat}{a:Act}{f:Fr}(h:Ag n a f){o:Oper}(ho:kr n o=true)(v:Value):Ag n (a.put o.dst v) (gv f o.dst v):=by
 unfold kr at ho
 cases hd:o.dst with
 |none=>simpa[Act.put,gv] using h
 |some d=>
   rw[hd] at ho
   have hlt:d<n:=by simpa using ho
   refine⟨by simpa[Act.put] using h.defers,by simpa[Act.put] using h.size,λi=>?_⟩
   have hs:=h.size
   have hg:=h.get i
   simp only[Act.put,gv]
   by_cases hi:i=d
   · subst hi
     simp[hs,hlt]
   · have hb:Nat.beq i d=false:=by
       cases hb:Nat.beq i d with
       |false=>rfl
       |true=>exact absurd (Nat.eq_of_beq_eq_true hb) hi
     simp only[hb,cond_false]
     rw[<-hg]
     simp[Array.getElem?_setIfInBounds_ne (Ne.symm hi)]
def yF(all:List Oper)(f:Fr)(j:Nat):Option Bool:=
  match(all[j]?).bind (·.dst) with
  |some d=>match f d with
    | .bool b=>some b
    |_=>none
  |none=>none
theorem Ag.yielded{n:Nat}{a:Act}{f:Fr}(h:Ag n a f)(all:List Oper):Go.yielded all.toArray a.tmps=yF all f:=by
 funext j
 simp only[Go.yielded,yF,List.getElem?_toArray]
 cases hd:(all[j]?).bind (·.dst) with
 |none=>simp
 |some d=>
   simp only[Option.bind_some]
   have hg:=h.get d
   cases ht:a.tmps[d]? with
   |none=>
     simp[ht] at hg
     simp[<-hg,undef]
   |some v=>
     simp only[Array.getD_eq_getD_getElem?,ht,Option.getD_some] at hg
     rw[<-hg]
     cases v<;>rfl
def cN(all:List Oper)(o:Oper)(f:Fr):Bool:=Region.wanted o (yF all f)
def AQ(P:Program)(N:Value->World->Prop):Result Next->Prop
  | .ok (.value v) w'=>N v w'
  | .ok .skip w'=>N undef w'
  | .ok (.enter g args) w'=>Calls P g args w' λ
      | .returned v,w''=>N v w''
      |_,_=>False
  |_=>False
def fv(P:Program)(o:Oper)(f:Fr)(w:World)(N:Value->World->Prop):Prop:=AQ P N ((execOp (ev f) o).run P w)
def ka(P:Program)(all:List Oper):List Oper->(Fr->World->Prop)->Fr->World->Prop
  |[],K,f,w=>K f w
  |o::rest,K,f,w=>
    if cN all o f then fv P o f w (λv w'=>ka P all rest K (gv f o.dst v) w')
    else ka P all rest K (gv f o.dst undef) w
theorem eY{P:Program}{n:Nat}{all:List Oper}{K:Fr->World->Prop}:∀(rest:List Oper) (_:rest.all (kr n)=true) (a:Act) (f:Fr) (w:World),Ag n a f->
   ka P all rest K f w->wpList P all.toArray (λe a' w'=>e= .normal/\∃f',Ag n a' f'/\K f' w') rest a w
 |[],_,a,f,w,h,hk=>⟨rfl,f,h,hk⟩
 |o::rest,hall,a,f,w,h,hk=>by
   simp only[List.all_cons,Bool.and_eq_true] at hall
   simp only[ka] at hk
   simp only[wpList]
   have hw:Region.wanted o (Go.yielded all.toArray a.tmps)=cN all o f:=by rw[h.yielded];rfl
   rw[hw]
   cases hb:cN all o f with
   |false=>
     simp only[hb,Bool.false_eq_true,if_false] at hk ⊢
     exact eY rest hall.2 _ _ _ (h.put hall.1 _) hk
   |true=>
     simp only[hb,if_true] at hk ⊢
     refine .inl ?_
     unfold Oper.wp
     rw[h.eval]
     unfold fv at hk
     generalize(execOp (ev f) o).run P w=r at*
     cases r with
     |halt x w'=>exact hk.elim
     |ok nx w'=>
       cases nx<;>simp only[AQ] at hk<;>simp only[Oper.upon]
       case value v=>exact eY rest hall.2 _ _ _ (h.put hall.1 _) hk
       case skip=>exact eY rest hall.2 _ _ _ (h.put hall.1 _) hk
       case enter g args=>
         refine hk.mono λe w'' he=>?_
         cases e with
         |returned v=>exact eY rest hall.2 _ _ _ (h.put hall.1 _) he
         |panicked c=>exact he.elim
         |outgrown=>exact he.elim
def mK(P:Program)(all:List Oper)(C:World->Prop):List Oper->(Fr->Prop)->Fr->Prop
  |[],K,f=>K f
  |o::rest,K,f=>
    if cN all o f then∃v,(∀w,C w->Oper.quietUpon P C w v ((execOp (ev f) o).run P w))/\mK P all C rest K (gv f o.dst v)
    else mK P all C rest K (gv f o.dst undef)
theorem gW{P:Program}{n:Nat}{all:List Oper}{C:World->Prop}{K:Fr->Prop}{Q:Act->Prop}(hQ:∀a f,Ag n a f->K f->Q a):∀(rest:List Oper) (_:rest.all (kr n)=true) (a:Act) (f:Fr),Ag n a f->
   mK P all C rest K f->wpQuiet P all.toArray C Q rest a
 |[],_,a,f,h,hk=>hQ a f h hk
 |o::rest,hall,a,f,h,hk=>by
   simp only[List.all_cons,Bool.and_eq_true] at hall
   simp only[mK] at hk
   simp only[wpQuiet]
   have hw:Region.wanted o (Go.yielded all.toArray a.tmps)=cN all o f:=by rw[h.yielded];rfl
   rw[hw]
   cases hb:cN all o f with
   |false=>
     simp only[hb,Bool.false_eq_true,if_false] at hk ⊢
     exact gW hQ rest hall.2 _ _ (h.put hall.1 _) hk
   |true=>
     simp only[hb,if_true] at hk ⊢
     obtain⟨v,h1,h2⟩:=hk
     refine⟨v,λw hw=>?_,gW hQ rest hall.2 _ _ (h.put hall.1 _) h2⟩
     unfold Oper.quietAt
     rw[h.eval]
     exact h1 w hw
def jl(fid:FuncId):Frame:={(default:Frame) with fn:=fid,kind:=.normal}
def fY(P:Program)(fid n:Nat)(R:Ending->World->Prop)(k:List Item)(f:Fr)(w:World):Prop:=
  ∀a,Ag n a f->∀cs,∃e w' fr,R e w'/\Comes P (lone ((jl fid).at a k) cs w) (lone fr cs w') e/\fr.fn=fid/\fr.leaving P w' e
section
variable{P:Program}{fid n:Nat}{R:Ending->World->Prop}{k:List Item}{f:Fr}{w:World}
theorem gi{k':List Item}{w':World}(hs:∀a cs,Ag n a f->step P (lone ((jl fid).at a k) cs w)= .next (lone ((jl fid).at a k') cs w'))(h:fY P fid n R k' f w'):fY P fid n R k f w:=by
 intro a ha cs
 obtain⟨e,w2,fr,hR,hc,hf,hl⟩:=h a ha cs
 exact⟨e,w2,fr,hR,hc.of_steps (.one (hs a cs ha)),hf,hl⟩
theorem a7{x y:Code}(h:fY P fid n R (.code x:: .code y::k) f w):fY P fid n R (.code (.seq x y)::k) f w:=gi (λ_ _ _=>step_seq) h
theorem am(h:fY P fid n R k f w):fY P fid n R (.code .skip::k) f w:=gi (λ_ _ _=>step_skip) h
theorem aj{id:Nat}{c:Code}(h:fY P fid n R (.code c:: .inBlock id::k) f w):fY P fid n R (.code (.block id c)::k) f w:=gi (λ_ _ _=>step_block) h
theorem ak{id:Nat}(h:fY P fid n R k f w):fY P fid n R (.inBlock id::k) f w:=gi (λ_ _ _=>step_inBlock) h
theorem aF{id:Nat}{k':List Item}(hk:exitTo id k=some k')(h:fY P fid n R k' f w):fY P fid n R (.code (.exit id)::k) f w:=gi (λ_ _ _=>step_exit hk) h
theorem rP{c:Operand}{x y:Code}{t:Bool}(hc:ev f c= .bool t)(h:fY P fid n R (.code (if t then x else y)::k) f w):fY P fid n R (.code (.cond c x y)::k) f w:=
 gi (λa _ ha=>step_cond (by rw[ha.eval];exact hc)) h
theorem ag{c:Operand}{x y:Code}{t:Bool}(hc:ev f c= .bool t)(ht:t=true)(h:fY P fid n R (.code x::k) f w):fY P fid n R (.code (.cond c x y)::k) f w:=by
 subst ht;exact rP hc h
theorem af{c:Operand}{x y:Code}{t:Bool}(hc:ev f c= .bool t)(ht:t=false)(h:fY P fid n R (.code y::k) f w):fY P fid n R (.code (.cond c x y)::k) f w:=by
 subst ht;exact rP hc h
theorem gQ{c:Code}(h:fY P fid n R (.code c:: .inLoop c::k) f w):fY P fid n R (.code (.loop c)::k) f w:=gi (λ_ _ _=>step_loop) h
theorem eu{c:Code}(h:fY P fid n R (.code c:: .inLoop c::k) f w):fY P fid n R (.inLoop c::k) f w:=gi (λ_ _ _=>step_inLoop) h
theorem aR{σ:Type}{c:Code}(I:σ->Fr->World->Prop)(μ:σ->Nat)(s0:σ)(h0:I s0 f w)
    (round:∀s f w,I s f w->(∀s' f' w',I s' f' w'->μ s'<μ s->fY P fid n R (.inLoop c::k) f' w')->fY P fid n R (.code c:: .inLoop c::k) f w):
    fY P fid n R (.code (.loop c)::k) f w:=by
  refine gQ ?_
  have key:∀m s f w,μ s=m->I s f w->fY P fid n R (.code c:: .inLoop c::k) f w:=by
    intro m
    induction m using Nat.strongRecOn with
    |_ m ih=>
      intro s f w hm hI
      exact round s f w hI λs' f' w' hI' hlt=>eu (ih (μ s') (hm▸hlt) s' f' w' rfl hI')
  exact key _ s0 f w rfl h0
theorem jU{c:Code}(h:∀a,Ag n a f->c.wp P (λe a' w'=>e= .normal/\∃f',Ag n a' f'/\fY P fid n R k f' w') a w):fY P fid n R (.code c::k) f w:=by
 intro a ha cs
 obtain⟨e,a',w',⟨rfl,f',ha',hrun⟩,harr⟩:=h a ha (jl fid) k cs
 obtain⟨e2,w2,fr,hR,hc,hf,hl⟩:=hrun a' ha' cs
 exact⟨e2,w2,fr,hR,hc.of_steps harr,hf,hl⟩
theorem a6{id:Nat}{l:List Oper}(hd:l.all (kr n)=true)(h:ka P l l (fY P fid n R k) f w):fY P fid n R (.code (.region id l.toArray false)::k) f w:=
 jU λa ha=>wp_region_lit (eY l hd a f w ha h)
theorem qd{id:Nat}{l:List Oper}(C:World->Prop)(hd:l.all (kr n)=true)(hm:P.follows .mixedOrders=true)(hB:Region.lexB .any l.toArray=true)(hC:C {w with drawn:=w.drawn+1})
    (h:mK P l C l (λf'=>∀w',C w'->fY P fid n R k f' w') f):fY P fid n R (.code (.region id l.toArray true)::k) f w:=
  jU λa ha=>wp_region_quiet hm hB hC (by
    have:=gW (P:=P) (n:=n) (all:=l) (C:=C) (Q:=λa'=>∀w',C w'->(Exit.normal=Exit.normal/\∃f',Ag n a' f'/\fY P fid n R k f' w')) (λa' f' ha' hk w' hw'=>⟨rfl,f',ha',hk w' hw'⟩) l hd a f ha h
    simpa using this)
end
section
variable{P:Program}{all rest:List Oper}{K:Fr->World->Prop}{f:Fr}{w w':World}{v:Value}
variable{dst:Option Tmp}{op:Op}{ty:TypeId}{pos:String}{after:Array Edge}{g:Option (Nat×Bool)}{o:Oper}
theorem Dn{j:Nat}{x:Bool}{d:Nat}{b:Bool}(hg:o.guard=some (j,x))(hj:(all[j]?).bind (·.dst)=some d)(hb:f d= .bool b)(hx:b=x):cN all o f=true:=by
 simp[cN,Region.wanted,hg,yF,hj,hb,hx]
theorem Dw{j:Nat}{x:Bool}{d:Nat}{b:Bool}(hg:o.guard=some (j,x))(hj:(all[j]?).bind (·.dst)=some d)(hb:f d= .bool b)(hx:b= !x):cN all o f=false:=by
 simp[cN,Region.wanted,hg,yF,hj,hb,hx]
theorem bR{j:Nat}{x:Bool}{d:Nat}(hg:o.guard=some (j,x))(hj:(all[j]?).bind (·.dst)=some d)(hb:f d=undef):cN all o f=false:=by
 simp[cN,Region.wanted,hg,yF,hj,hb,undef]
theorem ab(h:K f w):ka P all [] K f w:=h
theorem cy(hw:cN all ⟨dst,op,ty,pos,after,g⟩ f=true)(h:fv P ⟨dst,op,ty,pos,after,g⟩ f w (λv w'=>ka P all rest K (gv f dst v) w')):ka P all (⟨dst,op,ty,pos,after,g⟩::rest) K f w:=by
 simp only[ka,hw,if_true];exact h
theorem mg(hw:cN all ⟨dst,op,ty,pos,after,g⟩ f=true)(h:(execOp (ev f) ⟨dst,op,ty,pos,after,g⟩).run P w= .ok (.value v) w')(hk:ka P all rest K (gv f dst v) w'):ka P all (⟨dst,op,ty,pos,after,g⟩::rest) K f w:=
 cy hw (by unfold fv;rw[h];exact hk)
theorem au(hw:cN all ⟨dst,op,ty,pos,after,g⟩ f=false)(hk:ka P all rest K (gv f dst undef) w):ka P all (⟨dst,op,ty,pos,after,g⟩::rest) K f w:=by
 simp only[ka,hw,Bool.false_eq_true,if_false];exact hk
variable{C:World->Prop}{KQ:Fr->Prop}{w1:World}
theorem gf(h:KQ f):mK P all C [] KQ f:=h
theorem ia(hw:cN all ⟨dst,op,ty,pos,after,g⟩ f=true)(h:∀w,C w->(execOp (ev f) ⟨dst,op,ty,pos,after,g⟩).run P w= .ok (.value v) w)(hk:mK P all C rest KQ (gv f dst v)):mK P all C (⟨dst,op,ty,pos,after,g⟩::rest) KQ f:=by
 simp only[mK,hw,if_true]
 exact⟨v,λw hw=>by rw[h w hw];exact⟨rfl,rfl⟩,hk⟩
theorem ij(hw:cN all ⟨dst,op,ty,pos,after,g⟩ f=false)(hk:mK P all C rest KQ (gv f dst undef)):mK P all C (⟨dst,op,ty,pos,after,g⟩::rest) KQ f:=by
 simp only[mK,hw,Bool.false_eq_true,if_false];exact hk
theorem ss{fid:Nat}{args:Array Value}(hw:cN all ⟨dst,op,ty,pos,after,g⟩ f=true)(h:∀w,C w->(execOp (ev f) ⟨dst,op,ty,pos,after,g⟩).run P w= .ok (.enter fid args) w)
   (hc:∀w,C w->Calls P fid args w λe w'=>e= .returned v/\C w')(hk:mK P all C rest KQ (gv f dst v)):mK P all C (⟨dst,op,ty,pos,after,g⟩::rest) KQ f:=by
 simp only[mK,hw,if_true]
 exact⟨v,λw hw=>by rw[h w hw];exact⟨rfl,hc w hw⟩,hk⟩
end
def u6(args:Array Value):Fr:=λi=>args.getD i undef
theorem ah{P:Program}{fid:FuncId}{fn:Func}{c:Code}{args:Array Value}{w:World}{R:Ending->World->Prop}(hf:P.funcs[fid]? =some fn)(hb:fn.body=some c)(hn:args.size<=fn.ntmps)
   (h:fY P fid fn.ntmps R [.code c] (u6 args) w):Calls P fid args w R:=by
 intro cs
 have henter:Frame.enter P fid args .normal=(jl fid).at {tmps:=args++Array.replicate (fn.ntmps-args.size) undef,defers:=[]} [.code c]:=by
   simp[Frame.enter,Frame.at,hf,hb,jl]
 rw[henter]
 refine h _ ⟨rfl,by simp;omega,λi=>?_⟩ cs
 simp only[u6,Array.getD_eq_getD_getElem?,Array.getElem?_append,Array.getElem?_replicate]
 by_cases hi:i<args.size
 · simp[hi]
 · rw[if_neg hi,Array.getElem?_eq_none (by omega)]
   split<;>rfl
section
variable{P:Program}{fid n:Nat}{R:Ending->World->Prop}{k:List Item}{f:Fr}{w:World}{fn:Func}{v:Value}
inductive ResIs (P:Program) (w:World) (f:Fr):List ResultVar->List Value->Prop
  |nil:ResIs P w f [] []
  |tmp {t:Nat} {rs:List ResultVar} {vs:List Value} {v:Value} (h:f t=v) (hr:ResIs P w f rs vs):ResIs P w f (.tmp t::rs) (v::vs)
  |cell {a t:Nat} {p:Addr} {rs:List ResultVar} {vs:List Value} {v:Value} (h:f a= .pointer (some p)) (hv:(loadVar t p).run P w= .ok v w) (hr:ResIs P w f rs vs):ResIs P w f (.cell a t::rs) (v::vs)
def rj(a:Act):ResultVar->Sem Value
 | .tmp t=>pure (a.tmps.getD t undef)
 | .cell p t=>do loadVar t (<-asAddr (a.tmps.getD p undef))
theorem s4{a:Act}(ha:Ag n a f){rs:List ResultVar}{vs:List Value}(h:ResIs P w f rs vs):
   (rs.mapM (m:=Sem) (rj a)).run P w= .ok vs w:=by
 induction h with
 |nil=>simp[Sem.run_pure]
 | @tmp t rs vs v h hr ih=>
   have e:(rj a (.tmp t)).run P w= .ok v w:=by simp only[rj,ha.get,h,Sem.run_pure]
   simp only[List.mapM_cons,Sem.run_bind,Sem.run_pure,Result.andThen_ok,ih,e]
 | @cell p t q rs vs v h hv hr ih=>
   have e:(rj a (.cell p t)).run P w= .ok v w:=by simp only[rj,ha.get,h,asAddr,Sem.run_bind,Sem.run_pure,Result.andThen_ok,hv]
   simp only[List.mapM_cons,Sem.run_bind,Sem.run_pure,Result.andThen_ok,ih,e]
theorem mf{a:Act}(ha:Ag n a f){vs:List Value}(h:ResIs P w f fn.results.toList vs):
   (results fn a.tmps).run P w= .ok (if h:vs.length=1 then vs[0] else .tuple vs.toArray) w:=by
 have e:(fn.results.mapM (m:=Sem) (rj a)).run P w= .ok vs.toArray w:=by
   rw[Array.mapM_eq_mapM_toList]
   simp only[Sem.run_bind,map_eq_pure_bind]
   rw[s4 ha h]
   simp only[Result.andThen_ok,Sem.run_pure]
 have e2:(results fn a.tmps)=(do let vs<-fn.results.mapM (m:=Sem) (rj a);pure (if h:vs.size=1 then vs[0] else .tuple vs)):=by
   unfold results rj;rfl
 rw[e2]
 simp only[Sem.run_bind,e,Result.andThen_ok,Sem.run_pure]
 simp
theorem az{vs:List Value}(hf:P.funcs[fid]? =some fn)(hr:ResIs P w f fn.results.toList vs)
   (h:R (.returned (if h:vs.length=1 then vs[0] else .tuple vs.toArray)) w):fY P fid n R (.code .ret::k) f w:=by
 intro a ha cs
 refine⟨_,w,{(jl fid).at a (.code .ret::k) with mode:=.returning},h,?_,rfl,?_⟩
 · exact Steps.one step_ret
 · exact⟨rfl,ha.defers,rfl,fn,hf,mf ha hr⟩
theorem ck{vs:List Value}(hf:P.funcs[fid]? =some fn)(hr:ResIs P w f fn.results.toList vs)
   (h:R (.returned (if h:vs.length=1 then vs[0] else .tuple vs.toArray)) w):fY P fid n R [] f w:=by
 intro a ha cs
 refine⟨_,w,{(jl fid).at a [] with mode:=.returning},h,?_,rfl,?_⟩
 · exact Steps.one step_end
 · exact⟨rfl,ha.defers,rfl,fn,hf,mf ha hr⟩
end
end TL
set_option linter.all false
namespace TL
open Go
abbrev cw:=Nat×Nat
abbrev ax:=Nat->cw
def is(i:Nat):cw->Prop:=λc=>c.1=i
def row(i k:Nat):cw->Prop:=λc=>c=(i,k)
def any:cw->Prop:=λ_=>True
def no:cw->Prop:=λ_=>False
def c0:ax:=λ_=>(0,0)
structure eK(B:Nat)(w w':World):Prop where
  os:w'.os=w.os
  tape:w'.tape=w.tape
  output:w'.output=w.output
  size:w.heap.size<=w'.heap.size
  block:∀k,k<B->w'.heap[k]? =w.heap[k]?
  drawn:w.drawn<=w'.drawn
theorem eK.kit{B:Nat}{w w':World}(h:eK B w w'):RowKit.Below B w w':=⟨h.os,h.tape,h.output,h.size,h.block⟩
theorem eK.refl(B:Nat)(w:World):eK B w w:=⟨rfl,rfl,rfl,Nat.le_refl _,λ_ _=>rfl,Nat.le_refl _⟩
theorem eK.trans{B:Nat}{a b c:World}(h:eK B a b)(k:eK B b c):eK B a c:=
 ⟨k.os.trans h.os,k.tape.trans h.tape,k.output.trans h.output,Nat.le_trans h.size k.size,λi hi=>(k.block i hi).trans (h.block i hi),Nat.le_trans h.drawn k.drawn⟩
theorem eK.mono{B B':Nat}{w w':World}(h:eK B w w')(hB:B'<=B):eK B' w w':=⟨h.os,h.tape,h.output,h.size,λk hk=>h.block k (Nat.lt_of_lt_of_le hk hB),h.drawn⟩
theorem eK.alloc{B:Nat}{a w:World}(h:eK B a w)(hB:B<=w.heap.size)(o:Obj):eK B a (w.alloc o):=
 have k:=h.kit.alloc hB o
 ⟨k.os,k.tape,k.output,k.size,k.block,h.drawn⟩
structure bg(J:cw->Prop)(γ:ax)(w:World)(γ':ax)(w':World):Prop where
  os:w'.os=w.os
  tape:w'.tape=w.tape
  output:w'.output=w.output
  size:w.heap.size<=w'.heap.size
  col:∀b,b<w.heap.size->¬J (γ b)->γ' b=γ b
  keep:∀b,b<w.heap.size->¬J (γ b)->w'.heap[b]? =w.heap[b]?
  drawn:w.drawn<=w'.drawn
theorem bg.refl(J:cw->Prop)(γ:ax)(w:World):bg J γ w γ w:=⟨rfl,rfl,rfl,Nat.le_refl _,λ_ _ _=>rfl,λ_ _ _=>rfl,Nat.le_refl _⟩
theorem bg.trans{J J1 J2:cw->Prop}{γ γ1 γ2:ax}{w w1 w2:World}(h:bg J1 γ w γ1 w1)(h':bg J2 γ1 w1 γ2 w2)(hJ:∀b,b<w.heap.size->J1 (γ b)\/J2 (γ b)->J (γ b)):bg J γ w γ2 w2:=
 ⟨h'.os.trans h.os,h'.tape.trans h.tape,h'.output.trans h.output,Nat.le_trans h.size h'.size,λb hb hn=>by
   have h1:¬J1 (γ b):=λhj=>hn (hJ b hb (.inl hj))
   have h2:¬J2 (γ b):=λhj=>hn (hJ b hb (.inr hj))
   have h3:=h.col b hb h1
   exact(h'.col b (Nat.lt_of_lt_of_le hb h.size) (by rw[h3];exact h2)).trans h3,λb hb hn=>by
   have h1:¬J1 (γ b):=λhj=>hn (hJ b hb (.inl hj))
   have h2:¬J2 (γ b):=λhj=>hn (hJ b hb (.inr hj))
   have h3:=h'.keep b (Nat.lt_of_lt_of_le hb h.size) (by rw[h.col b hb h1];exact h2)
   exact h3.trans (h.keep b hb h1),Nat.le_trans h.drawn h'.drawn⟩
theorem bg.drew{J:cw->Prop}{γ:ax}{w w':World}(h:bg J γ w γ w'):bg J γ w γ {w' with drawn:=w'.drawn+1}:=⟨h.os,h.tape,h.output,h.size,h.col,h.keep,Nat.le_succ_of_le h.drawn⟩
structure aW(w0:World)(γ:ax)(w:World):Prop where
  os:w.os=w0.os
  tape:w.tape=w0.tape
  output:w.output=w0.output
  size:w0.heap.size<=w.heap.size
  col:∀b,b<w0.heap.size->(γ b).1=0
  keep:∀b,b<w0.heap.size->w.heap[b]? =w0.heap[b]?
  drawn:w0.drawn<=w.drawn
theorem aW.start(w:World):aW w c0 w:=⟨rfl,rfl,rfl,Nat.le_refl _,λ_ _=>rfl,λ_ _=>rfl,Nat.le_refl _⟩
theorem aW.chg{J:cw->Prop}{γ γ':ax}{w0 w w':World}(h:aW w0 γ w)(h':bg J γ w γ' w')(hJ:∀c,is 0 c->¬J c):aW w0 γ' w':=
 ⟨h'.os.trans h.os,h'.tape.trans h.tape,h'.output.trans h.output,Nat.le_trans h.size h'.size,λb hb=>by rw[h'.col b (Nat.lt_of_lt_of_le hb h.size) (hJ _ (h.col b hb))];exact h.col b hb,
   λb hb=>(h'.keep b (Nat.lt_of_lt_of_le hb h.size) (hJ _ (h.col b hb))).trans (h.keep b hb),Nat.le_trans h.drawn h'.drawn⟩
theorem aW.below{γ:ax}{w0 w:World}(h:aW w0 γ w):eK w0.heap.size w0 w:=⟨h.os,h.tape,h.output,h.size,h.keep,h.drawn⟩
theorem me{i j:Nat}(h:Nat.beq i j=false):∀c,is i c->¬is j c:=λc h1 h2=>by
 have:i=j:=h1.symm.trans h2
 subst this
 simp at h
theorem dT(S:cw->Prop):∀c,S c->¬no c:=λ_ _ h=>h
class Rp (α:Type) where
  sz:Nat
  rep:ax->(cw->Prop)->World->List Value->α->Prop
  len:∀{γ S w cs x},rep γ S w cs x->cs.length=sz
  one:∀{γ S w cs x},rep γ S w cs x->∀v∈cs,v.oneCell'=true
  tr:∀{γ γ':ax} {S S':cw->Prop} {w w':World} {cs:List Value} {x:α},w.heap.size<=w'.heap.size->(∀b,b<w.heap.size->S (γ b)->w'.heap[b]? =w.heap[b]? /\S' (γ' b))->rep γ S w cs x->rep γ' S' w' cs x
class Fl (α:Type) [Rp α] where
  cells:α->List Value
  rep_iff:∀{γ S w cs} {x:α},Rp.rep γ S w cs x↔cs=cells x
instance:Rp Int where
 sz:=1
 rep _ _ _ cs x:=cs=[.int .i64 x]
 len h:=by subst h;rfl
 one h:=by subst h;simp[Value.oneCell']
 tr _ _ h:=h
instance:Fl Int where
 cells x:=[.int .i64 x]
 rep_iff:=Iff.rfl
instance:Rp Bool where
 sz:=1
 rep _ _ _ cs x:=cs=[.bool x]
 len h:=by subst h;rfl
 one h:=by subst h;simp[Value.oneCell']
 tr _ _ h:=h
instance:Fl Bool where
 cells x:=[.bool x]
 rep_iff:=Iff.rfl
instance {α β:Type}[Rp α][Rp β]:Rp (α×β) where
 sz:=Rp.sz α+Rp.sz β
 rep γ S w cs x:=∃c1 c2,cs=c1++c2/\Rp.rep γ S w c1 x.1/\Rp.rep γ S w c2 x.2
 len:=by rintro _ _ _ _ _ ⟨c1,c2,rfl,h1,h2⟩;simp[Rp.len h1,Rp.len h2]
 one:=by
   rintro _ _ _ _ _ ⟨c1,c2,rfl,h1,h2⟩ v hv
   rcases List.mem_append.1 hv with h|h
   · exact Rp.one h1 v h
   · exact Rp.one h2 v h
 tr:=by
   rintro _ _ _ _ _ _ _ _ hs h ⟨c1,c2,rfl,h1,h2⟩
   exact⟨c1,c2,rfl,Rp.tr hs h h1,Rp.tr hs h h2⟩
instance {α β:Type}[Rp α][Rp β][Fl α][Fl β]:Fl (α×β) where
 cells x:=Fl.cells x.1++Fl.cells x.2
 rep_iff:=by
   intro γ S w cs x
   constructor
   · rintro⟨c1,c2,rfl,h1,h2⟩
     rw[Fl.rep_iff.1 h1,Fl.rep_iff.1 h2]
   · intro h
     exact⟨_,_,h,Fl.rep_iff.2 rfl,Fl.rep_iff.2 rfl⟩
theorem cZ{w:World}{b:Nat}{o:Obj}(h:w.heap[b]? =some o):b<w.heap.size:=(Array.getElem?_eq_some_iff.1 h).1
theorem tt{w:World}{a:Addr}{v:Value}(h:w.cell? a=some v):a.block<w.heap.size:=by
 unfold World.cell? at h
 split at h
 · rename_i hb;exact cZ hb
 · cases h
theorem kN{w w':World}{a:Addr}(h:w'.heap[a.block]? =w.heap[a.block]?):w'.cell? a=w.cell? a:=by simp[World.cell?,h]
def Sl{α:Type}[Rp α](γ:ax)(S:cw->Prop)(w:World)(v:Value)(xs:List α):Prop:=
  ((∃a,v= .slice a 0 0)/\xs=[])\/∃b off cap,v= .slice (some ⟨b,off,none⟩) xs.length cap/\(xs.length<=cap/\xs.length<=1099511627776)/\∀i x,xs[i]? =some x->b<w.heap.size/\S (γ b)/\
    ∃cs,(∀j,j<Rp.sz α->w.cell? ⟨b,off+i*Rp.sz α+j,none⟩=cs[j]?)/\Rp.rep γ S w cs x
theorem Sl.tr{α:Type}[Rp α]{γ γ':ax}{S S':cw->Prop}{w w':World}{v:Value}{xs:List α}(h:∀b,b<w.heap.size->S (γ b)->w'.heap[b]? =w.heap[b]? /\S' (γ' b))(hs:Sl γ S w v xs)(hsz:w.heap.size<=w'.heap.size):Sl γ' S' w' v xs:=by
 rcases hs with hs|⟨b,off,cap,rfl,hc,hx⟩
 · exact .inl hs
 · refine .inr ⟨b,off,cap,rfl,hc,λi x hi=>?_⟩
   obtain⟨hb,hS,cs,hcs,hr⟩:=hx i x hi
   obtain⟨h1,h2⟩:=h b hb hS
   exact⟨Nat.lt_of_lt_of_le hb hsz,h2,cs,λj hj=>by rw[kN (w:=w) h1];exact hcs j hj,Rp.tr hsz h hr⟩
theorem Sl.chg{α:Type}[Rp α]{γ γ':ax}{S J:cw->Prop}{w w':World}{v:Value}{xs:List α}(hs:Sl γ S w v xs)(h:bg J γ w γ' w')(hJ:∀c,S c->¬J c):Sl γ' S w' v xs:=
 hs.tr (λb hb hS=>⟨h.keep b hb (hJ _ hS),by rw[h.col b hb (hJ _ hS)];exact hS⟩) h.size
def Ro{α:Type}[Rp α](w:World)(v:Value)(xs:List α):Prop:=Sl c0 any w v xs
theorem Sl.ro{α:Type}[Rp α]{γ:ax}{S:cw->Prop}{w:World}{v:Value}{xs:List α}(hs:Sl γ S w v xs):Ro w v xs:=hs.tr (λ_ _ _=>⟨rfl,trivial⟩) (Nat.le_refl _)
theorem Ro.sl{α:Type}[Rp α]{w:World}{v:Value}{xs:List α}(hs:Ro w v xs):Sl c0 (is 0) w v xs:=Sl.tr (λ_ _ _=>⟨rfl,rfl⟩) hs (Nat.le_refl _)
instance {α:Type}[Rp α]:Rp (List α) where
 sz:=1
 rep γ S w cs x:=∃v,cs=[v]/\Sl γ S w v x
 len:=by rintro _ _ _ _ _ ⟨v,rfl,_⟩;rfl
 one:=by
   rintro _ _ _ _ _ ⟨v,rfl,h⟩ u hu
   obtain rfl:u=v:=by simpa using hu
   rcases h with⟨⟨_,rfl⟩,_⟩|⟨b,off,cap,rfl,_⟩<;>rfl
 tr:=by
   rintro _ _ _ _ _ _ _ _ hs h ⟨v,rfl,hv⟩
   exact⟨v,rfl,hv.tr h hs⟩
def CQ:Value->Option Addr
  | .slice a _ _=>a
  |_=>none
def rE:Value->Nat
 | .slice _ _ c=>c
 |_=>0
theorem Sl.form{α:Type}[Rp α]{γ:ax}{S:cw->Prop}{w:World}{v:Value}{xs:List α}(h:Sl γ S w v xs):v= .slice (CQ v) xs.length (rE v):=by
 rcases h with⟨⟨_,rfl⟩,rfl⟩|⟨b,off,cap,rfl,_⟩<;>rfl
theorem Sl.cap{α:Type}[Rp α]{γ:ax}{S:cw->Prop}{w:World}{v:Value}{xs:List α}(h:Sl γ S w v xs):xs.length<=rE v:=by
 rcases h with⟨⟨_,rfl⟩,rfl⟩|⟨b,off,cap,rfl,h,_⟩
 · simp
 · exact h.1
theorem Sl.small{α:Type}[Rp α]{γ:ax}{S:cw->Prop}{w:World}{v:Value}{xs:List α}(h:Sl γ S w v xs):xs.length<=1099511627776:=by
 rcases h with⟨⟨_,rfl⟩,rfl⟩|⟨b,off,cap,rfl,h,_⟩
 · simp
 · exact h.2
def bu(v:Value)(sz i:Nat):Addr:=
  match v with
  | .slice (some a) _ _=>⟨a.block,a.off+i*sz,none⟩
  |_=>⟨0,0,none⟩
theorem Sl.elem{α:Type}[Rp α]{γ:ax}{S:cw->Prop}{w:World}{v:Value}{xs:List α}(h:Sl γ S w v xs){i:Nat}{x:α}(hx:xs[i]? =some x):
   ∃cs,(∀j,j<Rp.sz α->w.cell? ((bu v (Rp.sz α) i).add j)=cs[j]?)/\Rp.rep γ S w cs x:=by
 rcases h with⟨⟨_,rfl⟩,rfl⟩|⟨b,off,cap,rfl,_,h⟩
 · simp at hx
 · obtain⟨_,_,cs,hcs,hr⟩:=h i x hx
   refine⟨cs,λj hj=>?_,hr⟩
   rw[<-hcs j hj]
   congr 1
   unfold Addr.add bu
   split
   · rename_i h0;subst h0;rfl
   · rfl
def Ow{α:Type}[Rp α](γ:ax)(J S:cw->Prop)(w:World)(v:Value)(xs:List α):Prop:=
  (v= .slice none 0 0/\xs=[])\/∃b cap c e,v= .slice (some ⟨b,0,none⟩) xs.length cap/\(xs.length<=cap/\xs.length<=1099511627776)/\cap<=maxLen/\J (γ b)/\w.heap[b]? =some (.cells c e (0,0))/\c.size=cap*Rp.sz α/\
    ∀i x,xs[i]? =some x->∃cs,(∀j,j<Rp.sz α->c[i*Rp.sz α+j]? =cs[j]?)/\Rp.rep γ S w cs x
theorem Ow.tr{α:Type}[Rp α]{γ γ':ax}{J J' S S':cw->Prop}{w w':World}{v:Value}{xs:List α}(hsz:w.heap.size<=w'.heap.size)(h:∀b,b<w.heap.size->S (γ b)->w'.heap[b]? =w.heap[b]? /\S' (γ' b))
   (hj:∀b,b<w.heap.size->J (γ b)->w'.heap[b]? =w.heap[b]? /\J' (γ' b))(hs:Ow γ J S w v xs):Ow γ' J' S' w' v xs:=by
 rcases hs with hs|⟨b,cap,c,e,rfl,hc,hm,hJ,hb,hcs,hx⟩
 · exact .inl hs
 · obtain⟨h1,h2⟩:=hj b (cZ hb) hJ
   refine .inr ⟨b,cap,c,e,rfl,hc,hm,h2,by rw[h1];exact hb,hcs,λi x hi=>?_⟩
   obtain⟨cs,hcs,hr⟩:=hx i x hi
   exact⟨cs,hcs,Rp.tr hsz h hr⟩
theorem Ow.chg{α:Type}[Rp α]{γ γ':ax}{J S K:cw->Prop}{w w':World}{v:Value}{xs:List α}(hs:Ow γ J S w v xs)(h:bg K γ w γ' w')(hJ:∀c,J c->¬K c)(hS:∀c,S c->¬K c):Ow γ' J S w' v xs:=
 hs.tr h.size (λb hb hS'=>⟨h.keep b hb (hS _ hS'),by rw[h.col b hb (hS _ hS')];exact hS'⟩) (λb hb hJ'=>⟨h.keep b hb (hJ _ hJ'),by rw[h.col b hb (hJ _ hJ')];exact hJ'⟩)
theorem Ow.sl{α:Type}[Rp α]{γ:ax}{J S T:cw->Prop}{w:World}{v:Value}{xs:List α}(hs:Ow γ J S w v xs)(hJ:∀c,J c->T c)(hS:∀c,S c->T c):Sl γ T w v xs:=by
 rcases hs with hs|⟨b,cap,c,e,rfl,hc,hm,hJb,hb,hcs,hx⟩
 · exact .inl ⟨⟨_,hs.1⟩,hs.2⟩
 · refine .inr ⟨b,0,cap,rfl,hc,λi x hi=>?_⟩
   obtain⟨cs,hcs',hr⟩:=hx i x hi
   refine⟨cZ hb,hJ _ hJb,cs,λj hj=>?_,Rp.tr (Nat.le_refl _) (λb _ hS'=>⟨rfl,hS _ hS'⟩) hr⟩
   rw[<-hcs' j hj]
   simp[World.cell?,hb]
def Bx(γ:ax)(J:cw->Prop)(w:World)(b:Nat)(cs:List Value):Prop:=J (γ b)/\∃e,w.heap[b]? =some (.cells cs.toArray e (0,0))
theorem Bx.chg{γ γ':ax}{J K:cw->Prop}{w w':World}{b:Nat}{cs:List Value}(hs:Bx γ J w b cs)(h:bg K γ w γ' w')(hJ:∀c,J c->¬K c):Bx γ' J w' b cs:=by
 obtain⟨h1,e,h2⟩:=hs
 exact⟨by rw[h.col b (cZ h2) (hJ _ h1)];exact h1,e,by rw[h.keep b (cZ h2) (hJ _ h1)];exact h2⟩
theorem Bx.cell{γ:ax}{J:cw->Prop}{w:World}{b:Nat}{cs:List Value}(hs:Bx γ J w b cs)(i:Nat):w.cell? ⟨b,i,none⟩=cs[i]? :=by
 obtain⟨h1,e,h2⟩:=hs
 simp[World.cell?,h2]
def i4(γ:ax)(b:Nat)(c:cw):ax:=λk=>if k=b then c else γ k
theorem fk(γ:ax)(w:World)(o:Obj)(c:cw):bg no γ w (i4 γ w.heap.size c) (w.alloc o):=
 ⟨rfl,rfl,rfl,by simp,λb hb _=>by simp[i4,Nat.ne_of_lt hb],λb hb _=>RowKit.Below.heap_alloc w o b hb,Nat.le_refl _⟩
theorem dc(w:World)(o:Obj):(w.alloc o).heap[w.heap.size]? =some o:=heap_alloc_new w o
theorem qE(γ:ax)(w:World)(cs:Array Value)(e:TypeId)(c:cw){J:cw->Prop}(hJ:J c):Bx (i4 γ w.heap.size c) J (w.alloc (.cells cs e)) w.heap.size cs.toList:=
 ⟨by simpa[i4] using hJ,e,by rw[dc]⟩
def glue(B:Nat)(γ δ:ax)(ren:Nat->Nat):ax:=λb=>if b<B then γ b else(ren (δ b).1,(δ b).2)
theorem Aq{w w':World}(h:eK w.heap.size w w')(γ δ:ax)(ren:Nat->Nat):bg no γ w (glue w.heap.size γ δ ren) w':=
 ⟨h.os,h.tape,h.output,h.size,λb hb _=>by simp[glue,hb],λb hb _=>h.block b hb,h.drawn⟩
theorem aG{w w':World}(h:eK w.heap.size w w')(γ:ax):bg no γ w γ w':=⟨h.os,h.tape,h.output,h.size,λ_ _ _=>rfl,λb hb _=>h.block b hb,h.drawn⟩
theorem tm{B:Nat}{γ δ:ax}{ren:Nat->Nat}{i k:Nat}(hδ:∀b,b<B->(δ b).1=0)(hi:Nat.beq i 0=false)(hr:ren i=k):∀b,is i (δ b)->is k (glue B γ δ ren b):=by
 intro b hb
 have h0:¬b<B:=λh=>by
   have h1:=hδ b h
   have:i=0:=hb.symm.trans h1
   subst this
   simp at hi
 have hb':(δ b).1=i:=hb
 simp[glue,h0,is,hb',hr]
theorem Ow.glue{α:Type}[Rp α]{B:Nat}{γ δ:ax}{ren:Nat->Nat}{i k:Nat}{w:World}{v:Value}{xs:List α}(h:Ow δ (is i) (is i) w v xs)(hδ:∀b,b<B->(δ b).1=0)(hi:Nat.beq i 0=false)(hr:ren i=k):Ow (TL.glue B γ δ ren) (is k) (is k) w v xs:=
 h.tr (Nat.le_refl _) (λb _ hb=>⟨rfl,tm hδ hi hr b hb⟩) (λb _ hb=>⟨rfl,tm hδ hi hr b hb⟩)
theorem DR{γ:ax}{S:cw->Prop}{w w':World}(h:eK w.heap.size w w'):∀b,b<w.heap.size->S (γ b)->w'.heap[b]? =w.heap[b]? /\S (γ b):=λb hb hS=>⟨h.block b hb,hS⟩
theorem Sl.bel{α:Type}[Rp α]{γ:ax}{S:cw->Prop}{w w':World}{v:Value}{xs:List α}(hs:Sl γ S w v xs)(h:eK w.heap.size w w'):Sl γ S w' v xs:=hs.tr (DR h) h.size
theorem Bx.bel{γ:ax}{J:cw->Prop}{w w':World}{b:Nat}{cs:List Value}(hs:Bx γ J w b cs)(h:eK w.heap.size w w'):Bx γ J w' b cs:=by
 obtain⟨h1,e,h2⟩:=hs
 exact⟨h1,e,by rw[h.block b (cZ h2)];exact h2⟩
theorem Ow.flat{α:Type}[Rp α][Fl α]{γ:ax}{J S:cw->Prop}{w:World}{v:Value}{xs:List α}(hs:Ow γ J S w v xs):Sl γ J w v xs:=by
 rcases hs with hs|⟨b,cap,c,e,rfl,hc,hm,hJb,hb,hcs,hx⟩
 · exact .inl ⟨⟨_,hs.1⟩,hs.2⟩
 · refine .inr ⟨b,0,cap,rfl,hc,λi x hi=>?_⟩
   obtain⟨cs,hcs',hr⟩:=hx i x hi
   refine⟨cZ hb,hJb,cs,λj hj=>?_,Fl.rep_iff.2 (Fl.rep_iff.1 hr)⟩
   rw[<-hcs' j hj]
   simp[World.cell?,hb]
theorem Ow.nil{α:Type}[Rp α]{γ:ax}{J S:cw->Prop}{w:World}:Ow (α:=α) γ J S w (.slice none 0 0) []:=.inl ⟨rfl,rfl⟩
theorem Sl.nil{α:Type}[Rp α]{γ:ax}{S:cw->Prop}{w:World}:Sl (α:=α) γ S w (.slice none 0 0) []:=.inl ⟨⟨_,rfl⟩,rfl⟩
structure dz(w0:World)(δ:ax)(w:World):Prop where
  below:eK w0.heap.size w0 w
  col:∀b,b<w0.heap.size->(δ b).1=0
def fin(w0:World)(γ:ax)(ren:Nat->Nat):ax:=glue w0.heap.size c0 γ ren
theorem aW.fresh{w0 w:World}{γ:ax}(h:aW w0 γ w)(ren:Nat->Nat):dz w0 (fin w0 γ ren) w:=⟨h.below,λb hb=>by simp[fin,TL.glue,hb,c0]⟩
section
variable{P:Program}{fid n:Nat}{R:Ending->World->Prop}{k:List Item}{f:Fr}{w:World}{id:Nat}{l:List Oper}
theorem dy(γ:ax)(hd:l.all (kr n)=true)(hm:P.follows .mixedOrders=true)(hB:Region.lexB .any l.toArray=true)
    (h:∀w1,bg no γ w γ w1->mK P l (λw'=>eK w1.heap.size w1 w') l (λf'=>∀w',eK w1.heap.size w1 w'->fY P fid n R k f' w') f):fY P fid n R (.code (.region id l.toArray true)::k) f w:=
  qd (λw'=>eK w.heap.size {w with drawn:=w.drawn+1} w') hd hm hB (eK.refl _ _) (h _ (bg.refl _ _ _).drew)
end
end TL
set_option linter.all false
namespace TL
open Go
abbrev Ca(x:Int):Prop:= -9223372036854775808<=x/\x<=9223372036854775807
theorem jT{x:Int}(h:Ca x):IntKind.i64.wrap x=x:=by
 simp only[Ca] at h
 rw[IntKind.wrap_i64];omega
section
variable{P:Program}{f:Fr}{w:World}{dst:Option Tmp}{ty:TypeId}{pos:String}{after:Array Edge}{g:Option (Nat×Bool)}
theorem ar{x:Operand}{v:Value}(hx:ev f x=v):(execOp (ev f) ⟨dst,.move x,ty,pos,after,g⟩).run P w= .ok (.value v) w:=by subst hx;rfl
theorem bK{x:Operand}{v:Value}(hx:ev f x=v):(execOp (ev f) ⟨dst,.assign x,ty,pos,after,g⟩).run P w= .ok (.value v) w:=by subst hx;rfl
theorem bh{c a b:Operand}{t:Bool}{va:Value}(hc:ev f c= .bool t)(ht:t=true)(ha:ev f a=va):(execOp (ev f) ⟨dst,.pick c a b,ty,pos,after,g⟩).run P w= .ok (.value va) w:=by
 subst ha ht
 simp only[execOp,hc,asBool];rfl
theorem bo{c a b:Operand}{t:Bool}{vb:Value}(hc:ev f c= .bool t)(ht:t=false)(hb:ev f b=vb):(execOp (ev f) ⟨dst,.pick c a b,ty,pos,after,g⟩).run P w= .ok (.value vb) w:=by
 subst hb ht
 simp only[execOp,hc,asBool];rfl
variable{t t':TypeId}{x y:Operand}
theorem fM{b:Bool}(hx:ev f x= .bool b):(execOp (ev f) ⟨dst,.unOp .not t x,ty,pos,after,g⟩).run P w= .ok (.value (.bool !b)) w:=by
 simp only[execOp,hx,Op.unary];rfl
theorem d8(op:BinOp)(x y:Operand){m n:Int}{k:IntKind}(hx:ev f x= .int k m)(hy:ev f y= .int k n){v:Value}(h:(binOp op t (.int k m) (.int k n)).run P w= .ok v w):
   (execOp (ev f) ⟨dst,.binOp op t x y t',ty,pos,after,g⟩).run P w= .ok (.value v) w:=by
 have hg:(eqGuard op t x y (.int k m) (.int k n)).run P w= .ok () w:=by
   unfold eqGuard
   split<;>rfl
 simp only[execOp,hx,hy,Sem.run_bind,hg,Result.andThen_ok,h,Sem.run_pure]
variable{m n:Int}
theorem aJ(hx:ev f x= .int .i64 m)(hy:ev f y= .int .i64 n)(hr:Ca (m+n)):(execOp (ev f) ⟨dst,.binOp .add t x y t',ty,pos,after,g⟩).run P w= .ok (.value (.int .i64 (m+n))) w:=
 d8 .add x y hx hy (by simp[binOp,Op.intArith,jT hr])
theorem da(hx:ev f x= .int .i64 m)(hy:ev f y= .int .i64 n)(hr:Ca (m-n)):(execOp (ev f) ⟨dst,.binOp .sub t x y t',ty,pos,after,g⟩).run P w= .ok (.value (.int .i64 (m-n))) w:=
 d8 .sub x y hx hy (by simp[binOp,Op.intArith,jT hr])
theorem kb(hx:ev f x= .int .i64 m)(hy:ev f y= .int .i64 n)(hr:Ca (m*n)):(execOp (ev f) ⟨dst,.binOp .mul t x y t',ty,pos,after,g⟩).run P w= .ok (.value (.int .i64 (m*n))) w:=
 d8 .mul x y hx hy (by simp[binOp,Op.intArith,jT hr])
theorem kh(hx:ev f x= .int .i64 m)(hy:ev f y= .int .i64 n)(hm:0<=m)(hm2:Ca m)(hn:0<n):(execOp (ev f) ⟨dst,.binOp .quo t x y t',ty,pos,after,g⟩).run P w= .ok (.value (.int .i64 (m/n))) w:=
 d8 .quo x y hx hy (by
   have h0:n≠0:=by omega
   have h1:m.tdiv n=m/n:=Int.tdiv_eq_ediv_of_nonneg hm
   have h2:Ca (m/n):=by
     simp only[Ca] at*
     have h3:0<=m/n:=Int.ediv_nonneg hm (by omega)
     have h4:m/n<=m:=Int.ediv_le_self n hm
     omega
   simp[binOp,Op.intDiv,h0,h1,jT h2])
theorem nc(hx:ev f x= .int .i64 m)(hy:ev f y= .int .i64 n)(hm:0<=m)(hn:0<n):(execOp (ev f) ⟨dst,.binOp .rem t x y t',ty,pos,after,g⟩).run P w= .ok (.value (.int .i64 (m%n))) w:=
 d8 .rem x y hx hy (by
   have h0:n≠0:=by omega
   have h1:m.tmod n=m%n:=Int.tmod_eq_emod_of_nonneg hm
   simp[binOp,Op.intDiv,h0,h1])
variable{k:IntKind}
theorem br(hx:ev f x= .int k m)(hy:ev f y= .int k n):(execOp (ev f) ⟨dst,.binOp .lss t x y t',ty,pos,after,g⟩).run P w= .ok (.value (.bool (decide (m<n)))) w:=
 d8 .lss x y hx hy (by simp[binOp,Op.intCmp])
theorem xr(hx:ev f x= .int k m)(hy:ev f y= .int k n):(execOp (ev f) ⟨dst,.binOp .leq t x y t',ty,pos,after,g⟩).run P w= .ok (.value (.bool (decide (m<=n)))) w:=
 d8 .leq x y hx hy (by simp[binOp,Op.intCmp])
theorem eX(hx:ev f x= .int k m)(hy:ev f y= .int k n):(execOp (ev f) ⟨dst,.binOp .gtr t x y t',ty,pos,after,g⟩).run P w= .ok (.value (.bool (decide (n<m)))) w:=
 d8 .gtr x y hx hy (by simp[binOp,Op.intCmp])
theorem eL(hx:ev f x= .int k m)(hy:ev f y= .int k n):(execOp (ev f) ⟨dst,.binOp .geq t x y t',ty,pos,after,g⟩).run P w= .ok (.value (.bool (decide (n<=m)))) w:=
 d8 .geq x y hx hy (by simp[binOp,Op.intCmp])
theorem dd(hx:ev f x= .int k m)(hy:ev f y= .int k n):(execOp (ev f) ⟨dst,.binOp .eql t x y t',ty,pos,after,g⟩).run P w= .ok (.value (.bool (decide (m=n)))) w:=
 d8 .eql x y hx hy (by simp[binOp,Op.intCmp];rfl)
theorem du(hx:ev f x= .int k m)(hy:ev f y= .int k n):(execOp (ev f) ⟨dst,.binOp .neq t x y t',ty,pos,after,g⟩).run P w= .ok (.value (.bool (!decide (m=n)))) w:=
 d8 .neq x y hx hy (by simp[binOp,Op.intCmp];rfl)
theorem xF(op:BinOp){a b v:Value}(hx:ev f x=a)(hy:ev f y=b)(hg:(eqGuard op t x y a b).run P w= .ok () w)(h:(binOp op t a b).run P w= .ok v w):
    (execOp (ev f) ⟨dst,.binOp op t x y t',ty,pos,after,g⟩).run P w= .ok (.value v) w:=by
  simp only[execOp,hx,hy,Sem.run_bind,hg,Result.andThen_ok,h,Sem.run_pure]
def Dg:TypeDesc->Bool
 | .struct _| .array _ _=>true
 |_=>false
theorem aO{d:TypeDesc}(h:P.underlying t=some d):(underlying t).run P w= .ok d w:=by
 simp[underlying,h]
theorem lT{d:TypeDesc}(h:P.underlying t=some d):(isAgg t).run P w= .ok (Dg d) w:=by
 simp only[isAgg,Sem.run_bind,aO h,Result.andThen_ok]
 cases d<;>rfl
theorem dg{i:TypeInfo}(h:P.info? t=some i):(Go.sizeOf t).run P w= .ok i.size w:=by simp[Go.sizeOf,typeInfo,h]
theorem eF{i:TypeInfo}{z:Value}(h:P.info? t=some i)(hz:i.zero=some z):(zeroValue t).run P w= .ok z w:=by simp[zeroValue,typeInfo,h,hz]
structure Tp(P:Program)(t:TypeId)(agg:Bool)(size bytes:Nat)(z:Value):Prop where
  desc:∃d,P.underlying t=some d/\Dg d=agg
  info:∃i,P.info? t=some i/\i.size=size/\i.bytes=bytes/\i.zero=some z
def FB(P:Program)(t:TypeId):Option (Bool×Nat×Nat×Option Value):=
 match P.underlying t,P.info? t with
 |some d,some i=>some (Dg d,i.size,i.bytes,i.zero)
 |_,_=>none
theorem Tp.of{agg:Bool}{size bytes:Nat}{z:Value}(h:FB P t=some (agg,size,bytes,some z)):Tp P t agg size bytes z:=by
 unfold FB at h
 split at h
 · rename_i d i hd hi
   simp only[Option.some.injEq,Prod.mk.injEq] at h
   exact⟨⟨d,hd,h.1⟩,⟨i,hi,h.2.1,h.2.2.1,h.2.2.2⟩⟩
 · cases h
theorem q4{size bytes:Nat}{z v:Value}{a:Addr}(ht:Tp P t false size bytes z)(hc:w.cell? a=some v):(loadVar t a).run P w= .ok v w:=by
 obtain⟨d,hd,ha⟩:=ht.desc
 simp only[loadVar,Sem.run_bind,lT hd,ha,Result.andThen_ok]
 simp[hc]
theorem kL{size bytes:Nat}{z:Value}{a:Addr}{cs:List Value}(ht:Tp P t true size bytes z)(hl:cs.length=size)(hc:∀j,j<size->w.cell? (a.add j)=cs[j]?):(loadVar t a).run P w= .ok (.agg cs.toArray) w:=by
 obtain⟨d,hd,ha⟩:=ht.desc
 obtain⟨i,hi,hs,_⟩:=ht.info
 have:=run_loadCells_list (P:=P) w a cs (λj v hj=>by
   have hlt:j<cs.length:=(List.getElem?_eq_some_iff.1 hj).1
   rw[hc j (by omega)];exact hj)
 simp only[loadVar,Sem.run_bind,lT hd,ha,Result.andThen_ok,if_true,dg hi,hs]
 rw[hl] at this
 rw[this]
 rfl
theorem cv{size bytes:Nat}{z v:Value}{a:Addr}(ht:Tp P t false size bytes z)(hx:ev f x= .pointer (some a))(hc:w.cell? a=some v):(execOp (ev f) ⟨dst,.load t x,ty,pos,after,g⟩).run P w= .ok (.value v) w:=by
 simp only[execOp,hx,Instr.loadAt,Instr.sureAddr,Sem.run_bind,Sem.run_pure,Result.andThen_ok,q4 ht hc]
theorem mP{size bytes:Nat}{z:Value}{a:Addr}{cs:List Value}(ht:Tp P t true size bytes z)(hx:ev f x= .pointer (some a))(hl:cs.length=size)(hc:∀j,j<size->w.cell? (a.add j)=cs[j]?):
   (execOp (ev f) ⟨dst,.load t x,ty,pos,after,g⟩).run P w= .ok (.value (.agg cs.toArray)) w:=by
 simp only[execOp,hx,Instr.loadAt,Instr.sureAddr,Sem.run_bind,Sem.run_pure,Result.andThen_ok,kL ht hl hc]
theorem ji(b o j:Nat):(⟨b,o,none⟩:Addr).add j=⟨b,o+j,none⟩:=by
 unfold Addr.add;split<;>simp_all
theorem a8{γ:ax}{J:cw->Prop}{b i size bytes:Nat}{z v:Value}{cs:List Value}(ht:Tp P t false size bytes z)(hx:ev f x= .pointer (some ⟨b,i,none⟩))(hb:Bx γ J w b cs)(hv:cs[i]? =some v):(execOp (ev f) ⟨dst,.load t x,ty,pos,after,g⟩).run P w= .ok (.value v) w:=
  cv ht hx (by rw[hb.cell];exact hv)
theorem av{γ:ax}{J:cw->Prop}{b i size bytes:Nat}{z:Value}{cs ds:List Value}(ht:Tp P t true size bytes z)(hx:ev f x= .pointer (some ⟨b,i,none⟩))(hb:Bx γ J w b cs)(hl:ds.length=size)(hv:(cs.drop i).take size=ds):(execOp (ev f) ⟨dst,.load t x,ty,pos,after,g⟩).run P w= .ok (.value (.agg ds.toArray)) w:=
  mP ht hx hl λj hj=>by
    rw[ji,hb.cell,<-hv]
    simp[hj]
theorem aa{fs:Array Field}{fd:Field}{i:Nat}{b o o2 s:Nat}(ht:P.underlying t=some (.struct fs))(hf:fs[i]? =some fd)(hs:(P.info? fd.type).map (·.size)=some (s+1))(hx:ev f x= .pointer (some ⟨b,o,none⟩))(ho:o+fd.offset=o2):
   (execOp (ev f) ⟨dst,.fieldAddr t x i,ty,pos,after,g⟩).run P w= .ok (.value (.pointer (some ⟨b,o2,none⟩))) w:=by
 subst ho
 cases hq:P.info? fd.type with
 |none=>simp[hq] at hs
 |some q=>
   simp only[hq,Option.map_some,Option.some.injEq] at hs
   simp[execOp,hx,Instr.fieldAt,Instr.sureAddr,aO ht,hf,fieldPlace,dg hq,hs,ji]
theorem aP{e len s b o o2:Nat}{i:Int}(ht:P.underlying t=some (.array len e))(hs:(P.info? e).map (·.size)=some s)(hx:ev f x= .pointer (some ⟨b,o,none⟩))(hy:ev f y= .int k i)(h0:0<=i)(h1:i<len)(ho:o+i.toNat*s=o2):
    (execOp (ev f) ⟨dst,.indexAddr t x y,ty,pos,after,g⟩).run P w= .ok (.value (.pointer (some ⟨b,o2,none⟩))) w:=by
  subst ho
  cases hq:P.info? e with
  |none=>simp[hq] at hs
  |some q=>
    simp only[hq,Option.map_some,Option.some.injEq] at hs
    simp[execOp,hx,hy,Instr.indexAt,asIntOf,Instr.sureAddr,aO ht,h0,h1,dg hq,hs,ji]
theorem ad{α:Type}[Rp α]{γ:ax}{S:cw->Prop}{xs:List α}{v:Value}{e:Nat}{i:Int}(ht:P.underlying t=some (.slice e))(hs:(P.info? e).map (·.size)=some (Rp.sz α))(hx:ev f x=v)(hv:Sl γ S w v xs)(hy:ev f y= .int k i)(h0:0<=i)(h1:i<xs.length):
   (execOp (ev f) ⟨dst,.indexAddr t x y,ty,pos,after,g⟩).run P w= .ok (.value (.pointer (some (bu v (Rp.sz α) i.toNat)))) w:=by
 cases hq:P.info? e with
 |none=>simp[hq] at hs
 |some q=>
   simp only[hq,Option.map_some,Option.some.injEq] at hs
   rcases hv with⟨⟨_,rfl⟩,rfl⟩|⟨b,off,cap,rfl,_⟩
   · simp at h1;omega
   · simp[execOp,hx,hy,Instr.indexAt,asIntOf,aO ht,h0,h1,dg hq,hs,ji,bu]
theorem lI(v:Value)(s i j:Nat):(bu v s i).add j=⟨(bu v s i).block,(bu v s i).off+j,none⟩:=by
 unfold Addr.add bu
 split
 · rename_i h;subst h;split<;>rfl
 · rfl
def gI{α:Type}[Inhabited α](xs:List α)(i:Int):α:=xs.getD i.toNat default
theorem jq{α:Type}[Inhabited α]{xs:List α}{i:Int}(h0:0<=i)(h1:i<xs.length):xs[i.toNat]? =some (gI xs i):=by
 have:i.toNat<xs.length:=by omega
 simp[gI,this]
theorem aw{α:Type}[Rp α][Fl α][Inhabited α]{γ:ax}{S:cw->Prop}{xs:List α}{v u:Value}{size bytes:Nat}{z:Value}{i:Int}(ht:Tp P t false size bytes z)(hx:ev f x= .pointer (some (bu v (Rp.sz α) i.toNat)))(hv:Sl γ S w v xs)(h0:0<=i)(h1:i<xs.length)
   (hz:0<Rp.sz α)(hu:(Fl.cells (gI xs i))[0]? =some u):(execOp (ev f) ⟨dst,.load t x,ty,pos,after,g⟩).run P w= .ok (.value u) w:=by
 obtain⟨cs,hcs,hr⟩:=hv.elem (jq h0 h1)
 have:=hcs 0 hz
 refine cv ht hx ?_
 rw[<-hu,<-Fl.rep_iff.1 hr,<-this]
 rfl
theorem bW{α:Type}[Rp α][Fl α][Inhabited α]{γ:ax}{S:cw->Prop}{xs:List α}{v:Value}{bytes:Nat}{z:Value}{i:Int}{cs:List Value}(ht:Tp P t true (Rp.sz α) bytes z)(hx:ev f x= .pointer (some (bu v (Rp.sz α) i.toNat)))(hv:Sl γ S w v xs)(h0:0<=i)(h1:i<xs.length)
   (hu:Fl.cells (gI xs i)=cs):(execOp (ev f) ⟨dst,.load t x,ty,pos,after,g⟩).run P w= .ok (.value (.agg cs.toArray)) w:=by
 obtain⟨cs',hcs,hr⟩:=hv.elem (jq h0 h1)
 obtain rfl:cs'=cs:=(Fl.rep_iff.1 hr).trans hu
 exact mP ht hx (Rp.len hr) hcs
theorem dH{α:Type}[Rp α][Fl α][Inhabited α]{γ:ax}{S:cw->Prop}{xs:List α}{v u:Value}{size bytes q:Nat}{z:Value}{i:Int}(ht:Tp P t false size bytes z)(hx:ev f x= .pointer (some ⟨(bu v (Rp.sz α) i.toNat).block,(bu v (Rp.sz α) i.toNat).off+q,none⟩))(hv:Sl γ S w v xs)(h0:0<=i)(h1:i<xs.length)
    (hz:q<Rp.sz α)(hu:(Fl.cells (gI xs i))[q]? =some u):(execOp (ev f) ⟨dst,.load t x,ty,pos,after,g⟩).run P w= .ok (.value u) w:=by
  obtain⟨cs,hcs,hr⟩:=hv.elem (jq h0 h1)
  have:=hcs q hz
  refine cv ht hx ?_
  rw[<-hu,<-Fl.rep_iff.1 hr,<-this,lI]
theorem lE(v:Value)(s i:Nat):bu v s i=⟨(bu v s i).block,(bu v s i).off,none⟩:=by
 unfold bu;split<;>rfl
theorem d3{e len s:Nat}{i:Int}{v:Value}{sz j:Nat}{o2:Nat}(ht:P.underlying t=some (.array len e))(hs:(P.info? e).map (·.size)=some s)(hx:ev f x= .pointer (some (bu v sz j)))(hy:ev f y= .int k i)(h0:0<=i)(h1:i<len)(ho:i.toNat*s=o2):
    (execOp (ev f) ⟨dst,.indexAddr t x y,ty,pos,after,g⟩).run P w= .ok (.value (.pointer (some ⟨(bu v sz j).block,(bu v sz j).off+o2,none⟩))) w:=
  aP ht hs (by rw[hx];exact congrArg (λa=>Value.pointer (some a)) (lE v sz j)) hy h0 h1 (by rw[ho])
theorem eP{fs:Array Field}{fd:Field}{i:Nat}{v:Value}{sz j o2 s:Nat}(ht:P.underlying t=some (.struct fs))(hf:fs[i]? =some fd)(hs:(P.info? fd.type).map (·.size)=some (s+1))(hx:ev f x= .pointer (some (bu v sz j)))(ho:fd.offset=o2):
   (execOp (ev f) ⟨dst,.fieldAddr t x i,ty,pos,after,g⟩).run P w= .ok (.value (.pointer (some ⟨(bu v sz j).block,(bu v sz j).off+o2,none⟩))) w:=
 aa ht hf hs (by rw[hx];exact congrArg (λa=>Value.pointer (some a)) (lE v sz j)) (by rw[ho])
def pI(e:Int×Int)(i:Int):Int:=if i=0 then e.1 else e.2
theorem gU(e:Int×Int){i:Int}(h0:0<=i)(h1:i<2):(Fl.cells e)[i.toNat]? =some (.int .i64 (pI e i)):=by
 have h:i=0\/i=1:=by omega
 rcases h with rfl|rfl<;>rfl
theorem bG{w1:World}{α:Type}[Rp α]{γ:ax}{S:cw->Prop}{xs:List α}{v:Value}{e:Nat}(ht:P.underlying t=some (.slice e))(hx:ev f x=v)(hv:Sl γ S w1 v xs):
   (execOp (ev f) ⟨dst,.call {callee:=.builtin .len,args:= #[x],argTypes:= #[t]},ty,pos,after,g⟩).run P w= .ok (.value (.int .i64 xs.length)) w:=by
 rw[hv.form] at hx
 simp[execOp,resolve,invoke,builtin,hx,Builtin.len_,aO ht,goInt]
theorem io{at_:Array TypeId}(hx:ev f x= .int k m)(hy:ev f y= .int k n):(execOp (ev f) ⟨dst,.call {callee:=.builtin .min,args:= #[x,y],argTypes:=at_},ty,pos,after,g⟩).run P w= .ok (.value (.int k (min m n))) w:=by
 have h:(if n<m then n else m)=min m n:=by omega
 simp[execOp,resolve,invoke,builtin,hx,hy,Builtin.min_,Builtin.min2,h]
theorem tU{at_:Array TypeId}(hx:ev f x= .int k m)(hy:ev f y= .int k n):(execOp (ev f) ⟨dst,.call {callee:=.builtin .max,args:= #[x,y],argTypes:=at_},ty,pos,after,g⟩).run P w= .ok (.value (.int k (max m n))) w:=by
 have h:(if m<n then n else m)=max m n:=by omega
 simp[execOp,resolve,invoke,builtin,hx,hy,Builtin.max_,Builtin.max2,h]
theorem iz{cs:Array Value}{o:Nat}{v:Value}{size bytes:Nat}{z:Value}(ht:Tp P t false size bytes z)(hv:cs[o]? =some v):(part t cs o).run P w= .ok v w:=by
 obtain⟨d,hd,ha⟩:=ht.desc
 simp only[part,Sem.run_bind,lT hd,ha,Result.andThen_ok]
 simp[hv]
theorem eo{e len bytes:Nat}{i:Int}{cs:List Value}{v z:Value}(ht:P.underlying t=some (.array len e))(he:Tp P e false 1 bytes z)(hx:ev f x= .agg cs.toArray)(hy:ev f y= .int k i)(h0:0<=i)(h1:i<len)(hv:cs[i.toNat]? =some v):
   (execOp (ev f) ⟨dst,.index t x y,ty,pos,after,g⟩).run P w= .ok (.value v) w:=by
 obtain⟨q,hq,hs,_⟩:=he.info
 have hp:=iz (P:=P) (w:=w) (cs:=cs.toArray) (o:=i.toNat) he (by simpa using hv)
 simp[execOp,hx,hy,Instr.index,asIntOf,aO ht,h0,h1,dg hq,hs,hp]
theorem rK{fs:Array Field}{fd:Field}{i bytes size:Nat}{cs:List Value}{v z:Value}(ht:P.underlying t=some (.struct fs))(hf:fs[i]? =some fd)(he:Tp P fd.type false size bytes z)(hx:ev f x= .agg cs.toArray)(hv:cs[fd.offset]? =some v):
   (execOp (ev f) ⟨dst,.field t x i,ty,pos,after,g⟩).run P w= .ok (.value v) w:=by
 have hp:=iz (P:=P) (w:=w) (cs:=cs.toArray) (o:=fd.offset) he (by simpa using hv)
 simp[execOp,hx,Instr.field,asAgg,aO ht,hf,hp]
theorem ay{i:Nat}{vs:List Value}{v:Value}(hx:ev f x= .tuple vs.toArray)(hv:vs[i]? =some v):
   (execOp (ev f) ⟨dst,.extract x i,ty,pos,after,g⟩).run P w= .ok (.value v) w:=by
 simp[execOp,hx,Instr.extract,hv]
theorem bn{parts:List (Nat×Operand)}{vs:List (Nat×Value)}{v:Value}(hp:(parts.map λx=>(x.1,ev f x.2))=vs)(h:(Instr.build t vs.toArray).run P w= .ok v w):
    (execOp (ev f) ⟨dst,.build t parts.toArray,ty,pos,after,g⟩).run P w= .ok (.value v) w:=by
  have hp':(parts.toArray.map λ(i,x)=>(i,ev f x))=vs.toArray:=by rw[<-hp];simp
  simp only[execOp,hp',Sem.run_bind,h,Result.andThen_ok,Sem.run_pure]
end
section
variable{P:Program}{f:Fr}{w:World}{dst:Option Tmp}{ty:TypeId}{pos:String}{after:Array Edge}{g:Option (Nat×Bool)}{t:TypeId}{x y:Operand}
variable{N:Value->World->Prop}
theorem ao{o:Oper}{v:Value}{w':World}(h:(execOp (ev f) o).run P w= .ok (.value v) w')(hk:N v w'):fv P o f w N:=by unfold fv;rw[h];exact hk
theorem gj{o:Oper}{w':World}(h:(execOp (ev f) o).run P w= .ok .skip w')(hk:N undef w'):fv P o f w N:=by unfold fv;rw[h];exact hk
theorem bI{op:Op}{v:Value}{w':World}{fid:Nat}{args:Array Value}{S:World->Prop}(h:(execOp (ev f) ⟨dst,op,ty,pos,after,g⟩).run P w= .ok (.enter fid args) w')(hc:Calls P fid args w' λe w''=>e= .returned v/\S w'')
    (hk:∀w'',S w''->N v w''):fv P ⟨dst,op,ty,pos,after,g⟩ f w N:=by
  unfold fv;rw[h]
  refine hc.mono λe w'' he=>?_
  obtain⟨rfl,hs⟩:=he
  exact hk w'' hs
theorem bB{op:Op}{w':World}{σ:Type}{fid:Nat}{args:Array Value}{V:σ->Value}{S:σ->World->Prop}(h:(execOp (ev f) ⟨dst,op,ty,pos,after,g⟩).run P w= .ok (.enter fid args) w')(hc:Calls P fid args w' λe w''=>∃x,e= .returned (V x)/\S x w'')
   (hk:∀x w'',S x w''->N (V x) w''):fv P ⟨dst,op,ty,pos,after,g⟩ f w N:=by
 unfold fv;rw[h]
 refine hc.mono λe w'' he=>?_
 obtain⟨x,rfl,hs⟩:=he
 exact hk x w'' hs
theorem aZ(γ:ax)(J:cw->Prop)(c:cw)(hJ:J c){agg:Bool}{size bytes:Nat}{z:Value}(ht:Tp P t agg size bytes z)
    (hk:∀γ' w' b,bg no γ w γ' w'->Bx γ' J w' b z.cells.toList->N (.pointer (some ⟨b,0,none⟩)) w'):fv P ⟨dst,.alloc t,ty,pos,after,g⟩ f w N:=by
  obtain⟨i,hi,_,_,hz⟩:=ht.info
  refine ao (v:=.pointer (some ⟨w.heap.size,0,none⟩)) (w':=w.alloc (.cells z.cells t)) ?_ (hk (i4 γ w.heap.size c) _ _ (fk γ w _ c) (qE γ w _ _ c hJ))
  simp[execOp,Instr.alloc,eF hi hz,newVar,newRow]
theorem bU(γ:ax)(J:cw->Prop)(c:cw)(hJ:J c){v:Value}(hx:ev f x=v)
   (hk:∀γ' w' b,bg no γ w γ' w'->Bx γ' J w' b v.cells.toList->N (.pointer (some ⟨b,0,none⟩)) w'):fv P ⟨dst,.box t x,ty,pos,after,g⟩ f w N:=by
 refine ao (v:=.pointer (some ⟨w.heap.size,0,none⟩)) (w':=w.alloc (.cells v.cells t)) ?_ (hk (i4 γ w.heap.size c) _ _ (fk γ w _ c) (qE γ w _ _ c hJ))
 simp[execOp,hx,Instr.box,newVar,newRow]
theorem mC{agg:Bool}{size bytes:Nat}{z v:Value}(ht:Tp P t agg size bytes z){b o:Nat}{cur:Array Value}{e:TypeId}(hb:w.heap[b]? =some (.cells cur e (0,0)))(hs:v.cells.size=size)(hl:o+size<=cur.size)(h1:∀u∈v.cells.toList,u.oneCell'=true):
   (storeVar t ⟨b,o,none⟩ v).run P w= .ok () (w.setRow b (cur.toList.take o++v.cells.toList++cur.toList.drop (o+size)).toArray):=by
 obtain⟨i,hi,hsz,_⟩:=ht.info
 have hst:=run_storeCells_at P b o e v.cells.toList 0 cur w hb (by simpa[hs] using hl) h1
 simp only[Nat.add_zero,Array.length_toList,hs] at hst
 simp[storeVar,dg hi,hsz,hs,hst]
theorem jO{agg:Bool}{size bytes:Nat}{z v:Value}(ht:Tp P t agg size bytes z){b o:Nat}{cur:Array Value}{e:TypeId}(hx:ev f x= .pointer (some ⟨b,o,none⟩))(hy:ev f y=v)(hb:w.heap[b]? =some (.cells cur e (0,0)))(hs:v.cells.size=size)(hl:o+size<=cur.size)(h1:∀u∈v.cells.toList,u.oneCell'=true):
   (execOp (ev f) ⟨dst,.store t x y,ty,pos,after,g⟩).run P w= .ok .skip (w.setRow b (cur.toList.take o++v.cells.toList++cur.toList.drop (o+size)).toArray):=by
 simp[execOp,hx,hy,Instr.storeAt,Instr.sureAddr,mC ht hb hs hl h1]
theorem qX(w:World)(b:Nat)(c:Array Value):(w.setRow b c).heap.size=w.heap.size:=by simp[World.setRow]
theorem km(γ:ax)(w:World)(b:Nat)(c:Array Value){J:cw->Prop}(hJ:J (γ b)):bg J γ w γ (w.setRow b c):=
 ⟨rfl,rfl,rfl,by rw[qX];exact Nat.le_refl _,λ_ _ _=>rfl,λk _ hk=>setRow_other w b k c (λh=>hk (by subst h;exact hJ)),Nat.le_refl _⟩
theorem iW(l vs:List Value)(o k:Nat)(h:o+vs.length<=l.length):(l.take o++vs++l.drop (o+vs.length))[k]? =if o<=k/\k<o+vs.length then vs[k-o]? else l[k]? :=by
 have hm:(l.take o).length=o:=by rw[List.length_take];omega
 by_cases h1:k<o
 · have h3:¬(o<=k/\k<o+vs.length):=by omega
   rw[if_neg h3,List.append_assoc,List.getElem?_append_left (by omega),List.getElem?_take,if_pos h1]
 · by_cases h2:k<o+vs.length
   · have h3:o<=k/\k<o+vs.length:=by omega
     rw[if_pos h3,List.getElem?_append_left (by simp;omega),List.getElem?_append_right (by omega),hm]
   · have h3:¬(o<=k/\k<o+vs.length):=by omega
     rw[if_neg h3,List.getElem?_append_right (by simp;omega),List.getElem?_drop]
     congr 1
     rw[List.length_append,hm]
     omega
theorem aA{γ:ax}{J:cw->Prop}{agg:Bool}{size bytes b o:Nat}{z v:Value}{cs cs':List Value}(ht:Tp P t agg size bytes z)(hx:ev f x= .pointer (some ⟨b,o,none⟩))(hy:ev f y=v)(hb:Bx γ J w b cs)
    (hs:v.cells.size=size)(hl:o+size<=cs.length)(h1:v.cells.toList.all (·.oneCell')=true)(hcs:cs.take o++v.cells.toList++cs.drop (o+size)=cs')
    (hk:∀w',bg J γ w γ w'->Bx γ J w' b cs'->N undef w'):fv P ⟨dst,.store t x y,ty,pos,after,g⟩ f w N:=by
  obtain⟨hJ,e,hbl⟩:=hb
  refine gj (jO ht hx hy hbl hs (by simpa using hl) (λu hu=>List.all_eq_true.1 h1 u hu)) (hk _ (km γ w b _ hJ) ⟨hJ,e,?_⟩)
  rw[setRow_heap w b _ _ e _ hbl]
  simp[hcs]
theorem sZ{α:Type}[Rp α][Fl α]{γ:ax}{J S:cw->Prop}{v u:Value}{xs:List α}{i:Nat}{y:α}(hv:Ow γ J S w v xs)(hi:i<xs.length)(hu:u.cells.toList=Fl.cells y):
    ∃b o cur e,bu v (Rp.sz α) i=⟨b,o,none⟩/\w.heap[b]? =some (.cells cur e (0,0))/\o+Rp.sz α<=cur.size/\bg J γ w γ (w.setRow b (cur.toList.take o++u.cells.toList++cur.toList.drop (o+Rp.sz α)).toArray)/\
      Ow γ J S (w.setRow b (cur.toList.take o++u.cells.toList++cur.toList.drop (o+Rp.sz α)).toArray) v (xs.set i y):=by
  have hlen:∀y:α,(Fl.cells y).length=Rp.sz α:=λy=>Rp.len (γ:=γ) (S:=S) (w:=w) (Fl.rep_iff.2 rfl)
  rcases hv with⟨rfl,rfl⟩|⟨b,cap,c,e,rfl,hc,hm,hJ,hb,hsz,hx⟩
  · simp at hi
  · have hle:i*Rp.sz α+Rp.sz α<=c.size:=by
      rw[hsz,<-Nat.succ_mul]
      exact Nat.mul_le_mul_right _ (by omega)
    have hul:u.cells.toList.length=Rp.sz α:=by rw[hu,hlen]
    refine⟨b,i*Rp.sz α,c,e,by simp[bu],hb,hle,km γ w b _ hJ,.inr ⟨b,cap,_,e,by simp,by simpa using hc,hm,hJ,setRow_heap w b _ _ e _ hb,?_,λk x hk=>?_⟩⟩
    · simp only[List.size_toArray,List.length_append,List.length_take,List.length_drop,Array.length_toList,hul]
      omega
    · have hks:∀j,j<Rp.sz α->(c.toList.take (i*Rp.sz α)++u.cells.toList++c.toList.drop (i*Rp.sz α+Rp.sz α)).toArray[k*Rp.sz α+j]? =if k=i then(Fl.cells y)[j]? else c[k*Rp.sz α+j]? :=by
        intro j hj
        have h0:=iW c.toList u.cells.toList (i*Rp.sz α) (k*Rp.sz α+j) (by rw[hul];simpa using hle)
        rw[hul] at h0
        rw[List.getElem?_toArray,h0]
        by_cases hki:k=i
        · subst hki
          have:k*Rp.sz α<=k*Rp.sz α+j/\k*Rp.sz α+j<k*Rp.sz α+Rp.sz α:=by omega
          rw[if_pos this,if_pos rfl,hu]
          congr 1;omega
        · have:¬(i*Rp.sz α<=k*Rp.sz α+j/\k*Rp.sz α+j<i*Rp.sz α+Rp.sz α):=by
            rintro⟨h1,h2⟩
            rcases Nat.lt_or_gt_of_ne hki with h|h
            · have h3:(k+1)*Rp.sz α<=i*Rp.sz α:=Nat.mul_le_mul_right _ h
              rw[Nat.succ_mul] at h3;omega
            · have h3:(i+1)*Rp.sz α<=k*Rp.sz α:=Nat.mul_le_mul_right _ h
              rw[Nat.succ_mul] at h3;omega
          rw[if_neg this,if_neg hki];simp
      by_cases hki:k=i
      · subst hki
        have hxy:x=y:=by
          rw[List.getElem?_set] at hk
          simp[hi] at hk
          exact hk.symm
        subst hxy
        exact⟨Fl.cells x,λj hj=>by rw[hks j hj,if_pos rfl],Fl.rep_iff.2 rfl⟩
      · rw[List.getElem?_set_ne (Ne.symm hki)] at hk
        obtain⟨cs,hcs,hr⟩:=hx k x hk
        exact⟨cs,λj hj=>by rw[hks j hj,if_neg hki];exact hcs j hj,Fl.rep_iff.2 (Fl.rep_iff.1 hr)⟩
theorem aU{α:Type}[Rp α][Fl α]{γ:ax}{J S:cw->Prop}{agg:Bool}{bytes:Nat}{z v u:Value}{xs:List α}{i:Int}(yv:α)(ht:Tp P t agg (Rp.sz α) bytes z)(hx:ev f x= .pointer (some (bu v (Rp.sz α) i.toNat)))(hy:ev f y=u)(hv:Ow γ J S w v xs)(h0:0<=i)(h1:i<xs.length)
   (hu:u.cells.toList=Fl.cells yv)
   (hk:∀w',bg J γ w γ w'->Ow γ J S w' v (xs.set i.toNat yv)->N undef w'):fv P ⟨dst,.store t x y,ty,pos,after,g⟩ f w N:=by
 have hlen:(Fl.cells yv).length=Rp.sz α:=Rp.len (γ:=γ) (S:=S) (w:=w) (Fl.rep_iff.2 rfl)
 obtain⟨b,o,cur,e,ha,hb,hle,hc,hov⟩:=sZ (u:=u) (y:=yv) hv (i:=i.toNat) (by omega) hu
 rw[ha] at hx
 have hul:u.cells.size=Rp.sz α:=by rw[<-hlen,<-hu];simp
 exact gj (jO ht hx hy hb hul hle (λq hq=>Rp.one (γ:=γ) (S:=S) (w:=w) (x:=yv) (Fl.rep_iff.2 rfl) q (by rw[<-hu];exact hq))) (hk _ hc hov)
theorem aB{fid:Nat}{fn:Func}{args:List Operand}{at_:Array TypeId}{vals:List Value}(hf:P.funcs[fid]? =some fn)(hb:fn.body.isNone=false)(hn:(fn.name== "runtime.NumGoroutine")=false)(ha:args.map (ev f)=vals):
   (execOp (ev f) ⟨dst,.call {callee:=.value (.func fid),args:=args.toArray,argTypes:=at_},ty,pos,after,g⟩).run P w= .ok (.enter fid vals.toArray) w:=by
 have ha:args.toArray.map (ev f)=vals.toArray:=by rw[<-ha];simp
 simp only[execOp,resolve,ev,Deferred.ofValue,invoke,callFunc,ha,Sem.run_bind,Sem.run_pure,Result.andThen_ok,run_program,hf,hn,hb,Bool.false_eq_true,if_false,Array.append_empty,Array.empty_append]
theorem dF{α:Type}[Rp α][Fl α](γ:ax)(J S:cw->Prop)(c:cw)(hJ:J c){e bytes:Nat}{agg:Bool}{z:Value}(zv:α){kl kc:IntKind}{l cp:Int}(ht:P.underlying t=some (.slice e))(he:Tp P e agg (Rp.sz α) bytes z)(hz:z.cells.toList=Fl.cells zv)
   (hx:ev f x= .int kl l)(hy:ev f y= .int kc cp)(h0:0<=l)(hlc:l<=cp)(hc:cp*bytes<=281474976710656)(hc2:cp<=1099511627776)
   (hk:∀γ' w' v,bg no γ w γ' w'->Ow γ' J S w' v (List.replicate l.toNat zv)->rE v=cp.toNat->N v w'):fv P ⟨dst,.makeSlice t x y,ty,pos,after,g⟩ f w N:=by
 have hlen:∀y:α,(Fl.cells y).length=Rp.sz α:=λy=>Rp.len (γ:=γ) (S:=S) (w:=w) (Fl.rep_iff.2 rfl)
 obtain⟨i,hi,hs,hb,hz'⟩:=he.info
 have hr:=run_make (P:=P) w t e i z ht hi hz' kl kc l cp h0 hlc (by rw[hb,Int.mul_comm];exact hc) (by omega)
 refine ao (v:=.slice (some ⟨w.heap.size,0,none⟩) l.toNat cp.toNat) (w':=w.alloc (.cells (madeCells z.cells (cp.toNat*i.size)) e)) ?_ (hk (i4 γ w.heap.size c) _ _ (fk γ w _ c) (.inr ⟨w.heap.size,cp.toNat,_,e,by simp,by simp;omega,?_,by simpa[i4] using hJ,dc w _,by simp[madeCells,hs],λk x hkx=>?_⟩) rfl)
 · simp[execOp,hx,hy,hr]
 · unfold maxLen;omega
 · have hkl:k<l.toNat:=by
     have:=(List.getElem?_eq_some_iff.1 hkx).1
     simpa using this
   have hxz:x=zv:=by
     rw[List.getElem?_replicate] at hkx
     simp[hkl] at hkx
     exact hkx.symm
   subst hxz
   refine⟨Fl.cells x,λj hj=>?_,Fl.rep_iff.2 rfl⟩
   have hzs:z.cells.size=Rp.sz α:=by rw[<-hlen x,<-hz];simp
   have hlt:k*Rp.sz α+j<cp.toNat*i.size:=by
     rw[hs]
     have h1:(k+1)*Rp.sz α<=cp.toNat*Rp.sz α:=Nat.mul_le_mul_right _ (by omega)
     rw[Nat.succ_mul] at h1;omega
   have hmod:(k*Rp.sz α+j)%Rp.sz α=j:=by rw[Nat.mul_comm,Nat.mul_add_mod];exact Nat.mod_eq_of_lt hj
   simp only[madeCells]
   rw[Array.getElem?_map,Array.getElem?_range,if_pos hlt]
   simp only[Option.map_some,hzs,hmod]
   rw[<-hz]
   have hjz:j<z.cells.size:=by omega
   simp[hjz]
def flat{α:Type}[Rp α][Fl α](xs:List α):List Value:=xs.flatMap Fl.cells
theorem eU{α:Type}[Rp α][Fl α](xs:List α):(flat xs).length=xs.length*Rp.sz α:=by
 induction xs with
 |nil=>simp[flat]
 |cons x xs ih=>
   have h:(Fl.cells x).length=Rp.sz α:=Rp.len (γ:=c0) (S:=any) (w:=default) (Fl.rep_iff.2 rfl)
   simp only[flat,List.flatMap_cons,List.length_append,List.length_cons,h] at ih ⊢
   rw[ih,Nat.succ_mul];omega
theorem jb{α:Type}[Rp α][Fl α]:∀(xs:List α) (i j:Nat) (x:α),xs[i]? =some x->j<Rp.sz α->(flat xs)[i*Rp.sz α+j]? =(Fl.cells x)[j]?
 |[],i,j,x,h,_=>by simp at h
 |y::ys,i,j,x,h,hj=>by
   have hl:(Fl.cells y).length=Rp.sz α:=Rp.len (γ:=c0) (S:=any) (w:=default) (Fl.rep_iff.2 rfl)
   cases i with
   |zero=>
     obtain rfl:y=x:=by simpa using h
     simp only[flat,List.flatMap_cons,Nat.zero_mul,Nat.zero_add]
     rw[List.getElem?_append_left (by omega)]
   |succ i=>
     have h':ys[i]? =some x:=by simpa using h
     have ih:=jb ys i j x h' hj
     simp only[flat,List.flatMap_cons] at ih ⊢
     rw[List.getElem?_append_right (by rw[hl,Nat.succ_mul];omega),hl]
     rw[<-ih]
     congr 1
     rw[Nat.succ_mul];omega
theorem mh{α:Type}[Rp α][Fl α](xs ys:List α):flat (xs++ys)=flat xs++flat ys:=by simp[flat]
inductive Els {α:Type} [Rp α] [Fl α]:Nat->List (Nat×Value)->List α->Prop
  |nil {k:Nat}:Els k [] []
  |cons {k:Nat} {v:Value} {x:α} {vs:List (Nat×Value)} {xs:List α} (h:v.cells.toList=Fl.cells x) (t:Els (k+1) vs xs):Els k ((k,v)::vs) (x::xs)
theorem kY(pre post:List Value):∀(cs mid done:List Value),mid.length=cs.length->
   (cs.zipIdx done.length).foldl (λ(a:Array Value) (x:Value×Nat)=>a.setIfInBounds (pre.length+x.2) x.1) (pre++done++mid++post).toArray=(pre++done++cs++post).toArray
 |[],mid,done,h=>by
   have:mid=[]:=List.eq_nil_of_length_eq_zero (by simpa using h)
   subst this;simp
 |c::cs,[],done,h=>by simp at h
 |c::cs,m::mid,done,h=>by
   simp only[List.zipIdx_cons,List.foldl_cons]
   have e1:(pre++done++(m::mid)++post).toArray.setIfInBounds (pre.length+done.length) c=(pre++(done++[c])++mid++post).toArray:=by
     rw[List.setIfInBounds_toArray]
     congr 1
     have:pre.length+done.length=(pre++done).length:=by simp
     rw[this]
     simp
   rw[e1]
   have ih:=kY pre post cs mid (done++[c]) (by simpa using h)
   simp only[List.length_append,List.length_cons,List.length_nil,Nat.zero_add] at ih
   rw[ih]
   simp
theorem qT{α:Type}[Rp α][Fl α]:∀(vs:List (Nat×Value)) (xs:List α) (k:Nat) (pre rest:List Value),Els k vs xs->pre.length=k*Rp.sz α->rest.length=xs.length*Rp.sz α->
   Instr.fill (λi=>some (i*Rp.sz α,Rp.sz α)) (pre++rest).toArray vs=some (pre++flat xs).toArray
 |[],_,k,pre,rest,.nil,hp,hr=>by
   have:rest=[]:=List.eq_nil_of_length_eq_zero (by simpa using hr)
   subst this;simp[Instr.fill,flat]
 |(_,v)::vs,x::xs,k,pre,rest,.cons h t,hp,hr=>by
   have hl:(Fl.cells x).length=Rp.sz α:=Rp.len (γ:=c0) (S:=any) (w:=default) (Fl.rep_iff.2 rfl)
   have hv:v.cells.size=Rp.sz α:=by rw[<-hl,<-h];simp
   have hr':rest.length=xs.length*Rp.sz α+Rp.sz α:=by rw[hr,List.length_cons,Nat.succ_mul]
   have hsplit:rest=rest.take (Rp.sz α)++rest.drop (Rp.sz α):=(List.take_append_drop _ _).symm
   have hfold:(v.cells.zipIdx.foldl (λcs (c,j)=>cs.setIfInBounds (k*Rp.sz α+j) c) (pre++rest).toArray)=((pre++Fl.cells x)++rest.drop (Rp.sz α)).toArray:=by
     have h0:=kY pre (rest.drop (Rp.sz α)) v.cells.toList (rest.take (Rp.sz α)) [] (by simp[hv];omega)
     simp only[List.append_nil,List.length_nil,hp] at h0
     rw[List.append_assoc pre,<-hsplit,h] at h0
     rw[<-Array.foldl_toList,Array.toList_zipIdx,h]
     exact h0
   have hc:¬(v.cells.size≠Rp.sz α\/(pre++rest).toArray.size<k*Rp.sz α+v.cells.size):=by
     rw[hv];simp[hp,hr']
   simp only[Instr.fill]
   have hc':(decide (v.cells.size≠Rp.sz α)||decide (k*Rp.sz α+v.cells.size>(pre++rest).toArray.size))=false:=by
     rw[hv];simp[hp,hr']
   rw[if_neg (by simpa using hc')]
   rw[hfold]
   have ih:=qT vs xs (k+1) (pre++Fl.cells x) (rest.drop (Rp.sz α)) t (by rw[List.length_append,hp,hl,Nat.succ_mul]) (by rw[List.length_drop,hr'];omega)
   rw[ih]
   simp[flat]
theorem aq{α:Type}[Rp α][Fl α](γ:ax)(J S:cw->Prop)(c:cw)(hJ:J c){e bytes len:Nat}{agg:Bool}{z:Value}{parts:List (Nat×Operand)}{vs:List (Nat×Value)}(xs:List α)(ht:P.underlying t=some (.slice e))(he:Tp P e agg (Rp.sz α) bytes z)
    (hn:len*Rp.sz α≠0)(hn2:len*Rp.sz α<=16777216)(hp:(parts.map λx=>(x.1,ev f x.2))=vs)(hlen:xs.length=len)
    (hels:Els 0 vs xs)
    (hk:∀γ' w' v,bg no γ w γ' w'->Ow γ' J S w' v xs->N v w'):fv P ⟨dst,.buildSlice t len parts.toArray,ty,pos,after,g⟩ f w N:=by
  have hp':(parts.toArray.map λ(i,x)=>(i,ev f x))=vs.toArray:=by rw[<-hp];simp
  have hfill:Instr.fill (λi=>some (i*Rp.sz α,Rp.sz α)) ((Array.range (len*Rp.sz α)).map (z.cells[· %z.cells.size]!)) vs=some (flat xs).toArray:=by
    have h0:=qT vs xs 0 [] (((Array.range (len*Rp.sz α)).map (z.cells[· %z.cells.size]!)).toList) hels (by simp) (by simp[hlen])
    simpa only[List.nil_append,Array.toArray_toList] using h0
  obtain⟨i,hi,hs,hb,hz'⟩:=he.info
  refine ao (v:=.slice (some ⟨w.heap.size,0,none⟩) len len) (w':=w.alloc (.cells (flat xs).toArray e)) ?_ (hk (i4 γ w.heap.size c) _ _ (fk γ w _ c) (.inr ⟨w.heap.size,len,_,e,by rw[hlen],by
    have hz0:0<Rp.sz α:=Nat.pos_of_ne_zero λh=>hn (by simp[h])
    have h3:len<=len*Rp.sz α:=Nat.le_mul_of_pos_right _ hz0
    omega,?_,by simpa[i4] using hJ,dc w _,by simp[eU,hlen],λk x hkx=>?_⟩))
  · have h1:¬(2^24<len*Rp.sz α):=by omega
    simp only[execOp,hp',Sem.run_bind,Instr.buildSlice,aO ht,Result.andThen_ok,dg hi,hs]
    simp only[gt_iff_lt,h1,if_false,hn,eF hi hz',Sem.run_bind,Sem.run_pure,Result.andThen_ok,hfill]
    simp[newRow]
  · have hz0:0<Rp.sz α:=Nat.pos_of_ne_zero λh=>hn (by simp[h])
    have h3:len<=len*Rp.sz α:=Nat.le_mul_of_pos_right _ hz0
    unfold maxLen;omega
  · exact⟨Fl.cells x,λj hj=>by rw[List.getElem?_toArray];exact jb xs k j x hkx hj,Fl.rep_iff.2 rfl⟩
theorem rF{α:Type}[Rp α][Fl α]{γ:ax}{S:cw->Prop}{b off cap:Nat}{xs:List α}(h:Sl γ S w (.slice (some ⟨b,off,none⟩) xs.length cap) xs):∀j u,(flat xs)[j]? =some u->w.cell? ((⟨b,off,none⟩:Addr).add j)=some u:=by
 intro j u hj
 have hlt:j<xs.length*Rp.sz α:=by rw[<-eU];exact(List.getElem?_eq_some_iff.1 hj).1
 have hz0:0<Rp.sz α:=Nat.pos_of_ne_zero λh=>by rw[h] at hlt;simp at hlt
 have hi:j/Rp.sz α<xs.length:=Nat.div_lt_of_lt_mul (by rw[Nat.mul_comm];exact hlt)
 have hx:xs[j/Rp.sz α]? =some xs[j/Rp.sz α]:=List.getElem?_eq_getElem hi
 have hm:j%Rp.sz α<Rp.sz α:=Nat.mod_lt _ hz0
 have hg:=jb xs (j/Rp.sz α) (j%Rp.sz α) _ hx hm
 have hd:j/Rp.sz α*Rp.sz α+j%Rp.sz α=j:=by rw[Nat.mul_comm];exact Nat.div_add_mod j _
 rw[hd,hj] at hg
 obtain⟨cs,hcs,hr⟩:=h.elem hx
 rw[Fl.rep_iff.1 hr] at hcs
 have h2:=hcs _ hm
 rw[<-hg] at h2
 rw[<-h2,ji]
 simp only[bu,ji]
 rw[Nat.add_assoc,hd]
theorem wQ{α:Type}[Rp α][Fl α](xs:List α):∀u∈flat xs,u.oneCell'=true:=by
 intro u hu
 obtain⟨x,hx,hu⟩:=List.mem_flatMap.1 hu
 exact Rp.one (γ:=c0) (S:=any) (w:=default) (x:=x) (Fl.rep_iff.2 rfl) u hu
theorem lF(t ty e e':TypeId)(i:TypeInfo)(ht:P.underlying t=some (.slice e))(hi:P.info? e=some i)
   (g sLen rE:Nat)(cur:Array Value)(hg:w.heap[g]? =some (.cells cur e' (0,0)))
   (a:Addr)(m c:Nat)(news:List Value)(hl:news.length=m*i.size)(hnews:∀j u,news[j]? =some u->w.cell? (a.add j)=some u)(h1:∀u∈news,u.oneCell'=true)
   (hroom:sLen+m<=rE)(hfit:sLen*i.size+news.length<=cur.size):
   (Builtin.append_ #[t,t] ty #[.slice (some ⟨g,0,none⟩) sLen rE,.slice (some a) m c]).run P w=
     .ok (.slice (some ⟨g,0,none⟩) (sLen+m) rE) (w.setRow g (cur.toList.take (sLen*i.size)++news++cur.toList.drop (sLen*i.size+news.length)).toArray):=by
 have hf:=run_firstCells_some (P:=P) w i.size m a m c news hl hnews
 have hst:=run_storeCells_at P g (sLen*i.size) e' news 0 cur w hg (by simpa using hfit) h1
 simp only[Nat.add_zero] at hst
 simp[Builtin.append_,run_underlying ht,Go.sizeOf,typeInfo,hi,Builtin.lenOf,hroom,hf,Addr.add_lit,hst]
theorem ti{α:Type}[Rp α][Fl α](γ:ax){J S S':cw->Prop}(c:cw)(hJ:J c){e bytes:Nat}{agg:Bool}{z v u:Value}{xs ys:List α}(ht:P.underlying t=some (.slice e))(he:Tp P e agg (Rp.sz α) bytes z)(hz0:0<Rp.sz α)(hzc:z.cells.size=Rp.sz α)
   (hv:Ow γ J S w v xs)(hu:Sl γ S' w u ys)(hby:bytes<=128)(hlen2:xs.length+ys.length<=1099511627776):
   ∃γ' w' v',(Builtin.append_ #[t,t] ty #[v,u]).run P w= .ok v' w'/\bg J γ w γ' w'/\Ow γ' J S w' v' (xs++ys):=by
 obtain⟨i,hi,hs,hb,hz'⟩:=he.info
 have hlen:(xs.length+ys.length)*bytes<=140737488355328:=by
   have:=Nat.mul_le_mul hlen2 hby
   omega
 rcases hu with⟨⟨a2,rfl⟩,rfl⟩|⟨b2,off2,cap2,rfl,hc2,hx2⟩
 · refine⟨γ,w,v,?_,bg.refl _ _ _,by simpa using hv⟩
   have hv':=hv
   rcases hv with⟨rfl,rfl⟩|⟨b,cap,cc,e',rfl,hc,hm,hJb,hbl,hcs,hx⟩
   · cases a2<;>simp[Builtin.append_,aO ht,dg hi,Builtin.lenOf,Builtin.firstCells,storeCells,loadCells,loadCellsFrom]
   · cases a2<;>simp[Builtin.append_,aO ht,dg hi,Builtin.lenOf,Builtin.firstCells,storeCells,loadCells,loadCellsFrom,hc]
 · have hsl:Sl γ S' w (.slice (some ⟨b2,off2,none⟩) ys.length cap2) ys:=.inr ⟨b2,off2,cap2,rfl,hc2,hx2⟩
   have hnews:=rF hsl
   have grown:∀(old:Nat),Ow (i4 γ w.heap.size c) J S (w.drew.alloc (.cells ((flat xs).toArray++(flat ys).toArray++Builtin.zeroCells z.cells (grownCap w (xs.length+ys.length) old e-(xs.length+ys.length))) e))
       (.slice (some ⟨w.heap.size,0,none⟩) (xs.length+ys.length) (grownCap w (xs.length+ys.length) old e)) (xs++ys):=by
     intro old
     have hge:=grownCap_ge w (xs.length+ys.length) old e
     have hle:=grownCap_le_maxLen w (xs.length+ys.length) old e (by unfold maxLen;omega)
     refine .inr ⟨w.heap.size,_,_,e,by rw[List.length_append],by rw[List.length_append];exact⟨hge,hlen2⟩,hle,by simpa[i4] using hJ,dc w.drew _,?_,λk x hk=>⟨Fl.cells x,λj hj=>?_,Fl.rep_iff.2 rfl⟩⟩
     · simp only[Array.size_append,List.size_toArray,eU,size_zeroCells,hzc]
       rw[<-Nat.add_mul,<-Nat.add_mul]
       congr 1
       omega
     · have hf:=jb (xs++ys) k j x hk hj
       rw[<-hf,mh]
       have hlt:k*Rp.sz α+j<(flat xs++flat ys).length:=by
         rw[<-mh,eU]
         have h1:k<(xs++ys).length:=(List.getElem?_eq_some_iff.1 hk).1
         have h2:(k+1)*Rp.sz α<=(xs++ys).length*Rp.sz α:=Nat.mul_le_mul_right _ h1
         rw[Nat.succ_mul] at h2;omega
       rw[Array.getElem?_append_left (by simpa using hlt)]
       simp
   have hchg:∀(old:Nat),bg J γ w (i4 γ w.heap.size c) (w.drew.alloc (.cells ((flat xs).toArray++(flat ys).toArray++Builtin.zeroCells z.cells (grownCap w (xs.length+ys.length) old e-(xs.length+ys.length))) e)):=λold=>
     ⟨rfl,rfl,rfl,by simp,λk hk _=>by simp[i4,Nat.ne_of_lt hk],λk hk _=>RowKit.Below.heap_alloc w.drew _ k hk,Nat.le_succ _⟩
   rcases hv with⟨rfl,rfl⟩|⟨b,cap,cc,e',rfl,hc,hm,hJb,hbl,hcs,hx⟩
   · by_cases h0:ys.length=0
     · have hy:ys=[]:=List.eq_nil_of_length_eq_zero h0
       subst hy
       refine⟨γ,w,.slice none 0 0,?_,bg.refl _ _ _,Ow.nil⟩
       simp[Builtin.append_,aO ht,dg hi,Builtin.lenOf,Builtin.firstCells,loadCells,loadCellsFrom]
     · have hr:=run_append_nil (P:=P) w t ty e i z ht hi hz' ⟨b2,off2,none⟩ ys.length cap2 (flat ys) (by rw[eU,hs]) hnews (by omega) (by simp at hlen2;omega) (by rw[hb];simp at hlen;omega)
       have hg:=grown 0
       have hch:=hchg 0
       simp only[List.length_nil,Nat.zero_add,List.nil_append,show flat ([]:List α)=[] from rfl,Array.empty_append] at hg hch ⊢
       exact⟨_,_,_,hr,hch,hg⟩
   · by_cases hroom:xs.length+ys.length<=cap
     · have hfit:xs.length*i.size+(flat ys).length<=cc.size:=by
         rw[eU,hs,hcs,<-Nat.add_mul];exact Nat.mul_le_mul_right _ hroom
       have hr:=lF (P:=P) (w:=w) t ty e e' i ht hi b xs.length cap cc hbl ⟨b2,off2,none⟩ ys.length cap2 (flat ys) (by rw[eU,hs]) hnews (wQ ys) hroom hfit
       have hr':(Builtin.append_ #[t,t] ty #[.slice (some ⟨b,0,none⟩) xs.length cap,.slice (some ⟨b2,off2,none⟩) ys.length cap2]).run P w=_:=hr
       refine⟨γ,_,_,hr',km γ w b _ hJb,.inr ⟨b,cap,_,e',by rw[List.length_append],by rw[List.length_append];exact⟨hroom,hlen2⟩,hm,hJb,setRow_heap w b _ _ e' _ hbl,?_,λk x hk=>⟨Fl.cells x,λj hj=>?_,Fl.rep_iff.2 rfl⟩⟩⟩
       · simp only[List.size_toArray,List.length_append,List.length_take,List.length_drop,Array.length_toList]
         rw[<-hcs]
         omega
       · rw[List.getElem?_toArray,hs]
         have hfit':=hfit
         rw[hs] at hfit'
         have h0:=iW cc.toList (flat ys) (xs.length*Rp.sz α) (k*Rp.sz α+j) (by simpa using hfit')
         rw[h0,eU]
         have hkl:k<xs.length+ys.length:=by have:=(List.getElem?_eq_some_iff.1 hk).1;simpa using this
         by_cases hkx:k<xs.length
         · have h3:(k+1)*Rp.sz α<=xs.length*Rp.sz α:=Nat.mul_le_mul_right _ hkx
           rw[Nat.succ_mul] at h3
           rw[if_neg (by omega)]
           rw[List.getElem?_append_left hkx] at hk
           obtain⟨cs,hcs',hrr⟩:=hx k x hk
           rw[<-Fl.rep_iff.1 hrr,<-hcs' j hj];simp
         · have h3:(k+1)*Rp.sz α<=(xs.length+ys.length)*Rp.sz α:=Nat.mul_le_mul_right _ hkl
           have h4:xs.length*Rp.sz α<=k*Rp.sz α:=Nat.mul_le_mul_right _ (by omega)
           rw[Nat.succ_mul,Nat.add_mul] at h3
           rw[if_pos (by omega)]
           rw[List.getElem?_append_right (by omega)] at hk
           rw[<-jb ys (k-xs.length) j x hk hj]
           congr 1
           rw[Nat.sub_mul];omega
     · have holds:=rF (xs:=xs) (γ:=γ) (S:=J) (cap:=cap) (b:=b) (off:=0) (w:=w) (Ow.flat (J:=J) (S:=S) (.inr ⟨b,cap,cc,e',rfl,hc,hm,hJb,hbl,hcs,hx⟩))
       have hr:=run_append_grow (P:=P) w t ty e i z ht hi hz' ⟨b,0,none⟩ xs.length cap (flat xs) (by rw[eU,hs]) holds ⟨b2,off2,none⟩ ys.length cap2 (flat ys) (by rw[eU,hs]) hnews (by omega) (by omega) (growslice_fits (by omega) (by rw[hb];exact hlen))
       exact⟨_,_,_,hr,hchg cap,grown cap⟩
theorem aS{α:Type}[Rp α][Fl α](γ:ax){J S S':cw->Prop}(c:cw)(hJ:J c){e bytes:Nat}{agg:Bool}{z v u:Value}{xs ys:List α}(ht:P.underlying t=some (.slice e))(he:Tp P e agg (Rp.sz α) bytes z)(hz0:0<Rp.sz α)(hzc:z.cells.size=Rp.sz α)
   (hx:ev f x=v)(hy:ev f y=u)(hv:Ow γ J S w v xs)(hu:Sl γ S' w u ys)(hby:bytes<=128)(hlen2:xs.length+ys.length<=1099511627776)
  
   (hk:∀γ' w' v',bg J γ w γ' w'->Ow γ' J S w' v' (xs++ys)->N v' w'):fv P ⟨dst,.call {callee:=.builtin .append,args:= #[x,y],argTypes:= #[t,t]},ty,pos,after,g⟩ f w N:=by
 obtain⟨γ',w',v',hr,hc,ho⟩:=ti (ty:=ty) γ c hJ ht he hz0 hzc hv hu hby hlen2
 refine ao ?_ (hk γ' w' v' hc ho)
 simp only[execOp,resolve,invoke,builtin,Sem.run_bind,Sem.run_pure,Result.andThen_ok,List.map_toArray,List.map_cons,List.map_nil,hx,hy,hr]
def bP(v:Value)(sz lo hi:Nat):Value:=
 match v with
 | .slice a _ c=>.slice (if c=lo then a else a.map (·.add (lo*sz))) (hi-lo) (c-lo)
 |v=>v
theorem wU{α:Type}[Rp α]{γ:ax}{S:cw->Prop}{v:Value}{xs:List α}{lo hi:Nat}(h:Sl γ S w v xs)(h1:lo<=hi)(h2:hi<=xs.length):Sl γ S w (bP v (Rp.sz α) lo hi) ((xs.take hi).drop lo):=by
 rcases h with⟨⟨_,rfl⟩,rfl⟩|⟨b,off,cap,rfl,hc,hx⟩
 · simp only[List.length_nil] at h2
   have:hi=0:=by omega
   have:lo=0:=by omega
   subst_vars
   exact .inl ⟨⟨_,by simp[bP];rfl⟩,by simp⟩
 · have hl:((xs.take hi).drop lo).length=hi-lo:=by simp;omega
   by_cases hcl:cap=lo
   · have:hi=lo:=by omega
     subst this
     refine .inr ⟨b,off,cap-hi,by simp[bP,hcl],by rw[hl];omega,λi x hi'=>?_⟩
     have:=(List.getElem?_eq_some_iff.1 hi').1
     omega
   · refine .inr ⟨b,off+lo*Rp.sz α,cap-lo,by simp[bP,hcl,ji];omega,by rw[hl];omega,λi x hi'=>?_⟩
     have hlt:=(List.getElem?_eq_some_iff.1 hi').1
     rw[List.getElem?_drop,List.getElem?_take] at hi'
     rw[if_pos (by omega)] at hi'
     obtain⟨h3,h4,cs,hcs,hr⟩:=hx (lo+i) x hi'
     refine⟨h3,h4,cs,λj hj=>?_,hr⟩
     rw[<-hcs j hj,Nat.add_mul]
     congr 2
     omega
theorem gJ{w1:World}{α:Type}[Rp α]{γ:ax}{S:cw->Prop}{v:Value}{xs:List α}{e:Nat}{lo hi:Option Operand}{l h:Int}(ht:P.underlying t=some (.slice e))(hs:(P.info? e).map (·.size)=some (Rp.sz α))(hx:ev f x=v)(hv:Sl γ S w1 v xs)
   (hlo:lo.map (ev f)=some (.int .i64 l)\/lo=none/\l=0)(hhi:hi.map (ev f)=some (.int .i64 h)\/hi=none/\h=xs.length)(h0:0<=l)(h1:l<=h)(h2:h<=xs.length):
   (execOp (ev f) ⟨dst,.slice t x lo hi none,ty,pos,after,g⟩).run P w= .ok (.value (bP v (Rp.sz α) l.toNat h.toNat)) w:=by
 cases hq:P.info? e with
 |none=>simp[hq] at hs
 |some q=>
   simp only[hq,Option.map_some,Option.some.injEq] at hs
   have hf:=hv.form
   have hc:=hv.cap
   generalize CQ v=a at hf
   generalize rE v=c at hf hc
   subst hf
   have hb:(Instr.sliceBounds true xs.length c (lo.map (ev f)) (hi.map (ev f)) none).run P w= .ok (l.toNat,h.toNat,c) w:=by
     have e1:h<=(c:Int):=by omega
     have e0:0<=h:=by omega
     have e2:l<=((h.toNat:Nat):Int):=by omega
     rcases hlo with hlo|⟨rfl,rfl⟩<;>rcases hhi with hhi|⟨rfl,rfl⟩<;>simp[Instr.sliceBounds,Instr.sliceBound,asIntOf, *]<;>omega
   have hsub:execOp (ev f) ⟨dst,.slice t x lo hi none,ty,pos,after,g⟩=(do pure (.value (<-Instr.sliceAt t (.slice a xs.length c) (lo.map (ev f)) (hi.map (ev f)) none))):=by
     simp[execOp,hx]
   rw[hsub]
   simp[Instr.sliceAt,Instr.slice,aO ht,hb,dg hq,hs,bP]
theorem vM(v:Value)(sz hi:Nat):bP v sz 0 hi=match v with| .slice a _ c=>.slice a hi c|v=>v:=by
 unfold bP
 cases v<;>simp
 rename_i a _ c
 intro _
 cases a with
 |none=>rfl
 |some a=>simp[Addr.add]
end
theorem cd{P:Program}{w:World}{t:TypeId}{γ:ax}{J:cw->Prop}{b i size bytes:Nat}{z:Value}{cs ds:List Value}(ht:Tp P t true size bytes z)(hb:Bx γ J w b cs)(hl:ds.length=size)(hv:(cs.drop i).take size=ds):(loadVar t ⟨b,i,none⟩).run P w= .ok (.agg ds.toArray) w:=
 kL ht hl λj hj=>by
   rw[ji,hb.cell,<-hv]
   simp[hj]
theorem aM{α:Type}[Rp α]{γ:ax}{S:cw->Prop}{w:World}{v:Value}{xs:List α}(h:Sl γ S w v xs):v.oneCell'=true:=by
 rcases h with⟨⟨_,rfl⟩,_⟩|⟨b,off,cap,rfl,_⟩<;>rfl
theorem aL{α:Type}[Rp α]{γ:ax}{S:cw->Prop}{w:World}{v:Value}{xs:List α}(h:Sl γ S w v xs):v.cells= #[v]:=by
 rcases h with⟨⟨_,rfl⟩,_⟩|⟨b,off,cap,rfl,_⟩<;>rfl
theorem cP{α β γ:Type}(f:α->β->γ){a a':α}{b b':β}(h1:a=a')(h2:b=b'):f a b=f a' b':=by subst h1 h2;rfl
theorem iZ{α β γ δ:Type}(f:α->β->γ->δ){a a':α}{b b':β}{c c':γ}(h1:a=a')(h2:b=b')(h3:c=c'):f a b c=f a' b' c':=by subst h1 h2 h3;rfl
theorem xD{α β γ δ ε:Type}(f:α->β->γ->δ->ε){a a':α}{b b':β}{c c':γ}{d d':δ}(h1:a=a')(h2:b=b')(h3:c=c')(h4:d=d'):f a b c d=f a' b' c' d':=by subst h1 h2 h3 h4;rfl
theorem bc{α:Type}[Inhabited α]{xs:List α}{k:Nat}(h:(k:Int)<xs.length):xs.take (k+1)=xs.take k++[gI xs k]:=by
 have h':k<xs.length:=by omega
 rw[List.take_succ_eq_append_getElem h']
 simp[gI,h']
theorem bz{α:Type}[Inhabited α]{xs:List α}{i:Int}(h0:0<=i)(h1:i<xs.length):gI xs i∈xs:=by
 have h':i.toNat<xs.length:=by omega
 simp[gI,h']
end TL
namespace TL
open Go
section
variable{P:Program}{f:Fr}{w:World}{dst:Option Tmp}{ty:TypeId}{pos:String}{after:Array Edge}{g:Option (Nat×Bool)}{t t' e:TypeId}{x y:Operand}
theorem mF{d:Nat}{e:TypeId}{a b:Int}(he:P.underlying e=some (.int .i64)):(Op.equalIn (d+1) e (.int .i64 a) (.int .i64 b)).run P w= .ok (a==b) w:=by
 simp[Op.equalIn,aO he]
theorem lJ{d:Nat}{a b:Int×Int}{bytes:Nat}{z:Value}(ht:P.underlying t=some (.array 2 e))(he:P.underlying e=some (.int .i64))(hp:Tp P e false 1 bytes z):(Op.equalIn (d+2) t (.agg #[.int .i64 a.1,.int .i64 a.2]) (.agg #[.int .i64 b.1,.int .i64 b.2])).run P w= .ok (decide (a=b)) w:=by
 obtain⟨i,hi,hs,_⟩:=hp.info
 obtain⟨a1,a2⟩:=a
 obtain⟨b1,b2⟩:=b
 have h0:=λ(x y:Int)=>iz (P:=P) (w:=w) (cs:= #[.int .i64 x,.int .i64 y]) (o:=0) hp (v:=.int .i64 x) (by rfl)
 have h1:=λ(x y:Int)=>iz (P:=P) (w:=w) (cs:= #[.int .i64 x,.int .i64 y]) (o:=1) hp (v:=.int .i64 y) (by rfl)
 have hq:=λ(a b:Int)=>mF (P:=P) (w:=w) (d:=d) (a:=a) (b:=b) he
 have hr:(List.range' 0 2 1)=[0,1]:=rfl
 rw[Op.equalIn]
 simp only[Sem.run_bind,aO ht,Result.andThen_ok,dg hi,hs]
 rw[Std.Legacy.Range.forIn_eq_forIn_range']
 simp only[Std.Legacy.Range.size,Nat.sub_zero,Nat.reduceAdd,Nat.reduceSub,Nat.div_one,hr]
 simp only[List.forIn_cons,List.forIn_nil,Nat.zero_mul,Nat.one_mul,Sem.run_bind,h0,h1,hq,Result.andThen_ok]
 by_cases e1:a1=b1
 · by_cases e2:a2=b2
   · simp[e1,e2,h0,h1,hq]
   · simp[e1,e2,h0,h1,hq]
 · simp[e1,h0,h1,hq]
theorem qf{a b:Int×Int}{bytes:Nat}{z:Value}(ht:P.underlying t=some (.array 2 e))(he:P.underlying e=some (.int .i64))(hp:Tp P e false 1 bytes z):(Op.equal t (.agg #[.int .i64 a.1,.int .i64 a.2]) (.agg #[.int .i64 b.1,.int .i64 b.2])).run P w= .ok (decide (a=b)) w:=
 lJ (d:=9998) ht he hp
end
end TL
namespace TL
open Go
section
variable{P:Program}{f:Fr}{w:World}{dst:Option Tmp}{ty:TypeId}{pos:String}{after:Array Edge}{g:Option (Nat×Bool)}{t:TypeId}{x y:Operand}
variable{N:Value->World->Prop}
theorem aC{γ:ax}{J:cw->Prop}{agg:Bool}{bytes b o:Nat}{z v:Value}{cs cs':List Value}(ht:Tp P t agg 1 bytes z)(hx:ev f x= .pointer (some ⟨b,o,none⟩))(hy:ev f y=v)(hb:Bx γ J w b cs)
   (hs:v.cells= #[v])(hl:o+1<=cs.length)(h1:v.oneCell'=true)(hcs:cs.set o v=cs')
   (hk:∀w',bg J γ w γ w'->Bx γ J w' b cs'->N undef w'):fv P ⟨dst,.store t x y,ty,pos,after,g⟩ f w N:=
 aA ht hx hy hb (by rw[hs];rfl) hl (by rw[hs];simp[h1]) (by
   rw[hs,<-hcs,List.set_eq_take_append_cons_drop,if_pos (by omega)]
   simp) hk
end
end TL
namespace TL
open Go
inductive AllOne:List Value->Prop
 |nil:AllOne []
 |cons {v:Value} {cs:List Value} (h:v.oneCell'=true) (t:AllOne cs):AllOne (v::cs)
theorem AllOne.all{cs:List Value}(h:AllOne cs):cs.all (·.oneCell')=true:=by
 induction h with
 |nil=>rfl
 |cons h _ ih=>simp[h,ih]
end TL
set_option linter.all false
namespace TL
open Go
end TL
namespace TL
open Go
section
variable{P:Program}{w:World}{t t':TypeId}{f:Fr}{x y:Operand}{dst:Option Tmp}{ty:TypeId}{pos:String}{after:Array Edge}{g:Option (Nat×Bool)}
theorem lm{d:Nat}{a b:Bool}(ht:P.underlying t=some .bool):(Op.equalIn (d+1) t (.bool a) (.bool b)).run P w= .ok (decide (a=b)) w:=by
 unfold Op.equalIn
 simp[aO ht]
 cases a<;>cases b<;>rfl
theorem pZ{a b:Bool}(ht:P.underlying t=some .bool):(Op.equal t (.bool a) (.bool b)).run P w= .ok (decide (a=b)) w:=lm (d:=9999) ht
theorem th{a b:Bool}(ht:P.underlying t=some .bool)(hx:ev f x= .bool a)(hy:ev f y= .bool b):(execOp (ev f) ⟨dst,.binOp .eql t x y t',ty,pos,after,g⟩).run P w= .ok (.value (.bool (decide (a=b)))) w:=
 xF .eql hx hy (by simp[eqGuard]) (by simp[binOp,pZ ht])
end
end TL
namespace TL
open Go
theorem Bp{α:Type}[Rp α][Fl α][Inhabited α]{w:World}{γ:ax}{J S:cw->Prop}{v u:Value}{xs:List α}{i q:Nat}{y:α}(hv:Ow γ J S w v xs)(hi:i<xs.length)(hq:q<Rp.sz α)(hy:Fl.cells y=(Fl.cells (gI xs (i:Int))).set q u):
    ∃b o cur e,bu v (Rp.sz α) i=⟨b,o,none⟩/\w.heap[b]? =some (.cells cur e (0,0))/\o+q+1<=cur.size/\bg J γ w γ (w.setRow b (cur.toList.take (o+q)++[u]++cur.toList.drop (o+q+1)).toArray)/\
      Ow γ J S (w.setRow b (cur.toList.take (o+q)++[u]++cur.toList.drop (o+q+1)).toArray) v (xs.set i y):=by
  have hlen:∀y:α,(Fl.cells y).length=Rp.sz α:=λy=>Rp.len (γ:=γ) (S:=S) (w:=w) (Fl.rep_iff.2 rfl)
  obtain⟨b,o,cur,e,ha,hb,hle,hch,hov⟩:=sZ (u:=.agg (Fl.cells y).toArray) (y:=y) hv hi (by simp[Value.cells])
  have hcell:∀j,j<Rp.sz α->cur.toList[o+j]? =(Fl.cells (gI xs (i:Int)))[j]? :=λj hj=>by
    rcases hv with⟨rfl,rfl⟩|⟨b',cap,c,e',rfl,hc,hm,hJ,hb',hsz,hx⟩
    · simp at hi
    · simp[bu] at ha
      obtain⟨rfl,rfl⟩:=ha
      rw[hb] at hb'
      simp at hb'
      obtain⟨rfl,rfl⟩:=hb'
      obtain⟨cs,h1,h2⟩:=hx i (gI xs (i:Int)) (by simp[gI,hi])
      have h3:=Fl.rep_iff.1 h2
      subst h3
      have:=h1 j hj
      simpa using this
  have hrow:cur.toList.take o++(Value.agg (Fl.cells y).toArray).cells.toList++cur.toList.drop (o+Rp.sz α)=cur.toList.take (o+q)++[u]++cur.toList.drop (o+q+1):=by
    have hsz:o+Rp.sz α<=cur.toList.length:=by simpa using hle
    have hly:(Value.agg (Fl.cells y).toArray).cells.toList=Fl.cells y:=by simp[Value.cells]
    apply List.ext_getElem?
    intro k
    have h1:=iW cur.toList (Fl.cells y) o k (by rw[hlen];exact hsz)
    rw[hlen] at h1
    have h2:=iW cur.toList [u] (o+q) k (by simp;omega)
    simp only[List.length_cons,List.length_nil,Nat.zero_add] at h2
    rw[hly,h1,h2,hy]
    by_cases hk:o<=k/\k<o+Rp.sz α
    · rw[if_pos hk]
      by_cases hkq:k=o+q
      · subst hkq
        rw[if_pos (by omega)]
        have:q<(Fl.cells (gI xs (i:Int))).length:=by rw[hlen];exact hq
        simp[this]
      · rw[if_neg (by omega),List.getElem?_set_ne (by omega),<-hcell (k-o) (by omega)]
        congr 1;omega
    · rw[if_neg hk,if_neg (by omega)]
  rw[hrow] at hch hov
  refine⟨b,o,cur,e,ha,hb,?_,hch,hov⟩
  omega
end TL
namespace TL
open Go
section
variable{P:Program}{w:World}{t:TypeId}{f:Fr}{x y:Operand}{dst:Option Tmp}{ty:TypeId}{pos:String}{after:Array Edge}{g:Option (Nat×Bool)}
variable{N:Value->World->Prop}
theorem mj{α:Type}[Rp α][Fl α][Inhabited α]{γ:ax}{J S:cw->Prop}{bytes q:Nat}{z v u:Value}{xs:List α}{i:Int}(yv:α)(ht:Tp P t false 1 bytes z)(hx:ev f x= .pointer (some ⟨(bu v (Rp.sz α) i.toNat).block,(bu v (Rp.sz α) i.toNat).off+q,none⟩))(hy:ev f y=u)(hv:Ow γ J S w v xs)(h0:0<=i)(h1:i<xs.length)
    (hq:q<Rp.sz α)(hu:u.cells= #[u])(hu1:u.oneCell'=true)(hyv:Fl.cells yv=(Fl.cells (gI xs i)).set q u)
    (hk:∀w',bg J γ w γ w'->Ow γ J S w' v (xs.set i.toNat yv)->N undef w'):fv P ⟨dst,.store t x y,ty,pos,after,g⟩ f w N:=by
  have hi:((i.toNat:Nat):Int)=i:=by omega
  obtain⟨b,o,cur,e,ha,hb,hle,hc,hov⟩:=Bp (u:=u) (y:=yv) hv (i:=i.toNat) (q:=q) (by omega) hq (by rw[hi];exact hyv)
  rw[ha] at hx
  have hr:=jO (dst:=dst) (ty:=ty) (pos:=pos) (after:=after) (g:=g) ht hx hy hb (by rw[hu];rfl) hle (λp hp=>by rw[hu] at hp;simp at hp;subst hp;exact hu1)
  rw[hu] at hr
  exact gj hr (hk _ hc hov)
end
end TL
set_option linter.all false
namespace TL
open Go
structure Vc where
  v:Value
  one:v.oneCell'=true
instance:Inhabited Vc:=⟨⟨.int .i64 0,rfl⟩⟩
instance:Rp Vc where
 sz:=1
 rep _ _ _ cs x:=cs=[x.v]
 len h:=by subst h;rfl
 one:=by
   rintro _ _ _ cs x rfl v hv
   obtain rfl:v=x.v:=by simpa using hv
   exact x.one
 tr _ _ h:=h
instance:Fl Vc where
 cells x:=[x.v]
 rep_iff:=Iff.rfl
def EJ:Vc:=⟨.slice none 0 0,rfl⟩
def EE(i k:Nat):cw->Prop:=λc=>c.1=i\/c.1=k
theorem ze{j i k:Nat}(h1:Nat.beq j i=false)(h2:Nat.beq j k=false):∀c,is j c->¬EE i k c:=λc h h'=>by
 rcases h' with h'|h'
 · exact me h1 c h h'
 · exact me h2 c h h'
theorem eb{i r:Nat}:∀c,row i r c->is i c:=λc h=>by unfold row at h;subst h;rfl
theorem kF{j r k:Nat}(h:Nat.beq j k=false):∀c,row j r c->¬is k c:=λc h1=>me h c (eb c h1)
theorem nj{j i r:Nat}(h:Nat.beq j i=false):∀c,is j c->¬row i r c:=λc h1 h2=>me h c h1 (eb c h2)
theorem i9{i r q:Nat}(h:r≠q):∀c,row i r c->¬row i q c:=λc h1 h2=>by
 unfold row at h1 h2
 rw[h1] at h2
 exact h (by simpa using h2)
theorem bg.mono{J K:cw->Prop}{γ γ':ax}{w w':World}(h:bg J γ w γ' w')(hK:∀c,J c->K c):bg K γ w γ' w':=
 ⟨h.os,h.tape,h.output,h.size,λb hb hn=>h.col b hb λhj=>hn (hK _ hj),λb hb hn=>h.keep b hb λhj=>hn (hK _ hj),h.drawn⟩
theorem Sl.mono{α:Type}[Rp α]{γ:ax}{S T:cw->Prop}{w:World}{v:Value}{xs:List α}(h:Sl γ S w v xs)(hs:∀c,S c->T c):Sl γ T w v xs:=h.tr (λ_ _ hS=>⟨rfl,hs _ hS⟩) (Nat.le_refl _)
theorem Ow.recol{α:Type}[Rp α]{γ γ':ax}{J J' S S':cw->Prop}{w:World}{v:Value}{xs:List α}(h:Ow γ J S w v xs)(hS:∀b,S (γ b)->S' (γ' b))(hJ:∀b,J (γ b)->J' (γ' b)):Ow γ' J' S' w v xs:=
 h.tr (Nat.le_refl _) (λb _ h=>⟨rfl,hS b h⟩) (λb _ h=>⟨rfl,hJ b h⟩)
def ix(i k:Nat):cw->Prop:=λc=>row i 0 c\/is k c
def G0(k i:Nat):cw->Prop:=λc=>is k c\/(is i c/\c.2≠0)
theorem ku{i j:Nat}(h:Nat.beq i j=false):i≠j:=λe=>by subst e;simp at h
theorem ua{j i k:Nat}(h1:Nat.beq j i=false)(h2:Nat.beq j k=false):∀c,is j c->¬ix i k c:=λc h h'=>by
 rcases h' with h'|h'
 · exact nj h1 c h h'
 · exact me h2 c h h'
def recol(γ:ax)(k:Nat)(c:cw):ax:=λb=>if(γ b).1=k then c else γ b
theorem ur{γ:ax}{k i r b:Nat}{c:cw}(h:Nat.beq i k=false)(hr:row i r (γ b)):row i r (recol γ k c b):=by
 unfold recol
 have h0:¬(γ b).1=k:=kF h _ hr
 rw[if_neg h0];exact hr
def wg{α:Type}[Rp α](γ:ax)(i h:Nat)(w:World)(v:Value)(xss:List (List α)):Prop:=
  ∃us:List Vc,Ow γ (row i 0) (row i 0) w v us/\us.length=xss.length/\∀r u x,r≠h->us[r]? =some u->xss[r]? =some x->Ow γ (row i (r+1)) (row i (r+1)) w u.v x
def dr{α:Type}[Rp α](γ:ax)(i:Nat)(w:World)(v:Value)(xss:List (List α)):Prop:=
  ∃us:List Vc,Ow γ (row i 0) (row i 0) w v us/\us.length=xss.length/\∀r u x,us[r]? =some u->xss[r]? =some x->Ow γ (row i (r+1)) (row i (r+1)) w u.v x
section
variable{α:Type}[Rp α]{γ γ' δ:ax}{i h:Nat}{w w':World}{v:Value}{xss:List (List α)}
theorem dr.chg{K:cw->Prop}(hn:dr γ i w v xss)(hc:bg K γ w γ' w')(hK:∀c,is i c->¬K c):dr γ' i w' v xss:=by
 obtain⟨us,h1,h2,h3⟩:=hn
 have hr:∀r c,row i r c->¬K c:=λr c h=>hK c (eb c h)
 exact⟨us,h1.chg hc (hr 0) (hr 0),h2,λr u x hu hx=>(h3 r u x hu hx).chg hc (hr _) (hr _)⟩
theorem dr.rowchg{r:Nat}(hn:dr γ i w v xss)(hc:bg (row i (r+1)) γ w γ' w'):wg γ' i r w' v xss:=by
 obtain⟨us,h1,h2,h3⟩:=hn
 have hr:∀q,q≠r+1->∀c,row i q c->¬row i (r+1) c:=λq hq=>i9 hq
 exact⟨us,h1.chg hc (hr 0 (by omega)) (hr 0 (by omega)),h2,λq u x hne hu hx=>(h3 q u x hu hx).chg hc (hr _ (by omega)) (hr _ (by omega))⟩
theorem fE{B:Nat}{γ δ:ax}{ren:Nat->Nat}{i k r:Nat}(hδ:∀b,b<B->(δ b).1=0)(hi:Nat.beq i 0=false)(hr:ren i=k):∀b,row i r (δ b)->row k r (TL.glue B γ δ ren b):=by
 intro b hb
 have hb0:δ b=(i,r):=hb
 have h0:¬b<B:=λh=>by
   have h1:=hδ b h
   rw[hb0] at h1
   have h1:i=0:=h1
   subst h1
   simp at hi
 unfold TL.glue row
 rw[if_neg h0,hb0,hr]
theorem dr.glue{B k:Nat}{ren:Nat->Nat}(hn:dr δ i w v xss)(hδ:∀b,b<B->(δ b).1=0)(hi:Nat.beq i 0=false)(hr:ren i=k):dr (TL.glue B γ δ ren) k w v xss:=by
 obtain⟨us,h1,h2,h3⟩:=hn
 exact⟨us,h1.recol (fE hδ hi hr) (fE hδ hi hr),h2,λr u x hu hx=>(h3 r u x hu hx).recol (fE hδ hi hr) (fE hδ hi hr)⟩
theorem dr.nil:dr (α:=α) γ i w (.slice none 0 0) []:=⟨[],Ow.nil,rfl,λr u x hu=>by simp at hu⟩
theorem dr.sl[Fl α](hn:dr γ i w v xss):Sl γ (is i) w v xss:=by
 obtain⟨us,h1,h2,h3⟩:=hn
 rcases h1 with⟨rfl,rfl⟩|⟨b,cap,c,e,rfl,hc,hm,hJ,hb,hcs,hx⟩
 · have:xss=[]:=List.eq_nil_of_length_eq_zero (by simpa using h2.symm)
   subst this
   exact Sl.nil
 · refine .inr ⟨b,0,cap,by rw[h2],by rw[<-h2];exact hc,λr x hr=>?_⟩
   have hlt:r<us.length:=by rw[h2];exact(List.getElem?_eq_some_iff.1 hr).1
   have hu:us[r]? =some us[r]:=List.getElem?_eq_getElem hlt
   obtain⟨cs,hcs',hrep⟩:=hx r _ hu
   have hrep':cs=[us[r].v]:=hrep
   refine⟨cZ hb,eb _ hJ,cs,λj hj=>?_,us[r].v,hrep',(h3 r _ x hu hr).flat.mono eb⟩
   rw[<-hcs' j hj]
   simp[World.cell?,hb]
   rfl
theorem Ey{J S:cw->Prop}{us:List Vc}{r:Nat}{u:Vc}(h1:Ow γ J S w v us)(hu:us[r]? =some u):w.cell? (bu v 1 r)=some u.v:=by
  rcases h1 with⟨rfl,rfl⟩|⟨b,cap,c,e,rfl,hc,hm,hJ,hb,hcs,hx⟩
  · simp at hu
  · obtain⟨cs,hcs',hrep⟩:=hx r u hu
    have hrep':cs=[u.v]:=hrep
    have:=hcs' 0 (Nat.zero_lt_one)
    rw[hrep'] at this
    simp only[bu,World.cell?,hb]
    simpa[Rp.sz] using this
theorem cG{r:Int}(hn:dr γ i w v xss)(h0:0<=r)(h1:r<xss.length):∃u,w.cell? (bu v 1 r.toNat)=some u/\Ow γ (row i (r.toNat+1)) (row i (r.toNat+1)) w u (gI xss r):=by
  obtain⟨us,h2,h3,h4⟩:=hn
  have hlt:r.toNat<us.length:=by omega
  have hu:us[r.toNat]? =some us[r.toNat]:=List.getElem?_eq_getElem hlt
  exact⟨us[r.toNat].v,Ey h2 hu,h4 _ _ _ hu (jq h0 h1)⟩
theorem wF{S:cw->Prop}{r:Int}(hs:Sl γ S w v xss)(h0:0<=r)(h1:r<xss.length):∃u,w.cell? (bu v 1 r.toNat)=some u/\Sl γ S w u (gI xss r):=by
  obtain⟨cs,hcs,u,rfl,hu⟩:=hs.elem (jq h0 h1)
  have:=hcs 0 (Nat.zero_lt_one)
  rw[lI] at this
  simp only[Nat.add_zero,<-lE] at this
  exact⟨u,by simpa[Rp.sz] using this,hu⟩
end
theorem jJ{w w':World}{a:Addr}{u:Value}(h:w.cell? a=some u)(hb:eK w.heap.size w w'):w'.cell? a=some u:=by
 rw[kN (w:=w) (hb.block _ (tt h))];exact h
theorem Ow.row_sl{α:Type}[Rp α][Fl α]{γ:ax}{i r:Nat}{w:World}{v:Value}{xs:List α}(h:Ow γ (row i r) (row i r) w v xs):Sl γ (is i) w v xs:=h.flat.mono eb
theorem wB{α:Type}[Rp α]{γ:ax}{J S:cw->Prop}{w:World}{v:Value}{xs:List α}(h:Ow γ J S w v xs):v.oneCell'=true:=by
 rcases h with⟨rfl,_⟩|⟨b,cap,c,e,rfl,_⟩<;>rfl
theorem ln{α:Type}[Rp α]{γ:ax}{J S:cw->Prop}{w:World}{v:Value}{xs:List α}(h:Ow γ J S w v xs):v.cells= #[v]:=by
 rcases h with⟨rfl,_⟩|⟨b,cap,c,e,rfl,_⟩<;>rfl
section
variable{α:Type}[Rp α]{γ:ax}{i k:Nat}{w:World}{v u:Value}{xss:List (List α)}{l:List α}
variable{P:Program}{dst:Option Tmp}{ty:TypeId}{pos:String}{after:Array Edge}{g:Option (Nat×Bool)}{f:Fr}{t:TypeId}{x y:Operand}{N:Value->World->Prop}
theorem BK{r:Nat}(hn:wg γ i r w v xss)(hr:r<xss.length)(h1:u.oneCell'=true)(hc1:u.cells= #[u]):∃b o cur e,bu v 1 r=⟨b,o,none⟩/\w.heap[b]? =some (.cells cur e (0,0))/\o+1<=cur.size/\
    bg (row i 0) γ w γ (w.setRow b (cur.toList.take o++u.cells.toList++cur.toList.drop (o+1)).toArray)/\
    (∀(c:cw->Prop),(∀q,c q->¬row i 0 q)->∀l:List α,Ow γ c c w u l->Ow γ c c (w.setRow b (cur.toList.take o++u.cells.toList++cur.toList.drop (o+1)).toArray) u l)/\
    ∀(γ':ax) (l:List α),(∀b q,row i q (γ b)->row i q (γ' b))->Ow γ' (row i (r+1)) (row i (r+1)) (w.setRow b (cur.toList.take o++u.cells.toList++cur.toList.drop (o+1)).toArray) u l->
      dr γ' i (w.setRow b (cur.toList.take o++u.cells.toList++cur.toList.drop (o+1)).toArray) v (xss.set r l):=by
  obtain⟨us,h2,h3,h4⟩:=hn
  obtain⟨b,o,cur,e,ha,hb,hle,hc,hov⟩:=sZ (u:=u) (y:=(⟨u,h1⟩:Vc)) h2 (i:=r) (by omega) (by rw[hc1];rfl)
  refine⟨b,o,cur,e,ha,hb,hle,hc,λc hcc l ho=>ho.chg hc hcc hcc,λγ' l hγ hl=>⟨us.set r ⟨u,h1⟩,hov.recol (λb=>hγ b 0) (λb=>hγ b 0),by simp[h3],λq u' x hu hx=>?_⟩⟩
  by_cases hq:q=r
  · subst hq
    rw[List.getElem?_set_self (by omega)] at hu hx
    obtain rfl:=Option.some.inj hu
    obtain rfl:=Option.some.inj hx
    exact hl
  · rw[List.getElem?_set_ne (Ne.symm hq)] at hu hx
    exact((h4 q u' x hq hu hx).chg hc (i9 (by omega)) (i9 (by omega))).recol (λb=>hγ b _) (λb=>hγ b _)
theorem bT{bytes:Nat}{z:Value}{r:Int}(ht:Tp P t false 1 bytes z)(hx:ev f x= .pointer (some (bu v 1 r.toNat)))(hy:ev f y=u)(hn:wg γ i r.toNat w v xss)(hu:Ow γ (row i (r.toNat+1)) (row i (r.toNat+1)) w u l)(h0:0<=r)(h1:r<xss.length)
    (hN:∀w',bg (is i) γ w γ w'->dr γ i w' v (xss.set r.toNat l)->N undef w'):fv P ⟨dst,.store t x y,ty,pos,after,g⟩ f w N:=by
  obtain⟨b,o,cur,e,ha,hb,hle,hc,hm,hp⟩:=BK hn (r:=r.toNat) (by omega) (wB hu) (ln hu)
  rw[ha] at hx
  refine gj (jO ht hx hy hb (by rw[ln hu];rfl) hle (λq hq=>?_)) (hN _ (hc.mono eb) (hp _ l (λb q hq=>hq) (hm _ (i9 (by omega)) l hu)))
  rw[ln hu] at hq
  obtain rfl:q=u:=by simpa using hq
  exact wB hu
theorem iY(γ:ax)(i:Nat){e bytes:Nat}{z:Value}{kl kc:IntKind}{n cp:Int}(ht:P.underlying t=some (.slice e))(he:Tp P e false 1 bytes z)(hz:z= .slice none 0 0)
    (hx:ev f x= .int kl n)(hy:ev f y= .int kc cp)(h0:0<=n)(hlc:n<=cp)(hc:cp*bytes<=281474976710656)(hc2:cp<=1099511627776)
    (hk:∀γ' w' v,bg no γ w γ' w'->dr (α:=α) γ' i w' v (List.replicate n.toNat [])->N v w'):fv P ⟨dst,.makeSlice t x y,ty,pos,after,g⟩ f w N:=by
  subst hz
  refine dF γ (row i 0) (row i 0) (i,0) rfl EJ ht he rfl hx hy h0 hlc hc hc2 λγ' w' v hch ho _=>hk γ' w' v hch ⟨_,ho,by simp,λr u x hu hx=>?_⟩
  have hu':=List.getElem?_eq_some_iff.1 hu
  have hx':=List.getElem?_eq_some_iff.1 hx
  obtain⟨_,rfl⟩:=hu'
  obtain⟨_,rfl⟩:=hx'
  simp only[List.getElem_replicate]
  exact Ow.nil
theorem iX[Fl α]{S':cw->Prop}{tv:Value}{c:Vc}(hcv:c.v=u){e bytes:Nat}{z:Value}(ht:P.underlying t=some (.slice e))(he:Tp P e false 1 bytes z)(hzc:z.cells.size=1)(hx:ev f x=v)(hy:ev f y=tv)
    (hn:dr γ i w v xss)(htv:Sl γ S' w tv [c])(hu:Ow γ (is k) (is k) w u l)(hk:Nat.beq i k=false)(hby:bytes<=128)(hlen:xss.length+1<=1099511627776)
    (hN:∀γ' w' v',bg (ix i k) γ w γ' w'->dr γ' i w' v' (xss++[l])->Sl γ' (G0 k i) w' u l->N v' w'):fv P ⟨dst,.call {callee:=.builtin .append,args:= #[x,y],argTypes:= #[t,t]},ty,pos,after,g⟩ f w N:=by
  obtain⟨us,h2,h3,h4⟩:=hn
  have hk':Nat.beq k i=false:=by
    cases hb:Nat.beq k i with
    |false=>rfl
    |true=>have:=Nat.eq_of_beq_eq_true hb;subst this;simp at hk
  refine aS γ (J:=row i 0) (S:=row i 0) (i,0) rfl ht he (Nat.zero_lt_one) hzc hx hy h2 htv hby (by simpa[h3] using hlen) λγ1 w1 v1 hc ho=>?_
  have hrw:∀q b,row i q (γ1 b)->row i q (recol γ1 k (i,xss.length+1) b):=λq b hq=>ur hk hq
  have hch:=hu.chg hc (nj hk') (nj hk')
  have hto:∀b,is k (γ1 b)->row i (xss.length+1) (recol γ1 k (i,xss.length+1) b):=λb hb=>by
    have hb':(γ1 b).1=k:=hb
    unfold recol row
    rw[if_pos hb']
  have hrow:=hch.recol hto hto
  refine hN (recol γ1 k (i,xss.length+1)) w1 v1 ?_ ⟨us++[c],ho.recol (hrw 0) (hrw 0),by simp[h3],λr u' x hu' hx'=>?_⟩ (hrow.flat.mono λc h=>.inr ⟨eb c h,by unfold row at h;rw[h];simp⟩)
  · refine⟨hc.os,hc.tape,hc.output,hc.size,λb hb hn=>?_,λb hb hn=>hc.keep b hb λhj=>hn (.inl hj),hc.drawn⟩
    have h5:=hc.col b hb λhj=>hn (.inl hj)
    unfold recol
    rw[h5]
    have h0:¬(γ b).1=k:=λh=>hn (.inr h)
    rw[if_neg h0]
  · by_cases hr:r<us.length
    · rw[List.getElem?_append_left hr] at hu'
      rw[List.getElem?_append_left (by omega)] at hx'
      exact((h4 r u' x hu' hx').chg hc (i9 (by omega)) (i9 (by omega))).recol (hrw _) (hrw _)
    · rw[List.getElem?_append_right (by omega)] at hu' hx'
      have e0:r-us.length=0:=by
        have:=(List.getElem?_eq_some_iff.1 hu').1
        simp at this;omega
      have er:r=xss.length:=by omega
      rw[e0] at hu'
      rw[<-h3,e0] at hx'
      obtain rfl:c=u':=by simpa using hu'
      obtain rfl:l=x:=by simpa using hx'
      subst er
      rw[hcv];exact hrow
theorem mE{S':cw->Prop}{tv:Value}{c:Vc}(hcv:c.v= .slice none 0 0){e bytes:Nat}{z:Value}(ht:P.underlying t=some (.slice e))(he:Tp P e false 1 bytes z)(hzc:z.cells.size=1)(hx:ev f x=v)(hy:ev f y=tv)
    (hn:dr γ i w v xss)(htv:Sl γ S' w tv [c])(hby:bytes<=128)(hlen:xss.length+1<=1099511627776)
    (hN:∀γ' w' v',bg (is i) γ w γ' w'->dr γ' i w' v' (xss++[[]])->N v' w'):fv P ⟨dst,.call {callee:=.builtin .append,args:= #[x,y],argTypes:= #[t,t]},ty,pos,after,g⟩ f w N:=by
  obtain⟨us,h2,h3,h4⟩:=hn
  refine aS γ (J:=row i 0) (S:=row i 0) (i,0) rfl ht he (Nat.zero_lt_one) hzc hx hy h2 htv hby (by simpa[h3] using hlen) λγ1 w1 v1 hc ho=>?_
  refine hN γ1 w1 v1 (hc.mono eb) ⟨us++[c],ho,by simp[h3],λr u' x hu' hx'=>?_⟩
  by_cases hr:r<us.length
  · rw[List.getElem?_append_left hr] at hu'
    rw[List.getElem?_append_left (by omega)] at hx'
    exact(h4 r u' x hu' hx').chg hc (i9 (by omega)) (i9 (by omega))
  · rw[List.getElem?_append_right (by omega)] at hu' hx'
    have e0:r-us.length=0:=by
      have:=(List.getElem?_eq_some_iff.1 hu').1
      simp at this;omega
    rw[e0] at hu'
    rw[<-h3,e0] at hx'
    obtain rfl:c=u':=by simpa using hu'
    obtain rfl:([]:List α)=x:=by simpa using hx'
    rw[hcv];exact Ow.nil
end
end TL
namespace TL
open Go
theorem qi{u:Value}{c:Vc}(hc:c.v=u)(h:u.cells= #[u]):u.cells.toList=Fl.cells c:=by rw[h,<-hc];rfl
theorem pk{u:Value}(h:u.oneCell'=true):∃c:Vc,c.v=u:=⟨⟨u,h⟩,rfl⟩
theorem aV{P:Program}{f:Fr}{w w':World}{dst:Option Tmp}{op:Op}{ty:TypeId}{pos:String}{after:Array Edge}{g:Option (Nat×Bool)}{N:Value->World->Prop}{fid:Nat}{args:Array Value}
   (h:(execOp (ev f) ⟨dst,op,ty,pos,after,g⟩).run P w= .ok (.enter fid args) w')(hc:Calls P fid args w' λe w''=>∃v,e= .returned v/\N v w''):fv P ⟨dst,op,ty,pos,after,g⟩ f w N:=by
 unfold fv
 rw[h]
 refine hc.mono λe w'' he=>?_
 obtain⟨v,rfl,hs⟩:=he
 exact hs
end TL
namespace TL
open Go
end TL
namespace TL
open Go
section
variable{P:Program}{w:World}{f:Fr}{dst:Option Tmp}{ty:TypeId}{pos:String}{after:Array Edge}{g:Option (Nat×Bool)}
theorem pz{fid:Nat}{fn:Func}{c:Operand}{args:List Operand}{at_:Array TypeId}{vals:List Value}(hc:ev f c= .func (.func fid) #[] #[])(hf:P.funcs[fid]? =some fn)(hb:fn.body.isNone=false)(hn:(fn.name== "runtime.NumGoroutine")=false)(ha:args.map (ev f)=vals):
   (execOp (ev f) ⟨dst,.call {callee:=.value c,args:=args.toArray,argTypes:=at_},ty,pos,after,g⟩).run P w= .ok (.enter fid vals.toArray) w:=by
 have ha:args.toArray.map (ev f)=vals.toArray:=by rw[<-ha];simp
 simp only[execOp,resolve,hc,Deferred.ofValue,invoke,callFunc,ha,Sem.run_bind,Sem.run_pure,Result.andThen_ok,run_program,hf,hn,hb,Bool.false_eq_true,if_false,Array.append_empty,Array.empty_append]
end
end TL
namespace TL
open Go
def EO:List Bool->List Item->List Item
  |[],k=>k
  |true::c,.code (.seq x y)::k=>EO c (.code x:: .code y::k)
  |false::c,_::k=>EO c k
  |_,k=>k
theorem kM(c:List Bool){P:Program}{fid n:Nat}{R:Ending->World->Prop}{k:List Item}{f:Fr}{w:World}{σ:Type}(Mid:σ->Fr->World->Prop)
    (h:(∀s f w,Mid s f w->fY P fid n R (EO c k) f w)->fY P fid n R k f w)(hk:∀s f w,Mid s f w->fY P fid n R (EO c k) f w):fY P fid n R k f w:=h hk
end TL
namespace TL
open Go
def inl(L:List Nat):cw->Prop:=λc=>L.contains c.1=true
section
variable{L:List Nat}{γ γ' γ1 γ2:ax}{w w' w1 w2:World}{i k r:Nat}
theorem bg.n(h:bg no γ w γ' w'):bg (inl L) γ w γ' w':=h.mono λ_ h=>h.elim
theorem bg.l(h:bg (is i) γ w γ' w')(hi:L.contains i=true):bg (inl L) γ w γ' w':=h.mono λc h=>by
 have h:c.1=i:=h
 unfold inl
 rw[h];exact hi
theorem bg.l2(h:bg (EE i k) γ w γ' w')(hi:L.contains i=true)(hk:L.contains k=true):bg (inl L) γ w γ' w':=h.mono λc h=>by
 unfold inl
 rcases h with h|h
 · rw[h];exact hi
 · rw[h];exact hk
theorem bg.lr(h:bg (row i r) γ w γ' w')(hi:L.contains i=true):bg (inl L) γ w γ' w':=h.mono λc h=>by
 have h:c.1=i:=eb c h
 unfold inl
 rw[h];exact hi
theorem bg.seq(h:bg (inl L) γ w γ1 w1)(h':bg (inl L) γ1 w1 γ2 w2):bg (inl L) γ w γ2 w2:=h.trans h' λ_ _ h=>h.elim id id
theorem kW{j:Nat}(h:L.contains j=false):∀c,is j c->¬inl L c:=λc h1 h2=>by
 have h1:c.1=j:=h1
 unfold inl at h2
 rw[h1,h] at h2
 cases h2
theorem lZ{j r:Nat}(h:L.contains j=false):∀c,row j r c->¬inl L c:=λc h1=>kW h c (eb c h1)
end
end TL
namespace TL
open Go
theorem wg.vc{α:Type}[Rp α]{γ:ax}{i h:Nat}{w:World}{v:Value}{xss:List (List α)}(hn:wg γ i h w v xss):∃us:List Vc,us.length=xss.length/\Sl γ (is i) w v us:=by
 obtain⟨us,h1,h2,_⟩:=hn
 exact⟨us,h2,h1.flat.mono eb⟩
end TL
