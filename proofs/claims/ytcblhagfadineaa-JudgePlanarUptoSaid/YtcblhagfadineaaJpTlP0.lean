/- Plain texts of this claim, part 0. By an AI agent. -/
import Derived.Below
import Derived.Deep.Quiet
import Derived.Laws.AppendOwn
import Derived.Laws.MakeOwn
import Derived.Laws.Sem
import Derived.StillTail
/-
  TlCore: a run of one function, seen as what is left to do (a list of items), a frame that is a function from slots to values, and a world.
  By an AI agent.
-/
set_option linter.all false
namespace TL
open Go
abbrev Fr:=Nat->Value
def gX(f:Fr)(d:Option Nat)(v:Value):Fr:=
 match d with
 |some d=>λi=>bif Nat.beq i d then v else f i
 |none=>f
def ev(f:Fr):Operand->Value
 | .tmp t=>f t
 | .const v=>v
 | .global g=>.pointer (some ⟨g,0,none⟩)
 | .func g=>.func (.func g) #[] #[]
structure Ag(n:Nat)(a:Act)(f:Fr):Prop where
 defers:a.defers=[]
 size:a.tmps.size=n
 get:∀i,a.tmps.getD i undef=f i
theorem Ag.eval{n:Nat}{a:Act}{f:Fr}(h:Ag n a f):a.eval=ev f:=by
 funext x
 cases x<;>simp[Act.eval,ev]
 rename_i t
 have:=h.get t
 simpa using this
def nI(n:Nat)(o:Oper):Bool:=
 match o.dst with
 |some d=>Nat.blt d n
 |none=>true
theorem Ag.put{n:Nat}{a:Act}{f:Fr}(h:Ag n a f){o:Oper}(ho:nI n o=true)(v:Value):Ag n (a.put o.dst v) (gX f o.dst v):=by
 unfold nI at ho
 cases hd:o.dst with
 |none=>simpa[Act.put,gX] using h
 |some d=>
   rw[hd] at ho
   have hlt:d<n:=by simpa using ho
   refine⟨by simpa[Act.put] using h.defers,by simpa[Act.put] using h.size,λi=>?_⟩
   have hs:=h.size
   have hg:=h.get i
   simp only[Act.put,gX]
   by_cases hi:i=d
   · subst hi
     simp[hs,hlt]
   · have hb:Nat.beq i d=false:=by
       cases hb:Nat.beq i d with
       |false=>rfl
       |true=>exact absurd (Nat.eq_of_beq_eq_true hb) hi
     simp only[hb,cond_false]
     rw[<-hg]
     simp[Array.getElem?_setIfInBounds_ne (Ne.symm hi)]
def yF(all:List Oper)(f:Fr)(j:Nat):Option Bool:=
  match(all[j]?).bind (·.dst) with
  |some d=>match f d with
    | .bool b=>some b
    |_=>none
  |none=>none
theorem Ag.yielded{n:Nat}{a:Act}{f:Fr}(h:Ag n a f)(all:List Oper):Go.yielded all.toArray a.tmps=yF all f:=by
 funext j
 simp only[Go.yielded,yF,List.getElem?_toArray]
 cases hd:(all[j]?).bind (·.dst) with
 |none=>simp
 |some d=>
   simp only[Option.bind_some]
   have hg:=h.get d
   cases ht:a.tmps[d]? with
   |none=>
     simp[ht] at hg
     simp[<-hg,undef]
   |some v=>
     simp only[Array.getD_eq_getD_getElem?,ht,Option.getD_some] at hg
     rw[<-hg]
     cases v<;>rfl
def cU(all:List Oper)(o:Oper)(f:Fr):Bool:=Region.wanted o (yF all f)
def uX(P:Program)(N:Value->World->Prop):Result Next->Prop
  | .ok (.value v) w'=>N v w'
  | .ok .skip w'=>N undef w'
  | .ok (.enter g args) w'=>Calls P g args w' λ
      | .returned v,w''=>N v w''
      |_,_=>False
  |_=>False
def gF(P:Program)(o:Oper)(f:Fr)(w:World)(N:Value->World->Prop):Prop:=uX P N ((execOp (ev f) o).run P w)
def iM(P:Program)(all:List Oper):List Oper->(Fr->World->Prop)->Fr->World->Prop
  |[],K,f,w=>K f w
  |o::rest,K,f,w=>
    if cU all o f then gF P o f w (λv w'=>iM P all rest K (gX f o.dst v) w')
    else iM P all rest K (gX f o.dst undef) w
theorem ec{P:Program}{n:Nat}{all:List Oper}{K:Fr->World->Prop}:∀(rest:List Oper) (_:rest.all (nI n)=true) (a:Act) (f:Fr) (w:World),Ag n a f->
   iM P all rest K f w->wpList P all.toArray (λe a' w'=>e= .normal/\∃f',Ag n a' f'/\K f' w') rest a w
 |[],_,a,f,w,h,hk=>⟨rfl,f,h,hk⟩
 |o::rest,hall,a,f,w,h,hk=>by
   simp only[List.all_cons,Bool.and_eq_true] at hall
   simp only[iM] at hk
   simp only[wpList]
   have hw:Region.wanted o (Go.yielded all.toArray a.tmps)=cU all o f:=by rw[h.yielded];rfl
   rw[hw]
   cases hb:cU all o f with
   |false=>
     simp only[hb,Bool.false_eq_true,if_false] at hk ⊢
     exact ec rest hall.2 _ _ _ (h.put hall.1 _) hk
   |true=>
     simp only[hb,if_true] at hk ⊢
     refine .inl ?_
     unfold Oper.wp
     rw[h.eval]
     unfold gF at hk
     generalize(execOp (ev f) o).run P w=r at*
     cases r with
     |halt x w'=>exact hk.elim
     |ok nx w'=>
       cases nx<;>simp only[uX] at hk<;>simp only[Oper.upon]
       case value v=>exact ec rest hall.2 _ _ _ (h.put hall.1 _) hk
       case skip=>exact ec rest hall.2 _ _ _ (h.put hall.1 _) hk
       case enter g args=>
         refine hk.mono λe w'' he=>?_
         cases e with
         |returned v=>exact ec rest hall.2 _ _ _ (h.put hall.1 _) he
         |panicked c=>exact he.elim
         |outgrown=>exact he.elim
def l6(P:Program)(all:List Oper)(C:World->Prop):List Oper->(Fr->Prop)->Fr->Prop
  |[],K,f=>K f
  |o::rest,K,f=>
    if cU all o f then∃v,(∀w,C w->Oper.quietUpon P C w v ((execOp (ev f) o).run P w))/\l6 P all C rest K (gX f o.dst v)
    else l6 P all C rest K (gX f o.dst undef)
theorem fR{P:Program}{n:Nat}{all:List Oper}{C:World->Prop}{K:Fr->Prop}{Q:Act->Prop}(hQ:∀a f,Ag n a f->K f->Q a):∀(rest:List Oper) (_:rest.all (nI n)=true) (a:Act) (f:Fr),Ag n a f->
   l6 P all C rest K f->wpQuiet P all.toArray C Q rest a
 |[],_,a,f,h,hk=>hQ a f h hk
 |o::rest,hall,a,f,h,hk=>by
   simp only[List.all_cons,Bool.and_eq_true] at hall
   simp only[l6] at hk
   simp only[wpQuiet]
   have hw:Region.wanted o (Go.yielded all.toArray a.tmps)=cU all o f:=by rw[h.yielded];rfl
   rw[hw]
   cases hb:cU all o f with
   |false=>
     simp only[hb,Bool.false_eq_true,if_false] at hk ⊢
     exact fR hQ rest hall.2 _ _ (h.put hall.1 _) hk
   |true=>
     simp only[hb,if_true] at hk ⊢
     obtain⟨v,h1,h2⟩:=hk
     refine⟨v,λw hw=>?_,fR hQ rest hall.2 _ _ (h.put hall.1 _) h2⟩
     unfold Oper.quietAt
     rw[h.eval]
     exact h1 w hw
def i3(fid:FuncId):Frame:={(default:Frame) with fn:=fid,kind:=.normal}
def fh(P:Program)(fid n:Nat)(R:Ending->World->Prop)(k:List Item)(f:Fr)(w:World):Prop:=
  ∀a,Ag n a f->∀cs,∃e w' fr,R e w'/\Comes P (lone ((i3 fid).at a k) cs w) (lone fr cs w') e/\fr.fn=fid/\fr.leaving P w' e
section
variable{P:Program}{fid n:Nat}{R:Ending->World->Prop}{k:List Item}{f:Fr}{w:World}
theorem fj{k':List Item}{w':World}(hs:∀a cs,Ag n a f->step P (lone ((i3 fid).at a k) cs w)= .next (lone ((i3 fid).at a k') cs w'))(h:fh P fid n R k' f w'):fh P fid n R k f w:=by
 intro a ha cs
 obtain⟨e,w2,fr,hR,hc,hf,hl⟩:=h a ha cs
 exact⟨e,w2,fr,hR,hc.of_steps (.one (hs a cs ha)),hf,hl⟩
theorem aa{x y:Code}(h:fh P fid n R (.code x:: .code y::k) f w):fh P fid n R (.code (.seq x y)::k) f w:=fj (λ_ _ _=>step_seq) h
theorem am(h:fh P fid n R k f w):fh P fid n R (.code .skip::k) f w:=fj (λ_ _ _=>step_skip) h
theorem aq{id:Nat}{c:Code}(h:fh P fid n R (.code c:: .inBlock id::k) f w):fh P fid n R (.code (.block id c)::k) f w:=fj (λ_ _ _=>step_block) h
theorem ao{id:Nat}(h:fh P fid n R k f w):fh P fid n R (.inBlock id::k) f w:=fj (λ_ _ _=>step_inBlock) h
theorem aM{id:Nat}{k':List Item}(hk:exitTo id k=some k')(h:fh P fid n R k' f w):fh P fid n R (.code (.exit id)::k) f w:=fj (λ_ _ _=>step_exit hk) h
theorem nV{c:Operand}{x y:Code}{t:Bool}(hc:ev f c= .bool t)(h:fh P fid n R (.code (if t then x else y)::k) f w):fh P fid n R (.code (.cond c x y)::k) f w:=
 fj (λa _ ha=>step_cond (by rw[ha.eval];exact hc)) h
theorem ag{c:Operand}{x y:Code}{t:Bool}(hc:ev f c= .bool t)(ht:t=true)(h:fh P fid n R (.code x::k) f w):fh P fid n R (.code (.cond c x y)::k) f w:=by
 subst ht;exact nV hc h
theorem aj{c:Operand}{x y:Code}{t:Bool}(hc:ev f c= .bool t)(ht:t=false)(h:fh P fid n R (.code y::k) f w):fh P fid n R (.code (.cond c x y)::k) f w:=by
 subst ht;exact nV hc h
theorem gy{c:Code}(h:fh P fid n R (.code c:: .inLoop c::k) f w):fh P fid n R (.code (.loop c)::k) f w:=fj (λ_ _ _=>step_loop) h
theorem cm{c:Code}(h:fh P fid n R (.code c:: .inLoop c::k) f w):fh P fid n R (.inLoop c::k) f w:=fj (λ_ _ _=>step_inLoop) h
theorem aQ{σ:Type}{c:Code}(I:σ->Fr->World->Prop)(μ:σ->Nat)(s0:σ)(h0:I s0 f w)
    (round:∀s f w,I s f w->(∀s' f' w',I s' f' w'->μ s'<μ s->fh P fid n R (.inLoop c::k) f' w')->fh P fid n R (.code c:: .inLoop c::k) f w):
    fh P fid n R (.code (.loop c)::k) f w:=by
  refine gy ?_
  have key:∀m s f w,μ s=m->I s f w->fh P fid n R (.code c:: .inLoop c::k) f w:=by
    intro m
    induction m using Nat.strongRecOn with
    |_ m ih=>
      intro s f w hm hI
      exact round s f w hI λs' f' w' hI' hlt=>cm (ih (μ s') (hm▸hlt) s' f' w' rfl hI')
  exact key _ s0 f w rfl h0
theorem iE{c:Code}(h:∀a,Ag n a f->c.wp P (λe a' w'=>e= .normal/\∃f',Ag n a' f'/\fh P fid n R k f' w') a w):fh P fid n R (.code c::k) f w:=by
 intro a ha cs
 obtain⟨e,a',w',⟨rfl,f',ha',hrun⟩,harr⟩:=h a ha (i3 fid) k cs
 obtain⟨e2,w2,fr,hR,hc,hf,hl⟩:=hrun a' ha' cs
 exact⟨e2,w2,fr,hR,hc.of_steps harr,hf,hl⟩
theorem a8{id:Nat}{l:List Oper}(hd:l.all (nI n)=true)(h:iM P l l (fh P fid n R k) f w):fh P fid n R (.code (.region id l.toArray false)::k) f w:=
 iE λa ha=>wp_region_lit (ec l hd a f w ha h)
theorem nu{id:Nat}{l:List Oper}(C:World->Prop)(hd:l.all (nI n)=true)(hm:P.follows .mixedOrders=true)(hB:Region.lexB .any l.toArray=true)(hC:C {w with drawn:=w.drawn+1})
    (h:l6 P l C l (λf'=>∀w',C w'->fh P fid n R k f' w') f):fh P fid n R (.code (.region id l.toArray true)::k) f w:=
  iE λa ha=>wp_region_quiet hm hB hC (by
    have:=fR (P:=P) (n:=n) (all:=l) (C:=C) (Q:=λa'=>∀w',C w'->(Exit.normal=Exit.normal/\∃f',Ag n a' f'/\fh P fid n R k f' w')) (λa' f' ha' hk w' hw'=>⟨rfl,f',ha',hk w' hw'⟩) l hd a f ha h
    simpa using this)
end
section
variable{P:Program}{all rest:List Oper}{K:Fr->World->Prop}{f:Fr}{w w':World}{v:Value}
variable{dst:Option Tmp}{op:Op}{ty:TypeId}{pos:String}{after:Array Edge}{g:Option (Nat×Bool)}{o:Oper}
theorem z7{j:Nat}{x:Bool}{d:Nat}{b:Bool}(hg:o.guard=some (j,x))(hj:(all[j]?).bind (·.dst)=some d)(hb:f d= .bool b)(hx:b=x):cU all o f=true:=by
 simp[cU,Region.wanted,hg,yF,hj,hb,hx]
theorem zh{j:Nat}{x:Bool}{d:Nat}{b:Bool}(hg:o.guard=some (j,x))(hj:(all[j]?).bind (·.dst)=some d)(hb:f d= .bool b)(hx:b= !x):cU all o f=false:=by
 simp[cU,Region.wanted,hg,yF,hj,hb,hx]
theorem bt{j:Nat}{x:Bool}{d:Nat}(hg:o.guard=some (j,x))(hj:(all[j]?).bind (·.dst)=some d)(hb:f d=undef):cU all o f=false:=by
 simp[cU,Region.wanted,hg,yF,hj,hb,undef]
theorem ab(h:K f w):iM P all [] K f w:=h
theorem cj(hw:cU all ⟨dst,op,ty,pos,after,g⟩ f=true)(h:gF P ⟨dst,op,ty,pos,after,g⟩ f w (λv w'=>iM P all rest K (gX f dst v) w')):iM P all (⟨dst,op,ty,pos,after,g⟩::rest) K f w:=by
 simp only[iM,hw,if_true];exact h
theorem kI(hw:cU all ⟨dst,op,ty,pos,after,g⟩ f=true)(h:(execOp (ev f) ⟨dst,op,ty,pos,after,g⟩).run P w= .ok (.value v) w')(hk:iM P all rest K (gX f dst v) w'):iM P all (⟨dst,op,ty,pos,after,g⟩::rest) K f w:=
 cj hw (by unfold gF;rw[h];exact hk)
theorem ae(hw:cU all ⟨dst,op,ty,pos,after,g⟩ f=false)(hk:iM P all rest K (gX f dst undef) w):iM P all (⟨dst,op,ty,pos,after,g⟩::rest) K f w:=by
 simp only[iM,hw,Bool.false_eq_true,if_false];exact hk
variable{C:World->Prop}{KQ:Fr->Prop}{w1:World}
theorem dH(h:KQ f):l6 P all C [] KQ f:=h
theorem aW(hw:cU all ⟨dst,op,ty,pos,after,g⟩ f=true)(h:∀w,C w->(execOp (ev f) ⟨dst,op,ty,pos,after,g⟩).run P w= .ok (.value v) w)(hk:l6 P all C rest KQ (gX f dst v)):l6 P all C (⟨dst,op,ty,pos,after,g⟩::rest) KQ f:=by
 simp only[l6,hw,if_true]
 exact⟨v,λw hw=>by rw[h w hw];exact⟨rfl,rfl⟩,hk⟩
theorem aN(hw:cU all ⟨dst,op,ty,pos,after,g⟩ f=false)(hk:l6 P all C rest KQ (gX f dst undef)):l6 P all C (⟨dst,op,ty,pos,after,g⟩::rest) KQ f:=by
 simp only[l6,hw,Bool.false_eq_true,if_false];exact hk
theorem eZ{fid:Nat}{args:Array Value}(hw:cU all ⟨dst,op,ty,pos,after,g⟩ f=true)(h:∀w,C w->(execOp (ev f) ⟨dst,op,ty,pos,after,g⟩).run P w= .ok (.enter fid args) w)
   (hc:∀w,C w->Calls P fid args w λe w'=>e= .returned v/\C w')(hk:l6 P all C rest KQ (gX f dst v)):l6 P all C (⟨dst,op,ty,pos,after,g⟩::rest) KQ f:=by
 simp only[l6,hw,if_true]
 exact⟨v,λw hw=>by rw[h w hw];exact⟨rfl,hc w hw⟩,hk⟩
end
def qN(args:Array Value):Fr:=λi=>args.getD i undef
theorem av{P:Program}{fid:FuncId}{fn:Func}{c:Code}{args:Array Value}{w:World}{R:Ending->World->Prop}(hf:P.funcs[fid]? =some fn)(hb:fn.body=some c)(hn:args.size<=fn.ntmps)
   (h:fh P fid fn.ntmps R [.code c] (qN args) w):Calls P fid args w R:=by
 intro cs
 have henter:Frame.enter P fid args .normal=(i3 fid).at {tmps:=args++Array.replicate (fn.ntmps-args.size) undef,defers:=[]} [.code c]:=by
   simp[Frame.enter,Frame.at,hf,hb,i3]
 rw[henter]
 refine h _ ⟨rfl,by simp;omega,λi=>?_⟩ cs
 simp only[qN,Array.getD_eq_getD_getElem?,Array.getElem?_append,Array.getElem?_replicate]
 by_cases hi:i<args.size
 · simp[hi]
 · rw[if_neg hi,Array.getElem?_eq_none (by omega)]
   split<;>rfl
section
variable{P:Program}{fid n:Nat}{R:Ending->World->Prop}{k:List Item}{f:Fr}{w:World}{fn:Func}{v:Value}
inductive ResIs (P:Program) (w:World) (f:Fr):List ResultVar->List Value->Prop
  |nil:ResIs P w f [] []
  |tmp {t:Nat} {rs:List ResultVar} {vs:List Value} {v:Value} (h:f t=v) (hr:ResIs P w f rs vs):ResIs P w f (.tmp t::rs) (v::vs)
  |cell {a t:Nat} {p:Addr} {rs:List ResultVar} {vs:List Value} {v:Value} (h:f a= .pointer (some p)) (hv:(loadVar t p).run P w= .ok v w) (hr:ResIs P w f rs vs):ResIs P w f (.cell a t::rs) (v::vs)
def nZ(a:Act):ResultVar->Sem Value
 | .tmp t=>pure (a.tmps.getD t undef)
 | .cell p t=>do loadVar t (<-asAddr (a.tmps.getD p undef))
theorem oD{a:Act}(ha:Ag n a f){rs:List ResultVar}{vs:List Value}(h:ResIs P w f rs vs):
   (rs.mapM (m:=Sem) (nZ a)).run P w= .ok vs w:=by
 induction h with
 |nil=>simp[Sem.run_pure]
 | @tmp t rs vs v h hr ih=>
   have e:(nZ a (.tmp t)).run P w= .ok v w:=by simp only[nZ,ha.get,h,Sem.run_pure]
   simp only[List.mapM_cons,Sem.run_bind,Sem.run_pure,Result.andThen_ok,ih,e]
 | @cell p t q rs vs v h hv hr ih=>
   have e:(nZ a (.cell p t)).run P w= .ok v w:=by simp only[nZ,ha.get,h,asAddr,Sem.run_bind,Sem.run_pure,Result.andThen_ok,hv]
   simp only[List.mapM_cons,Sem.run_bind,Sem.run_pure,Result.andThen_ok,ih,e]
theorem kG{a:Act}(ha:Ag n a f){vs:List Value}(h:ResIs P w f fn.results.toList vs):
   (results fn a.tmps).run P w= .ok (if h:vs.length=1 then vs[0] else .tuple vs.toArray) w:=by
 have e:(fn.results.mapM (m:=Sem) (nZ a)).run P w= .ok vs.toArray w:=by
   rw[Array.mapM_eq_mapM_toList]
   simp only[Sem.run_bind,map_eq_pure_bind]
   rw[oD ha h]
   simp only[Result.andThen_ok,Sem.run_pure]
 have e2:(results fn a.tmps)=(do let vs<-fn.results.mapM (m:=Sem) (nZ a);pure (if h:vs.size=1 then vs[0] else .tuple vs)):=by
   unfold results nZ;rfl
 rw[e2]
 simp only[Sem.run_bind,e,Result.andThen_ok,Sem.run_pure]
 simp
theorem au{vs:List Value}(hf:P.funcs[fid]? =some fn)(hr:ResIs P w f fn.results.toList vs)
   (h:R (.returned (if h:vs.length=1 then vs[0] else .tuple vs.toArray)) w):fh P fid n R (.code .ret::k) f w:=by
 intro a ha cs
 refine⟨_,w,{(i3 fid).at a (.code .ret::k) with mode:=.returning},h,?_,rfl,?_⟩
 · exact Steps.one step_ret
 · exact⟨rfl,ha.defers,rfl,fn,hf,kG ha hr⟩
theorem ct{vs:List Value}(hf:P.funcs[fid]? =some fn)(hr:ResIs P w f fn.results.toList vs)
   (h:R (.returned (if h:vs.length=1 then vs[0] else .tuple vs.toArray)) w):fh P fid n R [] f w:=by
 intro a ha cs
 refine⟨_,w,{(i3 fid).at a [] with mode:=.returning},h,?_,rfl,?_⟩
 · exact Steps.one step_end
 · exact⟨rfl,ha.defers,rfl,fn,hf,kG ha hr⟩
end
end TL
/-
  TlHeap: what values stand for in a world. Colours tell which object a block belongs to, so that writes to one object leave the others.
  By an AI agent.
-/
set_option linter.all false
namespace TL
open Go
abbrev cd:=Nat×Nat
abbrev aH:=Nat->cd
def is(i:Nat):cd->Prop:=λc=>c.1=i
def row(i k:Nat):cd->Prop:=λc=>c=(i,k)
def any:cd->Prop:=λ_=>True
def no:cd->Prop:=λ_=>False
def c0:aH:=λ_=>(0,0)
structure dd(B:Nat)(w w':World):Prop where
  os:w'.os=w.os
  tape:w'.tape=w.tape
  output:w'.output=w.output
  size:w.heap.size<=w'.heap.size
  block:∀k,k<B->w'.heap[k]? =w.heap[k]?
  drawn:w.drawn<=w'.drawn
theorem dd.kit{B:Nat}{w w':World}(h:dd B w w'):RowKit.Below B w w':=⟨h.os,h.tape,h.output,h.size,h.block⟩
theorem dd.refl(B:Nat)(w:World):dd B w w:=⟨rfl,rfl,rfl,Nat.le_refl _,λ_ _=>rfl,Nat.le_refl _⟩
theorem dd.trans{B:Nat}{a b c:World}(h:dd B a b)(k:dd B b c):dd B a c:=
 ⟨k.os.trans h.os,k.tape.trans h.tape,k.output.trans h.output,Nat.le_trans h.size k.size,λi hi=>(k.block i hi).trans (h.block i hi),Nat.le_trans h.drawn k.drawn⟩
theorem dd.mono{B B':Nat}{w w':World}(h:dd B w w')(hB:B'<=B):dd B' w w':=⟨h.os,h.tape,h.output,h.size,λk hk=>h.block k (Nat.lt_of_lt_of_le hk hB),h.drawn⟩
theorem dd.alloc{B:Nat}{a w:World}(h:dd B a w)(hB:B<=w.heap.size)(o:Obj):dd B a (w.alloc o):=
 have k:=h.kit.alloc hB o
 ⟨k.os,k.tape,k.output,k.size,k.block,h.drawn⟩
structure b5(J:cd->Prop)(γ:aH)(w:World)(γ':aH)(w':World):Prop where
  os:w'.os=w.os
  tape:w'.tape=w.tape
  output:w'.output=w.output
  size:w.heap.size<=w'.heap.size
  col:∀b,b<w.heap.size->¬J (γ b)->γ' b=γ b
  keep:∀b,b<w.heap.size->¬J (γ b)->w'.heap[b]? =w.heap[b]?
  drawn:w.drawn<=w'.drawn
theorem b5.refl(J:cd->Prop)(γ:aH)(w:World):b5 J γ w γ w:=⟨rfl,rfl,rfl,Nat.le_refl _,λ_ _ _=>rfl,λ_ _ _=>rfl,Nat.le_refl _⟩
theorem b5.trans{J J1 J2:cd->Prop}{γ γ1 γ2:aH}{w w1 w2:World}(h:b5 J1 γ w γ1 w1)(h':b5 J2 γ1 w1 γ2 w2)(hJ:∀b,b<w.heap.size->J1 (γ b)\/J2 (γ b)->J (γ b)):b5 J γ w γ2 w2:=
 ⟨h'.os.trans h.os,h'.tape.trans h.tape,h'.output.trans h.output,Nat.le_trans h.size h'.size,λb hb hn=>by
   have h1:¬J1 (γ b):=λhj=>hn (hJ b hb (.inl hj))
   have h2:¬J2 (γ b):=λhj=>hn (hJ b hb (.inr hj))
   have h3:=h.col b hb h1
   exact(h'.col b (Nat.lt_of_lt_of_le hb h.size) (by rw[h3];exact h2)).trans h3,λb hb hn=>by
   have h1:¬J1 (γ b):=λhj=>hn (hJ b hb (.inl hj))
   have h2:¬J2 (γ b):=λhj=>hn (hJ b hb (.inr hj))
   have h3:=h'.keep b (Nat.lt_of_lt_of_le hb h.size) (by rw[h.col b hb h1];exact h2)
   exact h3.trans (h.keep b hb h1),Nat.le_trans h.drawn h'.drawn⟩
theorem b5.drew{J:cd->Prop}{γ:aH}{w w':World}(h:b5 J γ w γ w'):b5 J γ w γ {w' with drawn:=w'.drawn+1}:=⟨h.os,h.tape,h.output,h.size,h.col,h.keep,Nat.le_succ_of_le h.drawn⟩
structure aX(w0:World)(γ:aH)(w:World):Prop where
  os:w.os=w0.os
  tape:w.tape=w0.tape
  output:w.output=w0.output
  size:w0.heap.size<=w.heap.size
  col:∀b,b<w0.heap.size->(γ b).1=0
  keep:∀b,b<w0.heap.size->w.heap[b]? =w0.heap[b]?
  drawn:w0.drawn<=w.drawn
theorem aX.start(w:World):aX w c0 w:=⟨rfl,rfl,rfl,Nat.le_refl _,λ_ _=>rfl,λ_ _=>rfl,Nat.le_refl _⟩
theorem aX.chg{J:cd->Prop}{γ γ':aH}{w0 w w':World}(h:aX w0 γ w)(h':b5 J γ w γ' w')(hJ:∀c,is 0 c->¬J c):aX w0 γ' w':=
 ⟨h'.os.trans h.os,h'.tape.trans h.tape,h'.output.trans h.output,Nat.le_trans h.size h'.size,λb hb=>by rw[h'.col b (Nat.lt_of_lt_of_le hb h.size) (hJ _ (h.col b hb))];exact h.col b hb,
   λb hb=>(h'.keep b (Nat.lt_of_lt_of_le hb h.size) (hJ _ (h.col b hb))).trans (h.keep b hb),Nat.le_trans h.drawn h'.drawn⟩
theorem aX.below{γ:aH}{w0 w:World}(h:aX w0 γ w):dd w0.heap.size w0 w:=⟨h.os,h.tape,h.output,h.size,h.keep,h.drawn⟩
theorem fm{i j:Nat}(h:Nat.beq i j=false):∀c,is i c->¬is j c:=λc h1 h2=>by
 have:i=j:=h1.symm.trans h2
 subst this
 simp at h
theorem i5(S:cd->Prop):∀c,S c->¬no c:=λ_ _ h=>h
class Rp (α:Type) where
  sz:Nat
  rep:aH->(cd->Prop)->World->List Value->α->Prop
  len:∀{γ S w cs x},rep γ S w cs x->cs.length=sz
  one:∀{γ S w cs x},rep γ S w cs x->∀v∈cs,v.oneCell'=true
  tr:∀{γ γ':aH} {S S':cd->Prop} {w w':World} {cs:List Value} {x:α},w.heap.size<=w'.heap.size->(∀b,b<w.heap.size->S (γ b)->w'.heap[b]? =w.heap[b]? /\S' (γ' b))->rep γ S w cs x->rep γ' S' w' cs x
class Fl (α:Type) [Rp α] where
  cells:α->List Value
  rep_iff:∀{γ S w cs} {x:α},Rp.rep γ S w cs x↔cs=cells x
instance:Rp Int where
 sz:=1
 rep _ _ _ cs x:=cs=[.int .i64 x]
 len h:=by subst h;rfl
 one h:=by subst h;simp[Value.oneCell']
 tr _ _ h:=h
instance:Fl Int where
 cells x:=[.int .i64 x]
 rep_iff:=Iff.rfl
instance:Rp Bool where
 sz:=1
 rep _ _ _ cs x:=cs=[.bool x]
 len h:=by subst h;rfl
 one h:=by subst h;simp[Value.oneCell']
 tr _ _ h:=h
instance:Fl Bool where
 cells x:=[.bool x]
 rep_iff:=Iff.rfl
instance {α β:Type}[Rp α][Rp β]:Rp (α×β) where
 sz:=Rp.sz α+Rp.sz β
 rep γ S w cs x:=∃c1 c2,cs=c1++c2/\Rp.rep γ S w c1 x.1/\Rp.rep γ S w c2 x.2
 len:=by rintro _ _ _ _ _ ⟨c1,c2,rfl,h1,h2⟩;simp[Rp.len h1,Rp.len h2]
 one:=by
   rintro _ _ _ _ _ ⟨c1,c2,rfl,h1,h2⟩ v hv
   rcases List.mem_append.1 hv with h|h
   · exact Rp.one h1 v h
   · exact Rp.one h2 v h
 tr:=by
   rintro _ _ _ _ _ _ _ _ hs h ⟨c1,c2,rfl,h1,h2⟩
   exact⟨c1,c2,rfl,Rp.tr hs h h1,Rp.tr hs h h2⟩
instance {α β:Type}[Rp α][Rp β][Fl α][Fl β]:Fl (α×β) where
 cells x:=Fl.cells x.1++Fl.cells x.2
 rep_iff:=by
   intro γ S w cs x
   constructor
   · rintro⟨c1,c2,rfl,h1,h2⟩
     rw[Fl.rep_iff.1 h1,Fl.rep_iff.1 h2]
   · intro h
     exact⟨_,_,h,Fl.rep_iff.2 rfl,Fl.rep_iff.2 rfl⟩
theorem cO{w:World}{b:Nat}{o:Obj}(h:w.heap[b]? =some o):b<w.heap.size:=(Array.getElem?_eq_some_iff.1 h).1
theorem wu{w:World}{a:Addr}{v:Value}(h:w.cell? a=some v):a.block<w.heap.size:=by
 unfold World.cell? at h
 split at h
 · rename_i hb;exact cO hb
 · cases h
theorem js{w w':World}{a:Addr}(h:w'.heap[a.block]? =w.heap[a.block]?):w'.cell? a=w.cell? a:=by simp[World.cell?,h]
def Sl{α:Type}[Rp α](γ:aH)(S:cd->Prop)(w:World)(v:Value)(xs:List α):Prop:=
  ((∃a,v= .slice a 0 0)/\xs=[])\/∃b off cap,v= .slice (some ⟨b,off,none⟩) xs.length cap/\(xs.length<=cap/\xs.length<=1099511627776)/\∀i x,xs[i]? =some x->b<w.heap.size/\S (γ b)/\
    ∃cs,(∀j,j<Rp.sz α->w.cell? ⟨b,off+i*Rp.sz α+j,none⟩=cs[j]?)/\Rp.rep γ S w cs x
theorem Sl.tr{α:Type}[Rp α]{γ γ':aH}{S S':cd->Prop}{w w':World}{v:Value}{xs:List α}(h:∀b,b<w.heap.size->S (γ b)->w'.heap[b]? =w.heap[b]? /\S' (γ' b))(hs:Sl γ S w v xs)(hsz:w.heap.size<=w'.heap.size):Sl γ' S' w' v xs:=by
 rcases hs with hs|⟨b,off,cap,rfl,hc,hx⟩
 · exact .inl hs
 · refine .inr ⟨b,off,cap,rfl,hc,λi x hi=>?_⟩
   obtain⟨hb,hS,cs,hcs,hr⟩:=hx i x hi
   obtain⟨h1,h2⟩:=h b hb hS
   exact⟨Nat.lt_of_lt_of_le hb hsz,h2,cs,λj hj=>by rw[js (w:=w) h1];exact hcs j hj,Rp.tr hsz h hr⟩
theorem Sl.chg{α:Type}[Rp α]{γ γ':aH}{S J:cd->Prop}{w w':World}{v:Value}{xs:List α}(hs:Sl γ S w v xs)(h:b5 J γ w γ' w')(hJ:∀c,S c->¬J c):Sl γ' S w' v xs:=
 hs.tr (λb hb hS=>⟨h.keep b hb (hJ _ hS),by rw[h.col b hb (hJ _ hS)];exact hS⟩) h.size
def Ro{α:Type}[Rp α](w:World)(v:Value)(xs:List α):Prop:=Sl c0 any w v xs
theorem Sl.ro{α:Type}[Rp α]{γ:aH}{S:cd->Prop}{w:World}{v:Value}{xs:List α}(hs:Sl γ S w v xs):Ro w v xs:=hs.tr (λ_ _ _=>⟨rfl,trivial⟩) (Nat.le_refl _)
theorem Ro.sl{α:Type}[Rp α]{w:World}{v:Value}{xs:List α}(hs:Ro w v xs):Sl c0 (is 0) w v xs:=Sl.tr (λ_ _ _=>⟨rfl,rfl⟩) hs (Nat.le_refl _)
theorem Ro.below{α:Type}[Rp α]{w w':World}{v:Value}{xs:List α}(hs:Ro w v xs)(h:dd w.heap.size w w'):Ro w' v xs:=Sl.tr (λb hb _=>⟨h.block b hb,trivial⟩) hs h.size
instance {α:Type}[Rp α]:Rp (List α) where
 sz:=1
 rep γ S w cs x:=∃v,cs=[v]/\Sl γ S w v x
 len:=by rintro _ _ _ _ _ ⟨v,rfl,_⟩;rfl
 one:=by
   rintro _ _ _ _ _ ⟨v,rfl,h⟩ u hu
   obtain rfl:u=v:=by simpa using hu
   rcases h with⟨⟨_,rfl⟩,_⟩|⟨b,off,cap,rfl,_⟩<;>rfl
 tr:=by
   rintro _ _ _ _ _ _ _ _ hs h ⟨v,rfl,hv⟩
   exact⟨v,rfl,hv.tr h hs⟩
def xz:Value->Option Addr
  | .slice a _ _=>a
  |_=>none
def oV:Value->Nat
 | .slice _ _ c=>c
 |_=>0
theorem Sl.form{α:Type}[Rp α]{γ:aH}{S:cd->Prop}{w:World}{v:Value}{xs:List α}(h:Sl γ S w v xs):v= .slice (xz v) xs.length (oV v):=by
 rcases h with⟨⟨_,rfl⟩,rfl⟩|⟨b,off,cap,rfl,_⟩<;>rfl
theorem Sl.cap{α:Type}[Rp α]{γ:aH}{S:cd->Prop}{w:World}{v:Value}{xs:List α}(h:Sl γ S w v xs):xs.length<=oV v:=by
 rcases h with⟨⟨_,rfl⟩,rfl⟩|⟨b,off,cap,rfl,h,_⟩
 · simp
 · exact h.1
theorem Sl.small{α:Type}[Rp α]{γ:aH}{S:cd->Prop}{w:World}{v:Value}{xs:List α}(h:Sl γ S w v xs):xs.length<=1099511627776:=by
 rcases h with⟨⟨_,rfl⟩,rfl⟩|⟨b,off,cap,rfl,h,_⟩
 · simp
 · exact h.2
def bu(v:Value)(sz i:Nat):Addr:=
  match v with
  | .slice (some a) _ _=>⟨a.block,a.off+i*sz,none⟩
  |_=>⟨0,0,none⟩
theorem Sl.elem{α:Type}[Rp α]{γ:aH}{S:cd->Prop}{w:World}{v:Value}{xs:List α}(h:Sl γ S w v xs){i:Nat}{x:α}(hx:xs[i]? =some x):
   ∃cs,(∀j,j<Rp.sz α->w.cell? ((bu v (Rp.sz α) i).add j)=cs[j]?)/\Rp.rep γ S w cs x:=by
 rcases h with⟨⟨_,rfl⟩,rfl⟩|⟨b,off,cap,rfl,_,h⟩
 · simp at hx
 · obtain⟨_,_,cs,hcs,hr⟩:=h i x hx
   refine⟨cs,λj hj=>?_,hr⟩
   rw[<-hcs j hj]
   congr 1
   unfold Addr.add bu
   split
   · rename_i h0;subst h0;rfl
   · rfl
def Ow{α:Type}[Rp α](γ:aH)(J S:cd->Prop)(w:World)(v:Value)(xs:List α):Prop:=
  (v= .slice none 0 0/\xs=[])\/∃b cap c e,v= .slice (some ⟨b,0,none⟩) xs.length cap/\(xs.length<=cap/\xs.length<=1099511627776)/\cap<=maxLen/\J (γ b)/\w.heap[b]? =some (.cells c e (0,0))/\c.size=cap*Rp.sz α/\
    ∀i x,xs[i]? =some x->∃cs,(∀j,j<Rp.sz α->c[i*Rp.sz α+j]? =cs[j]?)/\Rp.rep γ S w cs x
theorem Ow.tr{α:Type}[Rp α]{γ γ':aH}{J J' S S':cd->Prop}{w w':World}{v:Value}{xs:List α}(hsz:w.heap.size<=w'.heap.size)(h:∀b,b<w.heap.size->S (γ b)->w'.heap[b]? =w.heap[b]? /\S' (γ' b))
   (hj:∀b,b<w.heap.size->J (γ b)->w'.heap[b]? =w.heap[b]? /\J' (γ' b))(hs:Ow γ J S w v xs):Ow γ' J' S' w' v xs:=by
 rcases hs with hs|⟨b,cap,c,e,rfl,hc,hm,hJ,hb,hcs,hx⟩
 · exact .inl hs
 · obtain⟨h1,h2⟩:=hj b (cO hb) hJ
   refine .inr ⟨b,cap,c,e,rfl,hc,hm,h2,by rw[h1];exact hb,hcs,λi x hi=>?_⟩
   obtain⟨cs,hcs,hr⟩:=hx i x hi
   exact⟨cs,hcs,Rp.tr hsz h hr⟩
theorem Ow.chg{α:Type}[Rp α]{γ γ':aH}{J S K:cd->Prop}{w w':World}{v:Value}{xs:List α}(hs:Ow γ J S w v xs)(h:b5 K γ w γ' w')(hJ:∀c,J c->¬K c)(hS:∀c,S c->¬K c):Ow γ' J S w' v xs:=
 hs.tr h.size (λb hb hS'=>⟨h.keep b hb (hS _ hS'),by rw[h.col b hb (hS _ hS')];exact hS'⟩) (λb hb hJ'=>⟨h.keep b hb (hJ _ hJ'),by rw[h.col b hb (hJ _ hJ')];exact hJ'⟩)
theorem Ow.sl{α:Type}[Rp α]{γ:aH}{J S T:cd->Prop}{w:World}{v:Value}{xs:List α}(hs:Ow γ J S w v xs)(hJ:∀c,J c->T c)(hS:∀c,S c->T c):Sl γ T w v xs:=by
 rcases hs with hs|⟨b,cap,c,e,rfl,hc,hm,hJb,hb,hcs,hx⟩
 · exact .inl ⟨⟨_,hs.1⟩,hs.2⟩
 · refine .inr ⟨b,0,cap,rfl,hc,λi x hi=>?_⟩
   obtain⟨cs,hcs',hr⟩:=hx i x hi
   refine⟨cO hb,hJ _ hJb,cs,λj hj=>?_,Rp.tr (Nat.le_refl _) (λb _ hS'=>⟨rfl,hS _ hS'⟩) hr⟩
   rw[<-hcs' j hj]
   simp[World.cell?,hb]
def Bx(γ:aH)(J:cd->Prop)(w:World)(b:Nat)(cs:List Value):Prop:=J (γ b)/\∃e,w.heap[b]? =some (.cells cs.toArray e (0,0))
theorem Bx.chg{γ γ':aH}{J K:cd->Prop}{w w':World}{b:Nat}{cs:List Value}(hs:Bx γ J w b cs)(h:b5 K γ w γ' w')(hJ:∀c,J c->¬K c):Bx γ' J w' b cs:=by
 obtain⟨h1,e,h2⟩:=hs
 exact⟨by rw[h.col b (cO h2) (hJ _ h1)];exact h1,e,by rw[h.keep b (cO h2) (hJ _ h1)];exact h2⟩
theorem Bx.cell{γ:aH}{J:cd->Prop}{w:World}{b:Nat}{cs:List Value}(hs:Bx γ J w b cs)(i:Nat):w.cell? ⟨b,i,none⟩=cs[i]? :=by
 obtain⟨h1,e,h2⟩:=hs
 simp[World.cell?,h2]
theorem Bx.lt{γ:aH}{J:cd->Prop}{w:World}{b:Nat}{cs:List Value}(hs:Bx γ J w b cs):b<w.heap.size:=cO hs.2.choose_spec
def iI(γ:aH)(b:Nat)(c:cd):aH:=λk=>if k=b then c else γ k
theorem gz(γ:aH)(w:World)(o:Obj)(c:cd):b5 no γ w (iI γ w.heap.size c) (w.alloc o):=
 ⟨rfl,rfl,rfl,by simp,λb hb _=>by simp[iI,Nat.ne_of_lt hb],λb hb _=>RowKit.Below.heap_alloc w o b hb,Nat.le_refl _⟩
theorem dC(w:World)(o:Obj):(w.alloc o).heap[w.heap.size]? =some o:=heap_alloc_new w o
theorem oE(γ:aH)(w:World)(cs:Array Value)(e:TypeId)(c:cd){J:cd->Prop}(hJ:J c):Bx (iI γ w.heap.size c) J (w.alloc (.cells cs e)) w.heap.size cs.toList:=
 ⟨by simpa[iI] using hJ,e,by rw[dC]⟩
def glue(B:Nat)(γ δ:aH)(ren:Nat->Nat):aH:=λb=>if b<B then γ b else(ren (δ b).1,(δ b).2)
theorem uE{w w':World}(h:dd w.heap.size w w')(γ δ:aH)(ren:Nat->Nat):b5 no γ w (glue w.heap.size γ δ ren) w':=
 ⟨h.os,h.tape,h.output,h.size,λb hb _=>by simp[glue,hb],λb hb _=>h.block b hb,h.drawn⟩
theorem ar{w w':World}(h:dd w.heap.size w w')(γ:aH):b5 no γ w γ w':=⟨h.os,h.tape,h.output,h.size,λ_ _ _=>rfl,λb hb _=>h.block b hb,h.drawn⟩
theorem nk{B:Nat}{γ δ:aH}{ren:Nat->Nat}{i k:Nat}(hδ:∀b,b<B->(δ b).1=0)(hi:Nat.beq i 0=false)(hr:ren i=k):∀b,is i (δ b)->is k (glue B γ δ ren b):=by
 intro b hb
 have h0:¬b<B:=λh=>by
   have h1:=hδ b h
   have:i=0:=hb.symm.trans h1
   subst this
   simp at hi
 have hb':(δ b).1=i:=hb
 simp[glue,h0,is,hb',hr]
theorem Sl.glue{α:Type}[Rp α]{B:Nat}{γ δ:aH}{ren:Nat->Nat}{i k:Nat}{w:World}{v:Value}{xs:List α}(h:Sl δ (is i) w v xs)(hδ:∀b,b<B->(δ b).1=0)(hi:Nat.beq i 0=false)(hr:ren i=k):Sl (TL.glue B γ δ ren) (is k) w v xs:=
 h.tr (λb _ hb=>⟨rfl,nk hδ hi hr b hb⟩) (Nat.le_refl _)
theorem Ow.glue{α:Type}[Rp α]{B:Nat}{γ δ:aH}{ren:Nat->Nat}{i k:Nat}{w:World}{v:Value}{xs:List α}(h:Ow δ (is i) (is i) w v xs)(hδ:∀b,b<B->(δ b).1=0)(hi:Nat.beq i 0=false)(hr:ren i=k):Ow (TL.glue B γ δ ren) (is k) (is k) w v xs:=
 h.tr (Nat.le_refl _) (λb _ hb=>⟨rfl,nk hδ hi hr b hb⟩) (λb _ hb=>⟨rfl,nk hδ hi hr b hb⟩)
theorem pN{γ:aH}{S:cd->Prop}{w w':World}(h:dd w.heap.size w w'):∀b,b<w.heap.size->S (γ b)->w'.heap[b]? =w.heap[b]? /\S (γ b):=λb hb hS=>⟨h.block b hb,hS⟩
theorem Sl.bel{α:Type}[Rp α]{γ:aH}{S:cd->Prop}{w w':World}{v:Value}{xs:List α}(hs:Sl γ S w v xs)(h:dd w.heap.size w w'):Sl γ S w' v xs:=hs.tr (pN h) h.size
theorem Ow.bel{α:Type}[Rp α]{γ:aH}{J S:cd->Prop}{w w':World}{v:Value}{xs:List α}(hs:Ow γ J S w v xs)(h:dd w.heap.size w w'):Ow γ J S w' v xs:=hs.tr h.size (pN h) (pN h)
theorem Bx.bel{γ:aH}{J:cd->Prop}{w w':World}{b:Nat}{cs:List Value}(hs:Bx γ J w b cs)(h:dd w.heap.size w w'):Bx γ J w' b cs:=by
 obtain⟨h1,e,h2⟩:=hs
 exact⟨h1,e,by rw[h.block b (cO h2)];exact h2⟩
theorem Ow.flat{α:Type}[Rp α][Fl α]{γ:aH}{J S:cd->Prop}{w:World}{v:Value}{xs:List α}(hs:Ow γ J S w v xs):Sl γ J w v xs:=by
 rcases hs with hs|⟨b,cap,c,e,rfl,hc,hm,hJb,hb,hcs,hx⟩
 · exact .inl ⟨⟨_,hs.1⟩,hs.2⟩
 · refine .inr ⟨b,0,cap,rfl,hc,λi x hi=>?_⟩
   obtain⟨cs,hcs',hr⟩:=hx i x hi
   refine⟨cO hb,hJb,cs,λj hj=>?_,Fl.rep_iff.2 (Fl.rep_iff.1 hr)⟩
   rw[<-hcs' j hj]
   simp[World.cell?,hb]
theorem Ow.nil{α:Type}[Rp α]{γ:aH}{J S:cd->Prop}{w:World}:Ow (α:=α) γ J S w (.slice none 0 0) []:=.inl ⟨rfl,rfl⟩
theorem Sl.nil{α:Type}[Rp α]{γ:aH}{S:cd->Prop}{w:World}:Sl (α:=α) γ S w (.slice none 0 0) []:=.inl ⟨⟨_,rfl⟩,rfl⟩
structure fI(w0:World)(δ:aH)(w:World):Prop where
  below:dd w0.heap.size w0 w
  col:∀b,b<w0.heap.size->(δ b).1=0
def fin(w0:World)(γ:aH)(ren:Nat->Nat):aH:=glue w0.heap.size c0 γ ren
theorem aX.fresh{w0 w:World}{γ:aH}(h:aX w0 γ w)(ren:Nat->Nat):fI w0 (fin w0 γ ren) w:=⟨h.below,λb hb=>by simp[fin,TL.glue,hb,c0]⟩
section
variable{P:Program}{fid n:Nat}{R:Ending->World->Prop}{k:List Item}{f:Fr}{w:World}{id:Nat}{l:List Oper}
theorem cD(γ:aH)(hd:l.all (nI n)=true)(hm:P.follows .mixedOrders=true)(hB:Region.lexB .any l.toArray=true)
    (h:∀w1,b5 no γ w γ w1->l6 P l (λw'=>dd w1.heap.size w1 w') l (λf'=>∀w',dd w1.heap.size w1 w'->fh P fid n R k f' w') f):fh P fid n R (.code (.region id l.toArray true)::k) f w:=
  nu (λw'=>dd w.heap.size {w with drawn:=w.drawn+1} w') hd hm hB (dd.refl _ _) (h _ (b5.refl _ _ _).drew)
end
end TL
/-
  TlOps: what each operation comes to.
  By an AI agent.
-/
set_option linter.all false
namespace TL
open Go
abbrev pB(x:Int):Prop:= -9223372036854775808<=x/\x<=9223372036854775807
theorem jL{x:Int}(h:pB x):IntKind.i64.wrap x=x:=by
 simp only[pB] at h
 rw[IntKind.wrap_i64];omega
section
variable{P:Program}{f:Fr}{w:World}{dst:Option Tmp}{ty:TypeId}{pos:String}{after:Array Edge}{g:Option (Nat×Bool)}
theorem aD{x:Operand}{v:Value}(hx:ev f x=v):(execOp (ev f) ⟨dst,.move x,ty,pos,after,g⟩).run P w= .ok (.value v) w:=by subst hx;rfl
theorem bS{x:Operand}{v:Value}(hx:ev f x=v):(execOp (ev f) ⟨dst,.assign x,ty,pos,after,g⟩).run P w= .ok (.value v) w:=by subst hx;rfl
theorem aE{c a b:Operand}{t:Bool}{va:Value}(hc:ev f c= .bool t)(ht:t=true)(ha:ev f a=va):(execOp (ev f) ⟨dst,.pick c a b,ty,pos,after,g⟩).run P w= .ok (.value va) w:=by
 subst ha ht
 simp only[execOp,hc,asBool];rfl
theorem aC{c a b:Operand}{t:Bool}{vb:Value}(hc:ev f c= .bool t)(ht:t=false)(hb:ev f b=vb):(execOp (ev f) ⟨dst,.pick c a b,ty,pos,after,g⟩).run P w= .ok (.value vb) w:=by
 subst hb ht
 simp only[execOp,hc,asBool];rfl
variable{t t':TypeId}{x y:Operand}
theorem dj{b:Bool}(hx:ev f x= .bool b):(execOp (ev f) ⟨dst,.unOp .not t x,ty,pos,after,g⟩).run P w= .ok (.value (.bool !b)) w:=by
 simp only[execOp,hx,Op.unary];rfl
theorem c7(op:BinOp)(x y:Operand){m n:Int}{k:IntKind}(hx:ev f x= .int k m)(hy:ev f y= .int k n){v:Value}(h:(binOp op t (.int k m) (.int k n)).run P w= .ok v w):
   (execOp (ev f) ⟨dst,.binOp op t x y t',ty,pos,after,g⟩).run P w= .ok (.value v) w:=by
 have hg:(eqGuard op t x y (.int k m) (.int k n)).run P w= .ok () w:=by
   unfold eqGuard
   split<;>rfl
 simp only[execOp,hx,hy,Sem.run_bind,hg,Result.andThen_ok,h,Sem.run_pure]
variable{m n:Int}
theorem aP(hx:ev f x= .int .i64 m)(hy:ev f y= .int .i64 n)(hr:pB (m+n)):(execOp (ev f) ⟨dst,.binOp .add t x y t',ty,pos,after,g⟩).run P w= .ok (.value (.int .i64 (m+n))) w:=
 c7 .add x y hx hy (by simp[binOp,Op.intArith,jL hr])
theorem dD(hx:ev f x= .int .i64 m)(hy:ev f y= .int .i64 n)(hr:pB (m-n)):(execOp (ev f) ⟨dst,.binOp .sub t x y t',ty,pos,after,g⟩).run P w= .ok (.value (.int .i64 (m-n))) w:=
 c7 .sub x y hx hy (by simp[binOp,Op.intArith,jL hr])
theorem eK(hx:ev f x= .int .i64 m)(hy:ev f y= .int .i64 n)(hr:pB (m*n)):(execOp (ev f) ⟨dst,.binOp .mul t x y t',ty,pos,after,g⟩).run P w= .ok (.value (.int .i64 (m*n))) w:=
 c7 .mul x y hx hy (by simp[binOp,Op.intArith,jL hr])
theorem r5(hx:ev f x= .int .i64 m)(hy:ev f y= .int .i64 n)(hm:0<=m)(hm2:pB m)(hn:0<n):(execOp (ev f) ⟨dst,.binOp .quo t x y t',ty,pos,after,g⟩).run P w= .ok (.value (.int .i64 (m/n))) w:=
 c7 .quo x y hx hy (by
   have h0:n≠0:=by omega
   have h1:m.tdiv n=m/n:=Int.tdiv_eq_ediv_of_nonneg hm
   have h2:pB (m/n):=by
     simp only[pB] at*
     have h3:0<=m/n:=Int.ediv_nonneg hm (by omega)
     have h4:m/n<=m:=Int.ediv_le_self n hm
     omega
   simp[binOp,Op.intDiv,h0,h1,jL h2])
theorem my(hx:ev f x= .int .i64 m)(hy:ev f y= .int .i64 n)(hm:0<=m)(hn:0<n):(execOp (ev f) ⟨dst,.binOp .rem t x y t',ty,pos,after,g⟩).run P w= .ok (.value (.int .i64 (m%n))) w:=
 c7 .rem x y hx hy (by
   have h0:n≠0:=by omega
   have h1:m.tmod n=m%n:=Int.tmod_eq_emod_of_nonneg hm
   simp[binOp,Op.intDiv,h0,h1])
variable{k:IntKind}
theorem b6(hx:ev f x= .int k m)(hy:ev f y= .int k n):(execOp (ev f) ⟨dst,.binOp .lss t x y t',ty,pos,after,g⟩).run P w= .ok (.value (.bool (decide (m<n)))) w:=
 c7 .lss x y hx hy (by simp[binOp,Op.intCmp])
theorem jq(hx:ev f x= .int k m)(hy:ev f y= .int k n):(execOp (ev f) ⟨dst,.binOp .leq t x y t',ty,pos,after,g⟩).run P w= .ok (.value (.bool (decide (m<=n)))) w:=
 c7 .leq x y hx hy (by simp[binOp,Op.intCmp])
theorem e8(hx:ev f x= .int k m)(hy:ev f y= .int k n):(execOp (ev f) ⟨dst,.binOp .gtr t x y t',ty,pos,after,g⟩).run P w= .ok (.value (.bool (decide (n<m)))) w:=
 c7 .gtr x y hx hy (by simp[binOp,Op.intCmp])
theorem gh(hx:ev f x= .int k m)(hy:ev f y= .int k n):(execOp (ev f) ⟨dst,.binOp .geq t x y t',ty,pos,after,g⟩).run P w= .ok (.value (.bool (decide (n<=m)))) w:=
 c7 .geq x y hx hy (by simp[binOp,Op.intCmp])
theorem cq(hx:ev f x= .int k m)(hy:ev f y= .int k n):(execOp (ev f) ⟨dst,.binOp .eql t x y t',ty,pos,after,g⟩).run P w= .ok (.value (.bool (decide (m=n)))) w:=
 c7 .eql x y hx hy (by simp[binOp,Op.intCmp];rfl)
theorem dU(hx:ev f x= .int k m)(hy:ev f y= .int k n):(execOp (ev f) ⟨dst,.binOp .neq t x y t',ty,pos,after,g⟩).run P w= .ok (.value (.bool (!decide (m=n)))) w:=
 c7 .neq x y hx hy (by simp[binOp,Op.intCmp];rfl)
theorem uI(op:BinOp){a b v:Value}(hx:ev f x=a)(hy:ev f y=b)(hg:(eqGuard op t x y a b).run P w= .ok () w)(h:(binOp op t a b).run P w= .ok v w):
    (execOp (ev f) ⟨dst,.binOp op t x y t',ty,pos,after,g⟩).run P w= .ok (.value v) w:=by
  simp only[execOp,hx,hy,Sem.run_bind,hg,Result.andThen_ok,h,Sem.run_pure]
def zi:TypeDesc->Bool
 | .struct _| .array _ _=>true
 |_=>false
theorem aS{d:TypeDesc}(h:P.underlying t=some d):(underlying t).run P w= .ok d w:=by
 simp[underlying,h]
theorem kn{d:TypeDesc}(h:P.underlying t=some d):(isAgg t).run P w= .ok (zi d) w:=by
 simp only[isAgg,Sem.run_bind,aS h,Result.andThen_ok]
 cases d<;>rfl
theorem cF{i:TypeInfo}(h:P.info? t=some i):(Go.sizeOf t).run P w= .ok i.size w:=by simp[Go.sizeOf,typeInfo,h]
theorem fg{i:TypeInfo}{z:Value}(h:P.info? t=some i)(hz:i.zero=some z):(zeroValue t).run P w= .ok z w:=by simp[zeroValue,typeInfo,h,hz]
structure Tp(P:Program)(t:TypeId)(agg:Bool)(size bytes:Nat)(z:Value):Prop where
  desc:∃d,P.underlying t=some d/\zi d=agg
  info:∃i,P.info? t=some i/\i.size=size/\i.bytes=bytes/\i.zero=some z
def Aq(P:Program)(t:TypeId):Option (Bool×Nat×Nat×Option Value):=
 match P.underlying t,P.info? t with
 |some d,some i=>some (zi d,i.size,i.bytes,i.zero)
 |_,_=>none
theorem Tp.of{agg:Bool}{size bytes:Nat}{z:Value}(h:Aq P t=some (agg,size,bytes,some z)):Tp P t agg size bytes z:=by
 unfold Aq at h
 split at h
 · rename_i d i hd hi
   simp only[Option.some.injEq,Prod.mk.injEq] at h
   exact⟨⟨d,hd,h.1⟩,⟨i,hi,h.2.1,h.2.2.1,h.2.2.2⟩⟩
 · cases h
theorem n4{size bytes:Nat}{z v:Value}{a:Addr}(ht:Tp P t false size bytes z)(hc:w.cell? a=some v):(loadVar t a).run P w= .ok v w:=by
 obtain⟨d,hd,ha⟩:=ht.desc
 simp only[loadVar,Sem.run_bind,kn hd,ha,Result.andThen_ok]
 simp[hc]
theorem jT{size bytes:Nat}{z:Value}{a:Addr}{cs:List Value}(ht:Tp P t true size bytes z)(hl:cs.length=size)(hc:∀j,j<size->w.cell? (a.add j)=cs[j]?):(loadVar t a).run P w= .ok (.agg cs.toArray) w:=by
 obtain⟨d,hd,ha⟩:=ht.desc
 obtain⟨i,hi,hs,_⟩:=ht.info
 have:=run_loadCells_list (P:=P) w a cs (λj v hj=>by
   have hlt:j<cs.length:=(List.getElem?_eq_some_iff.1 hj).1
   rw[hc j (by omega)];exact hj)
 simp only[loadVar,Sem.run_bind,kn hd,ha,Result.andThen_ok,if_true,cF hi,hs]
 rw[hl] at this
 rw[this]
 rfl
theorem bD{size bytes:Nat}{z v:Value}{a:Addr}(ht:Tp P t false size bytes z)(hx:ev f x= .pointer (some a))(hc:w.cell? a=some v):(execOp (ev f) ⟨dst,.load t x,ty,pos,after,g⟩).run P w= .ok (.value v) w:=by
 simp only[execOp,hx,Instr.loadAt,Instr.sureAddr,Sem.run_bind,Sem.run_pure,Result.andThen_ok,n4 ht hc]
theorem rB{size bytes:Nat}{z:Value}{a:Addr}{cs:List Value}(ht:Tp P t true size bytes z)(hx:ev f x= .pointer (some a))(hl:cs.length=size)(hc:∀j,j<size->w.cell? (a.add j)=cs[j]?):
   (execOp (ev f) ⟨dst,.load t x,ty,pos,after,g⟩).run P w= .ok (.value (.agg cs.toArray)) w:=by
 simp only[execOp,hx,Instr.loadAt,Instr.sureAddr,Sem.run_bind,Sem.run_pure,Result.andThen_ok,jT ht hl hc]
theorem i7(b o j:Nat):(⟨b,o,none⟩:Addr).add j=⟨b,o+j,none⟩:=by
 unfold Addr.add;split<;>simp_all
theorem af{γ:aH}{J:cd->Prop}{b i size bytes:Nat}{z v:Value}{cs:List Value}(ht:Tp P t false size bytes z)(hx:ev f x= .pointer (some ⟨b,i,none⟩))(hb:Bx γ J w b cs)(hv:cs[i]? =some v):(execOp (ev f) ⟨dst,.load t x,ty,pos,after,g⟩).run P w= .ok (.value v) w:=
  bD ht hx (by rw[hb.cell];exact hv)
theorem ak{γ:aH}{J:cd->Prop}{b i size bytes:Nat}{z:Value}{cs ds:List Value}(ht:Tp P t true size bytes z)(hx:ev f x= .pointer (some ⟨b,i,none⟩))(hb:Bx γ J w b cs)(hl:ds.length=size)(hv:(cs.drop i).take size=ds):(execOp (ev f) ⟨dst,.load t x,ty,pos,after,g⟩).run P w= .ok (.value (.agg ds.toArray)) w:=
  rB ht hx hl λj hj=>by
    rw[i7,hb.cell,<-hv]
    simp[hj]
theorem ad{fs:Array Field}{fd:Field}{i:Nat}{b o o2 s:Nat}(ht:P.underlying t=some (.struct fs))(hf:fs[i]? =some fd)(hs:(P.info? fd.type).map (·.size)=some (s+1))(hx:ev f x= .pointer (some ⟨b,o,none⟩))(ho:o+fd.offset=o2):
   (execOp (ev f) ⟨dst,.fieldAddr t x i,ty,pos,after,g⟩).run P w= .ok (.value (.pointer (some ⟨b,o2,none⟩))) w:=by
 subst ho
 cases hq:P.info? fd.type with
 |none=>simp[hq] at hs
 |some q=>
   simp only[hq,Option.map_some,Option.some.injEq] at hs
   simp[execOp,hx,Instr.fieldAt,Instr.sureAddr,aS ht,hf,fieldPlace,cF hq,hs,i7]
theorem dA{e len s b o o2:Nat}{i:Int}(ht:P.underlying t=some (.array len e))(hs:(P.info? e).map (·.size)=some s)(hx:ev f x= .pointer (some ⟨b,o,none⟩))(hy:ev f y= .int k i)(h0:0<=i)(h1:i<len)(ho:o+i.toNat*s=o2):
    (execOp (ev f) ⟨dst,.indexAddr t x y,ty,pos,after,g⟩).run P w= .ok (.value (.pointer (some ⟨b,o2,none⟩))) w:=by
  subst ho
  cases hq:P.info? e with
  |none=>simp[hq] at hs
  |some q=>
    simp only[hq,Option.map_some,Option.some.injEq] at hs
    simp[execOp,hx,hy,Instr.indexAt,asIntOf,Instr.sureAddr,aS ht,h0,h1,cF hq,hs,i7]
theorem al{α:Type}[Rp α]{γ:aH}{S:cd->Prop}{xs:List α}{v:Value}{e:Nat}{i:Int}(ht:P.underlying t=some (.slice e))(hs:(P.info? e).map (·.size)=some (Rp.sz α))(hx:ev f x=v)(hv:Sl γ S w v xs)(hy:ev f y= .int k i)(h0:0<=i)(h1:i<xs.length):
   (execOp (ev f) ⟨dst,.indexAddr t x y,ty,pos,after,g⟩).run P w= .ok (.value (.pointer (some (bu v (Rp.sz α) i.toNat)))) w:=by
 cases hq:P.info? e with
 |none=>simp[hq] at hs
 |some q=>
   simp only[hq,Option.map_some,Option.some.injEq] at hs
   rcases hv with⟨⟨_,rfl⟩,rfl⟩|⟨b,off,cap,rfl,_⟩
   · simp at h1;omega
   · simp[execOp,hx,hy,Instr.indexAt,asIntOf,aS ht,h0,h1,cF hq,hs,i7,bu]
theorem ko(v:Value)(s i j:Nat):(bu v s i).add j=⟨(bu v s i).block,(bu v s i).off+j,none⟩:=by
 unfold Addr.add bu
 split
 · rename_i h;subst h;split<;>rfl
 · rfl
def gI{α:Type}[Inhabited α](xs:List α)(i:Int):α:=xs.getD i.toNat default
theorem i9{α:Type}[Inhabited α]{xs:List α}{i:Int}(h0:0<=i)(h1:i<xs.length):xs[i.toNat]? =some (gI xs i):=by
 have:i.toNat<xs.length:=by omega
 simp[gI,this]
theorem br{α:Type}[Rp α][Fl α][Inhabited α]{γ:aH}{S:cd->Prop}{xs:List α}{v u:Value}{size bytes:Nat}{z:Value}{i:Int}(ht:Tp P t false size bytes z)(hx:ev f x= .pointer (some (bu v (Rp.sz α) i.toNat)))(hv:Sl γ S w v xs)(h0:0<=i)(h1:i<xs.length)
   (hz:0<Rp.sz α)(hu:(Fl.cells (gI xs i))[0]? =some u):(execOp (ev f) ⟨dst,.load t x,ty,pos,after,g⟩).run P w= .ok (.value u) w:=by
 obtain⟨cs,hcs,hr⟩:=hv.elem (i9 h0 h1)
 have:=hcs 0 hz
 refine bD ht hx ?_
 rw[<-hu,<-Fl.rep_iff.1 hr,<-this]
 rfl
theorem aJ{α:Type}[Rp α][Fl α][Inhabited α]{γ:aH}{S:cd->Prop}{xs:List α}{v:Value}{bytes:Nat}{z:Value}{i:Int}{cs:List Value}(ht:Tp P t true (Rp.sz α) bytes z)(hx:ev f x= .pointer (some (bu v (Rp.sz α) i.toNat)))(hv:Sl γ S w v xs)(h0:0<=i)(h1:i<xs.length)
   (hu:Fl.cells (gI xs i)=cs):(execOp (ev f) ⟨dst,.load t x,ty,pos,after,g⟩).run P w= .ok (.value (.agg cs.toArray)) w:=by
 obtain⟨cs',hcs,hr⟩:=hv.elem (i9 h0 h1)
 obtain rfl:cs'=cs:=(Fl.rep_iff.1 hr).trans hu
 exact rB ht hx (Rp.len hr) hcs
theorem ei{α:Type}[Rp α][Fl α][Inhabited α]{γ:aH}{S:cd->Prop}{xs:List α}{v u:Value}{size bytes q:Nat}{z:Value}{i:Int}(ht:Tp P t false size bytes z)(hx:ev f x= .pointer (some ⟨(bu v (Rp.sz α) i.toNat).block,(bu v (Rp.sz α) i.toNat).off+q,none⟩))(hv:Sl γ S w v xs)(h0:0<=i)(h1:i<xs.length)
    (hz:q<Rp.sz α)(hu:(Fl.cells (gI xs i))[q]? =some u):(execOp (ev f) ⟨dst,.load t x,ty,pos,after,g⟩).run P w= .ok (.value u) w:=by
  obtain⟨cs,hcs,hr⟩:=hv.elem (i9 h0 h1)
  have:=hcs q hz
  refine bD ht hx ?_
  rw[<-hu,<-Fl.rep_iff.1 hr,<-this,ko]
theorem k8(v:Value)(s i:Nat):bu v s i=⟨(bu v s i).block,(bu v s i).off,none⟩:=by
 unfold bu;split<;>rfl
theorem cN{e len s:Nat}{i:Int}{v:Value}{sz j:Nat}{o2:Nat}(ht:P.underlying t=some (.array len e))(hs:(P.info? e).map (·.size)=some s)(hx:ev f x= .pointer (some (bu v sz j)))(hy:ev f y= .int k i)(h0:0<=i)(h1:i<len)(ho:i.toNat*s=o2):
    (execOp (ev f) ⟨dst,.indexAddr t x y,ty,pos,after,g⟩).run P w= .ok (.value (.pointer (some ⟨(bu v sz j).block,(bu v sz j).off+o2,none⟩))) w:=
  dA ht hs (by rw[hx];exact congrArg (λa=>Value.pointer (some a)) (k8 v sz j)) hy h0 h1 (by rw[ho])
def pI(e:Int×Int)(i:Int):Int:=if i=0 then e.1 else e.2
theorem lM(e:Int×Int){i:Int}(h0:0<=i)(h1:i<2):(Fl.cells e)[i.toNat]? =some (.int .i64 (pI e i)):=by
 have h:i=0\/i=1:=by omega
 rcases h with rfl|rfl<;>rfl
theorem aT{w1:World}{α:Type}[Rp α]{γ:aH}{S:cd->Prop}{xs:List α}{v:Value}{e:Nat}(ht:P.underlying t=some (.slice e))(hx:ev f x=v)(hv:Sl γ S w1 v xs):
   (execOp (ev f) ⟨dst,.call {callee:=.builtin .len,args:= #[x],argTypes:= #[t]},ty,pos,after,g⟩).run P w= .ok (.value (.int .i64 xs.length)) w:=by
 rw[hv.form] at hx
 simp[execOp,resolve,invoke,builtin,hx,Builtin.len_,aS ht,goInt]
theorem oz{at_:Array TypeId}(hx:ev f x= .int k m)(hy:ev f y= .int k n):(execOp (ev f) ⟨dst,.call {callee:=.builtin .min,args:= #[x,y],argTypes:=at_},ty,pos,after,g⟩).run P w= .ok (.value (.int k (min m n))) w:=by
 have h:(if n<m then n else m)=min m n:=by omega
 simp[execOp,resolve,invoke,builtin,hx,hy,Builtin.min_,Builtin.min2,h]
theorem mj{at_:Array TypeId}(hx:ev f x= .int k m)(hy:ev f y= .int k n):(execOp (ev f) ⟨dst,.call {callee:=.builtin .max,args:= #[x,y],argTypes:=at_},ty,pos,after,g⟩).run P w= .ok (.value (.int k (max m n))) w:=by
 have h:(if m<n then n else m)=max m n:=by omega
 simp[execOp,resolve,invoke,builtin,hx,hy,Builtin.max_,Builtin.max2,h]
theorem i6{cs:Array Value}{o:Nat}{v:Value}{size bytes:Nat}{z:Value}(ht:Tp P t false size bytes z)(hv:cs[o]? =some v):(part t cs o).run P w= .ok v w:=by
 obtain⟨d,hd,ha⟩:=ht.desc
 simp only[part,Sem.run_bind,kn hd,ha,Result.andThen_ok]
 simp[hv]
theorem dM{e len bytes:Nat}{i:Int}{cs:List Value}{v z:Value}(ht:P.underlying t=some (.array len e))(he:Tp P e false 1 bytes z)(hx:ev f x= .agg cs.toArray)(hy:ev f y= .int k i)(h0:0<=i)(h1:i<len)(hv:cs[i.toNat]? =some v):
   (execOp (ev f) ⟨dst,.index t x y,ty,pos,after,g⟩).run P w= .ok (.value v) w:=by
 obtain⟨q,hq,hs,_⟩:=he.info
 have hp:=i6 (P:=P) (w:=w) (cs:=cs.toArray) (o:=i.toNat) he (by simpa using hv)
 simp[execOp,hx,hy,Instr.index,asIntOf,aS ht,h0,h1,cF hq,hs,hp]
theorem aV{i:Nat}{vs:List Value}{v:Value}(hx:ev f x= .tuple vs.toArray)(hv:vs[i]? =some v):
   (execOp (ev f) ⟨dst,.extract x i,ty,pos,after,g⟩).run P w= .ok (.value v) w:=by
 simp[execOp,hx,Instr.extract,hv]
theorem bQ{parts:List (Nat×Operand)}{vs:List (Nat×Value)}{v:Value}(hp:(parts.map λx=>(x.1,ev f x.2))=vs)(h:(Instr.build t vs.toArray).run P w= .ok v w):
    (execOp (ev f) ⟨dst,.build t parts.toArray,ty,pos,after,g⟩).run P w= .ok (.value v) w:=by
  have hp':(parts.toArray.map λ(i,x)=>(i,ev f x))=vs.toArray:=by rw[<-hp];simp
  simp only[execOp,hp',Sem.run_bind,h,Result.andThen_ok,Sem.run_pure]
end
section
variable{P:Program}{f:Fr}{w:World}{dst:Option Tmp}{ty:TypeId}{pos:String}{after:Array Edge}{g:Option (Nat×Bool)}{t:TypeId}{x y:Operand}
variable{N:Value->World->Prop}
theorem bJ{o:Oper}{v:Value}{w':World}(h:(execOp (ev f) o).run P w= .ok (.value v) w')(hk:N v w'):gF P o f w N:=by unfold gF;rw[h];exact hk
theorem i4{o:Oper}{w':World}(h:(execOp (ev f) o).run P w= .ok .skip w')(hk:N undef w'):gF P o f w N:=by unfold gF;rw[h];exact hk
theorem aK{op:Op}{v:Value}{w':World}{fid:Nat}{args:Array Value}{S:World->Prop}(h:(execOp (ev f) ⟨dst,op,ty,pos,after,g⟩).run P w= .ok (.enter fid args) w')(hc:Calls P fid args w' λe w''=>e= .returned v/\S w'')
    (hk:∀w'',S w''->N v w''):gF P ⟨dst,op,ty,pos,after,g⟩ f w N:=by
  unfold gF;rw[h]
  refine hc.mono λe w'' he=>?_
  obtain⟨rfl,hs⟩:=he
  exact hk w'' hs
theorem c3{op:Op}{w':World}{σ:Type}{fid:Nat}{args:Array Value}{V:σ->Value}{S:σ->World->Prop}(h:(execOp (ev f) ⟨dst,op,ty,pos,after,g⟩).run P w= .ok (.enter fid args) w')(hc:Calls P fid args w' λe w''=>∃x,e= .returned (V x)/\S x w'')
   (hk:∀x w'',S x w''->N (V x) w''):gF P ⟨dst,op,ty,pos,after,g⟩ f w N:=by
 unfold gF;rw[h]
 refine hc.mono λe w'' he=>?_
 obtain⟨x,rfl,hs⟩:=he
 exact hk x w'' hs
theorem aY(γ:aH)(J:cd->Prop)(c:cd)(hJ:J c){agg:Bool}{size bytes:Nat}{z:Value}(ht:Tp P t agg size bytes z)
    (hk:∀γ' w' b,b5 no γ w γ' w'->Bx γ' J w' b z.cells.toList->N (.pointer (some ⟨b,0,none⟩)) w'):gF P ⟨dst,.alloc t,ty,pos,after,g⟩ f w N:=by
  obtain⟨i,hi,_,_,hz⟩:=ht.info
  refine bJ (v:=.pointer (some ⟨w.heap.size,0,none⟩)) (w':=w.alloc (.cells z.cells t)) ?_ (hk (iI γ w.heap.size c) _ _ (gz γ w _ c) (oE γ w _ _ c hJ))
  simp[execOp,Instr.alloc,fg hi hz,newVar,newRow]
theorem bj(γ:aH)(J:cd->Prop)(c:cd)(hJ:J c){v:Value}(hx:ev f x=v)
   (hk:∀γ' w' b,b5 no γ w γ' w'->Bx γ' J w' b v.cells.toList->N (.pointer (some ⟨b,0,none⟩)) w'):gF P ⟨dst,.box t x,ty,pos,after,g⟩ f w N:=by
 refine bJ (v:=.pointer (some ⟨w.heap.size,0,none⟩)) (w':=w.alloc (.cells v.cells t)) ?_ (hk (iI γ w.heap.size c) _ _ (gz γ w _ c) (oE γ w _ _ c hJ))
 simp[execOp,hx,Instr.box,newVar,newRow]
theorem kK{agg:Bool}{size bytes:Nat}{z v:Value}(ht:Tp P t agg size bytes z){b o:Nat}{cur:Array Value}{e:TypeId}(hb:w.heap[b]? =some (.cells cur e (0,0)))(hs:v.cells.size=size)(hl:o+size<=cur.size)(h1:∀u∈v.cells.toList,u.oneCell'=true):
   (storeVar t ⟨b,o,none⟩ v).run P w= .ok () (w.setRow b (cur.toList.take o++v.cells.toList++cur.toList.drop (o+size)).toArray):=by
 obtain⟨i,hi,hsz,_⟩:=ht.info
 have hst:=run_storeCells_at P b o e v.cells.toList 0 cur w hb (by simpa[hs] using hl) h1
 simp only[Nat.add_zero,Array.length_toList,hs] at hst
 simp[storeVar,cF hi,hsz,hs,hst]
theorem iu{agg:Bool}{size bytes:Nat}{z v:Value}(ht:Tp P t agg size bytes z){b o:Nat}{cur:Array Value}{e:TypeId}(hx:ev f x= .pointer (some ⟨b,o,none⟩))(hy:ev f y=v)(hb:w.heap[b]? =some (.cells cur e (0,0)))(hs:v.cells.size=size)(hl:o+size<=cur.size)(h1:∀u∈v.cells.toList,u.oneCell'=true):
   (execOp (ev f) ⟨dst,.store t x y,ty,pos,after,g⟩).run P w= .ok .skip (w.setRow b (cur.toList.take o++v.cells.toList++cur.toList.drop (o+size)).toArray):=by
 simp[execOp,hx,hy,Instr.storeAt,Instr.sureAddr,kK ht hb hs hl h1]
theorem ov(w:World)(b:Nat)(c:Array Value):(w.setRow b c).heap.size=w.heap.size:=by simp[World.setRow]
theorem j6(γ:aH)(w:World)(b:Nat)(c:Array Value){J:cd->Prop}(hJ:J (γ b)):b5 J γ w γ (w.setRow b c):=
 ⟨rfl,rfl,rfl,by rw[ov];exact Nat.le_refl _,λ_ _ _=>rfl,λk _ hk=>setRow_other w b k c (λh=>hk (by subst h;exact hJ)),Nat.le_refl _⟩
theorem lp(l vs:List Value)(o k:Nat)(h:o+vs.length<=l.length):(l.take o++vs++l.drop (o+vs.length))[k]? =if o<=k/\k<o+vs.length then vs[k-o]? else l[k]? :=by
 have hm:(l.take o).length=o:=by rw[List.length_take];omega
 by_cases h1:k<o
 · have h3:¬(o<=k/\k<o+vs.length):=by omega
   rw[if_neg h3,List.append_assoc,List.getElem?_append_left (by omega),List.getElem?_take,if_pos h1]
 · by_cases h2:k<o+vs.length
   · have h3:o<=k/\k<o+vs.length:=by omega
     rw[if_pos h3,List.getElem?_append_left (by simp;omega),List.getElem?_append_right (by omega),hm]
   · have h3:¬(o<=k/\k<o+vs.length):=by omega
     rw[if_neg h3,List.getElem?_append_right (by simp;omega),List.getElem?_drop]
     congr 1
     rw[List.length_append,hm]
     omega
theorem aw{γ:aH}{J:cd->Prop}{agg:Bool}{size bytes b o:Nat}{z v:Value}{cs cs':List Value}(ht:Tp P t agg size bytes z)(hx:ev f x= .pointer (some ⟨b,o,none⟩))(hy:ev f y=v)(hb:Bx γ J w b cs)
    (hs:v.cells.size=size)(hl:o+size<=cs.length)(h1:v.cells.toList.all (·.oneCell')=true)(hcs:cs.take o++v.cells.toList++cs.drop (o+size)=cs')
    (hk:∀w',b5 J γ w γ w'->Bx γ J w' b cs'->N undef w'):gF P ⟨dst,.store t x y,ty,pos,after,g⟩ f w N:=by
  obtain⟨hJ,e,hbl⟩:=hb
  refine i4 (iu ht hx hy hbl hs (by simpa using hl) (λu hu=>List.all_eq_true.1 h1 u hu)) (hk _ (j6 γ w b _ hJ) ⟨hJ,e,?_⟩)
  rw[setRow_heap w b _ _ e _ hbl]
  simp[hcs]
theorem sU{α:Type}[Rp α][Fl α]{γ:aH}{J S:cd->Prop}{v u:Value}{xs:List α}{i:Nat}{y:α}(hv:Ow γ J S w v xs)(hi:i<xs.length)(hu:u.cells.toList=Fl.cells y):
    ∃b o cur e,bu v (Rp.sz α) i=⟨b,o,none⟩/\w.heap[b]? =some (.cells cur e (0,0))/\o+Rp.sz α<=cur.size/\b5 J γ w γ (w.setRow b (cur.toList.take o++u.cells.toList++cur.toList.drop (o+Rp.sz α)).toArray)/\
      Ow γ J S (w.setRow b (cur.toList.take o++u.cells.toList++cur.toList.drop (o+Rp.sz α)).toArray) v (xs.set i y):=by
  have hlen:∀y:α,(Fl.cells y).length=Rp.sz α:=λy=>Rp.len (γ:=γ) (S:=S) (w:=w) (Fl.rep_iff.2 rfl)
  rcases hv with⟨rfl,rfl⟩|⟨b,cap,c,e,rfl,hc,hm,hJ,hb,hsz,hx⟩
  · simp at hi
  · have hle:i*Rp.sz α+Rp.sz α<=c.size:=by
      rw[hsz,<-Nat.succ_mul]
      exact Nat.mul_le_mul_right _ (by omega)
    have hul:u.cells.toList.length=Rp.sz α:=by rw[hu,hlen]
    refine⟨b,i*Rp.sz α,c,e,by simp[bu],hb,hle,j6 γ w b _ hJ,.inr ⟨b,cap,_,e,by simp,by simpa using hc,hm,hJ,setRow_heap w b _ _ e _ hb,?_,λk x hk=>?_⟩⟩
    · simp only[List.size_toArray,List.length_append,List.length_take,List.length_drop,Array.length_toList,hul]
      omega
    · have hks:∀j,j<Rp.sz α->(c.toList.take (i*Rp.sz α)++u.cells.toList++c.toList.drop (i*Rp.sz α+Rp.sz α)).toArray[k*Rp.sz α+j]? =if k=i then(Fl.cells y)[j]? else c[k*Rp.sz α+j]? :=by
        intro j hj
        have h0:=lp c.toList u.cells.toList (i*Rp.sz α) (k*Rp.sz α+j) (by rw[hul];simpa using hle)
        rw[hul] at h0
        rw[List.getElem?_toArray,h0]
        by_cases hki:k=i
        · subst hki
          have:k*Rp.sz α<=k*Rp.sz α+j/\k*Rp.sz α+j<k*Rp.sz α+Rp.sz α:=by omega
          rw[if_pos this,if_pos rfl,hu]
          congr 1;omega
        · have:¬(i*Rp.sz α<=k*Rp.sz α+j/\k*Rp.sz α+j<i*Rp.sz α+Rp.sz α):=by
            rintro⟨h1,h2⟩
            rcases Nat.lt_or_gt_of_ne hki with h|h
            · have h3:(k+1)*Rp.sz α<=i*Rp.sz α:=Nat.mul_le_mul_right _ h
              rw[Nat.succ_mul] at h3;omega
            · have h3:(i+1)*Rp.sz α<=k*Rp.sz α:=Nat.mul_le_mul_right _ h
              rw[Nat.succ_mul] at h3;omega
          rw[if_neg this,if_neg hki];simp
      by_cases hki:k=i
      · subst hki
        have hxy:x=y:=by
          rw[List.getElem?_set] at hk
          simp[hi] at hk
          exact hk.symm
        subst hxy
        exact⟨Fl.cells x,λj hj=>by rw[hks j hj,if_pos rfl],Fl.rep_iff.2 rfl⟩
      · rw[List.getElem?_set_ne (Ne.symm hki)] at hk
        obtain⟨cs,hcs,hr⟩:=hx k x hk
        exact⟨cs,λj hj=>by rw[hks j hj,if_neg hki];exact hcs j hj,Fl.rep_iff.2 (Fl.rep_iff.1 hr)⟩
theorem dq{α:Type}[Rp α][Fl α]{γ:aH}{J S:cd->Prop}{agg:Bool}{bytes:Nat}{z v u:Value}{xs:List α}{i:Int}(yv:α)(ht:Tp P t agg (Rp.sz α) bytes z)(hx:ev f x= .pointer (some (bu v (Rp.sz α) i.toNat)))(hy:ev f y=u)(hv:Ow γ J S w v xs)(h0:0<=i)(h1:i<xs.length)
   (hu:u.cells.toList=Fl.cells yv)
   (hk:∀w',b5 J γ w γ w'->Ow γ J S w' v (xs.set i.toNat yv)->N undef w'):gF P ⟨dst,.store t x y,ty,pos,after,g⟩ f w N:=by
 have hlen:(Fl.cells yv).length=Rp.sz α:=Rp.len (γ:=γ) (S:=S) (w:=w) (Fl.rep_iff.2 rfl)
 obtain⟨b,o,cur,e,ha,hb,hle,hc,hov⟩:=sU (u:=u) (y:=yv) hv (i:=i.toNat) (by omega) hu
 rw[ha] at hx
 have hul:u.cells.size=Rp.sz α:=by rw[<-hlen,<-hu];simp
 exact i4 (iu ht hx hy hb hul hle (λq hq=>Rp.one (γ:=γ) (S:=S) (w:=w) (x:=yv) (Fl.rep_iff.2 rfl) q (by rw[<-hu];exact hq))) (hk _ hc hov)
theorem aA{fid:Nat}{fn:Func}{args:List Operand}{at_:Array TypeId}{vals:List Value}(hf:P.funcs[fid]? =some fn)(hb:fn.body.isNone=false)(hn:(fn.name== "runtime.NumGoroutine")=false)(ha:args.map (ev f)=vals):
   (execOp (ev f) ⟨dst,.call {callee:=.value (.func fid),args:=args.toArray,argTypes:=at_},ty,pos,after,g⟩).run P w= .ok (.enter fid vals.toArray) w:=by
 have ha:args.toArray.map (ev f)=vals.toArray:=by rw[<-ha];simp
 simp only[execOp,resolve,ev,Deferred.ofValue,invoke,callFunc,ha,Sem.run_bind,Sem.run_pure,Result.andThen_ok,run_program,hf,hn,hb,Bool.false_eq_true,if_false,Array.append_empty,Array.empty_append]
theorem iT{α:Type}[Rp α][Fl α](γ:aH)(J S:cd->Prop)(c:cd)(hJ:J c){e bytes:Nat}{agg:Bool}{z:Value}(zv:α){kl kc:IntKind}{l cp:Int}(ht:P.underlying t=some (.slice e))(he:Tp P e agg (Rp.sz α) bytes z)(hz:z.cells.toList=Fl.cells zv)
   (hx:ev f x= .int kl l)(hy:ev f y= .int kc cp)(h0:0<=l)(hlc:l<=cp)(hc:cp*bytes<=281474976710656)(hc2:cp<=1099511627776)
   (hk:∀γ' w' v,b5 no γ w γ' w'->Ow γ' J S w' v (List.replicate l.toNat zv)->oV v=cp.toNat->N v w'):gF P ⟨dst,.makeSlice t x y,ty,pos,after,g⟩ f w N:=by
 have hlen:∀y:α,(Fl.cells y).length=Rp.sz α:=λy=>Rp.len (γ:=γ) (S:=S) (w:=w) (Fl.rep_iff.2 rfl)
 obtain⟨i,hi,hs,hb,hz'⟩:=he.info
 have hr:=run_make (P:=P) w t e i z ht hi hz' kl kc l cp h0 hlc (by rw[hb,Int.mul_comm];exact hc) (by omega)
 refine bJ (v:=.slice (some ⟨w.heap.size,0,none⟩) l.toNat cp.toNat) (w':=w.alloc (.cells (madeCells z.cells (cp.toNat*i.size)) e)) ?_ (hk (iI γ w.heap.size c) _ _ (gz γ w _ c) (.inr ⟨w.heap.size,cp.toNat,_,e,by simp,by simp;omega,?_,by simpa[iI] using hJ,dC w _,by simp[madeCells,hs],λk x hkx=>?_⟩) rfl)
 · simp[execOp,hx,hy,hr]
 · unfold maxLen;omega
 · have hkl:k<l.toNat:=by
     have:=(List.getElem?_eq_some_iff.1 hkx).1
     simpa using this
   have hxz:x=zv:=by
     rw[List.getElem?_replicate] at hkx
     simp[hkl] at hkx
     exact hkx.symm
   subst hxz
   refine⟨Fl.cells x,λj hj=>?_,Fl.rep_iff.2 rfl⟩
   have hzs:z.cells.size=Rp.sz α:=by rw[<-hlen x,<-hz];simp
   have hlt:k*Rp.sz α+j<cp.toNat*i.size:=by
     rw[hs]
     have h1:(k+1)*Rp.sz α<=cp.toNat*Rp.sz α:=Nat.mul_le_mul_right _ (by omega)
     rw[Nat.succ_mul] at h1;omega
   have hmod:(k*Rp.sz α+j)%Rp.sz α=j:=by rw[Nat.mul_comm,Nat.mul_add_mod];exact Nat.mod_eq_of_lt hj
   simp only[madeCells]
   rw[Array.getElem?_map,Array.getElem?_range,if_pos hlt]
   simp only[Option.map_some,hzs,hmod]
   rw[<-hz]
   have hjz:j<z.cells.size:=by omega
   simp[hjz]
def flat{α:Type}[Rp α][Fl α](xs:List α):List Value:=xs.flatMap Fl.cells
theorem e7{α:Type}[Rp α][Fl α](xs:List α):(flat xs).length=xs.length*Rp.sz α:=by
 induction xs with
 |nil=>simp[flat]
 |cons x xs ih=>
   have h:(Fl.cells x).length=Rp.sz α:=Rp.len (γ:=c0) (S:=any) (w:=default) (Fl.rep_iff.2 rfl)
   simp only[flat,List.flatMap_cons,List.length_append,List.length_cons,h] at ih ⊢
   rw[ih,Nat.succ_mul];omega
theorem i0{α:Type}[Rp α][Fl α]:∀(xs:List α) (i j:Nat) (x:α),xs[i]? =some x->j<Rp.sz α->(flat xs)[i*Rp.sz α+j]? =(Fl.cells x)[j]?
 |[],i,j,x,h,_=>by simp at h
 |y::ys,i,j,x,h,hj=>by
   have hl:(Fl.cells y).length=Rp.sz α:=Rp.len (γ:=c0) (S:=any) (w:=default) (Fl.rep_iff.2 rfl)
   cases i with
   |zero=>
     obtain rfl:y=x:=by simpa using h
     simp only[flat,List.flatMap_cons,Nat.zero_mul,Nat.zero_add]
     rw[List.getElem?_append_left (by omega)]
   |succ i=>
     have h':ys[i]? =some x:=by simpa using h
     have ih:=i0 ys i j x h' hj
     simp only[flat,List.flatMap_cons] at ih ⊢
     rw[List.getElem?_append_right (by rw[hl,Nat.succ_mul];omega),hl]
     rw[<-ih]
     congr 1
     rw[Nat.succ_mul];omega
theorem kE{α:Type}[Rp α][Fl α](xs ys:List α):flat (xs++ys)=flat xs++flat ys:=by simp[flat]
inductive Els {α:Type} [Rp α] [Fl α]:Nat->List (Nat×Value)->List α->Prop
  |nil {k:Nat}:Els k [] []
  |cons {k:Nat} {v:Value} {x:α} {vs:List (Nat×Value)} {xs:List α} (h:v.cells.toList=Fl.cells x) (t:Els (k+1) vs xs):Els k ((k,v)::vs) (x::xs)
theorem jg(pre post:List Value):∀(cs mid done:List Value),mid.length=cs.length->
   (cs.zipIdx done.length).foldl (λ(a:Array Value) (x:Value×Nat)=>a.setIfInBounds (pre.length+x.2) x.1) (pre++done++mid++post).toArray=(pre++done++cs++post).toArray
 |[],mid,done,h=>by
   have:mid=[]:=List.eq_nil_of_length_eq_zero (by simpa using h)
   subst this;simp
 |c::cs,[],done,h=>by simp at h
 |c::cs,m::mid,done,h=>by
   simp only[List.zipIdx_cons,List.foldl_cons]
   have e1:(pre++done++(m::mid)++post).toArray.setIfInBounds (pre.length+done.length) c=(pre++(done++[c])++mid++post).toArray:=by
     rw[List.setIfInBounds_toArray]
     congr 1
     have:pre.length+done.length=(pre++done).length:=by simp
     rw[this]
     simp
   rw[e1]
   have ih:=jg pre post cs mid (done++[c]) (by simpa using h)
   simp only[List.length_append,List.length_cons,List.length_nil,Nat.zero_add] at ih
   rw[ih]
   simp
theorem pf{α:Type}[Rp α][Fl α]:∀(vs:List (Nat×Value)) (xs:List α) (k:Nat) (pre rest:List Value),Els k vs xs->pre.length=k*Rp.sz α->rest.length=xs.length*Rp.sz α->
   Instr.fill (λi=>some (i*Rp.sz α,Rp.sz α)) (pre++rest).toArray vs=some (pre++flat xs).toArray
 |[],_,k,pre,rest,.nil,hp,hr=>by
   have:rest=[]:=List.eq_nil_of_length_eq_zero (by simpa using hr)
   subst this;simp[Instr.fill,flat]
 |(_,v)::vs,x::xs,k,pre,rest,.cons h t,hp,hr=>by
   have hl:(Fl.cells x).length=Rp.sz α:=Rp.len (γ:=c0) (S:=any) (w:=default) (Fl.rep_iff.2 rfl)
   have hv:v.cells.size=Rp.sz α:=by rw[<-hl,<-h];simp
   have hr':rest.length=xs.length*Rp.sz α+Rp.sz α:=by rw[hr,List.length_cons,Nat.succ_mul]
   have hsplit:rest=rest.take (Rp.sz α)++rest.drop (Rp.sz α):=(List.take_append_drop _ _).symm
   have hfold:(v.cells.zipIdx.foldl (λcs (c,j)=>cs.setIfInBounds (k*Rp.sz α+j) c) (pre++rest).toArray)=((pre++Fl.cells x)++rest.drop (Rp.sz α)).toArray:=by
     have h0:=jg pre (rest.drop (Rp.sz α)) v.cells.toList (rest.take (Rp.sz α)) [] (by simp[hv];omega)
     simp only[List.append_nil,List.length_nil,hp] at h0
     rw[List.append_assoc pre,<-hsplit,h] at h0
     rw[<-Array.foldl_toList,Array.toList_zipIdx,h]
     exact h0
   have hc:¬(v.cells.size≠Rp.sz α\/(pre++rest).toArray.size<k*Rp.sz α+v.cells.size):=by
     rw[hv];simp[hp,hr']
   simp only[Instr.fill]
   have hc':(decide (v.cells.size≠Rp.sz α)||decide (k*Rp.sz α+v.cells.size>(pre++rest).toArray.size))=false:=by
     rw[hv];simp[hp,hr']
   rw[if_neg (by simpa using hc')]
   rw[hfold]
   have ih:=pf vs xs (k+1) (pre++Fl.cells x) (rest.drop (Rp.sz α)) t (by rw[List.length_append,hp,hl,Nat.succ_mul]) (by rw[List.length_drop,hr'];omega)
   rw[ih]
   simp[flat]
theorem aF{α:Type}[Rp α][Fl α](γ:aH)(J S:cd->Prop)(c:cd)(hJ:J c){e bytes len:Nat}{agg:Bool}{z:Value}{parts:List (Nat×Operand)}{vs:List (Nat×Value)}(xs:List α)(ht:P.underlying t=some (.slice e))(he:Tp P e agg (Rp.sz α) bytes z)
    (hn:len*Rp.sz α≠0)(hn2:len*Rp.sz α<=16777216)(hp:(parts.map λx=>(x.1,ev f x.2))=vs)(hlen:xs.length=len)
    (hels:Els 0 vs xs)
    (hk:∀γ' w' v,b5 no γ w γ' w'->Ow γ' J S w' v xs->N v w'):gF P ⟨dst,.buildSlice t len parts.toArray,ty,pos,after,g⟩ f w N:=by
  have hp':(parts.toArray.map λ(i,x)=>(i,ev f x))=vs.toArray:=by rw[<-hp];simp
  have hfill:Instr.fill (λi=>some (i*Rp.sz α,Rp.sz α)) ((Array.range (len*Rp.sz α)).map (z.cells[· %z.cells.size]!)) vs=some (flat xs).toArray:=by
    have h0:=pf vs xs 0 [] (((Array.range (len*Rp.sz α)).map (z.cells[· %z.cells.size]!)).toList) hels (by simp) (by simp[hlen])
    simpa only[List.nil_append,Array.toArray_toList] using h0
  obtain⟨i,hi,hs,hb,hz'⟩:=he.info
  refine bJ (v:=.slice (some ⟨w.heap.size,0,none⟩) len len) (w':=w.alloc (.cells (flat xs).toArray e)) ?_ (hk (iI γ w.heap.size c) _ _ (gz γ w _ c) (.inr ⟨w.heap.size,len,_,e,by rw[hlen],by
    have hz0:0<Rp.sz α:=Nat.pos_of_ne_zero λh=>hn (by simp[h])
    have h3:len<=len*Rp.sz α:=Nat.le_mul_of_pos_right _ hz0
    omega,?_,by simpa[iI] using hJ,dC w _,by simp[e7,hlen],λk x hkx=>?_⟩))
  · have h1:¬(2^24<len*Rp.sz α):=by omega
    simp only[execOp,hp',Sem.run_bind,Instr.buildSlice,aS ht,Result.andThen_ok,cF hi,hs]
    simp only[gt_iff_lt,h1,if_false,hn,fg hi hz',Sem.run_bind,Sem.run_pure,Result.andThen_ok,hfill]
    simp[newRow]
  · have hz0:0<Rp.sz α:=Nat.pos_of_ne_zero λh=>hn (by simp[h])
    have h3:len<=len*Rp.sz α:=Nat.le_mul_of_pos_right _ hz0
    unfold maxLen;omega
  · exact⟨Fl.cells x,λj hj=>by rw[List.getElem?_toArray];exact i0 xs k j x hkx hj,Fl.rep_iff.2 rfl⟩
theorem o8{α:Type}[Rp α][Fl α]{γ:aH}{S:cd->Prop}{b off cap:Nat}{xs:List α}(h:Sl γ S w (.slice (some ⟨b,off,none⟩) xs.length cap) xs):∀j u,(flat xs)[j]? =some u->w.cell? ((⟨b,off,none⟩:Addr).add j)=some u:=by
 intro j u hj
 have hlt:j<xs.length*Rp.sz α:=by rw[<-e7];exact(List.getElem?_eq_some_iff.1 hj).1
 have hz0:0<Rp.sz α:=Nat.pos_of_ne_zero λh=>by rw[h] at hlt;simp at hlt
 have hi:j/Rp.sz α<xs.length:=Nat.div_lt_of_lt_mul (by rw[Nat.mul_comm];exact hlt)
 have hx:xs[j/Rp.sz α]? =some xs[j/Rp.sz α]:=List.getElem?_eq_getElem hi
 have hm:j%Rp.sz α<Rp.sz α:=Nat.mod_lt _ hz0
 have hg:=i0 xs (j/Rp.sz α) (j%Rp.sz α) _ hx hm
 have hd:j/Rp.sz α*Rp.sz α+j%Rp.sz α=j:=by rw[Nat.mul_comm];exact Nat.div_add_mod j _
 rw[hd,hj] at hg
 obtain⟨cs,hcs,hr⟩:=h.elem hx
 rw[Fl.rep_iff.1 hr] at hcs
 have h2:=hcs _ hm
 rw[<-hg] at h2
 rw[<-h2,i7]
 simp only[bu,i7]
 rw[Nat.add_assoc,hd]
theorem tJ{α:Type}[Rp α][Fl α](xs:List α):∀u∈flat xs,u.oneCell'=true:=by
 intro u hu
 obtain⟨x,hx,hu⟩:=List.mem_flatMap.1 hu
 exact Rp.one (γ:=c0) (S:=any) (w:=default) (x:=x) (Fl.rep_iff.2 rfl) u hu
theorem k9(t ty e e':TypeId)(i:TypeInfo)(ht:P.underlying t=some (.slice e))(hi:P.info? e=some i)
   (g sLen oV:Nat)(cur:Array Value)(hg:w.heap[g]? =some (.cells cur e' (0,0)))
   (a:Addr)(m c:Nat)(news:List Value)(hl:news.length=m*i.size)(hnews:∀j u,news[j]? =some u->w.cell? (a.add j)=some u)(h1:∀u∈news,u.oneCell'=true)
   (hroom:sLen+m<=oV)(hfit:sLen*i.size+news.length<=cur.size):
   (Builtin.append_ #[t,t] ty #[.slice (some ⟨g,0,none⟩) sLen oV,.slice (some a) m c]).run P w=
     .ok (.slice (some ⟨g,0,none⟩) (sLen+m) oV) (w.setRow g (cur.toList.take (sLen*i.size)++news++cur.toList.drop (sLen*i.size+news.length)).toArray):=by
 have hf:=run_firstCells_some (P:=P) w i.size m a m c news hl hnews
 have hst:=run_storeCells_at P g (sLen*i.size) e' news 0 cur w hg (by simpa using hfit) h1
 simp only[Nat.add_zero] at hst
 simp[Builtin.append_,run_underlying ht,Go.sizeOf,typeInfo,hi,Builtin.lenOf,hroom,hf,Addr.add_lit,hst]
theorem pH{α:Type}[Rp α][Fl α](γ:aH){J S S':cd->Prop}(c:cd)(hJ:J c){e bytes:Nat}{agg:Bool}{z v u:Value}{xs ys:List α}(ht:P.underlying t=some (.slice e))(he:Tp P e agg (Rp.sz α) bytes z)(hz0:0<Rp.sz α)(hzc:z.cells.size=Rp.sz α)
   (hv:Ow γ J S w v xs)(hu:Sl γ S' w u ys)(hby:bytes<=128)(hlen2:xs.length+ys.length<=1099511627776):
   ∃γ' w' v',(Builtin.append_ #[t,t] ty #[v,u]).run P w= .ok v' w'/\b5 J γ w γ' w'/\Ow γ' J S w' v' (xs++ys):=by
 obtain⟨i,hi,hs,hb,hz'⟩:=he.info
 have hlen:(xs.length+ys.length)*bytes<=140737488355328:=by
   have:=Nat.mul_le_mul hlen2 hby
   omega
 rcases hu with⟨⟨a2,rfl⟩,rfl⟩|⟨b2,off2,cap2,rfl,hc2,hx2⟩
 · refine⟨γ,w,v,?_,b5.refl _ _ _,by simpa using hv⟩
   have hv':=hv
   rcases hv with⟨rfl,rfl⟩|⟨b,cap,cc,e',rfl,hc,hm,hJb,hbl,hcs,hx⟩
   · cases a2<;>simp[Builtin.append_,aS ht,cF hi,Builtin.lenOf,Builtin.firstCells,storeCells,loadCells,loadCellsFrom]
   · cases a2<;>simp[Builtin.append_,aS ht,cF hi,Builtin.lenOf,Builtin.firstCells,storeCells,loadCells,loadCellsFrom,hc]
 · have hsl:Sl γ S' w (.slice (some ⟨b2,off2,none⟩) ys.length cap2) ys:=.inr ⟨b2,off2,cap2,rfl,hc2,hx2⟩
   have hnews:=o8 hsl
   have grown:∀(old:Nat),Ow (iI γ w.heap.size c) J S (w.drew.alloc (.cells ((flat xs).toArray++(flat ys).toArray++Builtin.zeroCells z.cells (grownCap w (xs.length+ys.length) old e-(xs.length+ys.length))) e))
       (.slice (some ⟨w.heap.size,0,none⟩) (xs.length+ys.length) (grownCap w (xs.length+ys.length) old e)) (xs++ys):=by
     intro old
     have hge:=grownCap_ge w (xs.length+ys.length) old e
     have hle:=grownCap_le_maxLen w (xs.length+ys.length) old e (by unfold maxLen;omega)
     refine .inr ⟨w.heap.size,_,_,e,by rw[List.length_append],by rw[List.length_append];exact⟨hge,hlen2⟩,hle,by simpa[iI] using hJ,dC w.drew _,?_,λk x hk=>⟨Fl.cells x,λj hj=>?_,Fl.rep_iff.2 rfl⟩⟩
     · simp only[Array.size_append,List.size_toArray,e7,size_zeroCells,hzc]
       rw[<-Nat.add_mul,<-Nat.add_mul]
       congr 1
       omega
     · have hf:=i0 (xs++ys) k j x hk hj
       rw[<-hf,kE]
       have hlt:k*Rp.sz α+j<(flat xs++flat ys).length:=by
         rw[<-kE,e7]
         have h1:k<(xs++ys).length:=(List.getElem?_eq_some_iff.1 hk).1
         have h2:(k+1)*Rp.sz α<=(xs++ys).length*Rp.sz α:=Nat.mul_le_mul_right _ h1
         rw[Nat.succ_mul] at h2;omega
       rw[Array.getElem?_append_left (by simpa using hlt)]
       simp
   have hchg:∀(old:Nat),b5 J γ w (iI γ w.heap.size c) (w.drew.alloc (.cells ((flat xs).toArray++(flat ys).toArray++Builtin.zeroCells z.cells (grownCap w (xs.length+ys.length) old e-(xs.length+ys.length))) e)):=λold=>
     ⟨rfl,rfl,rfl,by simp,λk hk _=>by simp[iI,Nat.ne_of_lt hk],λk hk _=>RowKit.Below.heap_alloc w.drew _ k hk,Nat.le_succ _⟩
   rcases hv with⟨rfl,rfl⟩|⟨b,cap,cc,e',rfl,hc,hm,hJb,hbl,hcs,hx⟩
   · by_cases h0:ys.length=0
     · have hy:ys=[]:=List.eq_nil_of_length_eq_zero h0
       subst hy
       refine⟨γ,w,.slice none 0 0,?_,b5.refl _ _ _,Ow.nil⟩
       simp[Builtin.append_,aS ht,cF hi,Builtin.lenOf,Builtin.firstCells,loadCells,loadCellsFrom]
     · have hr:=run_append_nil (P:=P) w t ty e i z ht hi hz' ⟨b2,off2,none⟩ ys.length cap2 (flat ys) (by rw[e7,hs]) hnews (by omega) (by simp at hlen2;omega) (by rw[hb];simp at hlen;omega)
       have hg:=grown 0
       have hch:=hchg 0
       simp only[List.length_nil,Nat.zero_add,List.nil_append,show flat ([]:List α)=[] from rfl,Array.empty_append] at hg hch ⊢
       exact⟨_,_,_,hr,hch,hg⟩
   · by_cases hroom:xs.length+ys.length<=cap
     · have hfit:xs.length*i.size+(flat ys).length<=cc.size:=by
         rw[e7,hs,hcs,<-Nat.add_mul];exact Nat.mul_le_mul_right _ hroom
       have hr:=k9 (P:=P) (w:=w) t ty e e' i ht hi b xs.length cap cc hbl ⟨b2,off2,none⟩ ys.length cap2 (flat ys) (by rw[e7,hs]) hnews (tJ ys) hroom hfit
       have hr':(Builtin.append_ #[t,t] ty #[.slice (some ⟨b,0,none⟩) xs.length cap,.slice (some ⟨b2,off2,none⟩) ys.length cap2]).run P w=_:=hr
       refine⟨γ,_,_,hr',j6 γ w b _ hJb,.inr ⟨b,cap,_,e',by rw[List.length_append],by rw[List.length_append];exact⟨hroom,hlen2⟩,hm,hJb,setRow_heap w b _ _ e' _ hbl,?_,λk x hk=>⟨Fl.cells x,λj hj=>?_,Fl.rep_iff.2 rfl⟩⟩⟩
       · simp only[List.size_toArray,List.length_append,List.length_take,List.length_drop,Array.length_toList]
         rw[<-hcs]
         omega
       · rw[List.getElem?_toArray,hs]
         have hfit':=hfit
         rw[hs] at hfit'
         have h0:=lp cc.toList (flat ys) (xs.length*Rp.sz α) (k*Rp.sz α+j) (by simpa using hfit')
         rw[h0,e7]
         have hkl:k<xs.length+ys.length:=by have:=(List.getElem?_eq_some_iff.1 hk).1;simpa using this
         by_cases hkx:k<xs.length
         · have h3:(k+1)*Rp.sz α<=xs.length*Rp.sz α:=Nat.mul_le_mul_right _ hkx
           rw[Nat.succ_mul] at h3
           rw[if_neg (by omega)]
           rw[List.getElem?_append_left hkx] at hk
           obtain⟨cs,hcs',hrr⟩:=hx k x hk
           rw[<-Fl.rep_iff.1 hrr,<-hcs' j hj];simp
         · have h3:(k+1)*Rp.sz α<=(xs.length+ys.length)*Rp.sz α:=Nat.mul_le_mul_right _ hkl
           have h4:xs.length*Rp.sz α<=k*Rp.sz α:=Nat.mul_le_mul_right _ (by omega)
           rw[Nat.succ_mul,Nat.add_mul] at h3
           rw[if_pos (by omega)]
           rw[List.getElem?_append_right (by omega)] at hk
           rw[<-i0 ys (k-xs.length) j x hk hj]
           congr 1
           rw[Nat.sub_mul];omega
     · have holds:=o8 (xs:=xs) (γ:=γ) (S:=J) (cap:=cap) (b:=b) (off:=0) (w:=w) (Ow.flat (J:=J) (S:=S) (.inr ⟨b,cap,cc,e',rfl,hc,hm,hJb,hbl,hcs,hx⟩))
       have hr:=run_append_grow (P:=P) w t ty e i z ht hi hz' ⟨b,0,none⟩ xs.length cap (flat xs) (by rw[e7,hs]) holds ⟨b2,off2,none⟩ ys.length cap2 (flat ys) (by rw[e7,hs]) hnews (by omega) (by omega) (growslice_fits (by omega) (by rw[hb];exact hlen))
       exact⟨_,_,_,hr,hchg cap,grown cap⟩
theorem b9{α:Type}[Rp α][Fl α](γ:aH){J S S':cd->Prop}(c:cd)(hJ:J c){e bytes:Nat}{agg:Bool}{z v u:Value}{xs ys:List α}(ht:P.underlying t=some (.slice e))(he:Tp P e agg (Rp.sz α) bytes z)(hz0:0<Rp.sz α)(hzc:z.cells.size=Rp.sz α)
   (hx:ev f x=v)(hy:ev f y=u)(hv:Ow γ J S w v xs)(hu:Sl γ S' w u ys)(hby:bytes<=128)(hlen2:xs.length+ys.length<=1099511627776)
  
   (hk:∀γ' w' v',b5 J γ w γ' w'->Ow γ' J S w' v' (xs++ys)->N v' w'):gF P ⟨dst,.call {callee:=.builtin .append,args:= #[x,y],argTypes:= #[t,t]},ty,pos,after,g⟩ f w N:=by
 obtain⟨γ',w',v',hr,hc,ho⟩:=pH (ty:=ty) γ c hJ ht he hz0 hzc hv hu hby hlen2
 refine bJ ?_ (hk γ' w' v' hc ho)
 simp only[execOp,resolve,invoke,builtin,Sem.run_bind,Sem.run_pure,Result.andThen_ok,List.map_toArray,List.map_cons,List.map_nil,hx,hy,hr]
def jX(v:Value)(sz lo hi:Nat):Value:=
 match v with
 | .slice a _ c=>.slice (if c=lo then a else a.map (·.add (lo*sz))) (hi-lo) (c-lo)
 |v=>v
theorem uV{α:Type}[Rp α]{γ:aH}{S:cd->Prop}{v:Value}{xs:List α}{lo hi:Nat}(h:Sl γ S w v xs)(h1:lo<=hi)(h2:hi<=xs.length):Sl γ S w (jX v (Rp.sz α) lo hi) ((xs.take hi).drop lo):=by
 rcases h with⟨⟨_,rfl⟩,rfl⟩|⟨b,off,cap,rfl,hc,hx⟩
 · simp only[List.length_nil] at h2
   have:hi=0:=by omega
   have:lo=0:=by omega
   subst_vars
   exact .inl ⟨⟨_,by simp[jX];rfl⟩,by simp⟩
 · have hl:((xs.take hi).drop lo).length=hi-lo:=by simp;omega
   by_cases hcl:cap=lo
   · have:hi=lo:=by omega
     subst this
     refine .inr ⟨b,off,cap-hi,by simp[jX,hcl],by rw[hl];omega,λi x hi'=>?_⟩
     have:=(List.getElem?_eq_some_iff.1 hi').1
     omega
   · refine .inr ⟨b,off+lo*Rp.sz α,cap-lo,by simp[jX,hcl,i7];omega,by rw[hl];omega,λi x hi'=>?_⟩
     have hlt:=(List.getElem?_eq_some_iff.1 hi').1
     rw[List.getElem?_drop,List.getElem?_take] at hi'
     rw[if_pos (by omega)] at hi'
     obtain⟨h3,h4,cs,hcs,hr⟩:=hx (lo+i) x hi'
     refine⟨h3,h4,cs,λj hj=>?_,hr⟩
     rw[<-hcs j hj,Nat.add_mul]
     congr 2
     omega
theorem mY{w1:World}{α:Type}[Rp α]{γ:aH}{S:cd->Prop}{v:Value}{xs:List α}{e:Nat}{lo hi:Option Operand}{l h:Int}(ht:P.underlying t=some (.slice e))(hs:(P.info? e).map (·.size)=some (Rp.sz α))(hx:ev f x=v)(hv:Sl γ S w1 v xs)
   (hlo:lo.map (ev f)=some (.int .i64 l)\/lo=none/\l=0)(hhi:hi.map (ev f)=some (.int .i64 h)\/hi=none/\h=xs.length)(h0:0<=l)(h1:l<=h)(h2:h<=xs.length):
   (execOp (ev f) ⟨dst,.slice t x lo hi none,ty,pos,after,g⟩).run P w= .ok (.value (jX v (Rp.sz α) l.toNat h.toNat)) w:=by
 cases hq:P.info? e with
 |none=>simp[hq] at hs
 |some q=>
   simp only[hq,Option.map_some,Option.some.injEq] at hs
   have hf:=hv.form
   have hc:=hv.cap
   generalize xz v=a at hf
   generalize oV v=c at hf hc
   subst hf
   have hb:(Instr.sliceBounds true xs.length c (lo.map (ev f)) (hi.map (ev f)) none).run P w= .ok (l.toNat,h.toNat,c) w:=by
     have e1:h<=(c:Int):=by omega
     have e0:0<=h:=by omega
     have e2:l<=((h.toNat:Nat):Int):=by omega
     rcases hlo with hlo|⟨rfl,rfl⟩<;>rcases hhi with hhi|⟨rfl,rfl⟩<;>simp[Instr.sliceBounds,Instr.sliceBound,asIntOf, *]<;>omega
   have hsub:execOp (ev f) ⟨dst,.slice t x lo hi none,ty,pos,after,g⟩=(do pure (.value (<-Instr.sliceAt t (.slice a xs.length c) (lo.map (ev f)) (hi.map (ev f)) none))):=by
     simp[execOp,hx]
   rw[hsub]
   simp[Instr.sliceAt,Instr.slice,aS ht,hb,cF hq,hs,jX]
theorem sa(v:Value)(sz hi:Nat):jX v sz 0 hi=match v with| .slice a _ c=>.slice a hi c|v=>v:=by
 unfold jX
 cases v<;>simp
 rename_i a _ c
 intro _
 cases a with
 |none=>rfl
 |some a=>simp[Addr.add]
end
theorem eb{P:Program}{w:World}{t:TypeId}{γ:aH}{J:cd->Prop}{b i size bytes:Nat}{z:Value}{cs ds:List Value}(ht:Tp P t true size bytes z)(hb:Bx γ J w b cs)(hl:ds.length=size)(hv:(cs.drop i).take size=ds):(loadVar t ⟨b,i,none⟩).run P w= .ok (.agg ds.toArray) w:=
 jT ht hl λj hj=>by
   rw[i7,hb.cell,<-hv]
   simp[hj]
theorem cz{α:Type}[Rp α]{γ:aH}{S:cd->Prop}{w:World}{v:Value}{xs:List α}(h:Sl γ S w v xs):v.oneCell'=true:=by
 rcases h with⟨⟨_,rfl⟩,_⟩|⟨b,off,cap,rfl,_⟩<;>rfl
theorem bK{α:Type}[Rp α]{γ:aH}{S:cd->Prop}{w:World}{v:Value}{xs:List α}(h:Sl γ S w v xs):v.cells= #[v]:=by
 rcases h with⟨⟨_,rfl⟩,_⟩|⟨b,off,cap,rfl,_⟩<;>rfl
theorem bV{α β γ:Type}(f:α->β->γ){a a':α}{b b':β}(h1:a=a')(h2:b=b'):f a b=f a' b':=by subst h1 h2;rfl
theorem bC{α:Type}[Inhabited α]{xs:List α}{k:Nat}(h:(k:Int)<xs.length):xs.take (k+1)=xs.take k++[gI xs k]:=by
 have h':k<xs.length:=by omega
 rw[List.take_succ_eq_append_getElem h']
 simp[gI,h']
theorem aR{α:Type}[Inhabited α]{xs:List α}{i:Int}(h0:0<=i)(h1:i<xs.length):gI xs i∈xs:=by
 have h':i.toNat<xs.length:=by omega
 simp[gI,h']
end TL
namespace TL
open Go
section
variable{P:Program}{f:Fr}{w:World}{dst:Option Tmp}{ty:TypeId}{pos:String}{after:Array Edge}{g:Option (Nat×Bool)}{t t' e:TypeId}{x y:Operand}
end
end TL
namespace TL
open Go
section
variable{P:Program}{f:Fr}{w:World}{dst:Option Tmp}{ty:TypeId}{pos:String}{after:Array Edge}{g:Option (Nat×Bool)}{t:TypeId}{x y:Operand}
variable{N:Value->World->Prop}
theorem bL{γ:aH}{J:cd->Prop}{agg:Bool}{bytes b o:Nat}{z v:Value}{cs cs':List Value}(ht:Tp P t agg 1 bytes z)(hx:ev f x= .pointer (some ⟨b,o,none⟩))(hy:ev f y=v)(hb:Bx γ J w b cs)
   (hs:v.cells= #[v])(hl:o+1<=cs.length)(h1:v.oneCell'=true)(hcs:cs.set o v=cs')
   (hk:∀w',b5 J γ w γ w'->Bx γ J w' b cs'->N undef w'):gF P ⟨dst,.store t x y,ty,pos,after,g⟩ f w N:=
 aw ht hx hy hb (by rw[hs];rfl) hl (by rw[hs];simp[h1]) (by
   rw[hs,<-hcs,List.set_eq_take_append_cons_drop,if_pos (by omega)]
   simp) hk
end
end TL
namespace TL
open Go
inductive AllOne:List Value->Prop
 |nil:AllOne []
 |cons {v:Value} {cs:List Value} (h:v.oneCell'=true) (t:AllOne cs):AllOne (v::cs)
theorem AllOne.all{cs:List Value}(h:AllOne cs):cs.all (·.oneCell')=true:=by
 induction h with
 |nil=>rfl
 |cons h _ ih=>simp[h,ih]
end TL
/-
  TlMark: a slice with one element behind its end.
  By an AI agent.
-/
set_option linter.all false
namespace TL
open Go
def Ak(v:Value):Value:=
  match v with
  | .slice a l c=>.slice a (l+1) c
  |v=>v
variable{P:Program}{w:World}{t:TypeId}{f:Fr}{x:Operand}{dst:Option Tmp}{ty:TypeId}{pos:String}{after:Array Edge}{g:Option (Nat×Bool)}
end TL
namespace TL
open Go
section
variable{P:Program}{w:World}{t t':TypeId}{f:Fr}{x y:Operand}{dst:Option Tmp}{ty:TypeId}{pos:String}{after:Array Edge}{g:Option (Nat×Bool)}
end
end TL
namespace TL
open Go
end TL
namespace TL
open Go
section
variable{P:Program}{w:World}{t:TypeId}{f:Fr}{x y:Operand}{dst:Option Tmp}{ty:TypeId}{pos:String}{after:Array Edge}{g:Option (Nat×Bool)}
variable{N:Value->World->Prop}
end
end TL
/-
  TlNest: lists of lists that the call owns: the outer block has colour (i, 0), row r's block colour (i, r + 1).
  By an AI agent.
-/
set_option linter.all false
namespace TL
open Go
structure Vc where
  v:Value
  one:v.oneCell'=true
instance:Inhabited Vc:=⟨⟨.int .i64 0,rfl⟩⟩
instance:Rp Vc where
 sz:=1
 rep _ _ _ cs x:=cs=[x.v]
 len h:=by subst h;rfl
 one:=by
   rintro _ _ _ cs x rfl v hv
   obtain rfl:v=x.v:=by simpa using hv
   exact x.one
 tr _ _ h:=h
instance:Fl Vc where
 cells x:=[x.v]
 rep_iff:=Iff.rfl
def A5:Vc:=⟨.slice none 0 0,rfl⟩
def Ae(i k:Nat):cd->Prop:=λc=>c.1=i\/c.1=k
theorem kw{j i k:Nat}(h1:Nat.beq j i=false)(h2:Nat.beq j k=false):∀c,is j c->¬Ae i k c:=λc h h'=>by
 rcases h' with h'|h'
 · exact fm h1 c h h'
 · exact fm h2 c h h'
theorem d5{i r:Nat}:∀c,row i r c->is i c:=λc h=>by unfold row at h;subst h;rfl
theorem lu{j r k:Nat}(h:Nat.beq j k=false):∀c,row j r c->¬is k c:=λc h1=>fm h c (d5 c h1)
theorem kv{j i r:Nat}(h:Nat.beq j i=false):∀c,is j c->¬row i r c:=λc h1 h2=>fm h c h1 (d5 c h2)
theorem cE{i r q:Nat}(h:r≠q):∀c,row i r c->¬row i q c:=λc h1 h2=>by
 unfold row at h1 h2
 rw[h1] at h2
 exact h (by simpa using h2)
theorem b5.mono{J K:cd->Prop}{γ γ':aH}{w w':World}(h:b5 J γ w γ' w')(hK:∀c,J c->K c):b5 K γ w γ' w':=
 ⟨h.os,h.tape,h.output,h.size,λb hb hn=>h.col b hb λhj=>hn (hK _ hj),λb hb hn=>h.keep b hb λhj=>hn (hK _ hj),h.drawn⟩
theorem Sl.mono{α:Type}[Rp α]{γ:aH}{S T:cd->Prop}{w:World}{v:Value}{xs:List α}(h:Sl γ S w v xs)(hs:∀c,S c->T c):Sl γ T w v xs:=h.tr (λ_ _ hS=>⟨rfl,hs _ hS⟩) (Nat.le_refl _)
theorem Ow.recol{α:Type}[Rp α]{γ γ':aH}{J J' S S':cd->Prop}{w:World}{v:Value}{xs:List α}(h:Ow γ J S w v xs)(hS:∀b,S (γ b)->S' (γ' b))(hJ:∀b,J (γ b)->J' (γ' b)):Ow γ' J' S' w v xs:=
 h.tr (Nat.le_refl _) (λb _ h=>⟨rfl,hS b h⟩) (λb _ h=>⟨rfl,hJ b h⟩)
def ix(i k:Nat):cd->Prop:=λc=>row i 0 c\/is k c
def Av(k i:Nat):cd->Prop:=λc=>is k c\/(is i c/\c.2≠0)
theorem g5{j i k:Nat}(h1:Nat.beq j i=false)(h2:Nat.beq j k=false):∀c,is j c->¬ix i k c:=λc h h'=>by
 rcases h' with h'|h'
 · exact kv h1 c h h'
 · exact fm h2 c h h'
def recol(γ:aH)(k:Nat)(c:cd):aH:=λb=>if(γ b).1=k then c else γ b
theorem mI{γ:aH}{k i r b:Nat}{c:cd}(h:Nat.beq i k=false)(hr:row i r (γ b)):row i r (recol γ k c b):=by
 unfold recol
 have h0:¬(γ b).1=k:=lu h _ hr
 rw[if_neg h0];exact hr
theorem rH{J:cd->Prop}{γ:aH}{w w':World}{k:Nat}{c:cd}(h:b5 J γ w γ w'):b5 (λc=>J c\/is k c) γ w (recol γ k c) w':=
 ⟨h.os,h.tape,h.output,h.size,λb hb hn=>by
   have h0:¬(γ b).1=k:=λh=>hn (.inr h)
   unfold recol;rw[if_neg h0],λb hb hn=>h.keep b hb λhj=>hn (.inl hj),h.drawn⟩
def gp{α:Type}[Rp α](γ:aH)(i h:Nat)(w:World)(v:Value)(xss:List (List α)):Prop:=
  ∃us:List Vc,Ow γ (row i 0) (row i 0) w v us/\us.length=xss.length/\∀r u x,r≠h->us[r]? =some u->xss[r]? =some x->Ow γ (row i (r+1)) (row i (r+1)) w u.v x
def dT{α:Type}[Rp α](γ:aH)(i:Nat)(w:World)(v:Value)(xss:List (List α)):Prop:=
  ∃us:List Vc,Ow γ (row i 0) (row i 0) w v us/\us.length=xss.length/\∀r u x,us[r]? =some u->xss[r]? =some x->Ow γ (row i (r+1)) (row i (r+1)) w u.v x
section
variable{α:Type}[Rp α]{γ γ' δ:aH}{i h:Nat}{w w':World}{v:Value}{xss:List (List α)}
theorem dT.x(hn:dT γ i w v xss)(h:Nat):gp γ i h w v xss:=by
 obtain⟨us,h1,h2,h3⟩:=hn
 exact⟨us,h1,h2,λr u x _=>h3 r u x⟩
theorem dT.chg{K:cd->Prop}(hn:dT γ i w v xss)(hc:b5 K γ w γ' w')(hK:∀c,is i c->¬K c):dT γ' i w' v xss:=by
 obtain⟨us,h1,h2,h3⟩:=hn
 have hr:∀r c,row i r c->¬K c:=λr c h=>hK c (d5 c h)
 exact⟨us,h1.chg hc (hr 0) (hr 0),h2,λr u x hu hx=>(h3 r u x hu hx).chg hc (hr _) (hr _)⟩
theorem gp.chg{K:cd->Prop}(hn:gp γ i h w v xss)(hc:b5 K γ w γ' w')(hK:∀c,is i c->¬K c):gp γ' i h w' v xss:=by
 obtain⟨us,h1,h2,h3⟩:=hn
 have hr:∀r c,row i r c->¬K c:=λr c h=>hK c (d5 c h)
 exact⟨us,h1.chg hc (hr 0) (hr 0),h2,λr u x hne hu hx=>(h3 r u x hne hu hx).chg hc (hr _) (hr _)⟩
theorem dT.rowchg{r:Nat}(hn:dT γ i w v xss)(hc:b5 (row i (r+1)) γ w γ' w'):gp γ' i r w' v xss:=by
 obtain⟨us,h1,h2,h3⟩:=hn
 have hr:∀q,q≠r+1->∀c,row i q c->¬row i (r+1) c:=λq hq=>cE hq
 exact⟨us,h1.chg hc (hr 0 (by omega)) (hr 0 (by omega)),h2,λq u x hne hu hx=>(h3 q u x hu hx).chg hc (hr _ (by omega)) (hr _ (by omega))⟩
theorem gp.rowchg(hn:gp γ i h w v xss)(hc:b5 (row i (h+1)) γ w γ' w'):gp γ' i h w' v xss:=by
 obtain⟨us,h1,h2,h3⟩:=hn
 have hr:∀q,q≠h+1->∀c,row i q c->¬row i (h+1) c:=λq hq=>cE hq
 exact⟨us,h1.chg hc (hr 0 (by omega)) (hr 0 (by omega)),h2,λq u x hne hu hx=>(h3 q u x hne hu hx).chg hc (hr _ (by omega)) (hr _ (by omega))⟩
theorem dT.bel(hn:dT γ i w v xss)(hb:dd w.heap.size w w'):dT γ i w' v xss:=by
 obtain⟨us,h1,h2,h3⟩:=hn
 exact⟨us,h1.bel hb,h2,λr u x hu hx=>(h3 r u x hu hx).bel hb⟩
theorem jx{B:Nat}{γ δ:aH}{ren:Nat->Nat}{i k r:Nat}(hδ:∀b,b<B->(δ b).1=0)(hi:Nat.beq i 0=false)(hr:ren i=k):∀b,row i r (δ b)->row k r (TL.glue B γ δ ren b):=by
 intro b hb
 have hb0:δ b=(i,r):=hb
 have h0:¬b<B:=λh=>by
   have h1:=hδ b h
   rw[hb0] at h1
   have h1:i=0:=h1
   subst h1
   simp at hi
 unfold TL.glue row
 rw[if_neg h0,hb0,hr]
theorem dT.glue{B k:Nat}{ren:Nat->Nat}(hn:dT δ i w v xss)(hδ:∀b,b<B->(δ b).1=0)(hi:Nat.beq i 0=false)(hr:ren i=k):dT (TL.glue B γ δ ren) k w v xss:=by
 obtain⟨us,h1,h2,h3⟩:=hn
 exact⟨us,h1.recol (jx hδ hi hr) (jx hδ hi hr),h2,λr u x hu hx=>(h3 r u x hu hx).recol (jx hδ hi hr) (jx hδ hi hr)⟩
theorem dT.nil:dT (α:=α) γ i w (.slice none 0 0) []:=⟨[],Ow.nil,rfl,λr u x hu=>by simp at hu⟩
theorem dT.sl[Fl α](hn:dT γ i w v xss):Sl γ (is i) w v xss:=by
 obtain⟨us,h1,h2,h3⟩:=hn
 rcases h1 with⟨rfl,rfl⟩|⟨b,cap,c,e,rfl,hc,hm,hJ,hb,hcs,hx⟩
 · have:xss=[]:=List.eq_nil_of_length_eq_zero (by simpa using h2.symm)
   subst this
   exact Sl.nil
 · refine .inr ⟨b,0,cap,by rw[h2],by rw[<-h2];exact hc,λr x hr=>?_⟩
   have hlt:r<us.length:=by rw[h2];exact(List.getElem?_eq_some_iff.1 hr).1
   have hu:us[r]? =some us[r]:=List.getElem?_eq_getElem hlt
   obtain⟨cs,hcs',hrep⟩:=hx r _ hu
   have hrep':cs=[us[r].v]:=hrep
   refine⟨cO hb,d5 _ hJ,cs,λj hj=>?_,us[r].v,hrep',(h3 r _ x hu hr).flat.mono d5⟩
   rw[<-hcs' j hj]
   simp[World.cell?,hb]
   rfl
theorem dT.len(hn:dT γ i w v xss):∃a cap,v= .slice a xss.length cap:=by
 obtain⟨us,h1,h2,h3⟩:=hn
 rcases h1 with⟨rfl,rfl⟩|⟨b,cap,c,e,rfl,_⟩
 · rw[<-h2];exact⟨none,0,rfl⟩
 · rw[<-h2];exact⟨_,_,rfl⟩
theorem zI{J S:cd->Prop}{us:List Vc}{r:Nat}{u:Vc}(h1:Ow γ J S w v us)(hu:us[r]? =some u):w.cell? (bu v 1 r)=some u.v:=by
  rcases h1 with⟨rfl,rfl⟩|⟨b,cap,c,e,rfl,hc,hm,hJ,hb,hcs,hx⟩
  · simp at hu
  · obtain⟨cs,hcs',hrep⟩:=hx r u hu
    have hrep':cs=[u.v]:=hrep
    have:=hcs' 0 (Nat.zero_lt_one)
    rw[hrep'] at this
    simp only[bu,World.cell?,hb]
    simpa[Rp.sz] using this
theorem ff{r:Int}(hn:dT γ i w v xss)(h0:0<=r)(h1:r<xss.length):∃u,w.cell? (bu v 1 r.toNat)=some u/\Ow γ (row i (r.toNat+1)) (row i (r.toNat+1)) w u (gI xss r):=by
  obtain⟨us,h2,h3,h4⟩:=hn
  have hlt:r.toNat<us.length:=by omega
  have hu:us[r.toNat]? =some us[r.toNat]:=List.getElem?_eq_getElem hlt
  exact⟨us[r.toNat].v,zI h2 hu,h4 _ _ _ hu (i9 h0 h1)⟩
theorem dh{S:cd->Prop}{r:Int}(hs:Sl γ S w v xss)(h0:0<=r)(h1:r<xss.length):∃u,w.cell? (bu v 1 r.toNat)=some u/\Sl γ S w u (gI xss r):=by
  obtain⟨cs,hcs,u,rfl,hu⟩:=hs.elem (i9 h0 h1)
  have:=hcs 0 (Nat.zero_lt_one)
  rw[ko] at this
  simp only[Nat.add_zero,<-k8] at this
  exact⟨u,by simpa[Rp.sz] using this,hu⟩
end
theorem nC{w w':World}{a:Addr}{u:Value}(h:w.cell? a=some u)(hb:dd w.heap.size w w'):w'.cell? a=some u:=by
 rw[js (w:=w) (hb.block _ (wu h))];exact h
theorem Ow.row_sl{α:Type}[Rp α][Fl α]{γ:aH}{i r:Nat}{w:World}{v:Value}{xs:List α}(h:Ow γ (row i r) (row i r) w v xs):Sl γ (is i) w v xs:=h.flat.mono d5
theorem ni{α:Type}[Rp α]{γ:aH}{J S:cd->Prop}{w:World}{v:Value}{xs:List α}(h:Ow γ J S w v xs):v.oneCell'=true:=by
 rcases h with⟨rfl,_⟩|⟨b,cap,c,e,rfl,_⟩<;>rfl
theorem fG{α:Type}[Rp α]{γ:aH}{J S:cd->Prop}{w:World}{v:Value}{xs:List α}(h:Ow γ J S w v xs):v.cells= #[v]:=by
 rcases h with⟨rfl,_⟩|⟨b,cap,c,e,rfl,_⟩<;>rfl
section
variable{α:Type}[Rp α]{γ:aH}{i k:Nat}{w:World}{v u:Value}{xss:List (List α)}{l:List α}
variable{P:Program}{dst:Option Tmp}{ty:TypeId}{pos:String}{after:Array Edge}{g:Option (Nat×Bool)}{f:Fr}{t:TypeId}{x y:Operand}{N:Value->World->Prop}
theorem qq{r:Nat}(hn:gp γ i r w v xss)(hr:r<xss.length)(h1:u.oneCell'=true)(hc1:u.cells= #[u]):∃b o cur e,bu v 1 r=⟨b,o,none⟩/\w.heap[b]? =some (.cells cur e (0,0))/\o+1<=cur.size/\
    b5 (row i 0) γ w γ (w.setRow b (cur.toList.take o++u.cells.toList++cur.toList.drop (o+1)).toArray)/\
    (∀(c:cd->Prop),(∀q,c q->¬row i 0 q)->∀l:List α,Ow γ c c w u l->Ow γ c c (w.setRow b (cur.toList.take o++u.cells.toList++cur.toList.drop (o+1)).toArray) u l)/\
    ∀(γ':aH) (l:List α),(∀b q,row i q (γ b)->row i q (γ' b))->Ow γ' (row i (r+1)) (row i (r+1)) (w.setRow b (cur.toList.take o++u.cells.toList++cur.toList.drop (o+1)).toArray) u l->
      dT γ' i (w.setRow b (cur.toList.take o++u.cells.toList++cur.toList.drop (o+1)).toArray) v (xss.set r l):=by
  obtain⟨us,h2,h3,h4⟩:=hn
  obtain⟨b,o,cur,e,ha,hb,hle,hc,hov⟩:=sU (u:=u) (y:=(⟨u,h1⟩:Vc)) h2 (i:=r) (by omega) (by rw[hc1];rfl)
  refine⟨b,o,cur,e,ha,hb,hle,hc,λc hcc l ho=>ho.chg hc hcc hcc,λγ' l hγ hl=>⟨us.set r ⟨u,h1⟩,hov.recol (λb=>hγ b 0) (λb=>hγ b 0),by simp[h3],λq u' x hu hx=>?_⟩⟩
  by_cases hq:q=r
  · subst hq
    rw[List.getElem?_set_self (by omega)] at hu hx
    obtain rfl:=Option.some.inj hu
    obtain rfl:=Option.some.inj hx
    exact hl
  · rw[List.getElem?_set_ne (Ne.symm hq)] at hu hx
    exact((h4 q u' x hq hu hx).chg hc (cE (by omega)) (cE (by omega))).recol (λb=>hγ b _) (λb=>hγ b _)
theorem iN{bytes:Nat}{z:Value}{r:Int}(ht:Tp P t false 1 bytes z)(hx:ev f x= .pointer (some (bu v 1 r.toNat)))(hy:ev f y=u)(hn:dT γ i w v xss)(hu:Ow γ (is k) (is k) w u l)(hk:Nat.beq i k=false)(h0:0<=r)(h1:r<xss.length)
    (hN:∀γ' w',b5 (Ae i k) γ w γ' w'->dT γ' i w' v (xss.set r.toNat l)->N undef w'):gF P ⟨dst,.store t x y,ty,pos,after,g⟩ f w N:=by
  obtain⟨b,o,cur,e,ha,hb,hle,hc,hm,hp⟩:=qq (hn.x r.toNat) (r:=r.toNat) (by omega) (ni hu) (fG hu)
  rw[ha] at hx
  have hk':Nat.beq k i=false:=by
    cases hb:Nat.beq k i with
    |false=>rfl
    |true=>have:=Nat.eq_of_beq_eq_true hb;subst this;simp at hk
  refine i4 (iu ht hx hy hb (by rw[fG hu];rfl) hle (λq hq=>?_)) (hN (recol γ k (i,r.toNat+1)) _ ((rH hc).mono ?_) (hp _ l (λb q hq=>mI hk hq) ((hm (is k) (kv hk') l hu).recol ?_ ?_)))
  · rw[fG hu] at hq
    obtain rfl:q=u:=by simpa using hq
    exact ni hu
  · rintro c (h|h)
    · exact .inl (d5 c h)
    · exact .inr h
  · intro b hb
    have hb':(γ b).1=k:=hb
    unfold recol row
    rw[if_pos hb']
  · intro b hb
    have hb':(γ b).1=k:=hb
    unfold recol row
    rw[if_pos hb']
theorem dK{bytes:Nat}{z:Value}{r:Int}(ht:Tp P t false 1 bytes z)(hx:ev f x= .pointer (some (bu v 1 r.toNat)))(hy:ev f y=u)(hn:gp γ i r.toNat w v xss)(hu:Ow γ (row i (r.toNat+1)) (row i (r.toNat+1)) w u l)(h0:0<=r)(h1:r<xss.length)
    (hN:∀w',b5 (is i) γ w γ w'->dT γ i w' v (xss.set r.toNat l)->N undef w'):gF P ⟨dst,.store t x y,ty,pos,after,g⟩ f w N:=by
  obtain⟨b,o,cur,e,ha,hb,hle,hc,hm,hp⟩:=qq hn (r:=r.toNat) (by omega) (ni hu) (fG hu)
  rw[ha] at hx
  refine i4 (iu ht hx hy hb (by rw[fG hu];rfl) hle (λq hq=>?_)) (hN _ (hc.mono d5) (hp _ l (λb q hq=>hq) (hm _ (cE (by omega)) l hu)))
  rw[fG hu] at hq
  obtain rfl:q=u:=by simpa using hq
  exact ni hu
theorem j0(γ:aH)(i:Nat){e bytes:Nat}{z:Value}{kl kc:IntKind}{n cp:Int}(ht:P.underlying t=some (.slice e))(he:Tp P e false 1 bytes z)(hz:z= .slice none 0 0)
    (hx:ev f x= .int kl n)(hy:ev f y= .int kc cp)(h0:0<=n)(hlc:n<=cp)(hc:cp*bytes<=281474976710656)(hc2:cp<=1099511627776)
    (hk:∀γ' w' v,b5 no γ w γ' w'->dT (α:=α) γ' i w' v (List.replicate n.toNat [])->N v w'):gF P ⟨dst,.makeSlice t x y,ty,pos,after,g⟩ f w N:=by
  subst hz
  refine iT γ (row i 0) (row i 0) (i,0) rfl A5 ht he rfl hx hy h0 hlc hc hc2 λγ' w' v hch ho _=>hk γ' w' v hch ⟨_,ho,by simp,λr u x hu hx=>?_⟩
  have hu':=List.getElem?_eq_some_iff.1 hu
  have hx':=List.getElem?_eq_some_iff.1 hx
  obtain⟨_,rfl⟩:=hu'
  obtain⟨_,rfl⟩:=hx'
  simp only[List.getElem_replicate]
  exact Ow.nil
theorem nG[Fl α]{S':cd->Prop}{tv:Value}{c:Vc}(hcv:c.v=u){e bytes:Nat}{z:Value}(ht:P.underlying t=some (.slice e))(he:Tp P e false 1 bytes z)(hzc:z.cells.size=1)(hx:ev f x=v)(hy:ev f y=tv)
    (hn:dT γ i w v xss)(htv:Sl γ S' w tv [c])(hu:Ow γ (is k) (is k) w u l)(hk:Nat.beq i k=false)(hby:bytes<=128)(hlen:xss.length+1<=1099511627776)
    (hN:∀γ' w' v',b5 (ix i k) γ w γ' w'->dT γ' i w' v' (xss++[l])->Sl γ' (Av k i) w' u l->N v' w'):gF P ⟨dst,.call {callee:=.builtin .append,args:= #[x,y],argTypes:= #[t,t]},ty,pos,after,g⟩ f w N:=by
  obtain⟨us,h2,h3,h4⟩:=hn
  have hk':Nat.beq k i=false:=by
    cases hb:Nat.beq k i with
    |false=>rfl
    |true=>have:=Nat.eq_of_beq_eq_true hb;subst this;simp at hk
  refine b9 γ (J:=row i 0) (S:=row i 0) (i,0) rfl ht he (Nat.zero_lt_one) hzc hx hy h2 htv hby (by simpa[h3] using hlen) λγ1 w1 v1 hc ho=>?_
  have hrw:∀q b,row i q (γ1 b)->row i q (recol γ1 k (i,xss.length+1) b):=λq b hq=>mI hk hq
  have hch:=hu.chg hc (kv hk') (kv hk')
  have hto:∀b,is k (γ1 b)->row i (xss.length+1) (recol γ1 k (i,xss.length+1) b):=λb hb=>by
    have hb':(γ1 b).1=k:=hb
    unfold recol row
    rw[if_pos hb']
  have hrow:=hch.recol hto hto
  refine hN (recol γ1 k (i,xss.length+1)) w1 v1 ?_ ⟨us++[c],ho.recol (hrw 0) (hrw 0),by simp[h3],λr u' x hu' hx'=>?_⟩ (hrow.flat.mono λc h=>.inr ⟨d5 c h,by unfold row at h;rw[h];simp⟩)
  · refine⟨hc.os,hc.tape,hc.output,hc.size,λb hb hn=>?_,λb hb hn=>hc.keep b hb λhj=>hn (.inl hj),hc.drawn⟩
    have h5:=hc.col b hb λhj=>hn (.inl hj)
    unfold recol
    rw[h5]
    have h0:¬(γ b).1=k:=λh=>hn (.inr h)
    rw[if_neg h0]
  · by_cases hr:r<us.length
    · rw[List.getElem?_append_left hr] at hu'
      rw[List.getElem?_append_left (by omega)] at hx'
      exact((h4 r u' x hu' hx').chg hc (cE (by omega)) (cE (by omega))).recol (hrw _) (hrw _)
    · rw[List.getElem?_append_right (by omega)] at hu' hx'
      have e0:r-us.length=0:=by
        have:=(List.getElem?_eq_some_iff.1 hu').1
        simp at this;omega
      have er:r=xss.length:=by omega
      rw[e0] at hu'
      rw[<-h3,e0] at hx'
      obtain rfl:c=u':=by simpa using hu'
      obtain rfl:l=x:=by simpa using hx'
      subst er
      rw[hcv];exact hrow
theorem kL{S':cd->Prop}{tv:Value}{c:Vc}(hcv:c.v= .slice none 0 0){e bytes:Nat}{z:Value}(ht:P.underlying t=some (.slice e))(he:Tp P e false 1 bytes z)(hzc:z.cells.size=1)(hx:ev f x=v)(hy:ev f y=tv)
    (hn:dT γ i w v xss)(htv:Sl γ S' w tv [c])(hby:bytes<=128)(hlen:xss.length+1<=1099511627776)
    (hN:∀γ' w' v',b5 (is i) γ w γ' w'->dT γ' i w' v' (xss++[[]])->N v' w'):gF P ⟨dst,.call {callee:=.builtin .append,args:= #[x,y],argTypes:= #[t,t]},ty,pos,after,g⟩ f w N:=by
  obtain⟨us,h2,h3,h4⟩:=hn
  refine b9 γ (J:=row i 0) (S:=row i 0) (i,0) rfl ht he (Nat.zero_lt_one) hzc hx hy h2 htv hby (by simpa[h3] using hlen) λγ1 w1 v1 hc ho=>?_
  refine hN γ1 w1 v1 (hc.mono d5) ⟨us++[c],ho,by simp[h3],λr u' x hu' hx'=>?_⟩
  by_cases hr:r<us.length
  · rw[List.getElem?_append_left hr] at hu'
    rw[List.getElem?_append_left (by omega)] at hx'
    exact(h4 r u' x hu' hx').chg hc (cE (by omega)) (cE (by omega))
  · rw[List.getElem?_append_right (by omega)] at hu' hx'
    have e0:r-us.length=0:=by
      have:=(List.getElem?_eq_some_iff.1 hu').1
      simp at this;omega
    rw[e0] at hu'
    rw[<-h3,e0] at hx'
    obtain rfl:c=u':=by simpa using hu'
    obtain rfl:([]:List α)=x:=by simpa using hx'
    rw[hcv];exact Ow.nil
end
end TL
namespace TL
open Go
inductive VcR {α:Type} [Rp α] (w:World):List Vc->List (List α)->Prop
  |nil:VcR w [] []
  |cons {u:Vc} {x:List α} {us:List Vc} {xss:List (List α)} (h:Ro w u.v x) (r:VcR w us xss):VcR w (u::us) (x::xss)
theorem VcR.len{α:Type}[Rp α]{w:World}{us:List Vc}{xss:List (List α)}(h:VcR w us xss):us.length=xss.length:=by
 induction h with
 |nil=>rfl
 |cons _ _ ih=>simp[ih]
theorem VcR.get{α:Type}[Rp α]{w:World}{us:List Vc}{xss:List (List α)}(h:VcR w us xss):∀(r:Nat) (u:Vc) (x:List α),us[r]? =some u->xss[r]? =some x->Ro w u.v x:=by
 induction h with
 |nil=>intro r u x hu;simp at hu
 |cons h _ ih=>
   intro r u x hu hx
   cases r with
   |zero=>
     simp at hu hx
     subst hu hx
     exact h
   |succ r=>
     simp at hu hx
     exact ih r u x hu hx
theorem kB{α:Type}[Rp α]{γ:aH}{J S:cd->Prop}{w:World}{v:Value}{us:List Vc}{xss:List (List α)}(h:Ow γ J S w v us)(hr:VcR w us xss):Sl c0 any w v xss:=by
 have hl:=hr.len
 rcases h with⟨rfl,rfl⟩|⟨b,cap,c,e,rfl,hc,hm,hJ,hb,hcs,hx⟩
 · have:xss=[]:=List.eq_nil_of_length_eq_zero (by simpa using hl.symm)
   subst this;exact Sl.nil
 · refine .inr ⟨b,0,cap,by rw[hl],by rw[<-hl];exact hc,λr x hrx=>?_⟩
   have hlt:r<us.length:=by rw[hl];exact(List.getElem?_eq_some_iff.1 hrx).1
   have hu:us[r]? =some us[r]:=List.getElem?_eq_getElem hlt
   obtain⟨cs,hcs',hrep⟩:=hx r _ hu
   have hrep':cs=[us[r].v]:=hrep
   refine⟨cO hb,trivial,cs,λj hj=>?_,us[r].v,hrep',hr.get r _ x hu hrx⟩
   rw[<-hcs' j hj]
   simp[World.cell?,hb]
   rfl
theorem lq{u:Value}{c:Vc}(hc:c.v=u)(h:u.cells= #[u]):u.cells.toList=Fl.cells c:=by rw[h,<-hc];rfl
theorem nS{u:Value}(h:u.oneCell'=true):∃c:Vc,c.v=u:=⟨⟨u,h⟩,rfl⟩
theorem VcR.consv{α:Type}[Rp α]{w:World}{u:Value}{c:Vc}{x:List α}{us:List Vc}{xss:List (List α)}(hc:c.v=u)(h:Ro w u x)(r:VcR w us xss):VcR w (c::us) (x::xss):=.cons (by rw[hc];exact h) r
theorem bT{P:Program}{f:Fr}{w w':World}{dst:Option Tmp}{op:Op}{ty:TypeId}{pos:String}{after:Array Edge}{g:Option (Nat×Bool)}{N:Value->World->Prop}{fid:Nat}{args:Array Value}
   (h:(execOp (ev f) ⟨dst,op,ty,pos,after,g⟩).run P w= .ok (.enter fid args) w')(hc:Calls P fid args w' λe w''=>∃v,e= .returned v/\N v w''):gF P ⟨dst,op,ty,pos,after,g⟩ f w N:=by
 unfold gF
 rw[h]
 refine hc.mono λe w'' he=>?_
 obtain⟨v,rfl,hs⟩:=he
 exact hs
end TL
namespace TL
open Go
end TL
namespace TL
open Go
section
variable{P:Program}{w:World}{f:Fr}{dst:Option Tmp}{ty:TypeId}{pos:String}{after:Array Edge}{g:Option (Nat×Bool)}
end
end TL
namespace TL
open Go
def A6:List Bool->List Item->List Item
  |[],k=>k
  |true::c,.code (.seq x y)::k=>A6 c (.code x:: .code y::k)
  |false::c,_::k=>A6 c k
  |_,k=>k
theorem kU(c:List Bool){P:Program}{fid n:Nat}{R:Ending->World->Prop}{k:List Item}{f:Fr}{w:World}{σ:Type}(Mid:σ->Fr->World->Prop)
    (h:(∀s f w,Mid s f w->fh P fid n R (A6 c k) f w)->fh P fid n R k f w)(hk:∀s f w,Mid s f w->fh P fid n R (A6 c k) f w):fh P fid n R k f w:=h hk
end TL
namespace TL
open Go
def inl(L:List Nat):cd->Prop:=λc=>L.contains c.1=true
section
variable{L:List Nat}{γ γ' γ1 γ2:aH}{w w' w1 w2:World}{i k r:Nat}
theorem b5.n(h:b5 no γ w γ' w'):b5 (inl L) γ w γ' w':=h.mono λ_ h=>h.elim
theorem b5.l(h:b5 (is i) γ w γ' w')(hi:L.contains i=true):b5 (inl L) γ w γ' w':=h.mono λc h=>by
 have h:c.1=i:=h
 unfold inl
 rw[h];exact hi
theorem b5.l2(h:b5 (Ae i k) γ w γ' w')(hi:L.contains i=true)(hk:L.contains k=true):b5 (inl L) γ w γ' w':=h.mono λc h=>by
 unfold inl
 rcases h with h|h
 · rw[h];exact hi
 · rw[h];exact hk
theorem b5.lr(h:b5 (row i r) γ w γ' w')(hi:L.contains i=true):b5 (inl L) γ w γ' w':=h.mono λc h=>by
 have h:c.1=i:=d5 c h
 unfold inl
 rw[h];exact hi
theorem b5.lx(h:b5 (ix i k) γ w γ' w')(hi:L.contains i=true)(hk:L.contains k=true):b5 (inl L) γ w γ' w':=h.mono λc h=>by
 unfold inl
 rcases h with h|h
 · have h:c.1=i:=d5 c h
   rw[h];exact hi
 · have h:c.1=k:=h
   rw[h];exact hk
theorem b5.seq(h:b5 (inl L) γ w γ1 w1)(h':b5 (inl L) γ1 w1 γ2 w2):b5 (inl L) γ w γ2 w2:=h.trans h' λ_ _ h=>h.elim id id
theorem bA{j:Nat}(h:L.contains j=false):∀c,is j c->¬inl L c:=λc h1 h2=>by
 have h1:c.1=j:=h1
 unfold inl at h2
 rw[h1,h] at h2
 cases h2
theorem tU{j r:Nat}(h:L.contains j=false):∀c,row j r c->¬inl L c:=λc h1=>bA h c (d5 c h1)
end
end TL
namespace TL
open Go
theorem gp.vc{α:Type}[Rp α]{γ:aH}{i h:Nat}{w:World}{v:Value}{xss:List (List α)}(hn:gp γ i h w v xss):∃us:List Vc,us.length=xss.length/\Sl γ (is i) w v us:=by
 obtain⟨us,h1,h2,_⟩:=hn
 exact⟨us,h2,h1.flat.mono d5⟩
end TL
/-
  TlDraw: regions that draw their order, taken operation by operation.
  By an AI agent.
-/
set_option linter.all false
namespace TL
open Go
def bW(n:Nat)(done:List Nat):Array Bool:=((List.range n).map λi=>decide (i∈done)).toArray
theorem cZ(n:Nat)(done:List Nat)(j:Nat)(d:Bool):(bW n done).getD j d=if j<n then decide (j∈done) else d:=by
 unfold bW
 by_cases h:j<n
 · simp[h]
 · simp[h]
theorem ew{n i:Nat}(done:List Nat)(hi:i<n):(bW n done).setIfInBounds i true=bW n (i::done):=by
 apply Array.ext
 · simp[bW]
 · intro j h1 h2
   have hj:j<n:=by simpa[bW] using h2
   simp only[bW]
   by_cases hij:i=j
   · subst hij;simp
   · have:¬j=i:=λh=>hij h.symm
     simp[Array.getElem_setIfInBounds,hij,this]
section
variable{P:Program}{ops:Array Oper}{Q:Exit->Act->World->Prop}{md:Region.Mode}{qs:Nat->Bool}
def ol(P:Program)(md:Region.Mode)(ops:Array Oper)(qs:Nat->Bool)(Q:Exit->Act->World->Prop):Nat->Array Bool->Act->World->Prop
  |0,listed,a,w=>Region.ready md ops listed=[]/\Q .normal a w
  |fuel+1,listed,a,w=>(Region.ready md ops listed=[]->Q .normal a w)/\
    ∀i∈Region.ready md ops listed,if qs i then stOp P ops w i (λa'=>ol P md ops qs Q fuel (listed.setIfInBounds i true) a' w) a
      else wpOp P ops Q i (ol P md ops qs Q fuel (listed.setIfInBounds i true)) a w
theorem gn:∀(fuel:Nat) (listed:Array Bool) (a:Act) (w:World),ol P md ops qs Q fuel listed a w->wpAny P md ops Q fuel listed a w
 |0,_,_,_,h=>h
 |fuel+1,listed,a,w,h=>by
   refine⟨h.1,λi hi=>?_⟩
   have h2:=h.2 i hi
   cases hq:qs i with
   |true=>
     simp only[hq,if_true] at h2
     exact wpOp_of_stOp (λa' h'=>gn fuel _ a' w h') h2
   |false=>
     simp only[hq,Bool.false_eq_true,if_false] at h2
     exact wpOp_mono (λa' w' h'=>gn fuel _ a' w' h') h2
theorem pG{i:Nat}{oi:Oper}{v:Value}{w:World}{M D:Array Bool}(hi:ops[i]? =some oi)(hsel:∀(j:Nat) (o:Oper) cs b,ops[j]? =some o->o.op≠ .select cs b)(hqi:qs i=true)
    (hM:∀j oj,ops[j]? =some oj->M.getD j false=false->j≠i->∃e∈oj.after,Region.binds md e=true/\M.getD e.on false=false)
    (hMq:∀j oj,ops[j]? =some oj->M.getD j false=true->D.getD j true=false->j≠i->qs j=true):
    ∀(fuel:Nat) (listed:Array Bool) (a:Act),listed.size=ops.size->(∀j,listed.getD j false=true->M.getD j false=true)->(∀j,listed.getD j true=false->D.getD j true=false)->
      (∀j oj,ops[j]? =some oj->j≠i->listed.getD j true=false->(∀e∈oj.after,Region.binds md e=true->e.on≠i)->oi.apart ops oj=true)->
      i∈Region.ready md ops listed->YieldsAt P ops w oi v a->
      ol P md ops qs Q fuel (listed.setIfInBounds i true) (a.put oi.dst v) w->ol P md ops qs Q (fuel+1) listed a w:=by
  intro fuel
  induction fuel with
  |zero=>
    intro listed a _ _ _ _ hr hy H
    refine⟨λh=>(by rw[h] at hr;cases hr),λj hj=>?_⟩
    by_cases hji:j=i
    · subst hji;rw[if_pos hqi];exact hy.stOp hi H
    · have:=ready_mono hj hji
      rw[H.1] at this
      cases this
  |succ fuel ih=>
    intro listed a hsz hsub hD hfree hr hy H
    refine⟨λh=>(by rw[h] at hr;cases hr),λj hj=>?_⟩
    by_cases hji:j=i
    · subst hji;rw[if_pos hqi];exact hy.stOp hi H
    · obtain⟨hjun,oj,hoj,hall⟩:=mem_ready.1 hj
      have hMj:M.getD j false=true:=by
        cases hm:M.getD j false with
        |true=>rfl
        |false=>
          obtain⟨e,he,hb,hn⟩:=hM j oj hoj hm hji
          have:=hsub _ (hall e he hb)
          rw[hn] at this;cases this
      have hqj:=hMq j oj hoj hMj (hD j hjun) hji
      have h1:=H.2 j (ready_mono hj hji)
      rw[if_pos hqj] at h1 ⊢
      have hnot:∀e∈oj.after,Region.binds md e=true->e.on≠i:=λe he hb heq=>by
        have h1:=hall e he hb
        have h0:=(mem_ready.1 hr).1
        rw[heq] at h1
        rw[getD_both h0] at h1
        cases h1
      have h2:=stOp_put hoj (hfree j oj hoj hji hjun hnot) (λcs b=>hsel i oi cs b hi) (λcs b=>hsel j oj cs b hoj) hy h1
      have hfree':∀k ok,ops[k]? =some ok->k≠i->(listed.setIfInBounds j true).getD k true=false->
          (∀e∈ok.after,Region.binds md e=true->e.on≠i)->oi.apart ops ok=true:=λk ok hk hki hun hno=>by
        refine hfree k ok hk hki ?_ hno
        by_cases hjk:j=k
        · subst hjk;exact hjun
        · rw[getD_set_ne true hjk] at hun;exact hun
      have hsub':∀k,(listed.setIfInBounds j true).getD k false=true->M.getD k false=true:=λk hk=>by
        by_cases hjk:j=k
        · subst hjk;exact hMj
        · rw[getD_set_ne false hjk] at hk;exact hsub k hk
      have hD':∀k,(listed.setIfInBounds j true).getD k true=false->D.getD k true=false:=λk hk=>by
        by_cases hjk:j=k
        · subst hjk;exact hD j hjun
        · rw[getD_set_ne true hjk] at hk;exact hD k hk
      refine stOp_mono (λa' h3=>ih (listed.setIfInBounds j true) a' (by simpa using hsz) hsub' hD' hfree' (ready_mono hr (Ne.symm hji)) h3.1 ?_) h2
      rw[Array.setIfInBounds_comm _ _ hji]
      exact h3.2
def az{α:Type}(s:Sem α):Prop:=∀(P:Program) (w:World) (x:α) (w':World),s.run P w= .ok x w'->dd w.heap.size w w'
theorem az.bind{α β:Type}{s:Sem α}{f:α->Sem β}(h:az s)(hf:∀a,az (f a)):az (s>>=f):=by
 intro P w x w' hr
 rw[Sem.run_bind] at hr
 cases h1:s.run P w with
 |halt e w1=>rw[h1] at hr;cases hr
 |ok a w1=>
   rw[h1] at hr
   have k1:=h P w a w1 h1
   have k2:=hf a P w1 x w' hr
   exact k1.trans (k2.mono k1.size)
theorem az.pure{α:Type}(a:α):az (Pure.pure a:Sem α):=λP w x w' h=>by
 simp only[Sem.run_pure] at h
 cases h;exact dd.refl _ _
theorem az.halt{α:Type}(e:Halt):az (Sem.halt e:Sem α):=λP w x w' h=>by cases h
theorem az.stuck{α:Type}(e:String):az (Go.stuck e:Sem α):=az.halt _
theorem az.unsupported{α:Type}(e:Unsupported):az (Go.unsupported e:Sem α):=az.halt _
theorem az.program:az Go.program:=λP w x w' h=>by
 simp only[run_program] at h
 cases h;exact dd.refl _ _
theorem az.new(o:Obj):az (newObj o):=λP w x w' h=>by
 simp only[run_newObj] at h
 cases h
 exact(dd.refl _ w).alloc (Nat.le_refl _) o
theorem az.typeInfo(t:TypeId):az (Go.typeInfo t):=az.bind az.program λp=>by
 cases p.info? t with
 |some i=>exact az.pure i
 |none=>exact az.stuck _
theorem az.underlying(t:TypeId):az (Go.underlying t):=az.bind az.program λp=>by
 cases p.underlying t with
 |some i=>exact az.pure i
 |none=>exact az.stuck _
theorem az.sizeOf(t:TypeId):az (Go.sizeOf t):=az.bind (az.typeInfo t) λi=>az.pure _
theorem az.zeroValue(t:TypeId):az (Go.zeroValue t):=az.bind (az.typeInfo t) λi=>by
 cases i.zero with
 |some v=>exact az.pure v
 |none=>exact az.unsupported _
theorem az.newVar(t:TypeId)(v:Value):az (Go.newVar t v):=az.bind (az.new _) λ_=>az.pure _
theorem k7(t:TypeId)(len:Nat)(parts:Array (Nat×Value)):az (Instr.buildSlice t len parts):=by
 unfold Instr.buildSlice
 refine az.bind (az.underlying t) λd=>?_
 split
 · refine az.bind (az.sizeOf _) λsize=>?_
   have tail:∀(elem:TypeId) (zero:Array Value),az (match Instr.fill (λi=>some (i*size,size)) ((Array.range (len*size)).map (zero[· %zero.size]!)) parts.toList with
       |some cells=>(do pure (Value.slice (some (<-newRow elem cells)) len len):Sem Value)
       |_=>Go.stuck "buildSlice: a part of the wrong size"):=λelem zero=>by
     split
     · exact az.bind (az.bind (az.new _) λ_=>az.pure _) λ_=>az.pure _
     · exact az.stuck _
   by_cases h1:len*size>2^24
   · simp only[h1,if_true]
     refine az.bind (az.unsupported _) λx=>?_
     by_cases h2:len*size=0
     · rw[if_pos h2]
       exact az.bind (az.pure _) λzero=>tail _ zero
     · simp only[h2,if_false]
       exact az.bind (az.zeroValue _) λ_=>az.bind (az.pure _) λzero=>tail _ zero
   · simp only[h1,if_false]
     by_cases h2:len*size=0
     · rw[if_pos h2]
       exact az.bind (az.pure _) λzero=>tail _ zero
     · simp only[h2,if_false]
       exact az.bind (az.zeroValue _) λ_=>az.bind (az.pure _) λzero=>tail _ zero
 · exact az.stuck _
theorem lE{P:Program}{w w':World}{s:Sem Value}{nx:Next}(h:(do pure (Next.value (<-s)):Sem Next).run P w= .ok nx w'):∃u,nx= .value u:=by
 rw[Sem.run_bind] at h
 cases hs:s.run P w with
 |ok a w1=>rw[hs] at h;cases h;exact⟨a,rfl⟩
 |halt e w1=>rw[hs] at h;cases h
theorem az.load(a:Addr)(m:Mode):az (Go.load a m):=λP w x w' h=>by
 simp only[Go.load,Sem.run] at h
 split at h
 · cases h;exact dd.refl _ _
 · split at h
   · cases h;exact dd.refl _ _
   · cases h
theorem az.cells(a:Addr):∀(n i:Nat) (acc:Array Value),az (loadCellsFrom a i n acc)
 |0,_,_=>az.pure _
 |n+1,i,_=>az.bind (az.load _ _) λ_=>az.cells a n (i+1) _
theorem az.isAgg(t:TypeId):az (Go.isAgg t):=az.bind (az.underlying t) λd=>by
 split<;>exact az.pure _
theorem az.error{α:Type}(m:String):az (runtimePanic (.error m):Sem α):=az.bind az.program λp=>az.halt _
theorem az.asIntOf(v:Value):az (Go.asIntOf v):=by
 unfold Go.asIntOf
 split
 · exact az.pure _
 · exact az.unsupported _
 · exact az.stuck _
theorem az.asInt(v:Value):az (Go.asInt v):=az.bind (az.asIntOf v) λ_=>az.pure _
theorem az.choose(q:Question):az (Go.choose q):=λP w x w' h=>by
 simp only[Go.choose,Sem.run] at h
 split at h
 · cases h;exact dd.refl _ _
 · cases h;exact⟨rfl,rfl,rfl,Nat.le_refl _,λ_ _=>rfl,Nat.le_succ _⟩
theorem az.room(n:Nat):az (askRoom n):=λP w x w' h=>by
 unfold askRoom at h
 split at h
 · simp only[Go.mark,Sem.run] at h
   cases h;exact⟨rfl,rfl,rfl,Nat.le_refl _,λ_ _=>rfl,Nat.le_refl _⟩
 · cases h;exact dd.refl _ _
theorem nF(t:TypeId)(a:Value):az (Instr.loadAt t a):=by
 unfold Instr.loadAt
 refine az.bind ?_ λb=>?_
 · unfold Instr.sureAddr
   split
   · exact az.pure _
   · exact az.stuck _
 · unfold loadVar
   refine az.bind (az.isAgg t) λc=>?_
   split
   · exact az.bind (az.sizeOf t) λn=>az.bind (az.cells _ _ _ _) λ_=>az.pure _
   · exact az.load _ _
theorem kO(t:TypeId)(a b:Value):az (Instr.makeSlice t a b):=by
 unfold Instr.makeSlice
 refine az.bind (az.underlying t) λd=>?_
 split
 · refine az.bind (az.asInt _) λl=>az.bind (az.asInt _) λc=>az.bind (az.typeInfo _) λi=>?_
   have tail:∀(c:Int) (l:Int) (elem:TypeId),az (do
       let n:=c.toNat*(<-sizeOf elem)
       let zero<-if n=0 then pure #[] else do pure (<-zeroValue elem).cells
       let a<-newRow elem ((Array.range n).map (zero[· %zero.size]!))
       pure (Value.slice (some a) l.toNat c.toNat)):=λc l elem=>by
     refine az.bind (az.sizeOf _) λn=>?_
     have last:∀zero:Array Value,az (do
       let a<-newRow elem ((Array.range (c.toNat*n)).map (zero[· %zero.size]!))
       pure (Value.slice (some a) l.toNat c.toNat)):=λzero=>az.bind (az.bind (az.new _) λ_=>az.pure _) λ_=>az.pure _
     by_cases h:c.toNat*n=0
     · simp only[h,if_true]
       have:=last #[]
       simp only[h] at this
       exact az.bind (az.pure _) λ_=>az.bind (az.bind (az.new _) λ_=>az.pure _) λ_=>az.pure _
     · simp only[h,if_false]
       exact az.bind (az.zeroValue _) λ_=>az.bind (az.pure _) λz=>last z
   dsimp only
   repeat' (first
     |exact az.error _
     |exact az.choose _
     |exact az.room _
     |exact tail _ _ _
     |exact az.pure _
     |refine az.bind ?_ λ_=>?_
     |split)
 · exact az.stuck _
def jC:Op->Bool
 | .alloc _| .box .. | .buildSlice .. | .load .. | .makeSlice .. =>true
 |_=>false
theorem qf{ρ:Operand->Value}{o:Oper}(h:jC o.op=true):az (execOp ρ o):=by
 obtain⟨dst,op,ty,pos,after,g⟩:=o
 cases op<;>simp only[jC,Bool.false_eq_true] at h
 case alloc e=>exact az.bind (az.bind (az.zeroValue _) λ_=>az.bind (az.newVar _ _) λ_=>az.pure _) λ_=>az.pure _
 case box e x=>exact az.bind (az.bind (az.newVar _ _) λ_=>az.pure _) λ_=>az.pure _
 case buildSlice t n ps=>exact az.bind (k7 _ _ _) λ_=>az.pure _
 case load t a=>exact az.bind (nF _ _) λ_=>az.pure _
 case makeSlice t a b=>exact az.bind (kO _ _ _) λ_=>az.pure _
theorem rU{i:Nat}{oi:Oper}{v:Value}(hi:ops[i]? =some oi)(hsel:∀(j:Nat) (o:Oper) cs b,ops[j]? =some o->o.op≠ .select cs b)(hqi:qs i=true)
    (hQ:∀c a w,Q (.panic c) (a.put oi.dst v) w->Q (.panic c) a w):
    ∀(fuel:Nat) (listed:Array Bool) (a:Act) (w:World),
      (∀j oj,ops[j]? =some oj->j≠i->listed.getD j true=false->(∀e∈oj.after,Region.binds md e=true->e.on≠i)->oi.apart ops oj=true)->
      i∈Region.ready md ops listed->Yields P ops oi v a->
      ol P md ops qs Q fuel (listed.setIfInBounds i true) (a.put oi.dst v) w->ol P md ops qs Q (fuel+1) listed a w:=by
  have hat:∀{a:Act} {w:World},Yields P ops oi v a->YieldsAt P ops w oi v a:=λ {a w} hy=>by
    rcases hy with⟨h1,h2⟩|⟨h1,h2⟩
    · exact .inl ⟨h1,.inl (h2 w)⟩
    · exact .inr ⟨h1,h2⟩
  intro fuel
  induction fuel with
  |zero=>
    intro listed a w _ hr hy H
    refine⟨λh=>(by rw[h] at hr;cases hr),λj hj=>?_⟩
    by_cases hji:j=i
    · subst hji;rw[if_pos hqi];exact(hat hy).stOp hi H
    · have:=ready_mono hj hji
      rw[H.1] at this
      cases this
  |succ fuel ih=>
    intro listed a w hfree hr hy H
    refine⟨λh=>(by rw[h] at hr;cases hr),λj hj=>?_⟩
    by_cases hji:j=i
    · subst hji;rw[if_pos hqi];exact(hat hy).stOp hi H
    · obtain⟨hjun,oj,hoj,hall⟩:=mem_ready.1 hj
      have h1:=H.2 j (ready_mono hj hji)
      have hnot:∀e∈oj.after,Region.binds md e=true->e.on≠i:=λe he hb heq=>by
        have h1:=hall e he hb
        have h0:=(mem_ready.1 hr).1
        rw[heq] at h1
        rw[getD_both h0] at h1
        cases h1
      have hap:=hfree j oj hoj hji hjun hnot
      have hfree':∀k ok,ops[k]? =some ok->k≠i->(listed.setIfInBounds j true).getD k true=false->
          (∀e∈ok.after,Region.binds md e=true->e.on≠i)->oi.apart ops ok=true:=λk ok hk hki hun hno=>by
        refine hfree k ok hk hki ?_ hno
        by_cases hjk:j=k
        · subst hjk;exact hjun
        · rw[getD_set_ne true hjk] at hun;exact hun
      cases hqj:qs j with
      |true=>
        simp only[hqj,if_true] at h1 ⊢
        -- a step that leaves the world
        have hy':=hy
        obtain⟨g1,g2,g3⟩:=Oper.apart_spec hap
        have keep:∀(a:Act),Yields P ops oi v a->∀u,Yields P ops oi v (a.put oj.dst u):=λa hy u=>
          hy.of_same (execOp_put oi (λcs b=>hsel i oi cs b hi) a oj.dst u g3) (wanted_put oi a oj.dst u g3)
        obtain⟨u,hyu,hK⟩:=yieldsAt_of_stOp hoj h1
        have hyj:YieldsAt P ops w oj u a:=by
          rcases hyu with⟨k1,k2⟩|⟨k1,k2⟩
          · refine .inl ⟨by rw[<-wanted_put oj a oi.dst v g1];exact k1,?_⟩
            rw[execOp_put oj (λcs b=>hsel j oj cs b hoj) a oi.dst v g1] at k2
            exact k2
          · exact .inr ⟨by rw[<-wanted_put oj a oi.dst v g1];exact k1,k2⟩
        refine hyj.stOp hoj (ih (listed.setIfInBounds j true) (a.put oj.dst u) w hfree' (ready_mono hr (Ne.symm hji)) (keep a hy u) ?_)
        rw[<-Act.put_comm a v u g2,Array.setIfInBounds_comm _ _ hji]
        exact hK
      |false=>
        simp only[hqj,Bool.false_eq_true,if_false] at h1 ⊢
        have h2:=wpOp_put hoj hap (λcs b=>hsel i oi cs b hi) (λcs b=>hsel j oj cs b hoj) hQ hy h1
        refine wpOp_mono (λa' w' h3=>ih (listed.setIfInBounds j true) a' w' hfree' (ready_mono hr (Ne.symm hji)) h3.1 ?_) h2
        rw[Array.setIfInBounds_comm _ _ hji]
        exact h3.2
end
section
variable{P:Program}{n:Nat}{l:List Oper}{qs:List Nat}{K:Fr->World->Prop}{f:Fr}{w:World}{done:List Nat}{fuel:Nat}
def sJ(P:Program)(n:Nat)(l:List Oper)(qs:List Nat)(K:Fr->World->Prop)(fuel:Nat)(done:List Nat)(f:Fr)(w:World):Prop:=
  ∀a,Ag n a f->ol P .any l.toArray (λi=>decide (i∈qs)) (λe a' w'=>e= .normal/\∃f',Ag n a' f'/\K f' w') fuel (bW l.length done) a w
theorem jN{fid:Nat}{R:Ending->World->Prop}{k:List Item}{id:Nat}(γ:aH)(qs:List Nat)(hm:P.follows .mixedOrders=true)
   (h:∀w1,b5 no γ w γ w1->sJ P n l qs (fh P fid n R k) l.length [] f w1):fh P fid n R (.code (.region id l.toArray true)::k) f w:=
 iE λa ha=>wp_region_any hm (by
   have h0:=gn _ _ _ _ (h _ (b5.refl _ _ _).drew a ha)
   have hmask:bW l.length []=Array.replicate l.toArray.size false:=by
     apply Array.ext
     · simp[bW]
     · intro j h1 h2;simp[bW]
   rw[hmask] at h0
   simpa using h0)
def gM(l:List Oper)(done:List Nat)(i:Nat):Bool:=
 !done.contains i&&match l[i]? with
   |some o=>o.after.all λe=> !Region.binds .any e||done.contains e.on&&decide (e.on<l.length)
   |none=>false
def jM(l:List Oper)(done:List Nat)(i:Nat):Bool:=
 match l[i]? with
 |none=>false
 |some oi=>(List.range l.length).all λj=>j==i||done.contains j||match l[j]? with
     |some oj=>oj.after.any (λe=>Region.binds .any e&&e.on==i)||oi.apart l.toArray oj
     |none=>true
def nm(l:List Oper)(qs done M:List Nat)(i:Nat):Bool:=
  ((List.range l.length).all λj=>M.contains j||j==i||match l[j]? with
      |some oj=>oj.after.any λe=>Region.binds .any e&& !M.contains e.on
      |none=>true)&&
  (M.all λj=>j==i||done.contains j||qs.contains j)&&(done.all λj=>M.contains j&&decide (j<l.length))&&M.all λj=>decide (j<l.length)
def hU(l:List Oper):Bool:=Region.noSelect l.toArray
theorem ga{i:Nat}(h:gM l done i=true):i<l.length/\i∈Region.ready .any l.toArray (bW l.length done):=by
 unfold gM at h
 simp only[Bool.and_eq_true,Bool.not_eq_true'] at h
 obtain⟨h1,h2⟩:=h
 split at h2
 · rename_i o ho
   have hlt:i<l.length:=(List.getElem?_eq_some_iff.1 ho).1
   refine⟨hlt,mem_ready.2 ⟨by rw[cZ];simp[hlt];simpa using h1,o,by simpa using ho,λe he hb=>?_⟩⟩
   have h3:=Array.all_eq_true_iff_forall_mem.1 h2 e he
   simp only[hb,Bool.not_true,Bool.false_or,Bool.and_eq_true,decide_eq_true_eq] at h3
   rw[cZ,if_pos h3.2]
   simpa using h3.1
 · cases h2
theorem gC{i:Nat}{oi:Oper}(hi:l[i]? =some oi)(h:jM l done i=true)(j:Nat)(oj:Oper)(hj:l.toArray[j]? =some oj)(hne:j≠i)(hun:(bW l.length done).getD j true=false)
   (hno:∀e∈oj.after,Region.binds .any e=true->e.on≠i):oi.apart l.toArray oj=true:=by
 have hj':l[j]? =some oj:=by simpa using hj
 have hlt:j<l.length:=(List.getElem?_eq_some_iff.1 hj').1
 unfold jM at h
 simp only[hi,List.all_eq_true,List.mem_range] at h
 have h1:=h j hlt
 rw[cZ,if_pos hlt] at hun
 have hd:done.contains j=false:=by simpa using hun
 simp only[hj',Bool.or_eq_true,beq_iff_eq,hne,false_or,hd,Bool.false_eq_true] at h1
 rcases h1 with h1|h1
 · obtain⟨e,he,hb⟩:=Array.any_eq_true'.1 h1
   simp only[Bool.and_eq_true,beq_iff_eq] at hb
   exact absurd hb.2 (hno e he hb.1)
 · exact h1
theorem jJ(h:hU l=true):∀(j:Nat) (o:Oper) cs b,l.toArray[j]? =some o->o.op≠ .select cs b:=Region.noSelect_spec h
theorem pw{i:Nat}(h:qs.contains i=true):decide (i∈qs)=true:=by simpa using h
variable{dst:Option Tmp}{op:Op}{ty:TypeId}{pos:String}{after:Array Edge}{g:Option (Nat×Bool)}{v:Value}
theorem zC(i:Nat)(M:List Nat)(hi:l[i]? =some ⟨dst,op,ty,pos,after,g⟩)(hn:hU l=true)(hc:(qs.contains i&&gM l done i&&jM l done i&&nm l qs done M i&&nI n ⟨dst,op,ty,pos,after,g⟩)=true)
    (hw:cU l ⟨dst,op,ty,pos,after,g⟩ f=true)(h:(execOp (ev f) ⟨dst,op,ty,pos,after,g⟩).run P w= .ok (.value v) w)(hk:sJ P n l qs K fuel (i::done) (gX f dst v) w):sJ P n l qs K (fuel+1) done f w:=by
  simp only[Bool.and_eq_true] at hc
  obtain⟨⟨⟨⟨hq,hr⟩,hf⟩,hb⟩,hd⟩:=hc
  obtain⟨hlt,hr'⟩:=ga hr
  intro a ha
  unfold nm at hb
  simp only[Bool.and_eq_true,List.all_eq_true,List.mem_range] at hb
  obtain⟨⟨⟨b1,b2⟩,b3⟩,b4⟩:=hb
  have hgM:∀j,(bW l.length M).getD j false=true↔j∈M:=λj=>by
    rw[cZ]
    by_cases hjl:j<l.length
    · simp[hjl]
    · simp only[hjl,if_false,Bool.false_eq_true,false_iff]
      exact λhm=>hjl (by simpa using b4 j hm)
  refine pG (v:=v) (M:=bW l.length M) (D:=bW l.length done) (by simpa using hi) (jJ hn) (pw hq) (λj oj hj hm hne=>?_) (λj oj hj hm hD hne=>?_) fuel _ a (by simp[bW]) (λj hj=>?_) (λj hj=>hj) (gC hi hf) hr' ?_ ?_
  · have hj':l[j]? =some oj:=by simpa using hj
    have hjl:j<l.length:=(List.getElem?_eq_some_iff.1 hj').1
    have h1:=b1 j hjl
    have hmM:M.contains j=false:=by
      cases hc:M.contains j with
      |false=>rfl
      |true=>have h9:=(hgM j).2 (by simpa using hc);rw[hm] at h9;cases h9
    simp only[hmM,hj',Bool.false_or,Bool.or_eq_true,beq_iff_eq,hne,false_or] at h1
    obtain⟨e,he,hbb⟩:=Array.any_eq_true'.1 h1
    simp only[Bool.and_eq_true,Bool.not_eq_true'] at hbb
    refine⟨e,he,hbb.1,?_⟩
    cases hc:(bW l.length M).getD e.on false with
    |false=>rfl
    |true=>
      have:=(hgM _).1 hc
      have h2:=hbb.2
      simp[this] at h2
  · have h1:=b2 j ((hgM j).1 hm)
    have hj':l[j]? =some oj:=by simpa using hj
    have hjl:j<l.length:=(List.getElem?_eq_some_iff.1 hj').1
    rw[cZ,if_pos hjl] at hD
    have hd:done.contains j=false:=by simpa using hD
    simp only[Bool.or_eq_true,beq_iff_eq,hne,hd,false_or,Bool.false_eq_true] at h1
    exact pw h1
  · rw[cZ] at hj
    split at hj
    · have h1:=b3 j (by simpa using hj)
      exact(hgM j).2 (by simpa using h1.1)
    · cases hj
  · refine .inl ⟨?_,.inl ?_⟩
    · rw[ha.yielded];exact hw
    · rw[ha.eval];exact h
  · rw[ew done hlt]
    exact hk _ (ha.put hd v)
theorem y6(i:Nat)(hi:l[i]? =some ⟨dst,op,ty,pos,after,g⟩)(hn:hU l=true)(hc:(qs.contains i&&gM l done i&&jM l done i&&nI n ⟨dst,op,ty,pos,after,g⟩)=true)
    (hw:cU l ⟨dst,op,ty,pos,after,g⟩ f=true)(h:∀w,(execOp (ev f) ⟨dst,op,ty,pos,after,g⟩).run P w= .ok (.value v) w)(hk:sJ P n l qs K fuel (i::done) (gX f dst v) w):sJ P n l qs K (fuel+1) done f w:=by
  simp only[Bool.and_eq_true] at hc
  obtain⟨⟨⟨hq,hr⟩,hf⟩,hd⟩:=hc
  obtain⟨hlt,hr'⟩:=ga hr
  intro a ha
  refine rU (v:=v) (by simpa using hi) (jJ hn) (pw hq) (λc a w h=>by cases h.1) fuel _ a w (gC hi hf) hr' (.inl ⟨by rw[ha.yielded];exact hw,λw=>by rw[ha.eval];exact h w⟩) ?_
  rw[ew done hlt]
  exact hk _ (ha.put hd v)
theorem kH{i:Nat}{o:Oper}{a:Act}{K':Act->World->Prop}{Q:Exit->Act->World->Prop}{N:Value->World->Prop}(ha:Ag n a f)(hi:l[i]? =some o)(hw:cU l o f=true)(h:gF P o f w N)(hN:∀v w',N v w'->K' (a.put o.dst v) w'):wpOp P l.toArray Q i K' a w:=by
 unfold wpOp
 have hi':l.toArray[i]? =some o:=by simpa using hi
 simp only[hi']
 have hw':Region.wanted o (yielded l.toArray a.tmps)=true:=by rw[ha.yielded];exact hw
 simp only[hw',if_true]
 refine .inl ?_
 unfold Oper.wp
 rw[ha.eval]
 unfold gF at h
 generalize(execOp (ev f) o).run P w=r at*
 cases r with
 |halt x w'=>exact h.elim
 |ok nx w'=>
   cases nx<;>simp only[uX] at h<;>simp only[Oper.upon]
   case value v=>exact hN _ _ h
   case skip=>exact hN _ _ h
   case enter g args=>
     refine h.mono λe w'' he=>?_
     cases e with
     |returned v=>exact hN _ _ he
     |panicked c=>exact he.elim
     |outgrown=>exact he.elim
theorem ra(i:Nat)(hi:l[i]? =some ⟨dst,op,ty,pos,after,g⟩)(hc:(decide (Region.ready .any l.toArray (bW l.length done)=[i])&& !qs.contains i&&nI n ⟨dst,op,ty,pos,after,g⟩)=true)
    (hw:cU l ⟨dst,op,ty,pos,after,g⟩ f=true)(h:gF P ⟨dst,op,ty,pos,after,g⟩ f w (λv w'=>sJ P n l qs K fuel (i::done) (gX f dst v) w')):sJ P n l qs K (fuel+1) done f w:=by
  simp only[Bool.and_eq_true,decide_eq_true_eq,Bool.not_eq_true'] at hc
  obtain⟨⟨hr,hq⟩,hd⟩:=hc
  have hlt:i<l.length:=(List.getElem?_eq_some_iff.1 hi).1
  intro a ha
  refine⟨λh0=>(by rw[hr] at h0;cases h0),λj hj=>?_⟩
  rw[hr] at hj
  obtain rfl:j=i:=by simpa using hj
  have hq':decide (j∈qs)=false:=by simpa using hq
  simp only[hq',Bool.false_eq_true,if_false]
  refine kH ha hi hw h λv w' hk=>?_
  rw[ew done hlt]
  exact hk _ (ha.put hd v)
theorem xX(hr:decide (Region.ready .any l.toArray (bW l.length done)=[])=true)(h:K f w):sJ P n l qs K 0 done f w:=λ_ ha=>⟨of_decide_eq_true hr,rfl,f,ha,h⟩
end
end TL
