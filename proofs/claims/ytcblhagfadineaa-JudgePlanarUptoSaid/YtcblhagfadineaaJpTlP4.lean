/- Plain texts of this claim, part 4. By an AI agent. -/
import Derived.Test.YtcblhagfadineaaJpTlP3
import Derived.RowKit
/-
  TlPost: what is owed behind a law that returns true and writes nothing of the caller's.
  By an AI agent.
-/
namespace TL
open Go Go.Proofs Go.ChangeShapes Go.WideShapes Go.RowKit
def rt(P:Program)(ts:List TypeId):Bool:=ts.all λt=>P.readableRec t&&decide (t<P.types.size)
theorem mg{H:Type}{enc:TypeId×Value->H}{P:Program}(hl:laidOutB P=true){W W':World}(hb:Below W.heap.size W W')(sp:Nat->Bool):
   ∀{ts:List TypeId} {vs:List Value} {ds:List (DataW H)} {ps:List MemPlace},rt P ts=true->DataW.TrodAll enc P W 0 (λ_=>true) true ts vs ds ps->(∀p∈ps,p.block<W.heap.size)->(∀p∈ps,sp p.block=true)->DataW.TrodAll enc P W' 0 sp true ts vs ds ps
 |[],[],[],_,_,h,_,_=>h
 |[],[],_::_,_,_,h,_,_=>h.elim
 |[],_::_,_,_,_,h,_,_=>by cases‹List (DataW H)›<;>exact h.elim
 |_::_,[],_,_,_,h,_,_=>by cases‹List (DataW H)›<;>exact h.elim
 |_::_,_::_,[],_,_,h,_,_=>h.elim
 |t::ts,v::vs,d::ds,ps,hr,h,hlt,hsp=>by
   obtain⟨p,q,h1,h2,rfl⟩:=h
   simp only[rt,List.all_cons,Bool.and_eq_true,decide_eq_true_eq] at hr
   exact⟨p,q,WideElems.Trod_stays hl hr.1.1 hr.1.2 h1 (λx hx=>hb.same (hlt x (by simp[hx]))) (λx hx=>hsp x (by simp[hx])),
     mg hl hb sp hr.2 h2 (λx hx=>hlt x (by simp[hx])) (λx hx=>hsp x (by simp[hx])),rfl⟩
theorem ux{H:Type}{enc:TypeId×Value->H}{P:Program}{f:Func}{s:ChangeSpec}{W W':World}{args:Array Value}{ds gs:List (DataW H)}{before:List MemPlace}{tb:TypeId}
   (hl:laidOutB P=true)(hr:rt P f.params.toList=true)(hv:s.vars=[])(hrt:f.resultTypes= #[tb])(htb:P.underlying tb=some .bool)
   (hW:DataW.Whole enc P f.params.toList s.vars false W args.toList ds gs before)(hfn:s.fn H (ds++gs)={results:=[.lit (.bool true)],args:=ds})(hB:Below W.heap.size W W'):
   s.post enc P f false true false false W args (.bool true) W':=by
 have hlt:=hW.lt
 have hW0:=hW
 obtain⟨p,q,hA,hV,rfl,hfz,_⟩:=hW
 rw[hv] at hV
 obtain⟨rfl,rfl⟩:=trodVars_none hV
 simp only[List.append_nil] at hlt hfz hW0 hfn
 have hres:∀(b:Nat) (sp:Nat->Bool) (hd:Bool),DataW.TrodAll enc P W' b sp hd f.resultTypes.toList ((Value.bool true).resultList f.resultTypes.size) (s.fn H (ds++[])).results []:=λb sp hd=>by
   rw[hrt,List.append_nil,hfn]
   exact trodAll_cons_mk (shut_bool htb true) trodAll_mk0
 have hargs:∀sp:Nat->Bool,(∀x∈p,sp x.block=true)->DataW.TrodAll enc P W' 0 sp true f.params.toList args.toList (s.fn H (ds++[])).args p:=λsp hsp=>by
   rw[List.append_nil,hfn]
   exact mg hl hB sp hr hA hlt hsp
 have hvars:∀sp:Nat->Bool,DataW.TrodVars enc P W' sp s.vars (s.fn H (ds++[])).vars []:=λsp=>by
   rw[List.append_nil,hfn,hv]
   rfl
 refine⟨ds,[],p,[],p,[],hW0,hres _ _ _,hargs _ (λx hx=>by simpa using hlt x hx),hvars _,World.keptBut_mono (λx hx=>⟨hx,Or.inr (by simpa using hx)⟩) (hB.frame _),λ_=>?_⟩
 refine⟨?_,_,_,([]++p)++[],⟨[]++p,[],trodAll_append (hargs _ (λ_ _=>rfl)) (hres _ _ _),hvars _,rfl,?_,?_⟩,?_⟩
 · exact ok_one hrt rfl (okWide_bool_mk htb true)
 · intro b off hp
   have hp':MemPlace.cell b off∈p:=by simpa using hp
   rw[hB.frozen (p:=⟨b,off,none⟩) (hlt _ hp')]
   exact hfz b off hp'
 · intro ha;cases ha
 · intro x hx _
   simpa using hx
end TL
/-
  TlOpenL: arguments that are plots: a list of points, and a list of lists of points; whole numbers in their range.
  By an AI agent.
-/
set_option linter.all false
namespace TL
open Go Go.Proofs Go.ChangeShapes Go.WideShapes Go.Joins Go.Deep
def sr(α:Type)[Rp α](Q:α->Prop)(P:Program)(t:TypeId):Prop:=
  ∀{H:Type} (enc:TypeId×Value->H) (w:World) (fuel:Nat) (cs:List Value) (x:DataW H×List MemPlace),DataW.trod enc P w 0 (λ_=>true) true fuel t cs=some x->∃y:α,Rp.rep c0 any w cs y/\Q y
def Au(n:Int):Prop:= -9223372036854775808<=n/\n<=9223372036854775807
theorem rn{P:Program}{t:TypeId}(ht:P.underlying t=some (.int .i64)):sr Int Au P t:=by
 intro H enc w fuel cs x h
 obtain⟨n,rfl,_,hw⟩:=DataW.trod_int ht h
 refine⟨n,rfl,?_⟩
 simp only[Lit.wf,Bool.and_eq_true,decide_eq_true_eq] at hw
 have e1:IntKind.i64.min= -9223372036854775808:=by decide
 have e2:IntKind.i64.max=9223372036854775807:=by decide
 unfold Au
 omega
theorem zp{P:Program}{t e:TypeId}{f0 f1:Field}(hs:P.underlying t=some (.struct #[f0,f1]))(hone:oneCellFields P #[f0,f1]=true)(hC:P.cellsOf t=2)(h0:f0.type=e)(h1:f1.type=e)(he:P.underlying e=some (.int .i64)):sr (Int×Int) xi P t:=by
 intro H enc w fuel cs x h
 obtain⟨y0,y1,n,_,hl,k0,k1⟩:=trod_struct2 hs h
 obtain⟨o0,c0⟩:=hone_of hone 0 f0 rfl
 obtain⟨o1,c1⟩:=hone_of hone 1 f1 rfl
 rw[hC] at hl
 match cs,hl with
 |[v0,v1],_=>
   have k0':DataW.trod enc P w 0 (λ_=>true) true n f0.type [v0]=some y0:=by simpa[o0,c0] using k0
   have k1':DataW.trod enc P w 0 (λ_=>true) true n f1.type [v1]=some y1:=by simpa[o1,c1] using k1
   rw[h0] at k0'
   rw[h1] at k1'
   obtain⟨a,ha,qa⟩:=rn he enc w n [v0] y0 k0'
   obtain⟨b,hb,qb⟩:=rn he enc w n [v1] y1 k1'
   exact⟨(a,b),⟨[v0],[v1],rfl,ha,hb⟩,qa,qb⟩
theorem mO{α:Type}[Rp α][Inhabited α]{Q:α->Prop}{P:Program}{t e:TypeId}(ht:P.underlying t=some (.slice e))(hc:P.cellsOf e=Rp.sz α)(hz:0<Rp.sz α)(he:sr α Q P e)
   {H:Type}{enc:TypeId×Value->H}{w:World}{f:DataW H->Nat}(hf:j9 f){fuel:Nat}{v:Value}{x:DataW H×List MemPlace}
   (hs:∀a len cap,v= .slice (some a) len cap->a.spot=none)(h:DataW.trod enc P w 0 (λ_=>true) true fuel t [v]=some x)(hb:f x.1<=1048576):∃xs:List α,Ro w v xs/\(∀y∈xs,Q y)/\xs.length<=1048576:=by
 rcases Deep.open_slice ht h with⟨h0,_⟩|⟨a,len,cap,m,n,D,Pl,h0,_,hlc,_,hm,rfl,hx⟩
 · obtain rfl:v= .slice none 0 0:=by simpa using h0
   exact⟨[],.inl ⟨⟨_,rfl⟩,rfl⟩,λy hy=>(by cases hy),by simp⟩
 · obtain rfl:v= .slice (some a) len cap:=by simpa using h0
   have hsp:=hs a len cap rfl
   obtain⟨b,off,spot⟩:=a
   obtain rfl:spot=none:=hsp
   simp only[if_true] at hm
   subst hm
   obtain⟨Y,hY⟩:=Deep.choose_lt (α:=α) (n:=len) (p:=λi y=>(∃cs,(∀j,j<Rp.sz α->w.cell? ⟨b,off+i*Rp.sz α+j,none⟩=cs[j]?)/\Rp.rep c0 any w cs y)/\Q y) (λi hi=>by
     obtain⟨cs',h1,h2⟩:=hx i (by omega)
     obtain⟨y,hy,hq⟩:=he enc w n cs' _ h2
     refine⟨y,⟨cs',λj hj=>?_,hy⟩,hq⟩
     obtain⟨_,hl,hcell⟩:=World.cells?_some h1
     have:=hcell j (by omega)
     rw[Deep.add_add,hc] at this
     rw[<-this]
     unfold Addr.add
     by_cases hij:i*Rp.sz α+j=0
     · rw[if_pos hij,Nat.add_assoc,hij];rfl
     · rw[if_neg hij,Nat.add_assoc])
   have hlen:((List.range len).map Y).length=len:=by simp
   have hbound:=Nat.le_trans (hf.slice _ _) hb
   have hll:len<=1048576:=by simp at hbound;omega
   refine⟨(List.range len).map Y,.inr ⟨b,off,m,by rw[hlen],⟨by omega,by omega⟩,λi y hi=>?_⟩,λy hy=>?_,by omega⟩
   · have hil:i<len:=by
       have:=(List.getElem?_eq_some_iff.1 hi).1
       omega
     obtain rfl:Y i=y:=by simpa[hil] using hi
     obtain⟨⟨cs,h1,h2⟩,_⟩:=hY i hil
     refine⟨?_,trivial,cs,h1,h2⟩
     have h3:=h1 0 hz
     have h4:=Rp.len h2
     have h5:0<cs.length:=by omega
     rw[List.getElem?_eq_getElem h5] at h3
     by_cases hbl:b<w.heap.size
     · exact hbl
     · have:w.heap[b]? =none:=Array.getElem?_eq_none (by omega)
       simp[World.cell?,this] at h3
   · obtain⟨i,hi,rfl⟩:=List.mem_map.1 hy
     exact(hY i (List.mem_range.1 hi)).2
theorem ss{α:Type}[Rp α][Inhabited α]{Q:α->Prop}{P:Program}{e q:TypeId}(he:P.underlying e=some (.slice q))(hc:P.cellsOf q=Rp.sz α)(hz:0<Rp.sz α)(hq:sr α Q P q)
    {H:Type}{enc:TypeId×Value->H}{w:World}{f:DataW H->Nat}(hf:j9 f){fuel:Nat}{u:Value}{x:DataW H×List MemPlace}
    (h:DataW.trod enc P w 0 (λ_=>true) true fuel e [u]=some x)(hb:f x.1<=1048576):∃xs:List α,Ro w u xs/\(∀y∈xs,Q y)/\xs.length<=1048576:=by
  have h':=h
  rcases Deep.open_slice he h with⟨h0,_⟩|⟨a,len,cap,m,n,D,Pl,h0,_,hlc,_,hm,rfl,hx⟩
  · obtain rfl:u= .slice none 0 0:=by simpa using h0
    exact⟨[],.inl ⟨⟨_,rfl⟩,rfl⟩,λy hy=>(by cases hy),by simp⟩
  · obtain rfl:u= .slice (some a) len cap:=by simpa using h0
    simp only[if_true] at hm
    subst hm
    by_cases hc0:m=0
    · have hl:len=0:=by omega
      subst hl hc0
      exact⟨[],.inl ⟨⟨_,rfl⟩,rfl⟩,λy hy=>(by cases hy),by simp⟩
    · obtain⟨cs',h1,h2⟩:=hx 0 (by omega)
      obtain⟨_,hl,hcell⟩:=World.cells?_some h1
      have h3:=hcell 0 (by omega)
      have h4:0<cs'.length:=by omega
      rw[List.getElem?_eq_getElem h4] at h3
      have hs:a.spot=none:=by
        have:=World.cell?_spot h3
        simpa[Addr.add] using this
      exact mO he hc hz hq hf (by rintro a' len' cap' e';cases e';exact hs) h' hb
theorem s4{α:Type}[Rp α][Inhabited α]{Q:α->Prop}{P:Program}{t e q:TypeId}(ht:P.underlying t=some (.slice e))(he:P.underlying e=some (.slice q))(hce:P.cellsOf e=1)(hc:P.cellsOf q=Rp.sz α)(hz:0<Rp.sz α)(hq:sr α Q P q)
    {H:Type}{enc:TypeId×Value->H}{w:World}{f:DataW H->Nat}(hf:j9 f){fuel:Nat}{v:Value}{x:DataW H×List MemPlace}
    (hs:∀a len cap,v= .slice (some a) len cap->a.spot=none)(h:DataW.trod enc P w 0 (λ_=>true) true fuel t [v]=some x)(hb:f x.1<=1048576):∃xss:List (List α),Ro w v xss/\(∀l∈xss,(∀y∈l,Q y)/\l.length<=1048576)/\xss.length<=1048576:=by
  rcases Deep.open_slice ht h with⟨h0,_⟩|⟨a',len,cap,m,n,D,Pl,h0,_,hlc,_,hm,hd,hx⟩
  · obtain rfl:v= .slice none 0 0:=by simpa using h0
    exact⟨[],.inl ⟨⟨_,rfl⟩,rfl⟩,λl hl=>(by cases hl),by simp⟩
  · obtain rfl:v= .slice (some a') len cap:=by simpa using h0
    have hsp:=hs a' len cap rfl
    obtain⟨b,off,spot⟩:=a'
    obtain rfl:spot=none:=hsp
    simp only[if_true] at hm
    subst hm hd
    have hbound:=Nat.le_trans (hf.slice _ _) hb
    obtain⟨Y,hY⟩:=Deep.choose_lt (α:=List α) (n:=len) (p:=λi y=>(∃cs,(∀j,j<Rp.sz (List α)->w.cell? ⟨b,off+i*Rp.sz (List α)+j,none⟩=cs[j]?)/\Rp.rep c0 any w cs y)/\(∀z∈y,Q z)/\y.length<=1048576) (λi hi=>by
      obtain⟨cs',h1,h2⟩:=hx i (by omega)
      obtain⟨_,hl,hcell⟩:=World.cells?_some h1
      rw[hce] at hl
      obtain⟨u,rfl⟩:∃u,cs'=[u]:=by
        match cs',hl with
        |[u],_=>exact⟨u,rfl⟩
      obtain⟨y,hy,hyl⟩:=ss he hc hz hq hf h2 (Nat.le_trans (hf.elem _ _ _ (by simp;exact⟨i,hi,rfl⟩)) hb)
      refine⟨y,⟨[u],λj hj=>?_,u,rfl,hy⟩,hyl⟩
      have hj0:j<1:=hj
      have:=hcell j (by rw[hce];exact hj0)
      rw[Deep.add_add,hce] at this
      rw[<-this]
      show w.cell? ⟨b,off+i*1+j,none⟩=_
      unfold Addr.add
      by_cases hij:i*1+j=0
      · rw[if_pos hij,Nat.add_assoc,hij];rfl
      · rw[if_neg hij,Nat.add_assoc])
    have hlen:((List.range len).map Y).length=len:=by simp
    have hll:len<=1048576:=by simp at hbound;omega
    refine⟨(List.range len).map Y,.inr ⟨b,off,m,by rw[hlen],⟨by omega,by omega⟩,λi y hi=>?_⟩,λl hl=>?_,by omega⟩
    · have hil:i<len:=by
        have:=(List.getElem?_eq_some_iff.1 hi).1
        omega
      obtain rfl:Y i=y:=by simpa[hil] using hi
      obtain⟨⟨cs,h1,h2⟩,_⟩:=hY i hil
      refine⟨?_,trivial,cs,h1,h2⟩
      have h3:=h1 0 Nat.zero_lt_one
      have h4:=Rp.len h2
      have h5:0<cs.length:=by rw[h4];exact Nat.zero_lt_one
      rw[List.getElem?_eq_getElem h5] at h3
      by_cases hbl:b<w.heap.size
      · exact hbl
      · have:w.heap[b]? =none:=Array.getElem?_eq_none (by omega)
        simp[World.cell?,this] at h3
    · obtain⟨i,hi,rfl⟩:=List.mem_map.1 hl
      exact(hY i (List.mem_range.1 hi)).2
theorem tR{P:Program}{t t0 t1 e q:TypeId}{f0 f1:Field}(hs:P.underlying t=some (.struct #[f0,f1]))(hone:oneCellFields P #[f0,f1]=true)(hC:P.cellsOf t=2)(hts:P.cellTypes P.depth t=some [t0,t1])
    (h0:f0.type=t0)(h1:f1.type=t1)(ht0:P.underlying t0=some (.slice q))(ht1:P.underlying t1=some (.slice e))(he:P.underlying e=some (.slice q))(hce:P.cellsOf e=1)(hcq:P.cellsOf q=2)(hq:sr (Int×Int) xi P q)
    {H:Type}{enc:TypeId×Value->H}{w:World}{f:DataW H->Nat}(hf:j9 f){base:Nat}{v:Value}{d:DataW H}{p:List MemPlace}
    (hval:Value.okWide P w .any base t v)(h:DataW.Trod enc P w 0 (λ_=>true) true t v d p)(hb:f d<=1048576):∃(u0 u1:Value) (xs:List (Int×Int)) (xss:List (List (Int×Int))),v= .agg #[u0,u1]/\Ro w u0 xs/\Ro w u1 xss/\yr (xs,xss):=by
  obtain⟨v0,v1,y0,y1,n,rfl,rfl,rfl,r0,r1⟩:=open_agg2 hs hone hC hval h
  subst h0 h1
  simp only[Value.okWide,hs] at hval
  obtain⟨cs,hcs,_,ts,h3,_,h4⟩:=hval
  rw[hts] at h3
  obtain rfl:=Option.some.inj h3
  obtain rfl: #[v0,v1]=cs:=by simpa using hcs
  obtain⟨t0',hu0,hk0⟩:=h4 0 v0 rfl
  obtain⟨t1',hu1,hk1⟩:=h4 1 v1 rfl
  simp at hu0 hu1
  subst hu0 hu1
  obtain⟨xs,hx,hxq,hxl⟩:=mO (α:=Int×Int) ht0 (by rw[hcq];rfl) (by decide) hq hf (gQ ht0 hk0) (x:=y0) r0 (Nat.le_trans (hf.part _ _ (by simp)) hb)
  obtain⟨xss,hy,hyq,hyl⟩:=s4 (α:=Int×Int) ht1 he hce (by rw[hcq];rfl) (by decide) hq hf (gQ ht1 hk1) (x:=y1) r1 (Nat.le_trans (hf.part _ _ (by simp)) hb)
  exact⟨v0,v1,xs,xss,rfl,hx,hy,⟨by show(xs.length:Int)<=_;omega,by show(xss.length:Int)<=_;omega,λl hl=>(hyq l hl).2⟩,hxq,λl hl=>(hyq l hl).1⟩
end TL
