/- Plain texts of this claim, part 2. By an AI agent. -/
import Derived.Test.YtbpphaeianpdpaaPnTlP1
import Derived.Carry
import Derived.Deep.Slices
import Derived.Lib.SmallJoins
import Derived.RowKit
import Derived.Shelf.SlSortCmp.Whole1
import Derived.Shelf.Sort.Plain
/-
  TlDij2: the ways that lead back: their halves follow one another, and their weights come to the length that is told; no half-edge leads nearer.
  By an AI agent.
-/
set_option linter.all false
namespace TL
variable{g:aL}{ws:List Nat}{s:Int}{far:List Nat}{by_:List Int}{rk:Int->Nat}
inductive WayP (g:aL) (s:Int):List Int->Int->Prop
  |nil:WayP g s [] s
  |snoc {p:List Int} {h:Int} (hh:hf g h) (hp:WayP g s p (aH g h)):WayP g s (p++[h]) (cz g h)
def eL(ws:List Nat)(p:List Int):Nat:=p.foldl (λa h=>aK a (zw ws h)) 0
theorem gm(ws:List Nat)(p:List Int)(h:Int):eL ws (p++[h])=aK (eL ws p) (zw ws h):=by unfold eL;rw[List.foldl_append];rfl
theorem j8.back(hm:bj g)(E:j8 g ws s far by_ rk):∀(f:Nat) (v:Int) (l:List Int),nd g v->gI far v<aD->rk v<=f->∃p,cV g by_ f v l=(p++l,0)/\WayP g s p v/\eL ws p=gI far v
 |f,v,l,hv,hfar,hr=>by
   by_cases c:gI by_ v= -1
   · have hs:=(E.rt v hv c).resolve_right (by omega)
     refine⟨[],?_,by rw[hs];exact .nil,by rw[hs,E.s0];rfl⟩
     cases f<;>(unfold cV;rw[if_pos c];rfl)
   · obtain⟨a1,a2,a3,a4,a5,a6⟩:=E.tr v hv c
     cases f with
     |zero=>omega
     |succ f=>
       obtain⟨p,b1,b2,b3⟩:=E.back hm f (aH g (gI by_ v)) (gI by_ v::l) (bN hm a1.1 a1.2) a3 (by omega)
       refine⟨p++[gI by_ v],?_,?_,?_⟩
       · unfold cV
         rw[if_neg c,if_neg (by
           rintro(k|k|k)
           · have:=a1.1;omega
           · have:=a1.2;omega
           · exact k a2),b1,List.append_assoc];rfl
       · have:=WayP.snoc a1 b2
         rw[a2] at this;exact this
       · rw[gm,b3,a4]
theorem WayP.halves{p:List Int}{v:Int}(h:WayP g s p v):∀x∈p,hf g x:=by
 induction h with
 |nil=>intro x hx;cases hx
 |snoc hh _ ih=>
   intro x hx
   rcases List.mem_append.1 hx with k|k
   · exact ih x k
   · rw[List.mem_singleton.1 k];exact hh
theorem WayP.last{p:List Int}{v:Int}(h:WayP g s p v):(p=[]/\v=s)\/(0<p.length/\cz g (gI p ((p.length:Int)-1))=v):=by
 cases h with
 |nil=>exact .inl ⟨rfl,rfl⟩
 | @snoc p h hh hp=>
   right
   refine⟨by simp,?_⟩
   have:gI (p++[h]) (((p++[h]).length:Int)-1)=h:=by
     have e:(((p++[h]).length:Int)-1).toNat=p.length:=by rw[List.length_append,List.length_singleton];omega
     unfold gI;rw[e];simp
   rw[this]
theorem WayP.first{p:List Int}{v:Int}(h:WayP g s p v)(hp:0<p.length):aH g (gI p 0)=s:=by
 induction h with
 |nil=>simp at hp
 | @snoc p h hh hp' ih=>
   by_cases c:0<p.length
   · have:gI (p++[h]) ((0:Nat):Int)=gI p ((0:Nat):Int):=by unfold gI;simp only[Int.toNat_natCast,List.getD_eq_getElem?_getD,List.getElem?_append_left c]
     change gI (p++[h]) 0=gI p 0 at this
     rw[this];exact ih c
   · obtain rfl:p=[]:=List.length_eq_zero_iff.1 (by omega)
     have:gI ([]++[h]) 0=h:=rfl
     rw[this]
     rcases hp'.last with k|k
     · exact k.2
     · have:=k.1;simp at this
def ja(g:aL)(p:List Int):Prop:=∀i:Nat,i<p.length->hf g (gI p (i:Int))/\(i+1<p.length->cz g (gI p (i:Int))=aH g (gI p ((i:Int)+1)))
theorem WayP.chain{p:List Int}{v:Int}(h:WayP g s p v):ja g p:=by
 induction h with
 |nil=>intro i hi;simp at hi
 | @snoc p h hh hp ih=>
   have e1:∀j:Nat,j<p.length->gI (p++[h]) (j:Int)=gI p (j:Int):=by
     intro j hj;unfold gI;simp[List.getD_eq_getElem?_getD,List.getElem?_append_left hj]
   have e2:gI (p++[h]) (p.length:Int)=h:=by unfold gI;simp
   intro i hi
   rw[List.length_append,List.length_singleton] at hi ⊢
   by_cases c:i<p.length
   · rw[e1 i c]
     refine⟨(ih i c).1,λk=>?_⟩
     by_cases c2:i+1<p.length
     · have:=e1 (i+1) c2
       rw[Int.natCast_add] at this
       rw[show((i:Int)+1)=(i:Int)+((1:Nat):Int) from rfl,this]
       exact(ih i c).2 c2
     · have hi2:i+1=p.length:=by omega
       have:((i:Int)+1)=(p.length:Int):=by omega
       rw[this,e2]
       rcases hp.last with⟨k1,_⟩|⟨_,k2⟩
       · rw[k1] at c;simp at c
       · rw[<-k2];congr 2;omega
   · have:i=p.length:=by omega
     subst this
     rw[e2]
     exact⟨hh,λk=>by omega⟩
theorem lQ{g:aL}{ws:List Nat}{s:Int}(h:(aj g ws s).2=0):bj g/\ws.length=g.2.length/\(∀x∈ws,dX x)/\nd g s/\∃rk,j8 g ws s (aj g ws s).1.1 (aj g ws s).1.2 rk:=by
  by_cases c:cH g ws=0
  · by_cases c2:0<=s/\s<g.1
    · obtain⟨m,l,w⟩:=nV c
      rw[ig c c2] at h ⊢
      exact⟨m,l,w,c2,lU m w l c2⟩
    · rw[eS c c2] at h;exact absurd h (by decide)
  · rw[ib c] at h;exact absurd h c
theorem li{g:aL}{ws:List Nat}{s:Int}(h:¬(aj g ws s).2=0):(aj g ws s).1=([],[]):=by
 by_cases c:cH g ws=0
 · by_cases c2:0<=s/\s<g.1
   · rw[ig c c2] at h;exact absurd rfl h
   · rw[eS c c2]
 · rw[ib c]
theorem j8.byin(E:j8 g ws s far by_ rk)(hm:bj g):∀x∈by_,ks x:=by
 intro x hx
 obtain⟨i,hi,e⟩:=List.mem_iff_getElem.1 hx
 have hv:nd g (i:Int):=⟨by omega,by have:=E.lb;omega⟩
 have e2:gI by_ (i:Int)=x:=by rw[<-e];simp[gI,hi]
 by_cases c:gI by_ (i:Int)= -1
 · rw[<-e2,c];decide
 · have:=(E.tr _ hv c).1
   rw[e2] at this
   obtain⟨_,_,m3,_⟩:=hm
   unfold ks;omega
theorem nO(hm:bj g)(E:j8 g ws s far by_ rk){t:Int}(ht:nd g t):(gI far t=aD/\aW (far,by_) g t=([],14))\/(gI far t<aD/\∃p,aW (far,by_) g t=(p,0)/\WayP g s p t/\eL ws p=gI far t):=by
  have hle:=E.nn t ht
  have hsh:dp (far,by_) g:=⟨hm,E.lf,E.lb⟩
  have e1:bL (gI far t) 9218868437227405311=decide (gI far t=aD):=by
    have:=fI (jO hle)
    rw[this,jw hle]
  by_cases c:gI far t=aD
  · left
    exact⟨c,oC hsh ht (by show bL (gI far t) _=true;rw[e1];exact decide_eq_true c)⟩
  · right
    have hlt:gI far t<aD:=by omega
    obtain⟨p,b1,b2,b3⟩:=E.back hm g.1.toNat t [] ht hlt (Nat.le_of_lt (E.rn t ht hlt))
    refine⟨hlt,p,?_,b2,b3⟩
    rw[fB hsh ht (by show¬bL (gI far t) _=true;rw[e1];simpa using c)]
    rw[List.append_nil] at b1;exact b1
end TL
namespace TL
variable{g:aL}{ws:List Nat}{s:Int}{far:List Nat}{by_:List Int}{rk:Int->Nat}
theorem kr{P:List Int}{x k:Nat}(h:x=eL ws (P.take k))(hk:(k:Int)<P.length):aK x (zf (gI ws (gI P (k:Int)/2)))=eL ws (P.take (k+1)):=by
 have hk':k<P.length:=by omega
 rw[List.take_succ_eq_append_getElem hk',gm,h]
 congr 2
 simp[gI,hk']
theorem kv{P:List Int}{x k:Nat}(h:x=eL ws (P.take k))(hk:¬(k:Int)<P.length):x=eL ws P:=by rw[List.take_of_length_le (by omega)] at h;exact h
theorem jb{x:Nat}(h:x<=aD):bL x 9218868437227405311=decide (x=aD):=by rw[fI (jO h),jw h]
theorem lW(hm:bj g)(hw:∀x∈ws,dX x)(hl:ws.length=g.2.length)(E:j8 g ws s far by_ rk){h:Int}(h0:0<=h)(h1:h<2*(g.2.length:Int))(c1:¬bL (gI far (aH g h)) 9218868437227405311=true)(c2:¬bL (gI ws (h/2)) 9218868437227405311=true):
   ¬decide (zf (aK (gI far (aH g h)) (zf (gI ws (h/2))))<zf (gI far (cz g h)))=true:=by
 have hf':=bN hm h0 h1
 have ht:=fD hm h0 h1
 have n1:=E.nn _ hf'
 have n2:=E.nn _ ht
 have gd:=fN hw hl h0 h1
 rw[jb n1] at c1
 rw[fI gd] at c2
 have c1':¬gI far (aH g h)=aD:=λk=>c1 (decide_eq_true k)
 have c2':¬zw ws h=aD:=λk=>c2 (decide_eq_true k)
 rw[jw (er n1 gd).2,jw n2]
 have r:=(E.rx h ⟨h0,h1⟩ (by omega)).resolve_left c2'
 intro k
 exact absurd (of_decide_eq_true k) (Nat.not_lt.2 r)
theorem kI(h:¬(aj g ws s).2=0):(aj g ws s).1.1=[]/\(aj g ws s).1.2=[]:=by rw[li h];exact⟨rfl,rfl⟩
theorem ow(hm:bj g)(E:j8 g ws s far by_ rk){t:Int}(t0:0<=t)(t1:t<g.1)(h:bL (gI far t) 9218868437227405311=true):(aW (far,by_) g t).2=14:=by
  rw[jb (E.nn t ⟨t0,t1⟩)] at h
  have h:=of_decide_eq_true h
  rcases nO hm E ⟨t0,t1⟩ with k|k
  · rw[k.2]
  · have:=k.1;omega
theorem oz(hm:bj g)(E:j8 g ws s far by_ rk){t:Int}(t0:0<=t)(t1:t<g.1)(h:¬bL (gI far t) 9218868437227405311=true):(aW (far,by_) g t).2=0/\WayP g s (aW (far,by_) g t).1 t/\eL ws (aW (far,by_) g t).1=gI far t:=by
 rw[jb (E.nn t ⟨t0,t1⟩)] at h
 have h:¬gI far t=aD:=λk=>h (decide_eq_true k)
 rcases nO hm E ⟨t0,t1⟩ with k|⟨_,p,k1,k2,k3⟩
 · exact absurd k.1 h
 · rw[k1];exact⟨rfl,k2,k3⟩
theorem WayP.empty{p:List Int}{v:Int}(h:WayP g s p v)(hp:(p.length:Int)=0):v=s:=by
 rcases h.last with k|k
 · exact k.2
 · exact absurd hp (by omega)
theorem WayP.first'{p:List Int}{v:Int}(h:WayP g s p v)(hp:0<(p.length:Int)):aH g (gI p 0)=s:=h.first (by omega)
theorem WayP.last'{p:List Int}{v:Int}(h:WayP g s p v)(hp:0<(p.length:Int)):cz g (gI p ((p.length:Int)-1))=v:=by
 rcases h.last with k|k
 · rw[k.1] at hp;simp at hp
 · exact k.2
theorem lB{p:List Int}{i:Nat}(h:ja g p)(hi:(i:Int)<p.length):0<=gI p (i:Int)/\gI p (i:Int)<2*(g.2.length:Int)/\(((i:Int)+1<p.length)->cz g (gI p (i:Int))=aH g (gI p ((i:Int)+1))/\0<=gI p ((i:Int)+1)/\gI p ((i:Int)+1)<2*(g.2.length:Int)):=by
 obtain⟨a,b⟩:=h i (by omega)
 refine⟨a.1,a.2,λk=>⟨b (by omega),?_⟩⟩
 have:=(h (i+1) (by omega)).1
 rw[Int.natCast_add] at this
 exact this
end TL
namespace TL
variable{g:aL}{ws:List Nat}{s:Int}{rk:Int->Nat}{x:FS}
theorem m7(hm:bj g)(E:j8 g ws s x.1 x.2 rk){t:Int}(t0:0<=t)(t1:t<g.1)(h:bL (gI x.1 t) 9218868437227405311=true):(aW x g t).2=14:=ow hm E t0 t1 h
theorem mX(hm:bj g)(E:j8 g ws s x.1 x.2 rk){t:Int}(t0:0<=t)(t1:t<g.1)(h:¬bL (gI x.1 t) 9218868437227405311=true):(aW x g t).2=0/\WayP g s (aW x g t).1 t/\eL ws (aW x g t).1=gI x.1 t:=oz hm E t0 t1 h
theorem fJ{p:List Int}{v i:Int}(h:WayP g s p v)(h0:0<=i)(h1:i<(p.length:Int)):0<=gI p i/\gI p i<2*(g.2.length:Int):=h.halves _ (bm h0 h1)
end TL
/-
  TlOpen: arguments opened: what a law's reader says of a slice is what a walk wants of it.
  By an AI agent.
-/
namespace TL
open Go Go.Proofs Go.ChangeShapes Go.WideShapes Go.Joins Go.Deep
structure ii{H:Type}(f:DataW H->Nat):Prop where
 slice:∀l s:List (DataW H),l.length<=f (.slice l s)
 elem:∀l s:List (DataW H),∀d∈l,f d<=f (.slice l s)
 part:∀l:List (DataW H),∀d∈l,f d<=f (.agg l)
def km(α:Type)[Rp α](P:Program)(t:TypeId):Prop:=
  ∀{H:Type} (enc:TypeId×Value->H) (w:World) (fuel:Nat) (cs:List Value) (x:DataW H×List MemPlace),DataW.trod enc P w 0 (λ_=>true) true fuel t cs=some x->∃y:α,Rp.rep c0 any w cs y
theorem jR{P:Program}{t:TypeId}(ht:P.underlying t=some (.int .i64)):km Int P t:=by
 intro H enc w fuel cs x h
 obtain⟨n,rfl,_,_⟩:=DataW.trod_int ht h
 exact⟨n,rfl⟩
theorem iw{H:Type}{enc:TypeId×Value->H}{P:Program}{w:World}{base:Nat}{spare:Nat->Bool}{held:Bool}{t e:TypeId}{fuel:Nat}{cs:List Value}{x:DataW H×List MemPlace}(ht:P.underlying t=some (.array 2 e))(hce:P.cellsOf e=1)(hct:P.cellsOf t=2)
   (h:DataW.trod enc P w base spare held fuel t cs=some x):
   ∃v0 v1 y0 y1 n,cs=[v0,v1]/\x=(.agg [y0.1,y1.1],y0.2++y1.2)/\DataW.trod enc P w base spare held n e [v0]=some y0/\DataW.trod enc P w base spare held n e [v1]=some y1:=by
 cases fuel with
 |zero=>simp[DataW.trod] at h
 |succ n=>
   unfold DataW.trod at h
   rw[ht] at h
   have r2:List.range 2=[0,1]:=rfl
   simp only[hct] at h
   by_cases hl:cs.length=2
   · rw[if_pos hl] at h
     match cs,hl with
     |[v0,v1],_=>
       simp[r2,hce] at h
       cases h0:DataW.trod enc P w base spare held n e [v0] with
       |none=>simp[h0] at h
       |some y0=>
         cases h1:DataW.trod enc P w base spare held n e [v1] with
         |none=>simp[h0,h1] at h
         |some y1=>
           simp[h0,h1] at h
           exact⟨v0,v1,y0,y1,n,rfl,h.symm,h0,h1⟩
   · rw[if_neg hl] at h;cases h
theorem lP{P:Program}{t e:TypeId}(ht:P.underlying t=some (.array 2 e))(he:P.underlying e=some (.int .i64))(hce:P.cellsOf e=1)(hct:P.cellsOf t=2):km (Int×Int) P t:=by
 intro H enc w fuel cs x h
 obtain⟨v0,v1,y0,y1,n,rfl,_,h0,h1⟩:=iw ht hce hct h
 obtain⟨a,ha⟩:=jR he enc w n [v0] y0 h0
 obtain⟨b,hb⟩:=jR he enc w n [v1] y1 h1
 exact⟨(a,b),[v0],[v1],rfl,ha,hb⟩
theorem gc{α:Type}[Rp α][Inhabited α]{P:Program}{t e:TypeId}(ht:P.underlying t=some (.slice e))(hc:P.cellsOf e=Rp.sz α)(hz:0<Rp.sz α)(he:km α P e)
    {H:Type}{enc:TypeId×Value->H}{w:World}{f:DataW H->Nat}(hf:ii f){fuel:Nat}{v:Value}{x:DataW H×List MemPlace}
    (hs:∀a len cap,v= .slice (some a) len cap->a.spot=none)(h:DataW.trod enc P w 0 (λ_=>true) true fuel t [v]=some x)(hb:f x.1<=1048576):∃xs:List α,Ro w v xs:=by
  rcases Deep.open_slice ht h with⟨h0,_⟩|⟨a,len,cap,m,n,D,Pl,h0,_,hlc,_,hm,rfl,hx⟩
  · obtain rfl:v= .slice none 0 0:=by simpa using h0
    exact⟨[],.inl ⟨⟨_,rfl⟩,rfl⟩⟩
  · obtain rfl:v= .slice (some a) len cap:=by simpa using h0
    have hsp:=hs a len cap rfl
    obtain⟨b,off,spot⟩:=a
    obtain rfl:spot=none:=hsp
    simp only[if_true] at hm
    subst hm
    obtain⟨Y,hY⟩:=Deep.choose_lt (α:=α) (n:=len) (p:=λi y=>∃cs,(∀j,j<Rp.sz α->w.cell? ⟨b,off+i*Rp.sz α+j,none⟩=cs[j]?)/\Rp.rep c0 any w cs y) (λi hi=>by
      obtain⟨cs',h1,h2⟩:=hx i (by omega)
      obtain⟨y,hy⟩:=he enc w n cs' _ h2
      refine⟨y,cs',λj hj=>?_,hy⟩
      obtain⟨_,hl,hcell⟩:=World.cells?_some h1
      have:=hcell j (by omega)
      rw[Deep.add_add,hc] at this
      rw[<-this]
      unfold Addr.add
      by_cases hij:i*Rp.sz α+j=0
      · rw[if_pos hij,Nat.add_assoc,hij];rfl
      · rw[if_neg hij,Nat.add_assoc])
    have hlen:((List.range len).map Y).length=len:=by simp
    have hbound:=Nat.le_trans (hf.slice _ _) hb
    refine⟨(List.range len).map Y,.inr ⟨b,off,m,by rw[hlen],⟨by omega,by simp at hbound;omega⟩,λi y hi=>?_⟩⟩
    have hil:i<len:=by
      have:=(List.getElem?_eq_some_iff.1 hi).1
      omega
    obtain rfl:Y i=y:=by simpa[hil] using hi
    obtain⟨cs,h1,h2⟩:=hY i hil
    refine⟨?_,trivial,cs,h1,h2⟩
    have h3:=h1 0 hz
    have h4:=Rp.len h2
    have h5:0<cs.length:=by omega
    rw[List.getElem?_eq_getElem h5] at h3
    by_cases hbl:b<w.heap.size
    · exact hbl
    · have:w.heap[b]? =none:=Array.getElem?_eq_none (by omega)
      simp[World.cell?,this] at h3
theorem eF{P:Program}{w:World}{base:Nat}{t e:TypeId}{v:Value}(ht:P.underlying t=some (.slice e))(h:Cell.okWide P w .any base t v):∀a len cap,v= .slice (some a) len cap->a.spot=none:=by
 rintro a len cap rfl
 simp only[Cell.okWide,Cell.ok,ht] at h
 exact h.2.2.2.1
theorem kg{α:Type}[Rp α][Inhabited α]{P:Program}{t e:TypeId}(ht:P.underlying t=some (.slice e))(hc:P.cellsOf e=Rp.sz α)(hz:0<Rp.sz α)(he:km α P e)
    {H:Type}{enc:TypeId×Value->H}{w:World}{f:DataW H->Nat}(hf:ii f){base:Nat}{v:Value}{d:DataW H}{p:List MemPlace}
    (hval:Value.okWide P w .any base t v)(h:DataW.Trod enc P w 0 (λ_=>true) true t v d p)(hb:f d<=1048576):∃xs:List α,Ro w v xs:=by
  obtain⟨a,len,cap,rfl⟩:=okWide_slice ht hval
  obtain⟨fuel,hfu⟩:=h
  refine gc ht hc hz he hf (eF (w:=w) (base:=base) ht ?_) (x:=(d,p)) hfu hb
  simpa[Value.okWide,ht] using hval
theorem ny{α:Type}[Rp α][Inhabited α]{P:Program}{t t0 t1 e:TypeId}{f0 f1:Field}(hs:P.underlying t=some (.struct #[f0,f1]))(hone:oneCellFields P #[f0,f1]=true)(hC:P.cellsOf t=2)(hts:P.cellTypes P.depth t=some [t0,t1])
    (h0:f0.type=t0)(h1:f1.type=t1)(hi:P.underlying t0=some (.int .i64))(ht:P.underlying t1=some (.slice e))(hc:P.cellsOf e=Rp.sz α)(hz:0<Rp.sz α)(he:km α P e)
    {H:Type}{enc:TypeId×Value->H}{w:World}{f:DataW H->Nat}(hf:ii f){base:Nat}{v:Value}{d:DataW H}{p:List MemPlace}
    (hval:Value.okWide P w .any base t v)(h:DataW.Trod enc P w 0 (λ_=>true) true t v d p)(hb:f d<=1048576):∃(n:Int) (u:Value) (xs:List α),v= .agg #[.int .i64 n,u]/\Ro w u xs:=by
  obtain⟨v0,v1,y0,y1,n,rfl,rfl,rfl,r0,r1⟩:=open_agg2 hs hone hC hval h
  subst h0 h1
  obtain⟨k,hk,_,_⟩:=DataW.trod_int hi r0
  obtain rfl:v0= .int .i64 k:=by simpa using hk
  have hcell:Cell.okWide P w .any base f1.type v1:=by
    simp only[Value.okWide,hs] at hval
    obtain⟨cs,hcs,_,ts,h3,_,h4⟩:=hval
    rw[hts] at h3
    obtain rfl:=Option.some.inj h3
    obtain rfl: #[Value.int .i64 k,v1]=cs:=by simpa using hcs
    obtain⟨u,hu,hk⟩:=h4 1 v1 rfl
    simp at hu
    subst hu
    exact hk
  obtain⟨xs,hx⟩:=gc ht hc hz he hf (eF ht hcell) (x:=y1) r1 (Nat.le_trans (hf.part _ _ (by simp)) hb)
  exact⟨k,v1,xs,rfl,hx⟩
end TL
/-
  TlCyc: lists gone round: what stands behind what; rotations turned, and moved.
  By an AI agent.
-/
set_option linter.all false
namespace TL
def pZ(l:List Int)(h:Int):Int:=gI l ((((l.idxOf h:Nat):Int)+1)%(l.length:Int))
section
variable{g:aL}{r:lg}{to:List Int}
end
end TL
/-
  TlJudge4: directions around a point; a plot turned by a quarter; the example's rotation.
  By an AI agent.
-/
set_option linter.all false
namespace TL
section
variable{u v w:Pt}
end
section
variable{p:fX}{o:Pt}{l:List Int}
end
section
variable{u v:Pt}{i k:Int}
def pr(u:Pt):Prop:=0<=u.1/\0<u.2
instance (u:Pt):Decidable (pr u):=by unfold pr;infer_instance
end
section
variable{o:Pt}{ps:List Pt}
end
end TL
/-
  TlJTr: plots moved as a whole: their flaws.
  By an AI agent.
-/
set_option linter.all false
namespace TL
section
variable{T:Pt->Pt}{D:Pt->Prop}{g:aL}{p:fX}{l a b but:List Pt}{q:Pt}{i k:Nat}
end
section
variable{g:aL}{p:fX}
end
def pw(p:fX):Nat->Int
 |0=>(p.1.length:Int)
 |k+1=>pw p k+((gI p.2 (k:Int)).length:Int)+1
def lD(g:aL)(p:fX):Prop:=pw p p.2.length<=400/\(¬bj g\/g.1<=30/\(g.2.length:Int)<=40)
instance (g:aL)(p:fX):Decidable (lD g p):=by unfold lD;infer_instance
end TL
namespace TL
section
variable{g:aL}{p:fX}{l r:List Pt}{L:List (List Pt)}{k e:Nat}
end
end TL
namespace TL
section
variable{α:Type}[Inhabited α][DecidableEq α]{a b:List α}{k:Nat}
end
section
variable{g:aL}{p:fX}{n:Int}{e:Nat}
end
end TL
/-
  TlWord: words and bytes in memory (a list of uint64, a list of uint8), and how a statement's argument of them is opened.
  By an AI agent.
-/
set_option linter.all false
namespace TL
open Go Go.Proofs Go.ChangeShapes Go.WideShapes Go.Joins Go.Deep
structure Wd where
  n:Nat
  lt:n<18446744073709551616
instance:Inhabited Wd:=⟨⟨0,by decide⟩⟩
instance:Rp Wd where
 sz:=1
 rep _ _ _ cs x:=cs=[.int .u64 (x.n:Int)]
 len h:=by subst h;rfl
 one h:=by subst h;simp[Value.oneCell']
 tr _ _ h:=h
instance:Fl Wd where
 cells x:=[.int .u64 (x.n:Int)]
 rep_iff:=Iff.rfl
structure Bt where
  n:Nat
  lt:n<256
instance:Inhabited Bt:=⟨⟨0,by decide⟩⟩
instance:Rp Bt where
 sz:=1
 rep _ _ _ cs x:=cs=[.int .u8 (x.n:Int)]
 len h:=by subst h;rfl
 one h:=by subst h;simp[Value.oneCell']
 tr _ _ h:=h
instance:Fl Bt where
 cells x:=[.int .u8 (x.n:Int)]
 rep_iff:=Iff.rfl
theorem lC{P:Program}{t:TypeId}(ht:P.underlying t=some (.int .u64)):km Wd P t:=by
 intro H enc w fuel cs x h
 obtain⟨n,rfl,_,hw⟩:=DataW.trod_int ht h
 simp only[Lit.wf,Bool.and_eq_true,decide_eq_true_eq] at hw
 have e1:IntKind.u64.min=0:=by decide
 have e2:IntKind.u64.max=18446744073709551615:=by decide
 exact⟨⟨n.toNat,by omega⟩,by show[_]=[_];rw[Int.toNat_of_nonneg (by omega)]⟩
def au(us:List Wd):List Nat:=us.map (·.n)
theorem m0{us:List Wd}{l:List Nat}{k:Nat}(h:l=au (us.take k))(hk:(k:Int)<us.length):l++[(gI us (k:Int)).n]=au (us.take (k+1)):=by
 have hk':k<us.length:=by omega
 unfold au at*
 rw[List.take_succ_eq_append_getElem hk',List.map_append,<-h]
 simp[gI,hk']
theorem nu{us:List Wd}{l:List Nat}{k:Nat}(h:l=au (us.take k))(hk:¬(k:Int)<us.length):l=au us:=by
 rw[List.take_of_length_le (by omega)] at h;exact h
theorem o8(us:List Wd):(au us).length=us.length:=by unfold au;rw[List.length_map]
end TL
namespace TL
open Go Go.Proofs Go.ChangeShapes Go.WideShapes Go.Joins Go.Deep
end TL
namespace TL
open Go
end TL
/-
  TlIface: a method of an interface value that holds a pointer; values in an interface.
  By an AI agent.
-/
set_option linter.all false
namespace TL
open Go
def i3(P:Program)(T:TypeId)(name:String):Option (Nat×Bool×TypeId):=
  match P.info? T,P.underlying T with
  |some i,some (.pointer e)=>
    match i.methods.find? (·.name==name) with
    |some m=>if m.path.isEmpty then m.func.map (λq=>(q.1,q.2,e)) else none
    |none=>none
  |_,_=>none
theorem kO{P:Program}{T e:TypeId}{name:String}{f:Nat}{b:Bool}(h:i3 P T name=some (f,b,e)):∃i m,P.info? T=some i/\P.underlying T=some (.pointer e)/\i.methods.find? (·.name==name)=some m/\m.path= #[]/\m.func=some (f,b):=by
 unfold i3 at h
 split at h
 · rename_i i e' hi hu
   split at h
   · rename_i m hm
     split at h
     · rename_i hp
       cases hf:m.func with
       |none=>rw[hf] at h;cases h
       |some q=>
         rw[hf] at h
         simp only[Option.map_some,Option.some.injEq,Prod.mk.injEq] at h
         obtain⟨h1,h2,h3⟩:=h
         refine⟨i,m,hi,h3▸hu,hm,by simpa using hp,?_⟩
         rw[hf,<-h1,<-h2]
     · cases h
   · cases h
 · cases h
section
variable{P:Program}{f:Fr}{w:World}{dst:Option Tmp}{ty:TypeId}{pos:String}{after:Array Edge}{g:Option (Nat×Bool)}{T e:TypeId}{name:String}{fid n:Nat}{a:Addr}{v u:Value}
theorem iK{i:TypeInfo}{t:TypeId}(h:P.info? t=some i):(typeInfo t).run P w= .ok i w:=by simp[typeInfo,h]
theorem es(h:i3 P T name=some (fid,true,e)):(method (n+1) T v name).run P w= .ok (fid,v) w:=by
 obtain⟨i,m,hi,hu,hm,hp,hf⟩:=kO h
 simp[method,iK hi,hm,hp,hf,follow,receiverAt,aF hu,Place.get]
theorem n9(t:TypeId)(nm:String):(Builtin.ssaWrapNilChk_ #[t] t #[.pointer (some a),strVal "",strVal nm]).run P w= .ok (.pointer (some a)) w:=rfl
theorem b9(h:i3 P T name=some (fid,false,e))(hl:(loadVar e a).run P w= .ok u w):(method (n+1) T (.pointer (some a)) name).run P w= .ok (fid,u) w:=by
 obtain⟨i,m,hi,hu,hm,hp,hf⟩:=kO h
 simp[method,iK hi,hm,hp,hf,follow,receiverAt,aF hu,Place.get,n9,asAddr,hl]
theorem lz:∃n,P.types.size+Made.depth=n+1:=by
 have h:0<Made.depth:=by decide
 exact⟨P.types.size+Made.depth-1,by omega⟩
variable{x:Operand}{args:List Operand}{at_:Array TypeId}{vals:List Value}{fn:Func}
theorem bx(hx:ev f x= .iface T v)(hm:∀n,(method (n+1) T v name).run P w= .ok (fid,u) w)(hf:P.funcs[fid]? =some fn)(hb:fn.body.isNone=false)(hn:(fn.name== "runtime.NumGoroutine")=false)(ha:args.map (ev f)=vals):
   (execOp (ev f) ⟨dst,.call {callee:=.invoke x name,args:=args.toArray,argTypes:=at_},ty,pos,after,g⟩).run P w= .ok (.enter fid (u::vals).toArray) w:=by
 have ha:args.toArray.map (ev f)=vals.toArray:=by rw[<-ha];simp
 obtain⟨n,hn2⟩:=lz (P:=P)
 have hm':=hm n
 rw[<-hn2] at hm'
 have h1:fn.name≠ "runtime.NumGoroutine" :=by simpa using hn
 have h2:fn.body≠none:=λe=>by rw[e] at hb;cases hb
 simp[execOp,resolve,invoke,callMethod,callFunc,hx,ha,hm',hf,h1,h2]
theorem gH{t:TypeId}{us:TypeDesc}(hs:P.underlying t=some us)(hi:(match us with| .interface _=>true|_=>false)=false)(hx:ev f x=v):(execOp (ev f) ⟨dst,.makeInterface t x,ty,pos,after,g⟩).run P w= .ok (.value (.iface t v)) w:=by
 subst hx
 cases us<;>first|(cases hi;done)|simp[execOp,Instr.makeInterface,aF hs]
theorem iM{s t:TypeId}{us:TypeDesc}(hs:P.underlying t=some us)(hi:(match us with| .interface _=>true|_=>false)=false)(hx:ev f x= .iface t v):(execOp (ev f) ⟨dst,.typeAssert x s t false,ty,pos,after,g⟩).run P w= .ok (.value v) w:=by
 cases us<;>first|(cases hi;done)|simp[execOp,Instr.typeAssert,aF hs,hx]
end
end TL
/-
  TlNil: a list that is none, compared.
  By an AI agent.
-/
set_option linter.all false
namespace TL
open Go
section
variable{P:Program}{w:World}{t t':TypeId}{f:Fr}{x y:Operand}{dst:Option Tmp}{ty:TypeId}{pos:String}{after:Array Edge}{g:Option (Nat×Bool)}
end
theorem oa{α:Type}[Rp α]{γ:ay}{J S:bs->Prop}{w:World}{v:Value}{xs:List α}{hi:Nat}(h:Ow γ J S w v xs)(h2:hi<=xs.length):Ow γ J S w (i8 v (Rp.sz α) 0 hi) (xs.take hi):=by
  rcases h with⟨rfl,rfl⟩|⟨b,cap,c,e,rfl,hc,hm,hJ,hb,hcs,hx⟩
  · simp only[List.length_nil] at h2
    have:hi=0:=by omega
    subst this
    exact .inl ⟨rfl,rfl⟩
  · have hl:(xs.take hi).length=hi:=by simp;omega
    refine .inr ⟨b,cap,c,e,?_,⟨by omega,by omega⟩,hm,hJ,hb,hcs,λi x hi'=>hx i x ?_⟩
    · rw[kx]
      simp only[hl]
    · rw[List.getElem?_take] at hi'
      split at hi'
      · exact hi'
      · cases hi'
end TL
/-
  TlOrb: going round by a permutation; two places changed; what that does to the numbers of rounds.
  By an AI agent.
-/
set_option linter.all false
namespace TL
def tr(a b x:Int):Int:=if x=a then b else if x=b then a else x
end TL
/-
  TlEul: Euler's count of a rotation.
  By an AI agent.
-/
set_option linter.all false
namespace TL
def cy(r:lg)(x:Int):Int:=match r.find? (λl=>decide (x∈l)) with
  |some l=>pZ l x
  |none=>x
end TL
/-
  TlFaces: faces: each half-edge on one, the least ahead, each right behind the twin of the one ahead; and the mirror's faces.
  By an AI agent.
-/
set_option linter.all false
namespace TL
theorem iq(n:Nat):(bh n).Pairwise (· < ·):=by
 unfold bh
 rw[List.pairwise_map]
 exact List.pairwise_lt_range.imp (λh=>by omega)
section
variable{g:aL}{r:lg}
end
end TL
/-
  TlKru: edges of the least weight that join all that is joined (package path's Least): Kruskal's way by labels, and a forest of parents that agrees with the labels.
  By an AI agent.
-/
set_option linter.all false
namespace TL
def kh(ws:List Nat)(i:Int):Pl:=(zf (gI ws i),i)
def fP(ws:List Nat)(i k:Int):Prop:=bT (kh ws i) (kh ws k)
instance (ws:List Nat)(i k:Int):Decidable (fP ws i k):=by unfold fP;infer_instance
def kz(ws:List Nat)(i k:Int):Int:=if fP ws i k then-1 else if fP ws k i then 1 else 0
theorem iX(ws:List Nat)(i:Int):¬fP ws i i:=dl _
theorem lh{ws:List Nat}{i j k:Int}(h:fP ws i j)(h2:fP ws j k):fP ws i k:=by unfold fP bT kh at*;omega
theorem nD{ws:List Nat}{i j:Int}(h:¬fP ws i j)(h2:¬fP ws j i):i=j:=by
 have:=mW h h2
 exact congrArg Prod.snd this
theorem ox{ws:List Nat}{i j:Int}(h:fP ws i j):¬fP ws j i:=fT h
def ij(ws:List Nat)(x:Int):List Int->List Int
 |[]=>[x]
 |y::l=>if fP ws x y then x::y::l else y::ij ws x l
def aQ(ws:List Nat):List Int:=(bh ws.length).foldr (ij ws) []
def iW(ws:List Nat)(l:List Int):Prop:=l.Pairwise λx y=>¬fP ws y x
theorem eK(ws:List Nat)(x:Int):∀l,(ij ws x l).Perm (x::l)
 |[]=>List.Perm.refl _
 |y::l=>by
   unfold ij;split
   · exact List.Perm.refl _
   · exact((eK ws x l).cons y).trans (List.Perm.swap x y l)
theorem iF{ws:List Nat}{x:Int}:∀{l},iW ws l->iW ws (ij ws x l)
 |[],_=>by unfold ij iW;simp
 |y::l,h=>by
   unfold iW at h ⊢
   obtain⟨h1,h2⟩:=List.pairwise_cons.1 h
   unfold ij;split
   · rename_i c
     refine List.pairwise_cons.2 ⟨λz hz=>?_,h⟩
     rcases List.mem_cons.1 hz with e|e
     · rw[e];exact ox c
     · intro k;exact h1 z e (lh k c)
   · rename_i c
     refine List.pairwise_cons.2 ⟨λz hz=>?_,iF h2⟩
     rcases List.mem_cons.1 ((eK ws x l).mem_iff.1 hz) with e|e
     · rw[e];exact c
     · exact h1 z e
theorem fm(ws:List Nat):∀l:List Int,(l.foldr (ij ws) []).Perm l/\iW ws (l.foldr (ij ws) [])
 |[]=>⟨List.Perm.refl _,List.Pairwise.nil⟩
 |x::l=>⟨(eK ws x _).trans ((fm ws l).1.cons x),iF (fm ws l).2⟩
theorem eE(ws:List Nat):(aQ ws).Perm (bh ws.length):=(fm ws _).1
theorem n5(ws:List Nat):iW ws (aQ ws):=(fm ws _).2
theorem n8{ws:List Nat}{l:List Int}(hp:l.Perm (bh ws.length))(hs:iW ws l):l=aQ ws:=
 (hp.trans (eE ws).symm).eq_of_pairwise (λa b _ _ h1 h2=>nD h2 h1) hs (n5 ws)
theorem jQ(ws:List Nat):(aQ ws).length=ws.length:=by rw[(eE ws).length_eq,di]
theorem jC{ws:List Nat}{i:Int}:i∈aQ ws↔0<=i/\i<(ws.length:Int):=by rw[(eE ws).mem_iff,eH]
theorem kk(ws:List Nat):(aQ ws).Nodup:=(eE ws).nodup_iff.2 (fx _)
-- by labels
def go(c:List Int)(a b:Int):List Int:=c.map λx=>if x=b then a else x
def l2(g:aL)(s:List Int×List Int)(i:Int):List Int×List Int:=
 if gI s.1 (gI g.2 i).1=gI s.1 (gI g.2 i).2 then s else(go s.1 (gI s.1 (gI g.2 i).1) (gI s.1 (gI g.2 i).2),s.2++[i])
def ek(g:aL)(l:List Int):List Int×List Int:=l.foldl (l2 g) (bh g.1.toNat,[])
def ba(g:aL)(ws:List Nat):List Int:=(bh g.2.length).filter λi=>decide (i∈(ek g (aQ ws)).2)
def i4(ws:List Nat)(l:List Int):Nat:=l.foldl (λs i=>aK s (zf (gI ws i))) 0
def aS(g:aL)(ws:List Nat):List Int×Nat×Int:=if cH g ws=0 then(ba g ws,i4 ws (ba g ws),0) else([],0,cH g ws)
theorem fS(g:aL)(l:List Int)(i:Int):ek g (l++[i])=l2 g (ek g l) i:=by unfold ek;rw[List.foldl_append];rfl
theorem hG(g:aL):∀(n:Nat) (l:List Int),l.length=n->(ek g l).2.Sublist l
 |0,l,h=>by rw[List.length_eq_zero_iff.1 h];exact List.Sublist.refl _
 |n+1,l,h=>by
   obtain⟨t,i,rfl⟩:∃t i,l=t++[i]:=⟨l.dropLast,l.getLast (by intro e;rw[e] at h;cases h),(List.dropLast_concat_getLast _).symm⟩
   have ih:=hG g n t (by simpa using h)
   rw[fS]
   unfold l2;split
   · exact ih.trans (List.sublist_append_left ..)
   · exact ih.append (List.Sublist.refl _)
theorem ld{c:List Int}{a b v:Int}(v0:0<=v)(v1:v<(c.length:Int)):gI (go c a b) v=if gI c v=b then a else gI c v:=ol _ v0 v1
structure UF(n:Int)(of c:List Int)(rho:Int->Nat):Prop where
  lo:(of.length:Int)=n
  lc:(c.length:Int)=n
  rg:∀v,0<=v->v<n->0<=gI of v/\gI of v<n
  dn:∀v,0<=v->v<n->gI of v≠v->rho (gI of v)<rho v
  lb:∀v,0<=v->v<n->gI c (gI of v)=gI c v
  uq:∀r s,0<=r->r<n->0<=s->s<n->gI of r=r->gI of s=s->gI c r=gI c s->r=s
def nR(n:Int)(of c:List Int):Prop:=∃rho,UF n of c rho
theorem UF.start{n:Int}(h:0<=n):UF n (bh n.toNat) (bh n.toNat) (λ_=>0):=by
 have e:∀v,0<=v->v<n->gI (bh n.toNat) v=v:=λv h0 h1=>mL h0 (by omega)
 refine⟨by rw[di];omega,by rw[di];omega,λv h0 h1=>by rw[e v h0 h1];exact⟨h0,h1⟩,λv h0 h1 h2=>absurd (e v h0 h1) h2,λv h0 h1=>by rw[e v h0 h1,e v h0 h1],λr s r0 r1 s0 s1 _ _ k=>?_⟩
 rw[e r r0 r1,e s s0 s1] at k;exact k
structure kB(n:Int)(of0 of c:List Int)(rho:Int->Nat)(v0 v:Int):Prop where
 kp:∀r,0<=r->r<n->gI of0 r=r->gI of r=r
 u:UF n of c rho
 lo:0<=v
 hi:v<n
 eq:gI c v=gI c v0
structure iP(n:Int)(of0 of c:List Int)(v0 r:Int):Prop where
 kp:∀r,0<=r->r<n->gI of0 r=r->gI of r=r
 u:nR n of c
 lo:0<=r
 hi:r<n
 rt:gI of r=r
 eq:gI c r=gI c v0
variable{n:Int}{of0 of c:List Int}{rho:Int->Nat}{v v0:Int}
theorem kB.start(h:UF n of c rho)(h0:0<=v)(h1:v<n):kB n of of c rho v v:=⟨λ_ _ _ h=>h,h,h0,h1,rfl⟩
theorem kB.fin(h:kB n of0 of c rho v0 v)(e:gI of v=v):iP n of0 of c v0 v:=⟨h.kp,⟨rho,h.u⟩,h.lo,h.hi,e,h.eq⟩
theorem kB.rg(h:kB n of0 of c rho v0 v):(0<=gI of v/\gI of v<n)/\0<=gI of (gI of v)/\gI of (gI of v)<n:=by
 obtain⟨a,b⟩:=h.u.rg v h.lo h.hi
 exact⟨⟨a,b⟩,h.u.rg _ a b⟩
theorem kB.next(h:kB n of0 of c rho v0 v)(hv:¬gI of v=v):kB n of0 (of.set v.toNat (gI of (gI of v))) c rho v0 (gI (of.set v.toNat (gI of (gI of v))) v)/\rho (gI (of.set v.toNat (gI of (gI of v))) v)<rho v:=by
 have lo:=h.lo
 have hi:=h.hi
 have ll:=h.u.lo
 obtain⟨⟨a,b⟩,a2,b2⟩:=h.rg
 have d1:=h.u.dn v lo hi hv
 have d2:gI of (gI of v)≠v:=by
   intro e
   by_cases k:gI of (gI of v)=gI of v
   · exact hv (k.symm.trans e)
   · have:=h.u.dn _ a b k
     rw[e] at this;omega
 have d3:rho (gI of (gI of v))<rho v:=by
   by_cases k:gI of (gI of v)=gI of v
   · rw[k];exact d1
   · have:=h.u.dn _ a b k;omega
 have gs:∀u,0<=u->gI (of.set v.toNat (gI of (gI of v))) u=if u=v then gI of (gI of v) else gI of u:=λu u0=>bJ lo (by omega) u0
 have e0:gI (of.set v.toNat (gI of (gI of v))) v=gI of (gI of v):=by rw[gs v lo,if_pos rfl]
 have l1:gI c (gI of (gI of v))=gI c v:=by rw[h.u.lb _ a b,h.u.lb v lo hi]
 rw[e0]
 refine⟨⟨λr r0 r1 hr=>?_,⟨by rw[List.length_set];exact ll,h.u.lc,λu u0 u1=>?_,λu u0 u1 hu=>?_,λu u0 u1=>?_,λr s r0 r1 s0 s1 hr hs k=>?_⟩,a2,b2,by rw[l1];exact h.eq⟩,d3⟩
 · have:=h.kp r r0 r1 hr
   rw[gs r r0,if_neg (λe=>hv (by rw[<-e];exact this))]
   exact this
 · rw[gs u u0];split
   · exact⟨a2,b2⟩
   · exact h.u.rg u u0 u1
 · rw[gs u u0] at hu ⊢
   split
   · rename_i e;rw[e];exact d3
   · rename_i e;rw[if_neg e] at hu;exact h.u.dn u u0 u1 hu
 · rw[gs u u0];split
   · rename_i e;rw[e];exact l1
   · exact h.u.lb u u0 u1
 · rw[gs r r0] at hr
   rw[gs s s0] at hs
   have r':gI of r=r:=by
     split at hr
     · rename_i e;rw[e] at hr;exact absurd hr d2
     · exact hr
   have s':gI of s=s:=by
     split at hs
     · rename_i e;rw[e] at hs;exact absurd hs d2
     · exact hs
   exact h.u.uq r s r0 r1 s0 s1 r' s' k
theorem nR.join{a b:Int}(h:nR n of c)(a0:0<=a)(a1:a<n)(b0:0<=b)(b1:b<n)(ha:gI of a=a)(hb:gI of b=b)(hab:¬a=b):nR n (of.set a.toNat b) (go c (gI c a) (gI c b)):=by
  obtain⟨rho,u⟩:=h
  have ll:=u.lo
  have lc:=u.lc
  have gs:∀u,0<=u->gI (of.set a.toNat b) u=if u=a then b else gI of u:=λu u0=>bJ a0 (by omega) u0
  have gr:∀v,0<=v->v<n->gI (go c (gI c a) (gI c b)) v=if gI c v=gI c b then gI c a else gI c v:=λv v0 v1=>ld v0 (by omega)
  have hne:gI c a≠gI c b:=λe=>hab (u.uq a b a0 a1 b0 b1 ha hb e)
  refine⟨λv=>if gI c v=gI c a then rho v+rho b+1 else rho v,⟨by rw[List.length_set];exact ll,by unfold go;rw[List.length_map];exact lc,λv v0 v1=>?_,λv v0 v1 hv=>?_,λv v0 v1=>?_,λr s r0 r1 s0 s1 hr hs k=>?_⟩⟩
  · rw[gs v v0];split
    · exact⟨b0,b1⟩
    · exact u.rg v v0 v1
  · rw[gs v v0] at hv ⊢
    by_cases e:v=a
    · rw[if_pos e]
      rw[if_neg (λk=>hne k.symm),e,if_pos rfl];omega
    · rw[if_neg e] at hv ⊢
      have:=u.dn v v0 v1 hv
      rw[u.lb v v0 v1]
      split<;>omega
  · rw[gs v v0,gr v v0 v1]
    by_cases e:v=a
    · rw[if_pos e,gr b b0 b1,if_pos rfl,e]
      split<;>rfl
    · rw[if_neg e]
      obtain⟨k0,k1⟩:=u.rg v v0 v1
      rw[gr _ k0 k1,u.lb v v0 v1]
  · rw[gs r r0] at hr
    rw[gs s s0] at hs
    rw[gr r r0 r1,gr s s0 s1] at k
    have ra:¬r=a:=λe=>by rw[if_pos e] at hr;exact hab (e.symm.trans hr.symm)
    have sa:¬s=a:=λe=>by rw[if_pos e] at hs;exact hab (e.symm.trans hs.symm)
    rw[if_neg ra] at hr
    rw[if_neg sa] at hs
    by_cases c1:gI c r=gI c b
    · have e1:=u.uq r b r0 r1 b0 b1 hr hb c1
      by_cases c2:gI c s=gI c b
      · rw[e1,u.uq s b s0 s1 b0 b1 hs hb c2]
      · rw[if_pos c1,if_neg c2] at k
        exact absurd (u.uq s a s0 s1 a0 a1 hs ha k.symm) sa
    · rw[if_neg c1] at k
      by_cases c2:gI c s=gI c b
      · rw[if_pos c2] at k
        exact absurd (u.uq r a r0 r1 a0 a1 hr ha k) ra
      · rw[if_neg c2] at k
        exact u.uq r s r0 r1 s0 s1 hr hs k
end TL
namespace TL
structure ik(g:aL)(ws:List Nat)(of l:List Int)(k:Nat):Prop where
  u:nR g.1 of (ek g ((aQ ws).take k)).1
  eq:l=(ek g ((aQ ws).take k)).2
variable{g:aL}{ws:List Nat}{of l:List Int}{k:Nat}
theorem ik.start(hm:bj g){f0:List Int}(e:f0=bh g.1.toNat):ik g ws f0 [] 0:=⟨⟨_,by rw[e];exact UF.start hm.1⟩,rfl⟩
theorem ik.lab(h:ik g ws of l k):∃c,c=(ek g ((aQ ws).take k)).1/\nR g.1 of c:=⟨_,rfl,h.u⟩
theorem ik.ll(h:ik g ws of l k):l.length<=k:=by
 rw[h.eq]
 have:=(hG g _ ((aQ ws).take k) rfl).length_le
 rw[List.length_take] at this
 omega
theorem eM{α:Type}[Inhabited α]{xs:List α}{k:Nat}(h:(k:Int)<xs.length):xs.take (k+1)=xs.take k++[gI xs (k:Int)]:=by
 have hk:k<xs.length:=by omega
 rw[List.take_succ_eq_append_getElem hk]
 simp[gI,hk]
theorem ik.same{of1 of2 c:List Int}{i a b:Int}(h:ik g ws of l k)(hk:(k:Int)<(aQ ws).length)(hc:c=(ek g ((aQ ws).take k)).1)(hi:gI (aQ ws) (k:Int)=i)(h1:iP g.1 of of1 c (gI g.2 i).1 a)(h2:iP g.1 of1 of2 c (gI g.2 i).2 b)(e:a=b):ik g ws of2 l (k+1):=by
 subst e
 have e1:gI c (gI g.2 i).1=gI c (gI g.2 i).2:=h1.eq.symm.trans h2.eq
 have e2:ek g ((aQ ws).take (k+1))=ek g ((aQ ws).take k):=by
   rw[eM hk,fS,hi]
   unfold l2
   rw[<-hc,if_pos e1]
 refine⟨by rw[e2,<-hc];exact h2.u,by rw[e2];exact h.eq⟩
theorem ik.join{of1 of2 c:List Int}{i a b:Int}(h:ik g ws of l k)(hk:(k:Int)<(aQ ws).length)(hc:c=(ek g ((aQ ws).take k)).1)(hi:gI (aQ ws) (k:Int)=i)(h1:iP g.1 of of1 c (gI g.2 i).1 a)(h2:iP g.1 of1 of2 c (gI g.2 i).2 b)(e:¬a=b):ik g ws (of2.set a.toNat b) (l++[i]) (k+1):=by
 have ra:=h2.kp a h1.lo h1.hi h1.rt
 have e1:¬gI c (gI g.2 i).1=gI c (gI g.2 i).2:=by
   intro k
   obtain⟨rho,u⟩:=h2.u
   exact e (u.uq a b h1.lo h1.hi h2.lo h2.hi ra h2.rt (h1.eq.trans (k.trans h2.eq.symm)))
 have e2:ek g ((aQ ws).take (k+1))=(go c (gI c (gI g.2 i).1) (gI c (gI g.2 i).2),l++[i]):=by
   rw[eM hk,fS,hi]
   unfold l2
   rw[<-hc,if_neg e1,<-h.eq]
 refine⟨?_,by rw[e2]⟩
 rw[e2]
 have:=h2.u.join h1.lo h1.hi h2.lo h2.hi ra h2.rt e
 rw[h1.eq,h2.eq] at this
 exact this
theorem ik.done(h:ik g ws of l k)(hk:¬(k:Int)<(aQ ws).length):l=(ek g (aQ ws)).2:=by
 have:=h.eq
 rw[List.take_of_length_le (by omega)] at this
 exact this
theorem ku(hw:ws.length=g.2.length)(hl:l=(ek g (aQ ws)).2):(l.mergeSort λx y=>decide (x<=y))=ba g ws:=by
 have hsub:=hG g _ (aQ ws) rfl
 rw[<-hl] at hsub
 have hnd:l.Nodup:=hsub.nodup (kk ws)
 have htn:(ba g ws).Nodup:=(List.filter_sublist).nodup (fx _)
 have hp:l.Perm (ba g ws):=by
   rw[List.perm_ext_iff_of_nodup hnd htn]
   intro x
   unfold ba
   rw[List.mem_filter,<-hl]
   constructor
   · intro hx
     have:=jC.1 (hsub.subset hx)
     exact⟨eH.2 (by omega),decide_eq_true hx⟩
   · intro hx;exact of_decide_eq_true hx.2
 have hs:(ba g ws).Pairwise (· <= ·):=by
   unfold ba
   exact(((iq g.2.length).imp (λh=>Int.le_of_lt h)).sublist List.filter_sublist)
 refine List.Perm.eq_of_pairwise (le:=(· <= ·)) (λa b _ _ h1 h2=>Int.le_antisymm h1 h2) ?_ hs ((List.mergeSort_perm _ _).trans hp)
 have:=List.pairwise_mergeSort (le:=λx y:Int=>decide (x<=y)) (λa b c h1 h2=>decide_eq_true (Int.le_trans (of_decide_eq_true h1) (of_decide_eq_true h2))) (λa b=>by
   rcases Int.le_total a b with h|h
   · simp[h]
   · simp[h]) l
 exact this.imp (λh=>of_decide_eq_true h)
theorem k6(hi:(k:Int)<(ba g ws).length):0<=gI (ba g ws) (k:Int)/\gI (ba g ws) (k:Int)<(g.2.length:Int):=by
 have h1:=bm (xs:=ba g ws) (i:=(k:Int)) (by omega) hi
 unfold ba at h1
 have:=eH.1 (List.mem_filter.1 h1).1
 unfold ba;exact this
theorem ke{l:List Int}{s:Nat}(h:s=i4 ws (l.take k))(hk:(k:Int)<l.length):aK s (zf (gI ws (gI l (k:Int))))=i4 ws (l.take (k+1)):=by
 rw[eM hk,h];unfold i4;rw[List.foldl_append];rfl
theorem iR{xs:List Int}{n k:Nat}(h:xs=bh k++List.replicate (n-k) 0)(hk:k<n):xs.set (Int.toNat (k:Int)) (k:Int)=bh (k+1)++List.replicate (n-(k+1)) 0:=by
 rw[h,Int.toNat_natCast,gn,List.set_append_right _ _ (by rw[di];exact Nat.le_refl _),di,Nat.sub_self]
 rw[show n-k=(n-(k+1))+1 by omega,List.replicate_succ]
 simp
end TL
namespace TL
theorem pF{ws:List Nat}{i k:Int}(h:decide (zf (gI ws i)<zf (gI ws k))=true):kz ws i k= -1:=by
 unfold kz;rw[if_pos (.inl (of_decide_eq_true h))]
theorem pP{ws:List Nat}{i k:Int}(h:¬decide (zf (gI ws i)<zf (gI ws k))=true)(h2:decide (zf (gI ws k)<zf (gI ws i))=true):kz ws i k=1:=by
 have h1:=of_decide_eq_true h2
 unfold kz
 rw[if_neg,if_pos (.inl h1)]
 intro c
 unfold fP bT kh at c
 simp only at c
 omega
theorem pM{ws:List Nat}{i k:Int}(h:¬decide (zf (gI ws i)<zf (gI ws k))=true)(h2:¬decide (zf (gI ws k)<zf (gI ws i))=true):kz ws i k=if i<k then-1 else if k<i then 1 else 0:=by
 have h1:¬zf (gI ws i)<zf (gI ws k):=λc=>h (decide_eq_true c)
 have h3:¬zf (gI ws k)<zf (gI ws i):=λc=>h2 (decide_eq_true c)
 have e1:fP ws i k↔i<k:=by unfold fP bT kh;simp only;omega
 have e2:fP ws k i↔k<i:=by unfold fP bT kh;simp only;omega
 unfold kz
 simp only[e1,e2]
end TL
namespace TL
theorem jP{xs:List Int}{n k:Nat}(h:xs=bh k++List.replicate (n-k) 0)(hk:k<=n):xs.length=n:=by
 rw[h,List.length_append,di,List.length_replicate];omega
theorem im{xs:List Int}{n k:Nat}(h:xs=bh k++List.replicate (n-k) 0)(hk:k=n):xs=bh n:=by
 rw[h,hk,Nat.sub_self];simp
theorem jH{g:aL}{ws:List Nat}{j:Nat}(hw:∀x∈ws,dX x)(hl:ws.length=g.2.length)(hj:(j:Int)<(ba g ws).length):dX (gI ws (gI (ba g ws) (j:Int))):=by
 obtain⟨a,b⟩:=k6 (ws:=ws) (g:=g) hj
 exact hw _ (bm a (by omega))
theorem gZ{g:aL}{ws:List Nat}(h:¬cH g ws=0):aS g ws=([],0,cH g ws):=by unfold aS;rw[if_neg h]
theorem gT{g:aL}{ws:List Nat}(h:cH g ws=0):aS g ws=(ba g ws,i4 ws (ba g ws),0):=by unfold aS;rw[if_pos h]
theorem lG{ws:List Nat}{l:List Int}{s j:Nat}(h:s=i4 ws (l.take j))(hj:¬(j:Int)<l.length):s=i4 ws l:=by
 rw[h,List.take_of_length_le (by omega)]
end TL
/-
  TlRoot: a function that changes a list which its caller owns.
  By an AI agent.
-/
set_option linter.all false
namespace TL
open Go
def nU(γ0:ay)(w0:World)(γ:ay)(w:World):Prop:=aV (is 1) γ0 w0 γ w
class JOk (J:bs->Prop):Prop where
 ok:∀c,J c->is 1 c
instance:JOk no:=⟨λ_ h=>h.elim⟩
instance:JOk (is 1):=⟨λ_ h=>h⟩
instance:JOk (inl []):=⟨λ_ h=>by unfold inl at h;simp at h⟩
instance:JOk (inl [1]):=⟨λc h=>by unfold inl at h;unfold is;simpa using h⟩
theorem nU.start{γ0:ay}(w0:World):nU γ0 w0 γ0 w0:=aV.refl _ _ _
theorem nU.chgC{J:bs->Prop}{γ0 γ γ':ay}{w0 w w':World}[JOk J](h:nU γ0 w0 γ w)(h':aV J γ w γ' w')(_:∀c,is 0 c->¬J c):nU γ0 w0 γ' w':=by
 unfold nU at*
 refine⟨h'.os.trans h.os,h'.tape.trans h.tape,h'.output.trans h.output,Nat.le_trans h.size h'.size,λb hb hn=>?_,λb hb hn=>?_,Nat.le_trans h.drawn h'.drawn⟩
 · have e:=h.col b hb hn
   rw[h'.col b (Nat.lt_of_lt_of_le hb h.size) (λk=>hn (by rw[<-e];exact JOk.ok _ k)),e]
 · have e:=h.col b hb hn
   rw[h'.keep b (Nat.lt_of_lt_of_le hb h.size) (λk=>hn (by rw[<-e];exact JOk.ok _ k)),h.keep b hb hn]
def rcK(γ:ay)(k:Nat):ay:=λb=>if(γ b).1=k then(1,0) else(0,0)
theorem Ow.rcK{γ:ay}{k:Nat}{w:World}{v:Value}{xs:List Int}(h:Ow γ (is k) (is k) w v xs):Ow (rcK γ k) (is 1) (is 1) w v xs:=by
 rcases h with h|⟨b,cap,c,e,h1,h2,h3,h4,h5,h6,h7⟩
 · exact .inl h
 · refine .inr ⟨b,cap,c,e,h1,h2,h3,?_,h5,h6,λi x hi=>h7 i x hi⟩
   have h4:(γ b).1=k:=h4
   unfold TL.rcK is;rw[if_pos h4]
theorem Ow.uncol{γ γ':ay}{k:Nat}{w w':World}{v:Value}{xs ys:List Int}(h:Ow γ (is k) (is k) w v xs)(h':Ow γ' (is 1) (is 1) w' v ys):Ow γ (is k) (is k) w' v ys:=by
 rcases h' with h'|⟨b,cap,c,e,h1,h2,h3,h4,h5,h6,h7⟩
 · exact .inl h'
 · refine .inr ⟨b,cap,c,e,h1,h2,h3,?_,h5,h6,λi x hi=>h7 i x hi⟩
   rcases h with h|⟨b',cap',c',e',g1,g2,g3,g4,_⟩
   · rw[h.1] at h1;cases h1
   · rw[g1] at h1
     have e1:b'=b:=by injection h1 with a _ _;injection a with a;injection a
     rw[<-e1];exact g4
theorem aV.uncol{γ γ':ay}{k:Nat}{w w':World}(h:aV (is 1) (rcK γ k) w γ' w'):aV (is k) γ w γ w':=by
 refine⟨h.os,h.tape,h.output,h.size,λ_ _ _=>rfl,λb hb hn=>h.keep b hb (λc=>hn ?_),h.drawn⟩
 unfold is TL.rcK at c
 by_cases e:(γ b).1=k
 · exact e
 · rw[if_neg e] at c;exact absurd c (by decide)
theorem cl{P:Program}{fid:Nat}{args:Array Value}{γ:ay}{k:Nat}{w:World}{v:Value}{xs:List Int}{Q:Int->List Int->Prop}(ho:Ow γ (is k) (is k) w v xs)
   (h:Calls P fid args w λe w'=>∃x:Int×List Int,e= .returned ((λx:Int×List Int=>Value.int .i64 x.1) x)/\∃γ',aV (is 1) (rcK γ k) w γ' w'/\Ow γ' (is 1) (is 1) w' v x.2/\Q x.1 x.2):
   Calls P fid args w λe w'=>∃x:Int×List Int,e= .returned ((λx:Int×List Int=>Value.int .i64 x.1) x)/\(λ(x:Int×List Int) (w':World)=>aV (is k) γ w γ w'/\Ow γ (is k) (is k) w' v x.2/\Q x.1 x.2) x w':=
 h.mono λe w' ⟨x,e1,γ',h1,h2,h3⟩=>⟨x,e1,h1.uncol,ho.uncol h2,h3⟩
end TL
/-
  TlSort: the library's sort by a function, met in this frame.
  By an AI agent.
-/
set_option linter.all false
namespace TL
open Go Go.Proofs Go.Shelf Go.Sort Go.Lib
theorem bR.grown{w w':World}(h:bR w.heap.size w w'):∃q os,w'=grow (w.drewN q) os:=by
 obtain⟨h1,h2,h3,h4,h5,h6⟩:=h
 refine⟨w'.drawn-w.drawn,w'.heap.extract w.heap.size w'.heap.size,?_⟩
 have hh:w'.heap=w.heap++w'.heap.extract w.heap.size w'.heap.size:=by
   apply Array.ext_getElem?
   intro k
   rw[Array.getElem?_append]
   by_cases hk:k<w.heap.size
   · rw[if_pos hk];exact h5 k hk
   · rw[if_neg hk,Array.getElem?_extract]
     split
     · rw[show w.heap.size+(k-w.heap.size)=k by omega]
     · exact Array.getElem?_eq_none (by omega)
 have hd:w'.drawn=w.drawn+(w'.drawn-w.drawn):=by omega
 cases w with
 |mk a b c d e=>
   cases w' with
   |mk a' b' c' d' e'=>
     simp only[grow,World.drewN] at*
     subst h1 h2 h3
     simp only[World.mk.injEq,true_and,and_true]
     exact⟨hh,hd⟩
section
variable{α:Type}[Inhabited α]{γ:ay}{w:World}{j b:Nat}
theorem fC(enc:α->Value)(hb:is j (γ b))(m:Nat)(d:Array α)(os:Array Obj):aV (is j) γ w γ (sortWorld enc w b 0 m d os):=by
 refine⟨rfl,rfl,rfl,?_,λ_ _ _=>rfl,λk hk hn=>?_,?_⟩
 · unfold sortWorld;rw[size_grow,Go.Sort.size_putRow];simp only[heap_ahead];omega
 · unfold sortWorld
   rw[heap_grow_old _ _ (by rw[Go.Sort.size_putRow];exact hk)]
   have:b≠k:=λe=>hn (by subst e;exact hb)
   simp[putRow,mapBlock,Array.getElem?_modify,this]
 · show w.drawn<=w.drawn+m
   omega
theorem gj(enc:α->Value){c:Array Value}{e:TypeId}{fr:Nat×Nat}(h:w.heap[b]? =some (.cells c e fr))(m:Nat)(d:Array α)(os:Array Obj):(sortWorld enc w b 0 m d os).heap[b]? =some (.cells (putCells enc 0 d c) e fr):=by
 unfold sortWorld
 rw[heap_grow_old _ _ (by rw[Go.Sort.size_putRow];exact co h)]
 simp[putRow,mapBlock,Array.getElem?_modify,h,onCells]
theorem f3(enc:α->Value){d:Array α}{c:Array Value}{k:Nat}(h:k<d.size)(hc:k<c.size):(putCells enc 0 d c)[k]? =some (enc d[k]!):=by
 simp[putCells,h,hc]
end
theorem kb{P:Program}{ρ:Ren}(L:SlLaysF.n6 P ρ){α:Type}[Inhabited α](fe:α->Int)(cf:α->α->Int)(hO:SWO (ltOf cf))(g:Nat)(cb:Array Value)(eg:∀args w,(callFunc g args).run P w= .ok (.enter g args) w)
   {γ:ay}{w:World}{j:Nat}{v:Value}{ds:List α}(hne:ds≠[])(hl:Ow γ (is j) (is j) w v (ds.map fe))
   (hc:∀W,aV (is j) γ w γ W->∀x y,Calls P g (#[.int .i64 (fe x),.int .i64 (fe y)]++cb) W λe w'=>e= .returned (.int .i64 (cf x y))/\bR W.heap.size W w'):
   Calls P (ρ.f 6) #[v,.func (.func g) #[] cb] w λe w'=>e= .returned (.tuple #[])/\∃ds':List α,ds'.Perm ds/\ds'.Pairwise (λx y=>ltOf cf y x=false)/\aV (is j) γ w γ w'/\Ow γ (is j) (is j) w' v (ds'.map fe):=by
 rcases hl with⟨_,h⟩|⟨b,cap,c,e,rfl,hcap,hm,hJ,hb,hcs,hx⟩
 · simp at h;exact absurd h hne
 · simp only[List.length_map] at hcap
   have hsz1:Rp.sz Int=1:=rfl
   rw[hsz1,Nat.mul_one] at hcs
   have hbs:=co hb
   have hlen:(ds.map fe).length=ds.toArray.size:=by simp
   have hget:∀i,i<ds.length->c[i]? =some (Value.int .i64 (fe ds.toArray[i]!)):=λi hi=>by
     obtain⟨cs,h1,h2⟩:=hx i (fe ds[i]) (by simp[hi])
     have h2:cs=[Value.int .i64 (fe ds[i])]:=h2
     have h1:=h1 0 (by decide)
     rw[h2] at h1
     simp only[hsz1,Nat.mul_one,Nat.add_zero] at h1
     rw[h1]
     simp[hi]
   have hH:Holds (λx:α=>Value.int .i64 (fe x)) w b 0 ds.toArray:=λi hi=>by
     have hi:i<ds.length:=by simpa using hi
     constructor
     · have:=hget i hi
       simp only[World.cell?,hb,Nat.zero_add]
       exact this
     · simp[World.frozen?,hb]
   have hcmp:CmpLays1 P g cb (λx:α=>Value.int .i64 (fe x)) cf b 0 ds.toArray.size w:=λm os dk hs x y=>
     (hc _ (fC _ hJ m dk os) x y).mono λe w' ⟨h1,h2⟩=>⟨h1,h2.grown⟩
   have fZ:=Any.slices_SortFunc L (λx:α=>Value.int .i64 (fe x)) (λ_=>rfl) cf hO g cb b 0 cap ds.toArray w eg hcmp hH hbs (by simp;omega)
   rw[hlen]
   refine fZ.mono λe' w' ⟨h1,d',n,os,hp,hs,hw⟩=>⟨h1,d'.toList,?_,?_,?_,?_⟩
   · obtain⟨q1,_,q3⟩:=hp
     rw[<-q1] at q3
     have e1:(d'.extract 0 d'.size)=d':=by simp
     rw[e1,q1] at q3
     have e2:(ds.toArray.extract 0 ds.toArray.size)=ds.toArray:=Array.extract_size
     rw[e2] at q3
     simpa using q3
   · rw[List.pairwise_iff_getElem]
     intro i k hi hk hik
     have hi:i<d'.size:=by simpa using hi
     have hk:k<d'.size:=by simpa using hk
     have:=hs i k (Nat.zero_le _) hik (by rw[<-hp.1];exact hk)
     rw[getElem!_pos d' k hk,getElem!_pos d' i hi] at this
     simpa using this
   · rw[hw];exact fC _ hJ n d' os
   · have hs':d'.size=ds.length:=by rw[hp.1];simp
     have hd:d'.toList.length=ds.length:=by simpa using hs'
     refine .inr ⟨b,cap,_,e,by rw[List.length_map,hd];simp,by rw[List.length_map,hd];exact hcap,hm,hJ,by rw[hw];exact gj _ hb n d' os,by rw[hsz1,Nat.mul_one];simpa[putCells] using hcs,λi x hi=>?_⟩
     have hi':i<d'.size:=by
       have:=(List.getElem?_eq_some_iff.1 hi).1
       simpa using this
     refine⟨[Value.int .i64 x],λq hq=>?_,rfl⟩
     have:q=0:=by have:q<1:=hq;omega
     subst this
     rw[hsz1,Nat.mul_one,Nat.add_zero,f3 _ hi' (by rw[hcs];omega),getElem!_pos d' _ hi']
     simp[hi'] at hi
     simp[hi]
end TL
/-
  TlSort2: the library's sort of numbers, met in this frame.
  By an AI agent.
-/
set_option linter.all false
namespace TL
open Go Go.Proofs Go.Shelf Go.Sort Go.Lib
theorem jm{P:Program}{ρ:Ren}(L:Lays.n189 P ρ)(hN:∀w:World,Calls P (ρ.f 189) #[.slice none 0 0] w λe w'=>e= .returned (.tuple #[])/\bR w.heap.size w w')
   {γ:ay}{w:World}{j:Nat}{v:Value}{zs:List Int}(hl:Ow γ (is j) (is j) w v zs):
   Calls P (ρ.f 189) #[v] w λe w'=>e= .returned (.tuple #[])/\aV (is j) γ w γ w'/\Ow γ (is j) (is j) w' v (zs.mergeSort λx y=>decide (x<=y)):=by
 rcases hl with⟨rfl,rfl⟩|⟨b,cap,c,e,rfl,hcap,hm,hJ,hb,hcs,hx⟩
 · refine(hN w).mono λe w' ⟨h1,h2⟩=>⟨h1,?_,?_⟩
   · exact⟨h2.os,h2.tape,h2.output,h2.size,λ_ _ _=>rfl,λk hk _=>h2.block k hk,h2.drawn⟩
   · rw[show([]:List Int).mergeSort (λx y=>decide (x<=y))=[] from by simp]
     exact .inl ⟨rfl,rfl⟩
 · have hsz1:Rp.sz Int=1:=rfl
   rw[hsz1,Nat.mul_one] at hcs
   have hbs:=co hb
   have hget:∀i,i<zs.length->c[i]? =some (Value.int .i64 zs.toArray[i]!):=λi hi=>by
     obtain⟨cs,h1,h2⟩:=hx i zs[i] (by simp[hi])
     have h2:cs=[Value.int .i64 zs[i]]:=h2
     have h1:=h1 0 (by decide)
     rw[h2] at h1
     simp only[hsz1,Nat.mul_one,Nat.add_zero] at h1
     rw[h1]
     simp[hi]
   have hH:Holds (Value.int .i64) w b 0 zs.toArray:=λi hi=>by
     have hi:i<zs.length:=by simpa using hi
     constructor
     · have:=hget i hi
       simp only[World.cell?,hb,Nat.zero_add]
       exact this
     · simp[World.frozen?,hb]
   have fZ:=Any.slices_Sort_int L b 0 cap zs w hH hbs (by omega)
   refine fZ.mono λe' w' ⟨h1,n,os,hw⟩=>⟨h1,?_,?_⟩
   · rw[hw];exact fC _ hJ n _ os
   · have hd:(zs.mergeSort λx y=>decide (x<=y)).length=zs.length:=List.length_mergeSort _
     generalize(zs.mergeSort λx y=>decide (x<=y))=ds at hd hw
     refine .inr ⟨b,cap,_,e,by rw[hd],by rw[hd];exact hcap,hm,hJ,by rw[hw];exact gj (Value.int .i64) hb n ds.toArray os,by rw[hsz1,Nat.mul_one];simpa[putCells] using hcs,λi x hi=>?_⟩
     have hi':i<ds.length:=(List.getElem?_eq_some_iff.1 hi).1
     refine⟨[Value.int .i64 x],λq hq=>?_,rfl⟩
     have:q=0:=by have:q<1:=hq;omega
     subst this
     rw[hsz1,Nat.mul_one,Nat.add_zero,f3 _ (by simpa using hi') (by rw[hcs];omega),getElem!_pos ds.toArray _ (by simpa using hi')]
     simp[hi'] at hi
     simp[hi]
end TL
/-
  TlPost: what is owed behind a law that returns true and writes nothing of the caller's.
  By an AI agent.
-/
namespace TL
open Go Go.Proofs Go.ChangeShapes Go.WideShapes Go.RowKit
def jZ(P:Program)(ts:List TypeId):Bool:=ts.all λt=>P.readableRec t&&decide (t<P.types.size)
theorem gv{H:Type}{enc:TypeId×Value->H}{P:Program}(hl:laidOutB P=true){W W':World}(hb:Below W.heap.size W W')(sp:Nat->Bool):
   ∀{ts:List TypeId} {vs:List Value} {ds:List (DataW H)} {ps:List MemPlace},jZ P ts=true->DataW.TrodAll enc P W 0 (λ_=>true) true ts vs ds ps->(∀p∈ps,p.block<W.heap.size)->(∀p∈ps,sp p.block=true)->DataW.TrodAll enc P W' 0 sp true ts vs ds ps
 |[],[],[],_,_,h,_,_=>h
 |[],[],_::_,_,_,h,_,_=>h.elim
 |[],_::_,_,_,_,h,_,_=>by cases‹List (DataW H)›<;>exact h.elim
 |_::_,[],_,_,_,h,_,_=>by cases‹List (DataW H)›<;>exact h.elim
 |_::_,_::_,[],_,_,h,_,_=>h.elim
 |t::ts,v::vs,d::ds,ps,hr,h,hlt,hsp=>by
   obtain⟨p,q,h1,h2,rfl⟩:=h
   simp only[jZ,List.all_cons,Bool.and_eq_true,decide_eq_true_eq] at hr
   exact⟨p,q,WideElems.Trod_stays hl hr.1.1 hr.1.2 h1 (λx hx=>hb.same (hlt x (by simp[hx]))) (λx hx=>hsp x (by simp[hx])),
     gv hl hb sp hr.2 h2 (λx hx=>hlt x (by simp[hx])) (λx hx=>hsp x (by simp[hx])),rfl⟩
theorem lk{H:Type}{enc:TypeId×Value->H}{P:Program}{f:Func}{s:ChangeSpec}{W W':World}{args:Array Value}{ds gs:List (DataW H)}{before:List MemPlace}{tb:TypeId}
   (hl:laidOutB P=true)(hr:jZ P f.params.toList=true)(hv:s.vars=[])(hrt:f.resultTypes= #[tb])(htb:P.underlying tb=some .bool)
   (hW:DataW.Whole enc P f.params.toList s.vars false W args.toList ds gs before)(hfn:s.fn H (ds++gs)={results:=[.lit (.bool true)],args:=ds})(hB:Below W.heap.size W W'):
   s.post enc P f false true false false W args (.bool true) W':=by
 have hlt:=hW.lt
 have hW0:=hW
 obtain⟨p,q,hA,hV,rfl,hfz,_⟩:=hW
 rw[hv] at hV
 obtain⟨rfl,rfl⟩:=trodVars_none hV
 simp only[List.append_nil] at hlt hfz hW0 hfn
 have hres:∀(b:Nat) (sp:Nat->Bool) (hd:Bool),DataW.TrodAll enc P W' b sp hd f.resultTypes.toList ((Value.bool true).resultList f.resultTypes.size) (s.fn H (ds++[])).results []:=λb sp hd=>by
   rw[hrt,List.append_nil,hfn]
   exact trodAll_cons_mk (shut_bool htb true) trodAll_mk0
 have hargs:∀sp:Nat->Bool,(∀x∈p,sp x.block=true)->DataW.TrodAll enc P W' 0 sp true f.params.toList args.toList (s.fn H (ds++[])).args p:=λsp hsp=>by
   rw[List.append_nil,hfn]
   exact gv hl hB sp hr hA hlt hsp
 have hvars:∀sp:Nat->Bool,DataW.TrodVars enc P W' sp s.vars (s.fn H (ds++[])).vars []:=λsp=>by
   rw[List.append_nil,hfn,hv]
   rfl
 refine⟨ds,[],p,[],p,[],hW0,hres _ _ _,hargs _ (λx hx=>by simpa using hlt x hx),hvars _,World.keptBut_mono (λx hx=>⟨hx,Or.inr (by simpa using hx)⟩) (hB.frame _),λ_=>?_⟩
 refine⟨?_,_,_,([]++p)++[],⟨[]++p,[],trodAll_append (hargs _ (λ_ _=>rfl)) (hres _ _ _),hvars _,rfl,?_,?_⟩,?_⟩
 · exact ok_one hrt rfl (okWide_bool_mk htb true)
 · intro b off hp
   have hp':MemPlace.cell b off∈p:=by simpa using hp
   rw[hB.frozen (p:=⟨b,off,none⟩) (hlt _ hp')]
   exact hfz b off hp'
 · intro ha;cases ha
 · intro x hx _
   simpa using hx
end TL
