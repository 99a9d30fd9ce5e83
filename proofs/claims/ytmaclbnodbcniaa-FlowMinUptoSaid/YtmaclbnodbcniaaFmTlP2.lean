/- Plain texts of this claim, part 2. By an AI agent. -/
import Derived.Test.YtmaclbnodbcniaaFmTlP1
/-
  TlFlo3: potentials turned: reduced costs stay at 0 or more, a way of reduced costs 0 leads to the sink; levels.
  By an AI agent.
-/
set_option linter.all false
namespace TL
variable{n2 s t v u w x y d B M:Int}{W W' W0:List cb}{O:List (List Int)}{P P' far far2 lv qu:List Int}{k m f i:Nat}
theorem kN{α:Type}[Inhabited α]{l:List α}{a:α}{i:Int}(h1:i<(l.length:Int))(h0:0<=i):gI (l++[a]) i=gI l i:=by
 have:i.toNat<l.length:=by omega
 simp[gI,this,List.getElem?_append_left]
theorem mo{α:Type}[Inhabited α]{l:List α}{a:α}:gI (l++[a]) (l.length:Int)=a:=by simp[gI]
structure sO(n2 s t:Int)(P:List Int):Prop where
  s0:gI P s=0
  tt:∀v,0<=v->v<n2->gI P v<=gI P t
theorem mB(hb:gk n2 s B M W O P)(hw:eb W w){ft:Int}:dX W (di P far ft) (dL W w) w=dX W P (dL W w) w+min (gI far (dL W w)) ft-min (gI far (bV W w)) ft:=by
 have hf:=hb.sh.fr hw
 have ht:=hb.sh.to w hw
 have hl:=hb.pt.pl
 unfold dX
 rw[iN hf.1 (by omega),iN ht.1 (by omega)]
 omega
theorem oT(hb:gk n2 s B M W O P)(h:ju n2 s M W O P far []){ft:Int}(hft:0<=ft)(hp:PthW W P s v d):(0<=v/\v<n2)/\gI far v≠dh/\min (gI far v) ft<=d/\(d=min (gI far v) ft->ZpW W (di P far ft) s v):=by
 induction hp with
 |nil=>exact⟨⟨hb.s0,hb.s1⟩,by rw[h.i.fs];decide,by rw[h.i.fs];omega,λ_=>.nil⟩
 | @step v d w hp hw hf hr ih=>
   obtain⟨i1,i2,i3,i4⟩:=ih
   subst hf
   obtain⟨t1,t2⟩:=h.tri hb hw hr i2
   have hrd:=hb.pt.rd w hw hr
   refine⟨hb.sh.to w hw,t2,by omega,λe=>?_⟩
   have e1:d=min (gI far (dL W w)) ft:=by omega
   refine .step (i4 e1) hw hr ?_
   rw[mB hb hw]
   omega
theorem j2{ft:Int}:(di P far ft).length=P.length:=by unfold di;simp[dm]
theorem qR(hb:gk n2 s B M W O P)(h:ju n2 s M W O P far [])(hs:sO n2 s t P)(ht:0<=t/\t<n2)(hft:gI far t≠dh):(∀w,eb W w->0<c7 W w->0<=dX W (di P far (gI far t)) (dL W w) w)/\sO n2 s t (di P far (gI far t))/\ZpW W (di P far (gI far t)) s t/\∀v,0<=v->v<n2->0<=gI (di P far (gI far t)) v:=by
  have hM:=hb.hM
  have hb0:=hb.b0
  have hl:=hb.pt.pl
  obtain⟨t0,tb⟩:=h.i.bd (by omega) hb.hb ht.1 ht.2 hft
  have hbb:=hb.hb
  have htu:gI far t<dh:=by omega
  have at_:∀v,0<=v->v<n2->gI (di P far (gI far t)) v=gI P v+min (gI far v) (gI far t):=λv a b=>iN a (by omega)
  have nn:∀v,0<=v->v<n2->0<=min (gI far v) (gI far t):=λv a b=>by
    by_cases c:gI far v=dh
    · rw[c];omega
    · have:=(h.i.bd (by omega) hb.hb a b c).1;omega
  refine⟨λw hw hr=>?_,⟨?_,λv a b=>?_⟩,?_,λv a b=>?_⟩
  · rw[mB hb hw]
    have hrd:=hb.pt.rd w hw hr
    have ht2:=hb.sh.to w hw
    have hf2:=hb.sh.fr hw
    by_cases c:gI far (dL W w)=dh
    · rw[c];omega
    · have:=(h.tri hb hw hr c).1
      omega
  · rw[at_ s hb.s0 hb.s1,hs.s0,h.i.fs];omega
  · rw[at_ v a b,at_ t ht.1 ht.2]
    have:=hs.tt v a b
    omega
  · have:=oT hb h t0 (h.i.pth t ht.1 ht.2 hft)
    exact this.2.2.2 (by omega)
  · rw[at_ v a b]
    have:=nn v a b
    have:=(hb.pt.pb v a b).1
    omega
inductive ZaW (W:List cb) (P:List Int) (A:Int->Prop):Int->Int->Prop
  |refl {x:Int}:A x->ZaW W P A x x
  |step {x w:Int}:ZaW W P A x (dL W w)->eb W w->0<c7 W w->dX W P (dL W w) w=0->A (bV W w)->ZaW W P A x (bV W w)
theorem rq(h:ZpW W P s v):ZaW W P (λ_=>True) s v:=by
 induction h with
 |nil=>exact .refl trivial
 |step _ b c d ih=>exact .step ih b c d trivial
theorem lV{A:Int->Prop}(h:ZaW W P A x y)(hne:x≠y):∃w,eb W w/\dL W w=x/\0<c7 W w/\dX W P (dL W w) w=0/\ZaW W P (λz=>A z/\z≠x) (bV W w) y:=by
 induction h with
 |refl _=>exact absurd rfl hne
 | @step w p b c d e ih=>
   by_cases q:x=dL W w
   · exact⟨w,b,q.symm,c,d,.refl ⟨e,λj=>hne j.symm⟩⟩
   · obtain⟨w',a1,a2,a3,a4,a5⟩:=ih q
     exact⟨w',a1,a2,a3,a4,.step a5 b c d ⟨e,λj=>hne j.symm⟩⟩
theorem rI{A:Int->Prop}(h:ZaW W P A x y):A x/\A y:=by
 induction h with
 |refl a=>exact⟨a,a⟩
 |step _ _ _ _ e ih=>exact⟨ih.1,e⟩
theorem rv(hs:jT n2 W O):∀(n:Nat) (V:List Int) (x y:Int),V.Nodup->(∀z∈V,0<=z/\z<n2)->n2<=(V.length:Int)+n->(0<=x/\x<n2)->ZaW W P (λz=>z∉V) x y->gI P y<=gI P x+(n:Int)*1048576
 |0,V,x,y,hn,hv,hl,hx,h=>by
   have h1:=i8 n2.toNat V hn (λz hz=>⟨(hv z hz).1,by have:=(hv z hz).2;omega⟩)
   have:=nC (n:=n2.toNat) hn (λz hz=>⟨(hv z hz).1,by have:=(hv z hz).2;omega⟩) (by omega) hx.1 (by omega)
   exact absurd this (rI h).1
 |n+1,V,x,y,hn,hv,hl,hx,h=>by
   by_cases c:x=y
   · rw[c]
     have:(0:Int)<=((n+1:Nat):Int)*1048576:=by omega
     omega
   · obtain⟨w,a1,a2,a3,a4,a5⟩:=lV h c
     have hto:=hs.to w a1
     have ih:=rv hs n (x::V) (bV W w) y (List.nodup_cons.2 ⟨(rI h).1,hn⟩) (λz hz=>by
       rcases List.mem_cons.1 hz with q|q
       · rw[q];exact hx
       · exact hv z q) (by rw[List.length_cons];omega) hto (by
       have:(λz=>z∉x::V)=λz=>z∉V/\z≠x:=by
         funext z
         rw[List.mem_cons]
         simp only[not_or,eq_iff_iff]
         exact⟨λq=>⟨q.2,q.1⟩,λq=>⟨q.2,q.1⟩⟩
       rw[this];exact a5)
     have hc:=(hs.cs w a1).2.2
     unfold dX at a4
     rw[a2] at a4
     omega
theorem sN(hs:jT n2 W O)(s0:0<=s)(s1:s<n2)(h:ZpW W P s t)(hP:gI P s=0):gI P t<=n2*1048576:=by
  have:=rv (P:=P) hs n2.toNat [] s t .nil (λz hz=>by cases hz) (by simp;omega) ⟨s0,s1⟩ (by
    have:(λz:Int=>z∉([]:List Int))=λ_=>True:=by funext z;simp
    rw[this];exact rq h)
  omega
theorem lh(hb:gk n2 s B M W O P)(hB:B=n2*1048576)(h:ju n2 s M W O P far [])(hs:sO n2 s t P)(ht:0<=t/\t<n2)(hft:gI far t≠dh):gk n2 s B M W O (di P far (gI far t))/\sO n2 s t (di P far (gI far t))/\ZpW W (di P far (gI far t)) s t:=by
 obtain⟨a1,a2,a3,a4⟩:=qR hb h hs ht hft
 have hbd:=sN hb.sh hb.s0 hb.s1 a3 a2.s0
 refine⟨⟨hb.sh,⟨by rw[j2];exact hb.pt.pl,λv a b=>⟨a4 v a b,?_⟩,hb.pt.rm,a1⟩,hb.s0,hb.s1,hb.b0,hb.hM,hb.hb⟩,a2,a3⟩
 have:=a2.tt v a b
 omega
def gV(W:List cb)(P:List Int)(v:Int)(c:List Int×List Int)(w:Int):List Int×List Int:=
 if 0<c7 W w/\gI c.1 (bV W w)<0/\dX W P v w=0 then(c.1.set (bV W w).toNat (gI c.1 v+1),c.2++[bV W w]) else c
def t5(W:List cb)(O:List (List Int))(P:List Int)(v:Int)(c:List Int×List Int):List Int×List Int:=(gI O v).foldl (gV W P v) c
def mh(W:List cb)(O:List (List Int))(P:List Int):Nat->Nat->List Int×List Int->List Int×List Int
 |0,_,c=>c
 |f+1,i,c=>if(i:Int)<(c.2.length:Int) then mh W O P f (i+1) (t5 W O P (gI c.2 (i:Int)) c) else c
def tW(n2 s:Int):List Int×List Int:=((List.replicate n2.toNat (-1)).set s.toNat 0,[s])
def bM(n2 s:Int)(W:List cb)(O:List (List Int))(P:List Int):List Int×List Int:=mh W O P n2.toNat 0 (tW n2 s)
def tH(W:List cb)(P lv:List Int)(w:Int):Prop:=eb W w/\0<c7 W w/\gI lv (bV W w)=gI lv (dL W w)+1/\dX W P (dL W w) w=0
structure sx(n2 s:Int)(W:List cb)(P lv qu:List Int):Prop where
 ll:(lv.length:Int)=n2
 qn:qu.Nodup
 qr:∀v∈qu,0<=v/\v<n2
 iff:∀v,0<=v->v<n2->(0<=gI lv v↔v∈qu)
 neg:∀v,0<=v->v<n2-> -1<=gI lv v
 s0:gI lv s=0
 sq:s∈qu
 at_:∀j:Nat,(j:Int)<qu.length->gI lv (gI qu (j:Int))<=(j:Int)
 par:∀v∈qu,v≠s->∃w,tH W P lv w/\bV W w=v/\dL W w∈qu
structure kP(n2 s:Int)(W:List cb)(O:List (List Int))(P:List Int)(R:List Int×List Int)(lv qu:List Int)(i:Nat):Prop where
 l:sx n2 s W P lv qu
 le:(i:Int)<=qu.length
 dn:∀j:Nat,j<i->∀w∈gI O (gI qu (j:Int)),0<c7 W w->dX W P (gI qu (j:Int)) w=0->0<=gI lv (bV W w)
 g:mh W O P (n2.toNat-i) i (lv,qu)=R
structure jD(n2 s:Int)(W:List cb)(O:List (List Int))(P:List Int)(R:List Int×List Int)(lv qu:List Int)(i k:Nat)(v:Int):Prop where
 l:sx n2 s W P lv qu
 le:(i:Int)<qu.length
 hv:gI qu (i:Int)=v
 dn:∀j:Nat,j<i->∀w∈gI O (gI qu (j:Int)),0<c7 W w->dX W P (gI qu (j:Int)) w=0->0<=gI lv (bV W w)
 row:∀m:Nat,m<k->(m:Int)<(gI O v).length->0<c7 W (gI (gI O v) (m:Int))->dX W P v (gI (gI O v) (m:Int))=0->0<=gI lv (bV W (gI (gI O v) (m:Int)))
 g:mh W O P (n2.toNat-(i+1)) (i+1) (((gI O v).drop k).foldl (gV W P v) (lv,qu))=R
theorem sx.ql(h:sx n2 s W P lv qu)(n0:0<=n2):(qu.length:Int)<=n2:=by
 have:=i8 n2.toNat qu h.qn (λz hz=>⟨(h.qr z hz).1,by have:=(h.qr z hz).2;omega⟩)
 omega
theorem sx.top(h:sx n2 s W P lv qu)(n0:0<=n2)(v0:0<=v)(v1:v<n2): -1<=gI lv v/\gI lv v<n2:=by
 refine⟨h.neg v v0 v1,?_⟩
 by_cases c:0<=gI lv v
 · have hm:=(h.iff v v0 v1).1 c
   obtain⟨j,hj,e⟩:=List.mem_iff_getElem.1 hm
   have e4:∀(L:List Int) (j:Nat) (hj:j<L.length),gI L (j:Int)=L[j]:=λL j hj=>by simp[gI,hj]
   have:=h.at_ j (by omega)
   rw[e4 qu j hj,e] at this
   have:=h.ql n0
   omega
 · omega
theorem lK(s0:0<=s)(s1:s<n2):kP n2 s W O P (bM n2 s W O P) ((List.replicate n2.toNat (-1)).set s.toNat 0) [s] 0:=by
 have hs:∀v,0<=v->v<n2->gI ((List.replicate n2.toNat (-1:Int)).set s.toNat 0) v=if v=s then 0 else-1:=λv a b=>by
   rw[cJ s0 (by simp;omega) a,dP a (by omega)]
 refine⟨⟨by simp;omega,by simp,λv hv=>by rw[List.mem_singleton.1 hv];exact⟨s0,s1⟩,λv a b=>?_,λv a b=>by rw[hs v a b];split<;>omega,by rw[hs s s0 s1,if_pos rfl],by simp,λj hj=>?_,λv hv hne=>absurd (List.mem_singleton.1 hv) hne⟩,by omega,λj hj=>by omega,rfl⟩
 · rw[hs v a b,List.mem_singleton]
   by_cases c:v=s
   · rw[if_pos c];exact⟨λ_=>c,λ_=>by omega⟩
   · rw[if_neg c];exact⟨λq=>by omega,λq=>absurd q c⟩
 · have:j=0:=by simp at hj;omega
   subst this
   have e:gI [s] ((0:Nat):Int)=s:=rfl
   rw[e,hs s s0 s1,if_pos rfl];omega
theorem kP.row{R:List Int×List Int}(h:kP n2 s W O P R lv qu i)(hi:(i:Int)<qu.length)(n0:0<=n2):jD n2 s W O P R lv qu i 0 (gI qu (i:Int)):=by
 have hql:=h.l.ql n0
 refine⟨h.l,hi,rfl,h.dn,λm hm=>by omega,?_⟩
 have hg:=h.g
 obtain⟨f,hf⟩:∃f,n2.toNat-i=f+1:=⟨n2.toNat-i-1,by omega⟩
 rw[hf] at hg
 unfold mh at hg
 rw[if_pos hi] at hg
 rw[show n2.toNat-(i+1)=f by omega,List.drop_zero]
 exact hg
theorem jD.no{R:List Int×List Int}(h:jD n2 s W O P R lv qu i k v)(hk:(k:Int)<(gI O v).length)(hn:¬(0<c7 W (gI (gI O v) (k:Int))/\gI lv (bV W (gI (gI O v) (k:Int)))<0/\dX W P v (gI (gI O v) (k:Int))=0)):jD n2 s W O P R lv qu i (k+1) v:=by
 refine⟨h.l,h.le,h.hv,h.dn,λm hm hl hr hz=>?_,?_⟩
 · by_cases c:m=k
   · subst c
     exact Int.not_lt.1 λj=>hn ⟨hr,j,hz⟩
   · exact h.row m (by omega) hl hr hz
 · have hg:=h.g
   rw[fU hk,List.foldl_cons] at hg
   have e:gV W P v (lv,qu) (gI (gI O v) (k:Int))=(lv,qu):=by unfold gV;rw[if_neg hn]
   rwa[e] at hg
theorem jD.yes{R:List Int×List Int}(hs:jT n2 W O)(h:jD n2 s W O P R lv qu i k v)(hk:(k:Int)<(gI O v).length)(hr:0<c7 W (gI (gI O v) (k:Int)))(hlt:gI lv (bV W (gI (gI O v) (k:Int)))<0)(hz:dX W P v (gI (gI O v) (k:Int))=0){nv tv:Int}(hnv:nv=gI lv v+1)(htv:tv=bV W (gI (gI O v) (k:Int))):jD n2 s W O P R (lv.set tv.toNat nv) (qu++[tv]) i (k+1) v:=by
 have hvq:v∈qu:=by rw[<-h.hv];exact bx (by omega) h.le
 obtain⟨v0,v1⟩:=h.l.qr v hvq
 obtain⟨hw,hfr⟩:=hs.row v v0 v1 _ (bx (xs:=gI O v) (i:=(k:Int)) (by omega) hk)
 have hg0:=h.g
 rw[fU hk,List.foldl_cons] at hg0
 have hrow:=h.row
 generalize hwe:gI (gI O v) (k:Int)=w at*
 subst htv hnv
 obtain⟨t0,t1⟩:=hs.to w hw
 have hll:=h.l.ll
 have hle:=h.le
 have hlv:0<=gI lv v:=(h.l.iff v v0 v1).2 hvq
 have hnq:bV W w∉qu:=λq=>by have:=(h.l.iff _ t0 t1).2 q;omega
 have hset:∀u,0<=u->gI (lv.set (bV W w).toNat (gI lv v+1)) u=if u=bV W w then gI lv v+1 else gI lv u:=λu a=>cJ t0 (by omega) a
 have hne:∀u∈qu,u≠bV W w:=λu hu e=>hnq (by rw[<-e];exact hu)
 have hold:∀u∈qu,gI (lv.set (bV W w).toNat (gI lv v+1)) u=gI lv u:=λu hu=>by rw[hset u (h.l.qr u hu).1,if_neg (hne u hu)]
 have hmono:∀u,0<=u->0<=gI lv u->0<=gI (lv.set (bV W w).toNat (gI lv v+1)) u:=λu a b=>by rw[hset u a];split<;>omega
 have hqj:∀j:Nat,(j:Int)<qu.length->gI (qu++[bV W w]) (j:Int)=gI qu (j:Int):=λj hj=>kN hj (by omega)
 have hvi:(i:Int)=(i:Int):=rfl
 have hlvi:gI lv v<=(i:Int):=by have:=h.l.at_ i hle;rwa[h.hv] at this
 refine⟨⟨by rw[List.length_set];exact hll,?_,λu hu=>?_,λu a b=>?_,λu a b=>?_,by rw[hold s h.l.sq];exact h.l.s0,List.mem_append_left _ h.l.sq,λj hj=>?_,λu hu hus=>?_⟩,by rw[List.length_append,List.length_singleton];omega,by rw[hqj i hle];exact h.hv,λj hj w' hw' hr' hz'=>?_,λm hm hl hr' hz'=>?_,?_⟩
 · rw[List.nodup_append]
   exact⟨h.l.qn,by simp,λa ha b hb e=>hne a ha (by rw[e,List.mem_singleton.1 hb])⟩
 · rcases List.mem_append.1 hu with q|q
   · exact h.l.qr u q
   · rw[List.mem_singleton.1 q];exact⟨t0,t1⟩
 · rw[hset u a,List.mem_append,List.mem_singleton]
   by_cases c:u=bV W w
   · rw[if_pos c];exact⟨λ_=>.inr c,λ_=>by omega⟩
   · rw[if_neg c,h.l.iff u a b];exact⟨λq=>.inl q,λq=>q.resolve_right c⟩
 · rw[hset u a]
   have:=h.l.neg u a b
   split<;>omega
 · rw[List.length_append,List.length_singleton] at hj
   by_cases c:(j:Int)<qu.length
   · rw[hqj j c,hold _ (bx (by omega) c)];exact h.l.at_ j c
   · have e:(j:Int)=(qu.length:Int):=by omega
     rw[e,mo,hset _ t0,if_pos rfl]
     omega
 · rcases List.mem_append.1 hu with q|q
   · obtain⟨w',⟨a1,a2,a3,a4⟩,b,c⟩:=h.l.par u q hus
     refine⟨w',⟨a1,a2,?_,a4⟩,b,List.mem_append_left _ c⟩
     rw[b] at a3 ⊢
     rw[hold u q,hold _ c];exact a3
   · rw[List.mem_singleton.1 q]
     refine⟨w,⟨hw,hr,?_,by rw[hfr];exact hz⟩,rfl,by rw[hfr];exact List.mem_append_left _ hvq⟩
     rw[hfr,hold v hvq,hset _ t0,if_pos rfl]
 · have hjl:(j:Int)<qu.length:=by omega
   rw[hqj j hjl] at hw' hz'
   have hr2:=h.l.qr _ (bx (xs:=qu) (i:=(j:Int)) (by omega) hjl)
   exact hmono _ (hs.to w' (hs.row _ hr2.1 hr2.2 w' hw').1).1 (h.dn j hj w' hw' hr' hz')
 · by_cases c:m=k
   · rw[c,hwe] at*
     rw[hset _ t0,if_pos rfl];omega
   · exact hmono _ (hs.to _ (hs.row v v0 v1 _ (bx (xs:=gI O v) (i:=(m:Int)) (by omega) hl)).1).1 (hrow m (by omega) hl hr' hz')
 · have e:gV W P v (lv,qu) w=(lv.set (bV W w).toNat (gI lv v+1),qu++[bV W w]):=by unfold gV;rw[if_pos ⟨hr,hlt,hz⟩]
   rwa[e] at hg0
theorem jD.done{R:List Int×List Int}(h:jD n2 s W O P R lv qu i k v)(hk:¬(k:Int)<(gI O v).length):kP n2 s W O P R lv qu (i+1):=by
 refine⟨h.l,by have:=h.le;omega,λj hj w hw hr hz=>?_,?_⟩
 · by_cases c:j=i
   · subst c
     rw[h.hv] at hw hz
     obtain⟨m,hm,e⟩:=List.mem_iff_getElem.1 hw
     have e4:∀(L:List Int) (j:Nat) (hj:j<L.length),gI L (j:Int)=L[j]:=λL j hj=>by simp[gI,hj]
     have:=h.row m (by omega) (by omega)
     rw[e4 _ m hm,e] at this
     exact this hr hz
   · exact h.dn j (by omega) w hw hr hz
 · have hg:=h.g
   rw[List.drop_eq_nil_of_le (by omega)] at hg
   exact hg
theorem kP.fin{R:List Int×List Int}(h:kP n2 s W O P R lv qu i)(hi:¬(i:Int)<qu.length):lv=R.1:=by
 have hg:=h.g
 have e:∀f,mh W O P f i (lv,qu)=(lv,qu):=λf=>by
   cases f with
   |zero=>rfl
   |succ f=>unfold mh;rw[if_neg hi]
 rw[e] at hg
 rw[<-hg]
structure ry(n2 s:Int)(W:List cb)(P lv:List Int):Prop where
  l:∃qu,sx n2 s W P lv qu
  cl:∀w,eb W w->0<=gI lv (dL W w)->0<c7 W w->dX W P (dL W w) w=0->0<=gI lv (bV W w)
theorem kP.end_{R:List Int×List Int}(hs:jT n2 W O)(h:kP n2 s W O P R lv qu i)(hi:¬(i:Int)<qu.length):ry n2 s W P lv:=by
 refine⟨⟨qu,h.l⟩,λw hw hf hr hz=>?_⟩
 have hfr:=hs.fr hw
 have hm:=(h.l.iff _ hfr.1 hfr.2).1 hf
 obtain⟨j,hj,e⟩:=List.mem_iff_getElem.1 hm
 have e4:∀(L:List Int) (j:Nat) (hj:j<L.length),gI L (j:Int)=L[j]:=λL j hj=>by simp[gI,hj]
 have ej:gI qu (j:Int)=dL W w:=by rw[e4 _ j hj,e]
 have:=h.dn j (by omega) w (by rw[ej];exact hs.all w hw) hr (by rw[ej];exact hz)
 exact this
theorem rx(h:ry n2 s W P lv)(hz:ZpW W P s v):0<=gI lv v:=by
 induction hz with
 |nil=>obtain⟨qu,hq⟩:=h.l;rw[hq.s0];exact Int.le_refl _
 |step _ b c d ih=>exact h.cl _ b ih c d
end TL
/-
  TlFlo4: what is pushed from a node to the sink, over levels.
  By an AI agent.
-/
set_option linter.all false
namespace TL
variable{n2 s t v u w x y d B M k n most:Int}{W W' W0 W1:List cb}{O:List (List Int)}{P P' lv nx nx':List Int}{m f i:Nat}
def dS(W:List cb)(l:List Int):Int:=(l.map (c7 W)).sum
def dZ(W:List cb)(w k:Int):List cb:=
  (W.set w.toNat (bV W w,c7 W w-k,fX W w)).set (cj w).toNat (bV (W.set w.toNat (bV W w,c7 W w-k,fX W w)) (cj w),c7 (W.set w.toNat (bV W w,c7 W w-k,fX W w)) (cj w)+k,fX (W.set w.toNat (bV W w,c7 W w-k,fX W w)) (cj w))
theorem fq(hs:jT n2 W O)(hw:eb W w)(x0:0<=x):bV (dZ W w k) x=bV W x/\fX (dZ W w k) x=fX W x/\c7 (dZ W w k) x=(if x=cj w then c7 W x+k else if x=w then c7 W x-k else c7 W x):=by
 have ht:=hs.tw hw
 obtain⟨p1,p2,p3,p4⟩:=eF (w:=w) hw.1
 have h0:=hw.1
 have h1:=hw.2
 have t0:=ht.1
 have t1:=ht.2
 have e1:∀y,0<=y->gI (W.set w.toNat (bV W w,c7 W w-k,fX W w)) y=if y=w then(bV W w,c7 W w-k,fX W w) else gI W y:=λy a=>cJ h0 h1 a
 have e2:gI (dZ W w k) x=if x=cj w then(bV (W.set w.toNat (bV W w,c7 W w-k,fX W w)) (cj w),c7 (W.set w.toNat (bV W w,c7 W w-k,fX W w)) (cj w)+k,fX (W.set w.toNat (bV W w,c7 W w-k,fX W w)) (cj w)) else gI (W.set w.toNat (bV W w,c7 W w-k,fX W w)) x:=by
   unfold dZ
   exact cJ t0 (by rw[List.length_set];exact t1) x0
 have e3:=e1 (cj w) t0
 rw[if_neg p3] at e3
 have q1:bV (dZ W w k) x=(gI (dZ W w k) x).1:=rfl
 have q2:fX (dZ W w k) x=(gI (dZ W w k) x).2.2:=rfl
 have q3:c7 (dZ W w k) x=(gI (dZ W w k) x).2.1:=rfl
 rw[q1,q2,q3,e2]
 by_cases c:x=cj w
 · rw[if_pos c,if_pos c]
   have r1:bV (W.set w.toNat (bV W w,c7 W w-k,fX W w)) (cj w)=bV W (cj w):=congrArg Prod.fst e3
   have r2:fX (W.set w.toNat (bV W w,c7 W w-k,fX W w)) (cj w)=fX W (cj w):=congrArg (λz=>z.2.2) e3
   have r3:c7 (W.set w.toNat (bV W w,c7 W w-k,fX W w)) (cj w)=c7 W (cj w):=congrArg (λz=>z.2.1) e3
   rw[r1,r2,r3,c]
   exact⟨rfl,rfl,rfl⟩
 · rw[if_neg c,if_neg c,e1 x x0]
   by_cases e:x=w
   · rw[if_pos e,if_pos e,e];exact⟨rfl,rfl,rfl⟩
   · rw[if_neg e,if_neg e];exact⟨rfl,rfl,rfl⟩
theorem qP:(dZ W w k).length=W.length:=by unfold dZ;simp
structure lL(W W':List cb):Prop where
  ln:W'.length=W.length
  to:∀w,0<=w->bV W' w=bV W w
  cs:∀w,0<=w->fX W' w=fX W w
  rm:∀w,eb W w->c7 W' w+c7 W' (cj w)=c7 W w+c7 W (cj w)
theorem lL.refl(W:List cb):lL W W:=⟨rfl,λ_ _=>rfl,λ_ _=>rfl,λ_ _=>rfl⟩
theorem lL.inn(h:lL W W'):eb W' w↔eb W w:=by unfold eb;rw[h.ln]
theorem lL.trans{W2:List cb}(h:lL W W')(h2:lL W' W2):lL W W2:=⟨h2.ln.trans h.ln,λw a=>(h2.to w a).trans (h.to w a),λw a=>(h2.cs w a).trans (h.cs w a),λw a=>(h2.rm w (h.inn.2 a)).trans (h.rm w a)⟩
theorem lL.fr(h:lL W W')(h0:0<=w):dL W' w=dL W w:=h.to _ (eF h0).2.1
theorem lL.rd(h:lL W W')(h0:0<=w):dX W' P v w=dX W P v w:=by unfold dX;rw[h.to w h0,h.cs w h0]
theorem lL.sh(hs:jT n2 W O)(h:lL W W'):jT n2 W' O:=by
 refine⟨by rw[h.ln];exact hs.ev,hs.ol,λw hw=>by rw[h.to w hw.1];exact hs.to w (h.inn.1 hw),λv a b w hw=>?_,λw hw=>by rw[h.fr hw.1];exact hs.all w (h.inn.1 hw),hs.nd,λw hw=>?_,by rw[h.ln];exact hs.len⟩
 · obtain⟨p,q⟩:=hs.row v a b w hw
   exact⟨h.inn.2 p,by rw[h.fr p.1];exact q⟩
 · have:=h.inn.1 hw
   rw[h.cs w hw.1,h.cs _ (eF hw.1).2.1]
   exact hs.cs w this
theorem su(hs:jT n2 W O)(hw:eb W w):lL W (dZ W w k):=by
 refine⟨qP,λx a=>(fq hs hw a).1,λx a=>(fq hs hw a).2.1,λx hx=>?_⟩
 have hx2:=hs.tw hx
 obtain⟨p1,p2,p3,p4⟩:=eF (w:=w) hw.1
 obtain⟨q1,q2,q3,q4⟩:=eF (w:=x) hx.1
 rw[(fq hs hw hx.1).2.2,(fq hs hw hx2.1).2.2]
 by_cases c:x=cj w
 · have:cj x=w:=by rw[c,p1]
   rw[if_pos c,this,if_neg (λj=>p3 j.symm),if_pos rfl];omega
 · rw[if_neg c]
   have h1:¬cj x=w:=λj=>c (by rw[<-j,q1])
   by_cases e:x=w
   · rw[if_pos e,e,if_pos rfl];omega
   · rw[if_neg e,if_neg h1]
     have h2:¬cj x=cj w:=λj=>e (by rw[<-q1,j,p1])
     rw[if_neg h2]
theorem kh{l:List Int}(h:∀x∈l,c7 W' x=c7 W x):dS W' l=dS W l:=by
 unfold dS
 rw[List.map_congr_left h]
theorem jf:∀(l:List Int),l.Nodup->w∈l->(∀x∈l,c7 W' x=if x=w then c7 W x+k else c7 W x)->dS W' l=dS W l+k
 |[],_,hw,_=>by cases hw
 |a::l,hn,hw,h=>by
   obtain⟨n1,n2⟩:=List.nodup_cons.1 hn
   have ha:=h a (List.mem_cons_self ..)
   show c7 W' a+dS W' l=c7 W a+dS W l+k
   by_cases c:a=w
   · rw[if_pos c] at ha
     have:dS W' l=dS W l:=kh λx hx=>by rw[h x (List.mem_cons_of_mem _ hx),if_neg (λe=>n1 (by rw[c,<-e];exact hx))]
     omega
   · rw[if_neg c] at ha
     have hw':w∈l:=(List.mem_cons.1 hw).resolve_left λe=>c e.symm
     have:=jf l n2 hw' λx hx=>h x (List.mem_cons_of_mem _ hx)
     omega
theorem r4(hs:jT n2 W O)(hw:eb W w)(hne:dL W w≠bV W w)(u0:0<=u)(u1:u<n2):dS (dZ W w k) (gI O u)=dS W (gI O u)-(if u=dL W w then k else 0)+(if u=bV W w then k else 0):=by
 have hrow:=hs.row u u0 u1
 obtain⟨p1,p2,p3,p4⟩:=eF (w:=w) hw.1
 have hat:∀x∈gI O u,c7 (dZ W w k) x=(if x=cj w then c7 W x+k else if x=w then c7 W x-k else c7 W x):=λx hx=>(fq hs hw (hrow x hx).1.1).2.2
 by_cases c:u=dL W w
 · have c2:¬u=bV W w:=λe=>hne (by rw[<-c,e])
   rw[if_pos c,if_neg c2]
   have hm:w∈gI O u:=by rw[c];exact hs.all w hw
   have:=jf (W':=dZ W w k) (W:=W) (k:= -k) (gI O u) (hs.nd u u0 u1) hm λx hx=>by
     rw[hat x hx]
     have:¬x=cj w:=λe=>c2 (by
       have:=(hrow x hx).2
       rw[e,iY hw.1] at this
       exact this.symm)
     rw[if_neg this];split<;>omega
   omega
 · rw[if_neg c]
   by_cases c2:u=bV W w
   · rw[if_pos c2]
     have hm:cj w∈gI O u:=by
       have:=hs.all _ (hs.tw hw)
       rw[iY hw.1] at this
       rw[c2];exact this
     have:=jf (W':=dZ W w k) (W:=W) (k:=k) (gI O u) (hs.nd u u0 u1) hm λx hx=>by
       rw[hat x hx]
       have:¬x=w:=λe=>c (by
         have:=(hrow x hx).2
         rw[e] at this
         exact this.symm)
       rw[if_neg this]
     omega
   · rw[if_neg c2]
     have:=kh (W':=dZ W w k) (W:=W) (l:=gI O u) λx hx=>by
       rw[hat x hx]
       have h1:¬x=cj w:=λe=>c2 (by
         have:=(hrow x hx).2
         rw[e,iY hw.1] at this
         exact this.symm)
       have h2:¬x=w:=λe=>c (by
         have:=(hrow x hx).2
         rw[e] at this
         exact this.symm)
       rw[if_neg h1,if_neg h2]
     omega
def cL(O:List (List Int))(P lv:List Int)(t:Int):Nat->Int->Int->List cb->List Int->Int×List cb×List Int
  |0,_,_,W,nx=>(0,W,nx)
  |f+1,v,most,W,nx=>
    if v=t then(most,W,nx)
    else if¬gI nx v<((gI O v).length:Int) then(0,W,nx)
    else if c7 W (gI (gI O v) (gI nx v))=0\/¬gI lv (bV W (gI (gI O v) (gI nx v)))=gI lv v+1\/¬dX W P v (gI (gI O v) (gI nx v))=0 then cL O P lv t f v most W (nx.set v.toNat (gI nx v+1))
    else
      let r:=cL O P lv t f (bV W (gI (gI O v) (gI nx v))) (min most (c7 W (gI (gI O v) (gI nx v)))) W nx
      if 0<r.1 then(r.1,dZ r.2.1 (gI (gI O v) (gI nx v)) r.1,r.2.2)
      else cL O P lv t f v most r.2.1 (r.2.2.set v.toNat (gI r.2.2 v+1))
structure ss(n2:Int)(O:List (List Int))(nx:List Int):Prop where
 nl:(nx.length:Int)=n2
 rg:∀v,0<=v->v<n2->0<=gI nx v/\gI nx v<=((gI O v).length:Int)
def lm(n2:Int)(O:List (List Int))(nx:List Int):Nat:=((dm n2.toNat).map λu=>((gI O u).length-(gI nx u).toNat)).sum
def fh(n2:Int)(O:List (List Int))(nx lv:List Int)(v:Int):Nat:=lm n2 O nx+(n2+1-gI lv v).toNat
theorem j4{l:List Int}{F G:Int->Nat}(h:∀x∈l,F x<=G x):(l.map F).sum<=(l.map G).sum:=by
 induction l with
 |nil=>simp
 |cons a l ih=>
   have:=h a (List.mem_cons_self ..)
   have:=ih λx hx=>h x (List.mem_cons_of_mem _ hx)
   simp only[List.map_cons,List.sum_cons];omega
theorem mj{l:List Int}{F G:Int->Nat}(h:∀x∈l,F x<=G x)(hv:v∈l)(hlt:F v<G v):(l.map F).sum<(l.map G).sum:=by
 induction l with
 |nil=>cases hv
 |cons a l ih=>
   have h1:=h a (List.mem_cons_self ..)
   have h2:∀x∈l,F x<=G x:=λx hx=>h x (List.mem_cons_of_mem _ hx)
   simp only[List.map_cons,List.sum_cons]
   rcases List.mem_cons.1 hv with q|q
   · rw[q] at hlt
     have:=j4 h2
     omega
   · have:=ih h2 q
     omega
theorem jj(hn:ss n2 O nx)(h:∀u,0<=u->u<n2->gI nx u<=gI nx' u):lm n2 O nx'<=lm n2 O nx:=by
 refine j4 λx hx=>?_
 obtain⟨a,b⟩:=fv.1 hx
 have:=h x a (by omega)
 have:=hn.rg x a (by omega)
 omega
theorem eO(hn:ss n2 O nx)(v0:0<=v)(v1:v<n2)(hlt:gI nx v<((gI O v).length:Int)):ss n2 O (nx.set v.toNat (gI nx v+1))/\(∀u,0<=u->gI (nx.set v.toNat (gI nx v+1)) u=if u=v then gI nx v+1 else gI nx u)/\lm n2 O (nx.set v.toNat (gI nx v+1))<lm n2 O nx:=by
 have hl:=hn.nl
 have hs:∀u,0<=u->gI (nx.set v.toNat (gI nx v+1)) u=if u=v then gI nx v+1 else gI nx u:=λu a=>cJ v0 (by omega) a
 have hv:=hn.rg v v0 v1
 refine⟨⟨by rw[List.length_set];exact hl,λu a b=>?_⟩,hs,?_⟩
 · rw[hs u a]
   have:=hn.rg u a b
   by_cases c:u=v
   · rw[if_pos c,c];omega
   · rw[if_neg c];exact this
 · refine mj (v:=v) (λx hx=>?_) (fv.2 ⟨v0,by omega⟩) ?_
   · obtain⟨a,b⟩:=fv.1 hx
     rw[hs x a]
     by_cases c:x=v
     · rw[if_pos c,c];omega
     · rw[if_neg c];exact Nat.le_refl _
   · rw[hs v v0,if_pos rfl];omega
structure pL(n2:Int)(W:List cb)(O:List (List Int))(lv nx:List Int):Prop where
  sh:jT n2 W O
  rm:∀w,eb W w->0<=c7 W w
  nx:ss n2 O nx
  lv:∀v,0<=v->v<n2-> -1<=gI lv v/\gI lv v<n2
  rb:∀w,eb W w->c7 W w+c7 W (cj w)<=1048576
structure sE(n2 t v most:Int)(W:List cb)(O:List (List Int))(P lv nx:List Int)(r:Int×List cb×List Int):Prop where
  k0:0<=r.1
  k1:r.1<=most
  sm:lL W r.2.1
  rm:∀w,eb W w->0<=c7 r.2.1 w
  nxi:ss n2 O r.2.2
  mn:∀u,0<=u->u<n2->gI nx u<=gI r.2.2 u
  sum:∀u,0<=u->u<n2->dS r.2.1 (gI O u)=dS W (gI O u)-(if u=v then r.1 else 0)+(if u=t then r.1 else 0)
  pos:∀w,eb W w->0<c7 r.2.1 w->0<c7 W w\/dX W P (dL W w) w=0
  loc:∀w,eb W w->(gI lv (dL W w)<gI lv v\/gI lv (bV W w)<gI lv v)->c7 r.2.1 w=c7 W w
  jn:∀u,0<=u->u<n2->gI lv u<gI lv v->gI r.2.2 u=gI nx u
  z:r.1=0->r.2.1=W
theorem iX:∀(f:Nat) (v:Int) (most:Int) (W:List cb) (nx:List Int),0<=most->pL n2 W O lv nx->0<=v->v<n2->sE n2 t v most W O P lv nx (cL O P lv t f v most W nx)
 |0,v,most,W,nx,hm,h,v0,v1=>by
   unfold cL
   exact⟨Int.le_refl _,hm,.refl W,h.rm,h.nx,λ_ _ _=>Int.le_refl _,λu _ _=>by simp,λw _ q=>.inl q,λ_ _ _=>rfl,λ_ _ _ _=>rfl,λ_=>rfl⟩
 |f+1,v,most,W,nx,hm,h,v0,v1=>by
   unfold cL
   by_cases c1:v=t
   · rw[if_pos c1]
     refine⟨hm,Int.le_refl _,.refl W,h.rm,h.nx,λ_ _ _=>Int.le_refl _,λu _ _=>?_,λw _ q=>.inl q,λ_ _ _=>rfl,λ_ _ _ _=>rfl,λ_=>rfl⟩
     show dS W (gI O u)=dS W (gI O u)-(if u=v then most else 0)+(if u=t then most else 0)
     rw[c1];omega
   · rw[if_neg c1]
     by_cases c2:gI nx v<((gI O v).length:Int)
     · rw[if_neg (λj=>j c2)]
       obtain⟨n1,n2',n3⟩:=eO h.nx v0 v1 c2
       have hnr:=h.nx.rg v v0 v1
       obtain⟨hw,hfr⟩:=h.sh.row v v0 v1 _ (bx (xs:=gI O v) hnr.1 c2)
       by_cases c3:c7 W (gI (gI O v) (gI nx v))=0\/¬gI lv (bV W (gI (gI O v) (gI nx v)))=gI lv v+1\/¬dX W P v (gI (gI O v) (gI nx v))=0
       · rw[if_pos c3]
         have ih:=iX f v most W _ hm ⟨h.sh,h.rm,n1,h.lv,h.rb⟩ v0 v1
         exact⟨ih.k0,ih.k1,ih.sm,ih.rm,ih.nxi,λu a b=>Int.le_trans (by rw[n2' u a];split<;>rename_i e<;>first|(rw[e];omega)|exact Int.le_refl _) (ih.mn u a b),ih.sum,ih.pos,ih.loc,λu a b q=>by rw[ih.jn u a b q,n2' u a,if_neg (λe=>by rw[e] at q;omega)],ih.z⟩
       · rw[if_neg c3]
         have e1:¬c7 W (gI (gI O v) (gI nx v))=0:=λj=>c3 (.inl j)
         have e2:gI lv (bV W (gI (gI O v) (gI nx v)))=gI lv v+1:=Classical.byContradiction λj=>c3 (.inr (.inl j))
         have e3:dX W P v (gI (gI O v) (gI nx v))=0:=Classical.byContradiction λj=>c3 (.inr (.inr j))
         generalize gI (gI O v) (gI nx v)=w at*
         have hrw:=h.rm w hw
         have hto:=h.sh.to w hw
         have ih:=iX f (bV W w) (min most (c7 W w)) W nx (by omega) h hto.1 hto.2
         simp only
         generalize cL O P lv t f (bV W w) (min most (c7 W w)) W nx=r at ih
         have hr1:c7 r.2.1 w=c7 W w:=ih.loc w hw (.inl (by rw[hfr];omega))
         have hrt:c7 r.2.1 (cj w)=c7 W (cj w):=ih.loc _ (h.sh.tw hw) (.inr (by have:bV W (cj w)=v:=hfr;rw[this];omega))
         by_cases c4:0<r.1
         · rw[if_pos c4]
           have hs':=ih.sm.sh h.sh
           have hw':=ih.sm.inn.2 hw
           have hk1:=ih.k1
           have hfr':dL r.2.1 w=v:=by rw[ih.sm.fr hw.1];exact hfr
           have hto':bV r.2.1 w=bV W w:=ih.sm.to w hw.1
           have hne:dL r.2.1 w≠bV r.2.1 w:=λe=>by rw[hfr',hto'] at e;rw[<-e] at e2;omega
           obtain⟨p1,p2,p3,p4⟩:=eF (w:=w) hw.1
           refine⟨ih.k0,by show r.1<=most;omega,ih.sm.trans (su hs' hw'),λx hx=>?_,ih.nxi,ih.mn,λu a b=>?_,λx hx hp=>?_,λx hx hl=>?_,λu a b q=>ih.jn u a b (by omega),λq=>by have:r.1=0:=q;omega⟩
           · show 0<=c7 (dZ r.2.1 w r.1) x
             rw[(fq hs' hw' hx.1).2.2]
             have:=ih.rm x hx
             by_cases d:x=cj w
             · rw[if_pos d];omega
             · rw[if_neg d]
               by_cases e:x=w
               · rw[if_pos e,e,hr1];omega
               · rw[if_neg e];exact this
           · show dS (dZ r.2.1 w r.1) (gI O u)=_
             rw[r4 hs' hw' hne a b,ih.sum u a b,hfr',hto']
             show _=dS W (gI O u)-(if u=v then r.1 else 0)+(if u=t then r.1 else 0)
             omega
           · have hp:0<c7 (dZ r.2.1 w r.1) x:=hp
             rw[(fq hs' hw' hx.1).2.2] at hp
             by_cases d:x=cj w
             · right
               rw[d]
               have hcs:=(h.sh.cs w hw).1
               rw[iY hw.1]
               unfold dX at e3 ⊢
               have:bV W (cj w)=v:=hfr
               rw[this];omega
             · rw[if_neg d] at hp
               by_cases e:x=w
               · left;rw[e];omega
               · rw[if_neg e] at hp
                 exact ih.pos x hx hp
           · show c7 (dZ r.2.1 w r.1) x=c7 W x
             rw[(fq hs' hw' hx.1).2.2]
             have d:¬x=cj w:=λd=>by
               rw[d,iY hw.1] at hl
               have:bV W (cj w)=v:=hfr
               rw[this] at hl;omega
             have e:¬x=w:=λe=>by rw[e,hfr] at hl;omega
             rw[if_neg d,if_neg e]
             exact ih.loc x hx (by omega)
         · rw[if_neg c4]
           have hz:r.1=0:=by have:=ih.k0;omega
           have hW:=ih.z hz
           rw[hW]
           have hjv:gI r.2.2 v=gI nx v:=ih.jn v v0 v1 (by omega)
           obtain⟨m1,m2,m3⟩:=eO ih.nxi v0 v1 (by rw[hjv];exact c2)
           have ih2:=iX f v most W _ hm ⟨h.sh,h.rm,m1,h.lv,h.rb⟩ v0 v1
           exact⟨ih2.k0,ih2.k1,ih2.sm,ih2.rm,ih2.nxi,λu a b=>Int.le_trans (ih.mn u a b) (Int.le_trans (by rw[m2 u a];split<;>rename_i e<;>first|(rw[e];omega)|exact Int.le_refl _) (ih2.mn u a b)),ih2.sum,ih2.pos,ih2.loc,λu a b q=>by rw[ih2.jn u a b q,m2 u a,if_neg (λe=>by rw[e] at q;omega),ih.jn u a b (by omega)],ih2.z⟩
     · rw[if_pos c2]
       exact⟨Int.le_refl _,hm,.refl W,h.rm,h.nx,λ_ _ _=>Int.le_refl _,λu _ _=>by simp,λw _ q=>.inl q,λ_ _ _=>rfl,λ_ _ _ _=>rfl,λ_=>rfl⟩
end TL
/-
  TlFlo5: a push, step by step; the first push over levels sends something.
  By an AI agent.
-/
set_option linter.all false
namespace TL
variable{n2 s t v u w x y d B M k n most:Int}{W W' W0 W1:List cb}{O:List (List Int)}{P P' lv nx nx':List Int}{m f i:Nat}{R:Int×List cb×List Int}
theorem sE.pui{r:Int×List cb×List Int}(h:pL n2 W O lv nx)(e:sE n2 t v most W O P lv nx r):pL n2 r.2.1 O lv r.2.2:=by
 refine⟨e.sm.sh h.sh,λw hw=>e.rm w (e.sm.inn.1 hw),e.nxi,h.lv,λw hw=>?_⟩
 have:=e.sm.rm w (e.sm.inn.1 hw)
 have:=h.rb w (e.sm.inn.1 hw)
 omega
structure lc(n2 t v most:Int)(O:List (List Int))(P lv:List Int)(R:Int×List cb×List Int)(f:Nat)(W:List cb)(nx:List Int):Prop where
  i:pL n2 W O lv nx
  mu:fh n2 O nx lv v<=f
  v0:0<=v
  v1:v<n2
  m0:0<=most
  nt:v≠t
  g:cL O P lv t f v most W nx=R
theorem lc.pos(h:lc n2 t v most O P lv R f W nx):∃g,f=g+1:=by
 have:=h.mu
 have:=(h.i.lv v h.v0 h.v1).2
 unfold fh at*
 exact⟨f-1,by omega⟩
theorem lc.done(h:lc n2 t v most O P lv R f W nx)(hk:¬gI nx v<((gI O v).length:Int)):R=(0,W,nx):=by
 obtain⟨g,rfl⟩:=h.pos
 have hg:=h.g
 unfold cL at hg
 rw[if_neg h.nt,if_pos hk] at hg
 exact hg.symm
theorem lc.skip(h:lc n2 t v most O P lv R f W nx)(hk:gI nx v<((gI O v).length:Int))(hc:c7 W (gI (gI O v) (gI nx v))=0\/¬gI lv (bV W (gI (gI O v) (gI nx v)))=gI lv v+1\/¬dX W P v (gI (gI O v) (gI nx v))=0):lc n2 t v most O P lv R (f-1) W (nx.set v.toNat (gI nx v+1))/\f-1<f:=by
 have hm:=h.mu
 obtain⟨g,rfl⟩:=h.pos
 have hg:=h.g
 unfold cL at hg
 rw[if_neg h.nt,if_neg (λj=>j hk),if_pos hc] at hg
 obtain⟨n1,n2',n3⟩:=eO h.i.nx h.v0 h.v1 hk
 refine⟨⟨⟨h.i.sh,h.i.rm,n1,h.i.lv,h.i.rb⟩,?_,h.v0,h.v1,h.m0,h.nt,hg⟩,by omega⟩
 unfold fh at*
 omega
theorem lc.way(h:lc n2 t v most O P lv R f W nx)(hk:gI nx v<((gI O v).length:Int)):eb W (gI (gI O v) (gI nx v))/\dL W (gI (gI O v) (gI nx v))=v:=h.i.sh.row v h.v0 h.v1 _ (bx (xs:=gI O v) (h.i.nx.rg v h.v0 h.v1).1 hk)
theorem lc.call(h:lc n2 t v most O P lv R f W nx)(hk:gI nx v<((gI O v).length:Int))(c2:gI lv (bV W (gI (gI O v) (gI nx v)))=gI lv v+1):fh n2 O nx lv (bV W (gI (gI O v) (gI nx v)))<=f-1/\f-1<f/\(0<=bV W (gI (gI O v) (gI nx v))/\bV W (gI (gI O v) (gI nx v))<n2)/\0<=min most (c7 W (gI (gI O v) (gI nx v))):=by
 have hm:=h.mu
 obtain⟨hw,_⟩:=h.way hk
 have ht:=h.i.sh.to _ hw
 have h3:=h.i.rm _ hw
 have h4:=h.m0
 have h5:=(h.i.lv v h.v0 h.v1).2
 obtain⟨g,rfl⟩:=h.pos
 refine⟨?_,by omega,ht,by omega⟩
 unfold fh at*
 rw[c2]
 omega
theorem lc.rec_(h:lc n2 t v most O P lv R f W nx)(hk:gI nx v<((gI O v).length:Int))(c1:¬c7 W (gI (gI O v) (gI nx v))=0)(c2:gI lv (bV W (gI (gI O v) (gI nx v)))=gI lv v+1)(c3:dX W P v (gI (gI O v) (gI nx v))=0){r:Int×List cb×List Int}(hr:r=cL O P lv t (f-1) (bV W (gI (gI O v) (gI nx v))) (min most (c7 W (gI (gI O v) (gI nx v)))) W nx):sE n2 t (bV W (gI (gI O v) (gI nx v))) (min most (c7 W (gI (gI O v) (gI nx v)))) W O P lv nx r/\c7 r.2.1 (gI (gI O v) (gI nx v))=c7 W (gI (gI O v) (gI nx v))/\gI r.2.2 v=gI nx v/\(0<r.1->R=(r.1,dZ r.2.1 (gI (gI O v) (gI nx v)) r.1,r.2.2))/\(¬0<r.1->lc n2 t v most O P lv R (f-1) r.2.1 (r.2.2.set v.toNat (gI r.2.2 v+1))):=by
 obtain⟨q1,q2,q3,q4⟩:=h.call hk c2
 obtain⟨hw,hfr⟩:=h.way hk
 have hm:=h.mu
 obtain⟨g,rfl⟩:=h.pos
 have hg:=h.g
 unfold cL at hg
 rw[if_neg h.nt,if_neg (λj=>j hk),if_neg (λj=>by
   rcases j with j|j|j
   · exact c1 j
   · exact j c2
   · exact j c3)] at hg
 simp only[Nat.add_sub_cancel] at hr hg ⊢
 have ih:=iX (t:=t) (P:=P) g (bV W (gI (gI O v) (gI nx v))) (min most (c7 W (gI (gI O v) (gI nx v)))) W nx q4 h.i q3.1 q3.2
 rw[<-hr] at hg ih
 generalize gI (gI O v) (gI nx v)=w at*
 have hr1:c7 r.2.1 w=c7 W w:=ih.loc w hw (.inl (by rw[hfr];omega))
 have hjv:gI r.2.2 v=gI nx v:=ih.jn v h.v0 h.v1 (by omega)
 refine⟨ih,hr1,hjv,λhp=>?_,λhp=>?_⟩
 · rw[if_pos hp] at hg
   exact hg.symm
 · rw[if_neg hp] at hg
   obtain⟨m1,m2,m3⟩:=eO ih.nxi h.v0 h.v1 (by rw[hjv];exact hk)
   have hi:=ih.pui h.i
   refine⟨⟨hi.sh,hi.rm,m1,hi.lv,hi.rb⟩,?_,h.v0,h.v1,h.m0,h.nt,hg⟩
   have:=jj h.i.nx ih.mn
   unfold fh at*
   omega
def tc(n2 t:Int)(W:List cb)(O:List (List Int))(P lv nx:List Int):Prop:=
 ∀u,0<=u->u<n2->∀j:Nat,(j:Int)<gI nx u->tH W P lv (gI (gI O u) (j:Int))->bV W (gI (gI O u) (j:Int))≠t/\gI nx (bV W (gI (gI O u) (j:Int)))=((gI O (bV W (gI (gI O u) (j:Int)))).length:Int)
theorem lT(h:pL n2 W O lv nx)(hd:tc n2 t W O P lv nx)(v0:0<=v)(v1:v<n2)(hlt:gI nx v<((gI O v).length:Int))(hn:tH W P lv (gI (gI O v) (gI nx v))->bV W (gI (gI O v) (gI nx v))≠t/\bV W (gI (gI O v) (gI nx v))≠v/\gI nx (bV W (gI (gI O v) (gI nx v)))=((gI O (bV W (gI (gI O v) (gI nx v)))).length:Int)):tc n2 t W O P lv (nx.set v.toNat (gI nx v+1)):=by
 obtain⟨_,hs,_⟩:=eO h.nx v0 v1 hlt
 intro u u0 u1 j hj ha
 rw[hs u u0] at hj
 have hrow:(j:Int)<((gI O u).length:Int):=by
   have:=(h.nx.rg u u0 u1).2
   by_cases c:u=v
   · rw[if_pos c] at hj;rw[c];omega
   · rw[if_neg c] at hj;omega
 have hw:=(h.sh.row u u0 u1 _ (bx (xs:=gI O u) (i:=(j:Int)) (by omega) hrow)).1
 have ht:=(h.sh.to _ hw).1
 rw[hs _ ht]
 by_cases c:u=v/\(j:Int)=gI nx v
 · obtain⟨rfl,e⟩:=c
   rw[e] at ha ⊢
   obtain⟨a1,a2,a3⟩:=hn ha
   rw[if_neg a2]
   exact⟨a1,a3⟩
 · obtain⟨a1,a2⟩:=hd u u0 u1 j (by
     by_cases e:u=v
     · rw[if_pos e] at hj
       have:¬(j:Int)=gI nx v:=λq=>c ⟨e,q⟩
       rw[e];omega
     · rw[if_neg e] at hj;exact hj) ha
   refine⟨a1,?_⟩
   rw[if_neg (λe=>by rw[e] at a2;omega)]
   exact a2
theorem iS:∀(f:Nat) (v most:Int) (nx:List Int),0<most->pL n2 W O lv nx->0<=v->v<n2->fh n2 O nx lv v<=f->tc n2 t W O P lv nx->(cL O P lv t f v most W nx).1=0->v≠t/\tc n2 t W O P lv (cL O P lv t f v most W nx).2.2/\gI (cL O P lv t f v most W nx).2.2 v=((gI O v).length:Int)
 |0,v,most,nx,hm,h,v0,v1,hmu,hd,hz=>by
   have:=(h.lv v v0 v1).2
   unfold fh at hmu
   omega
 |f+1,v,most,nx,hm,h,v0,v1,hmu,hd,hz=>by
   unfold cL at hz ⊢
   by_cases c1:v=t
   · rw[if_pos c1] at hz
     have:most=0:=hz
     omega
   · rw[if_neg c1] at hz ⊢
     by_cases c2:gI nx v<((gI O v).length:Int)
     · rw[if_neg (λj=>j c2)] at hz ⊢
       obtain⟨n1,n2',n3⟩:=eO h.nx v0 v1 c2
       have hnr:=h.nx.rg v v0 v1
       obtain⟨hw,hfr⟩:=h.sh.row v v0 v1 _ (bx (xs:=gI O v) hnr.1 c2)
       have hdn:=lT (P:=P) (t:=t) h hd v0 v1 c2
       by_cases c3:c7 W (gI (gI O v) (gI nx v))=0\/¬gI lv (bV W (gI (gI O v) (gI nx v)))=gI lv v+1\/¬dX W P v (gI (gI O v) (gI nx v))=0
       · rw[if_pos c3] at hz ⊢
         refine iS f v most _ hm ⟨h.sh,h.rm,n1,h.lv,h.rb⟩ v0 v1 (by unfold fh at*;omega) (hdn λ⟨_,a,b,c⟩=>?_) hz
         rw[hfr] at b c
         rcases c3 with j|j|j
         · omega
         · exact absurd b j
         · exact absurd c j
       · rw[if_neg c3] at hz ⊢
         have e1:¬c7 W (gI (gI O v) (gI nx v))=0:=λj=>c3 (.inl j)
         have e2:gI lv (bV W (gI (gI O v) (gI nx v)))=gI lv v+1:=Classical.byContradiction λj=>c3 (.inr (.inl j))
         generalize hwe:gI (gI O v) (gI nx v)=w at*
         have hrw:=h.rm w hw
         have hto:=h.sh.to w hw
         have hlv:=(h.lv v v0 v1).2
         have hq:fh n2 O nx lv (bV W w)<=f:=by unfold fh at*;rw[e2];omega
         have ih:=iX (t:=t) (P:=P) f (bV W w) (min most (c7 W w)) W nx (by omega) h hto.1 hto.2
         have ihd:=iS f (bV W w) (min most (c7 W w)) nx (by omega) h hto.1 hto.2 hq hd
         simp only at hz ⊢
         generalize cL O P lv t f (bV W w) (min most (c7 W w)) W nx=r at*
         by_cases c4:0<r.1
         · rw[if_pos c4] at hz
           have:r.1=0:=hz
           omega
         · rw[if_neg c4] at hz ⊢
           have hz1:r.1=0:=by have:=ih.k0;omega
           have hW:=ih.z hz1
           obtain⟨d1,d2,d3⟩:=ihd hz1
           rw[hW] at hz ⊢
           have hjv:gI r.2.2 v=gI nx v:=ih.jn v v0 v1 (by omega)
           obtain⟨m1,m2,m3⟩:=eO ih.nxi v0 v1 (by rw[hjv];exact c2)
           have hi:pL n2 W O lv r.2.2:=⟨h.sh,h.rm,ih.nxi,h.lv,h.rb⟩
           have hrw2:w=gI (gI O v) (gI r.2.2 v):=by rw[hjv,hwe]
           have hd2:=lT (P:=P) (t:=t) hi d2 v0 v1 (by rw[hjv];exact c2) (by
             rw[<-hrw2]
             exact λ_=>⟨d1,λe=>by rw[e] at e2;omega,d3⟩)
           have:=jj h.nx ih.mn
           exact iS f v most _ hm ⟨h.sh,h.rm,m1,h.lv,h.rb⟩ v0 v1 (by unfold fh at*;omega) hd2 hz
     · rw[if_pos c2]
       refine⟨c1,hd,?_⟩
       have:=(h.nx.rg v v0 v1).2
       show gI nx v=_
       omega
def pu(n2:Int)(O:List (List Int))(P lv:List Int)(t v most:Int)(W:List cb)(nx:List Int):Int×List cb×List Int:=cL O P lv t (fh n2 O nx lv v) v most W nx
def gb(n2:Int):List Int:=List.replicate n2.toNat 0
theorem t7(n0:0<=n2):ss n2 O (gb n2):=⟨by unfold gb;simp;omega,λv a b=>by unfold gb;rw[dP a (by omega)];omega⟩
theorem pJ(h:pL n2 W O lv (gb n2))(hl:ry n2 s W P lv)(s0:0<=s)(s1:s<n2)(hst:s≠t)(t0:0<=t)(t1:t<n2)(ht:0<=gI lv t)(hm:0<most):0<(pu n2 O P lv t s most W (gb n2)).1:=by
 have hok:=iX (t:=t) (P:=P) (fh n2 O (gb n2) lv s) s most W (gb n2) (by omega) h s0 s1
 refine Classical.byContradiction λhc=>?_
 have hz:(pu n2 O P lv t s most W (gb n2)).1=0:=by have:=hok.k0;unfold pu at hc ⊢;omega
 have hd0:tc n2 t W O P lv (gb n2):=λu a b j hj=>by
   unfold gb at hj
   rw[dP a (by omega)] at hj
   omega
 obtain⟨a1,a2,a3⟩:=iS _ s most _ hm h s0 s1 (Nat.le_refl _) hd0 hz
 obtain⟨qu,hq⟩:=hl.l
 have oL:∀(m:Nat) (u:Int),(gI lv u).toNat<=m->u∈qu->u≠t/\gI (cL O P lv t (fh n2 O (gb n2) lv s) s most W (gb n2)).2.2 u=((gI O u).length:Int):=by
   intro m
   induction m with
   |zero=>
     intro u hu hm
     by_cases c:u=s
     · rw[c];exact⟨hst,a3⟩
     · obtain⟨w,⟨b1,b2,b3,b4⟩,b5,b6⟩:=hq.par u hm c
       have hf:=hq.qr _ b6
       have:=(hq.iff _ hf.1 hf.2).2 b6
       rw[b5] at b3
       omega
   |succ m ih=>
     intro u hu hm
     by_cases c:u=s
     · rw[c];exact⟨hst,a3⟩
     · obtain⟨w,hA,b5,b6⟩:=hq.par u hm c
       have hA2:=hA
       obtain⟨b1,b2,b3,b4⟩:=hA2
       have hf:=hq.qr _ b6
       rw[b5] at b3
       obtain⟨i1,i2⟩:=ih _ (by omega) b6
       obtain⟨j,hj,e⟩:=List.mem_iff_getElem.1 (h.sh.all w b1)
       have e4:∀(L:List Int) (j:Nat) (hj:j<L.length),gI L (j:Int)=L[j]:=λL j hj=>by simp[gI,hj]
       have e5:gI (gI O (dL W w)) (j:Int)=w:=by rw[e4 _ j hj,e]
       have:=a2 _ hf.1 hf.2 j (by rw[i2];omega) (by rw[e5];exact hA)
       rw[e5,b5] at this
       exact this
 exact(oL _ t (Nat.le_refl _) ((hq.iff t t0 t1).1 ht)).1 rfl
end TL
/-
  TlFlo6: a task's pipes filled.
  By an AI agent.
-/
set_option linter.all false
namespace TL
variable{n2 s t v u w x y d B M k n most ak fl:Int}{W W' W0 W1:List cb}{O:List (List Int)}{P P' lv nx nx' far:List Int}{m f i:Nat}
abbrev iu:=List cb×List Int×List Int×List Int×Int
def mK(n2 s t ak:Int)(O:List (List Int)):Nat->Nat->List cb->List Int->List Int->List Int->Int->iu
  |0,_,W,P,far,nx,fl=>(W,P,far,nx,fl)
  |f+1,ph,W,P,far,nx,fl=>
    if ph=0 then
      if gI (ck n2 s W O P) t=dh then(W,P,ck n2 s W O P,nx,fl) else mK n2 s t ak O f 1 W (di P (ck n2 s W O P) (gI (ck n2 s W O P) t)) (ck n2 s W O P) nx fl
    else if ph=1 then mK n2 s t ak O f (if 0<=gI (bM n2 s W O P).1 t then 2 else 0) W P (bM n2 s W O P).1 (gb n2) fl
    else if 0<(pu n2 O P far t s ak W nx).1 then mK n2 s t ak O f 2 (pu n2 O P far t s ak W nx).2.1 P far (pu n2 O P far t s ak W nx).2.2 (fl+(pu n2 O P far t s ak W nx).1)
    else mK n2 s t ak O f 1 (pu n2 O P far t s ak W nx).2.1 P far (pu n2 O P far t s ak W nx).2.2 fl
structure s4(n2 s t ak B M:Int)(W0:List cb)(O:List (List Int)):Prop where
  sh:jT n2 W0 O
  s0:0<=s
  s1:s<n2
  t0:0<=t
  t1:t<n2
  st:s≠t
  n2b:n2<=5000
  hB:B=n2*1048576
  hM:M=1048576+B
  sum:dS W0 (gI O s)=ak
  rb:∀w,eb W0 w->c7 W0 w+c7 W0 (cj w)<=1048576
  rm:∀w,eb W0 w->0<=c7 W0 w
  rd:∀w,eb W0 w->0<c7 W0 w->0<=fX W0 w
  ab:ak<=1099511627776
structure tK(n2 s t:Int)(W0 W:List cb)(O:List (List Int))(fl:Int):Prop where
  sm:lL W0 W
  rm:∀w,eb W0 w->0<=c7 W w
  sum:∀u,0<=u->u<n2->dS W (gI O u)=dS W0 (gI O u)-(if u=s then fl else 0)+(if u=t then fl else 0)
  f0:0<=fl
structure jC(n2 s t ak B M:Int)(W0:List cb)(O:List (List Int))(W:List cb)(P:List Int)(fl:Int):Prop where
  b:s4 n2 s t ak B M W0 O
  d:gk n2 s B M W O P
  p:sO n2 s t P
  l:tK n2 s t W0 W O fl
structure nK(n2 s t ak B M:Int)(W0:List cb)(O:List (List Int))(R:iu)(f:Nat)(W:List cb)(P far nx:List Int)(fl:Int):Prop where
 i:jC n2 s t ak B M W0 O W P fl
 g:mK n2 s t ak O f 0 W P far nx fl=R
 m:5*(ak-fl).toNat+3<=f
structure pX(n2 s t ak B M:Int)(W0:List cb)(O:List (List Int))(R:iu)(f:Nat)(W:List cb)(P far nx:List Int)(fl:Int):Prop where
 i:jC n2 s t ak B M W0 O W P fl
 g:mK n2 s t ak O f 1 W P far nx fl=R
 m:(ZpW W P s t/\5*(ak-fl).toNat+2<=f)\/5*(ak-fl).toNat+4<=f
 ap:0<ak
structure nJ(n2 s t ak B M:Int)(W0:List cb)(O:List (List Int))(R:iu)(f:Nat)(W:List cb)(P lv nx:List Int)(fl:Int):Prop where
 i:jC n2 s t ak B M W0 O W P fl
 u:pL n2 W O lv nx
 ll:(lv.length:Int)=n2
 g:mK n2 s t ak O f 2 W P lv nx fl=R
 m:((ry n2 s W P lv/\0<=gI lv t/\nx=gb n2)/\5*(ak-fl).toNat+1<=f)\/5*(ak-fl).toNat+5<=f
 ap:0<ak
theorem kV:∀(l:List Int),(∀w∈l,0<=c7 W w)->0<=dS W l
 |[],_=>Int.le_refl _
 |a::l,h=>by
   have:=h a (List.mem_cons_self ..)
   have:=kV l λw hw=>h w (List.mem_cons_of_mem _ hw)
   show 0<=c7 W a+dS W l
   omega
theorem lS:∀(l:List Int),(∀w∈l,0<=c7 W w)->w∈l->0<c7 W w->0<dS W l
 |[],_,hw,_=>by cases hw
 |a::l,h,hw,hr=>by
   have h1:=h a (List.mem_cons_self ..)
   have h2:∀w∈l,0<=c7 W w:=λw hw=>h w (List.mem_cons_of_mem _ hw)
   have h3:=kV l h2
   show 0<c7 W a+dS W l
   rcases List.mem_cons.1 hw with q|q
   · rw[q] at hr;omega
   · have:=lS l h2 q hr
     omega
theorem jC.le(h:jC n2 s t ak B M W0 O W P fl):fl<=ak/\dS W (gI O s)=ak-fl:=by
 have h1:=h.l.sum s h.b.s0 h.b.s1
 rw[if_pos rfl,if_neg h.b.st,h.b.sum] at h1
 have h2:=kV (W:=W) (gI O s) λw hw=>h.l.rm w (h.b.sh.row s h.b.s0 h.b.s1 w hw).1
 omega
theorem jC.zp(h:jC n2 s t ak B M W0 O W P fl)(hz:ZpW W P s t):fl<ak:=by
 obtain⟨w,a1,a2,a3,_⟩:=lV (rq hz) h.b.st
 have hm:w∈gI O s:=by rw[<-a2];exact h.d.sh.all w a1
 have:=lS (W:=W) (gI O s) (λw hw=>h.l.rm w (h.b.sh.row s h.b.s0 h.b.s1 w hw).1) hm a3
 have:=h.le.2
 omega
theorem jC.pui(h:jC n2 s t ak B M W0 O W P fl)(hl:ry n2 s W P lv)(hn:ss n2 O nx):pL n2 W O lv nx:=by
 obtain⟨qu,hq⟩:=hl.l
 have:=h.b.s0
 have:=h.b.s1
 refine⟨h.d.sh,λw hw=>h.l.rm w (h.l.sm.inn.1 hw),hn,λv a b=>hq.top (by omega) a b,λw hw=>?_⟩
 have:=h.l.sm.rm w (h.l.sm.inn.1 hw)
 have:=h.b.rb w (h.l.sm.inn.1 hw)
 omega
theorem jC.room(h:jC n2 s t ak B M W0 O W P fl)(hw:eb W w):0<=c7 W w/\c7 W w<=1048576:=by
  have hw0:=h.l.sm.inn.1 hw
  have:=h.l.sm.rm w hw0
  have:=h.b.rb w hw0
  have:=h.l.rm w hw0
  have:=h.l.rm _ (h.b.sh.tw hw0)
  omega
theorem jC.push(h:jC n2 s t ak B M W0 O W P fl){r:Int×List cb×List Int}(e:sE n2 t s most W O P lv nx r):jC n2 s t ak B M W0 O r.2.1 P (fl+r.1):=by
 have hsh:=e.sm.sh h.d.sh
 refine⟨h.b,⟨hsh,⟨h.d.pt.pl,h.d.pt.pb,λw hw=>e.rm w (e.sm.inn.1 hw),λw hw hr=>?_⟩,h.d.s0,h.d.s1,h.d.b0,h.d.hM,h.d.hb⟩,h.p,⟨h.l.sm.trans e.sm,λw hw=>e.rm w (h.l.sm.inn.2 hw),λu a b=>?_,by have:=h.l.f0;have:=e.k0;omega⟩⟩
 · rw[e.sm.rd hw.1,e.sm.fr hw.1]
   rcases e.pos w (e.sm.inn.1 hw) hr with q|q
   · exact h.d.pt.rd w (e.sm.inn.1 hw) q
   · omega
 · rw[e.sum u a b,h.l.sum u a b]
   have hst:=h.b.st
   split<;>split<;>omega
theorem nK.pos{R:iu}(h:nK n2 s t ak B M W0 O R f W P far nx fl):∃g,f=g+1:=⟨f-1,by have:=h.m;omega⟩
theorem nK.stop{R:iu}(h:nK n2 s t ak B M W0 O R f W P far nx fl)(hs:gI (ck n2 s W O P) t=dh):R=(W,P,ck n2 s W O P,nx,fl):=by
 obtain⟨g,rfl⟩:=h.pos
 have hg:=h.g
 unfold mK at hg
 rw[if_pos rfl,if_pos hs] at hg
 exact hg.symm
theorem nK.go{R:iu}(h:nK n2 s t ak B M W0 O R f W P far nx fl)(hs:¬gI (ck n2 s W O P) t=dh):pX n2 s t ak B M W0 O R (f-1) W (di P (ck n2 s W O P) (gI (ck n2 s W O P) t)) (ck n2 s W O P) nx fl:=by
 have hm:=h.m
 obtain⟨g,rfl⟩:=h.pos
 have hg:=h.g
 unfold mK at hg
 rw[if_pos rfl,if_neg hs] at hg
 obtain⟨r1,r2,r3⟩:=lh h.i.d h.i.b.hB (eM h.i.d) h.i.p ⟨h.i.b.t0,h.i.b.t1⟩ hs
 have hi:jC n2 s t ak B M W0 O W (di P (ck n2 s W O P) (gI (ck n2 s W O P) t)) fl:=⟨h.i.b,r1,r2,h.i.l⟩
 have:=hi.zp r3
 have:=h.i.l.f0
 exact⟨hi,hg,.inl ⟨r3,by omega⟩,by omega⟩
theorem gw(hb:gk n2 s B M W O P):ry n2 s W P (bM n2 s W O P).1:=by
 have hs:=hb.sh
 have n0:0<=n2:=by have:=hb.s0;have:=hb.s1;omega
 have row:∀(n i k:Nat) (v:Int) (lv qu:List Int),(gI O v).length=k+n->jD n2 s W O P (bM n2 s W O P) lv qu i k v->kP n2 s W O P (bM n2 s W O P) (((gI O v).drop k).foldl (gV W P v) (lv,qu)).1 (((gI O v).drop k).foldl (gV W P v) (lv,qu)).2 (i+1):=by
   intro n
   induction n with
   |zero=>
     intro i k v lv qu hn h
     rw[List.drop_eq_nil_of_le (by omega)]
     exact h.done (by omega)
   |succ n ih=>
     intro i k v lv qu hn h
     rw[fU (by omega),List.foldl_cons]
     unfold gV
     by_cases c:0<c7 W (gI (gI O v) (k:Int))/\gI lv (bV W (gI (gI O v) (k:Int)))<0/\dX W P v (gI (gI O v) (k:Int))=0
     · rw[if_pos c]
       exact ih i (k+1) v _ _ (by omega) (h.yes hs (by omega) c.1 c.2.1 c.2.2 rfl rfl)
     · rw[if_neg c]
       exact ih i (k+1) v _ _ (by omega) (h.no (by omega) c)
 have go:∀(n i:Nat) (lv qu:List Int),n2.toNat=i+n->kP n2 s W O P (bM n2 s W O P) lv qu i->ry n2 s W P (bM n2 s W O P).1:=by
   intro n
   induction n with
   |zero=>
     intro i lv qu hn h
     have:=h.l.ql n0
     have hi:¬(i:Int)<qu.length:=by omega
     rw[<-h.fin hi]
     exact h.end_ hs hi
   |succ n ih=>
     intro i lv qu hn h
     by_cases c:(i:Int)<qu.length
     · have:=row (gI O (gI qu (i:Int))).length i 0 _ lv qu (by omega) (h.row c n0)
       rw[List.drop_zero] at this
       exact ih (i+1) _ _ (by omega) this
     · rw[<-h.fin c]
       exact h.end_ hs c
 exact go n2.toNat 0 _ _ (by omega) (lK hb.s0 hb.s1)
theorem pX.pos{R:iu}(h:pX n2 s t ak B M W0 O R f W P far nx fl):∃g,f=g+1:=⟨f-1,by rcases h.m with⟨_,q⟩|q<;>omega⟩
theorem pX.yes{R:iu}(h:pX n2 s t ak B M W0 O R f W P far nx fl)(hl:0<=gI (bM n2 s W O P).1 t):nJ n2 s t ak B M W0 O R (f-1) W P (bM n2 s W O P).1 (gb n2) fl:=by
 have hm:5*(ak-fl).toNat+2<=f:=by rcases h.m with⟨_,q⟩|q<;>omega
 obtain⟨g,rfl⟩:=h.pos
 have hg:=h.g
 unfold mK at hg
 rw[if_neg (by decide),if_pos rfl,if_pos hl] at hg
 have hf:=gw h.i.d
 have n0:0<=n2:=by have:=h.i.b.s0;have:=h.i.b.s1;omega
 exact⟨h.i,h.i.pui hf (t7 n0),by obtain⟨qu,hq⟩:=hf.l;exact hq.ll,hg,.inl ⟨⟨hf,hl,rfl⟩,by omega⟩,h.ap⟩
theorem pX.no{R:iu}(h:pX n2 s t ak B M W0 O R f W P far nx fl)(hl:¬0<=gI (bM n2 s W O P).1 t):nK n2 s t ak B M W0 O R (f-1) W P (bM n2 s W O P).1 (gb n2) fl:=by
 have hm:=h.m
 obtain⟨g,rfl⟩:=h.pos
 have hg:=h.g
 unfold mK at hg
 rw[if_neg (by decide),if_pos rfl,if_neg hl] at hg
 refine⟨h.i,hg,?_⟩
 rcases hm with⟨q,_⟩|q
 · exact absurd (rx (gw h.i.d) q) hl
 · omega
theorem nJ.pos{R:iu}(h:nJ n2 s t ak B M W0 O R f W P lv nx fl):∃g,f=g+1:=⟨f-1,by rcases h.m with⟨_,q⟩|q<;>omega⟩
theorem nJ.ok{R:iu}(h:nJ n2 s t ak B M W0 O R f W P lv nx fl):sE n2 t s ak W O P lv nx (pu n2 O P lv t s ak W nx):=iX _ s ak W nx (by have:=h.ap;omega) h.u h.i.b.s0 h.i.b.s1
theorem nJ.yes{R:iu}(h:nJ n2 s t ak B M W0 O R f W P lv nx fl){r:Int×List cb×List Int}(hr:r=pu n2 O P lv t s ak W nx)(hp:0<r.1):nJ n2 s t ak B M W0 O R (f-1) r.2.1 P lv r.2.2 (fl+r.1)/\f-1<f:=by
 have e:=h.ok
 have hm:=h.m
 obtain⟨g,rfl⟩:=h.pos
 have hg:=h.g
 unfold mK at hg
 rw[if_neg (by decide),if_neg (by decide)] at hg
 rw[<-hr] at e hg
 rw[if_pos hp] at hg
 have hi:=h.i.push e
 have h2:=hi.le.1
 refine⟨⟨hi,e.pui h.u,h.ll,hg,.inr ?_,h.ap⟩,by omega⟩
 rcases hm with⟨_,q⟩|q<;>omega
theorem nJ.no{R:iu}(h:nJ n2 s t ak B M W0 O R f W P lv nx fl){r:Int×List cb×List Int}(hr:r=pu n2 O P lv t s ak W nx)(hp:¬0<r.1):pX n2 s t ak B M W0 O R (f-1) r.2.1 P lv r.2.2 fl:=by
 have e:=h.ok
 have hm:=h.m
 obtain⟨g,rfl⟩:=h.pos
 have hg:=h.g
 unfold mK at hg
 rw[if_neg (by decide),if_neg (by decide)] at hg
 rw[<-hr] at e hg
 rw[if_neg hp] at hg
 have hi:=h.i.push e
 have hz:r.1=0:=by have:=e.k0;omega
 rw[hz,Int.add_zero] at hi
 refine⟨hi,hg,.inr ?_,h.ap⟩
 rcases hm with⟨⟨q1,q2,q3⟩,_⟩|q
 · subst q3
   have hu:=h.u
   have:=pJ (P:=P) (most:=ak) hu q1 h.i.b.s0 h.i.b.s1 h.i.b.st h.i.b.t0 h.i.b.t1 q2 h.ap
   rw[<-hr] at this
   exact absurd this hp
 · omega
structure rV(n2 s t ak B M:Int)(W0:List cb)(O:List (List Int))(R:iu):Prop where
  i:jC n2 s t ak B M W0 O R.1 R.2.1 R.2.2.2.2
  far:R.2.2.1=ck n2 s R.1 O R.2.1
  un:gI R.2.2.1 t=dh
theorem nK.stopE{R:iu}(h:nK n2 s t ak B M W0 O R f W P far nx fl)(hs:gI (ck n2 s W O P) t=dh):rV n2 s t ak B M W0 O R:=by
 have:=h.stop hs
 subst this
 exact⟨h.i,rfl,hs⟩
def gS(n2 s t ak:Int)(W:List cb)(O:List (List Int)):iu:=mK n2 s t ak O (5*ak.toNat+3) 0 W (List.replicate n2.toNat 0) (List.replicate n2.toNat 0) (List.replicate n2.toNat 0) 0
theorem s4.bd(h:s4 n2 s t ak B M W0 O):gk n2 s B M W0 O (List.replicate n2.toNat 0):=by
 have h1:=h.n2b
 have h2:=h.hB
 have h3:=h.hM
 have h4:=h.s0
 have h5:=h.s1
 have z:∀v,0<=v->v<n2->gI (List.replicate n2.toNat (0:Int)) v=0:=λv a b=>dP a (by omega)
 refine⟨h.sh,⟨by simp;omega,λv a b=>by rw[z v a b];omega,h.rm,λw hw hr=>?_⟩,h4,h5,by omega,h3,?_⟩
 · have hf:=h.sh.fr hw
   have ht:=h.sh.to w hw
   unfold dX
   rw[z _ hf.1 hf.2,z _ ht.1 ht.2]
   have:=h.rd w hw hr
   omega
 · have hM:M<=5243928576:=by omega
   have hM0:0<=M:=by omega
   have e1:n2*M<=5000*5243928576:=Int.le_trans (Int.mul_le_mul_of_nonneg_right h1 hM0) (Int.mul_le_mul_of_nonneg_left hM (by decide))
   have e2:(5000:Int)*5243928576+5243928576<dh:=by decide
   omega
theorem s4.start(h:s4 n2 s t ak B M W0 O):nK n2 s t ak B M W0 O (gS n2 s t ak W0 O) (5*ak.toNat+3) W0 (List.replicate n2.toNat 0) (List.replicate n2.toNat 0) (List.replicate n2.toNat 0) 0:=by
 have h4:=h.s0
 have h5:=h.s1
 have z:∀v,0<=v->v<n2->gI (List.replicate n2.toNat (0:Int)) v=0:=λv a b=>dP a (by omega)
 refine⟨⟨h,h.bd,⟨z s h4 h5,λv a b=>by rw[z v a b,z t h.t0 h.t1];omega⟩,⟨.refl _,h.rm,λu _ _=>by simp,Int.le_refl _⟩⟩,rfl,by omega⟩
theorem qw(h:s4 n2 s t ak B M W0 O):rV n2 s t ak B M W0 O (gS n2 s t ak W0 O):=by
 have oL:∀(f:Nat),(∀W P far nx fl,nK n2 s t ak B M W0 O (gS n2 s t ak W0 O) f W P far nx fl->rV n2 s t ak B M W0 O (gS n2 s t ak W0 O))/\(∀W P far nx fl,pX n2 s t ak B M W0 O (gS n2 s t ak W0 O) f W P far nx fl->rV n2 s t ak B M W0 O (gS n2 s t ak W0 O))/\(∀W P far nx fl,nJ n2 s t ak B M W0 O (gS n2 s t ak W0 O) f W P far nx fl->rV n2 s t ak B M W0 O (gS n2 s t ak W0 O)):=by
   intro f
   induction f with
   |zero=>exact⟨λ_ _ _ _ _ q=>by have:=q.pos;simp at this,λ_ _ _ _ _ q=>by have:=q.pos;simp at this,λ_ _ _ _ _ q=>by have:=q.pos;simp at this⟩
   |succ f ih=>
     obtain⟨i1,i2,i3⟩:=ih
     refine⟨λW P far nx fl q=>?_,λW P far nx fl q=>?_,λW P far nx fl q=>?_⟩
     · by_cases c:gI (ck n2 s W O P) t=dh
       · exact q.stopE c
       · exact i2 _ _ _ _ _ (q.go c)
     · by_cases c:0<=gI (bM n2 s W O P).1 t
       · exact i3 _ _ _ _ _ (q.yes c)
       · exact i1 _ _ _ _ _ (q.no c)
     · by_cases c:0<(pu n2 O P far t s ak W nx).1
       · exact i3 _ _ _ _ _ (q.yes rfl c).1
       · exact i2 _ _ _ _ _ (q.no rfl c)
 exact(oL _).1 _ _ _ _ _ h.start
end TL
/-
  TlFlo7: a task's pipes laid.
  By an AI agent.
-/
set_option linter.all false
namespace TL
abbrev eo:=Int×Int×Int×Int
variable{n2 N s t v u w x y d B M k:Int}{W W' W0 W1:List cb}{O:List (List Int)}{A E:List eo}{D:List Int}{m f i j:Nat}{a:eo}
def SP:Nat->(Nat->Int)->Int
  |0,_=>0
  |m+1,g=>SP m g+g m
theorem bJ{g h:Nat->Int}:∀(m:Nat),(∀i,i<m->g i=h i)->SP m g=SP m h
 |0,_=>rfl
 |m+1,e=>by
   show SP m g+g m=SP m h+h m
   rw[bJ m λi hi=>e i (by omega),e m (by omega)]
theorem m7{g h:Nat->Int}:∀(m:Nat),SP m (λi=>g i+h i)=SP m g+SP m h
 |0=>rfl
 |m+1=>by
   show SP m (λi=>g i+h i)+(g m+h m)=SP m g+g m+(SP m h+h m)
   rw[m7 m];omega
theorem hG{g h:Nat->Int}:∀(m:Nat),SP m (λi=>g i-h i)=SP m g-SP m h
 |0=>rfl
 |m+1=>by
   show SP m (λi=>g i-h i)+(g m-h m)=SP m g+g m-(SP m h+h m)
   rw[hG m];omega
theorem ob{g:Nat->Int}(c:Int):∀(m:Nat),SP m (λi=>c*g i)=c*SP m g
 |0=>by show(0:Int)=c*0;omega
 |m+1=>by
   show SP m (λi=>c*g i)+c*g m=c*(SP m g+g m)
   rw[ob c m,Int.mul_add]
theorem eP:∀(m:Nat),SP m (λ_=>0)=0
 |0=>rfl
 |m+1=>by
   show SP m (λ_=>0)+0=0
   rw[eP m];rfl
theorem pH{g h:Nat->Int}:∀(m:Nat),(∀i,i<m->g i<=h i)->SP m g<=SP m h
 |0,_=>Int.le_refl _
 |m+1,e=>by
   show SP m g+g m<=SP m h+h m
   have:=pH m λi hi=>e i (by omega)
   have:=e m (by omega)
   omega
theorem m4{g:Nat->Int}:∀(m:Nat),(∀i,i<m->0<=g i)->SP m g=0->∀i,i<m->g i=0
 |0,_,_,i,hi=>by omega
 |m+1,e,h,i,hi=>by
   have h:SP m g+g m=0:=h
   have h1:=pH (g:=λ_=>0) (h:=g) m λi hi=>e i (by omega)
   rw[eP] at h1
   have h2:=e m (by omega)
   by_cases c:i=m
   · rw[c];omega
   · exact m4 m (λi hi=>e i (by omega)) (by omega) i (by omega)
theorem nj{F:Nat->Nat->Int}:∀(n m:Nat),SP n (λu=>SP m (λi=>F u i))=SP m (λi=>SP n (λu=>F u i))
 |0,m=>(eP m).symm
 |n+1,m=>by
   show SP n (λu=>SP m (λi=>F u i))+SP m (λi=>F n i)=_
   rw[nj n m,<-m7]
   rfl
theorem kM{c:Int}{k:Nat}:∀(m:Nat),k<m->SP m (λi=>if i=k then c else 0)=c
 |0,h=>by omega
 |m+1,h=>by
   show SP m (λi=>if i=k then c else 0)+(if m=k then c else 0)=c
   by_cases q:m=k
   · rw[if_pos q,bJ (h:=λ_=>0) m λi hi=>if_neg (by omega),eP];omega
   · rw[if_neg q,kM m (by omega)];omega
theorem oV{g:Nat->Int}(a:Nat):∀(b:Nat),SP (a+b) g=SP a g+SP b (λi=>g (a+i))
 |0=>by show SP a g=SP a g+0;omega
 |b+1=>by
   show SP (a+b) g+g (a+b)=SP a g+(SP b (λi=>g (a+i))+g (a+b))
   rw[oV a b];omega
def de(c:List cb×List (List Int))(fr to room cost:Int):List cb×List (List Int):=
 ((c.1++[(to,room,cost)])++[(fr,0,-cost)],(c.2.set fr.toNat (gI c.2 fr++[(c.1.length:Int)])).set to.toNat (gI (c.2.set fr.toNat (gI c.2 fr++[(c.1.length:Int)])) to++[(c.1.length:Int)+1]))
def jM(c:List cb×List (List Int))(a:eo):List cb×List (List Int):=de c a.1 a.2.1 a.2.2.1 a.2.2.2
def tm(n2:Int):List cb×List (List Int):=([],List.replicate n2.toNat [])
def jg(n2:Int)(E:List eo):List cb×List (List Int):=E.foldl jM (tm n2)
theorem jb:jg n2 (E++[a])=jM (jg n2 E) a:=by unfold jg;rw[List.foldl_append];rfl
def n8(E:List eo):Nat->Int->List Int
 |0,_=>[]
 |m+1,u=>(n8 E m u++(if(gI E (m:Int)).1=u then[2*(m:Int)] else[]))++(if(gI E (m:Int)).2.1=u then[2*(m:Int)+1] else[])
def sT(n2:Int)(E:List eo):Prop:=∀a∈E,(0<=a.1/\a.1<n2)/\(0<=a.2.1/\a.2.1<n2)/\(0<=a.2.2.1/\a.2.2.1<=1048576)/\0<=a.2.2.2/\a.2.2.2<=1048576
structure lg(n2:Int)(E:List eo)(m:Nat)(c:List cb×List (List Int)):Prop where
 lw:c.1.length=2*m
 ol:(c.2.length:Int)=n2
 fw:∀i:Nat,i<m->gI c.1 (2*(i:Int))=((gI E (i:Int)).2.1,(gI E (i:Int)).2.2.1,(gI E (i:Int)).2.2.2)
 bw:∀i:Nat,i<m->gI c.1 (2*(i:Int)+1)=((gI E (i:Int)).1,0,-(gI E (i:Int)).2.2.2)
 row:∀u,0<=u->u<n2->gI c.2 u=n8 E m u
theorem oO(n0:0<=n2):lg n2 E 0 (tm n2):=by
 refine⟨rfl,by unfold tm;simp;omega,λi hi=>by omega,λi hi=>by omega,λu a b=>?_⟩
 unfold tm
 exact dP a (by omega)
theorem lg.add{c:List cb×List (List Int)}(h:lg n2 E m c)(hr:sT n2 E)(hm:(m:Int)<E.length):lg n2 E (m+1) (jM c (gI E (m:Int))):=by
 obtain⟨⟨f0,f1⟩,⟨t0,t1⟩,_,_⟩:=hr _ (bx (xs:=E) (i:=(m:Int)) (by omega) hm)
 have hl:=h.lw
 have hol:=h.ol
 have e1:∀i:Int,0<=i->i<2*(m:Int)->gI (jM c (gI E (m:Int))).1 i=gI c.1 i:=λi a b=>by
   show gI ((c.1++[_])++[_]) i=_
   rw[kN (by rw[List.length_append,List.length_singleton];omega) a,kN (by omega) a]
 have e2:gI (jM c (gI E (m:Int))).1 (2*(m:Int))=((gI E (m:Int)).2.1,(gI E (m:Int)).2.2.1,(gI E (m:Int)).2.2.2):=by
   show gI ((c.1++[_])++[_]) _=_
   rw[kN (by rw[List.length_append,List.length_singleton];omega) (by omega),show 2*(m:Int)=(c.1.length:Int) by omega,mo]
 have e3:gI (jM c (gI E (m:Int))).1 (2*(m:Int)+1)=((gI E (m:Int)).1,0,-(gI E (m:Int)).2.2.2):=by
   show gI ((c.1++[((gI E (m:Int)).2.1,(gI E (m:Int)).2.2.1,(gI E (m:Int)).2.2.2)])++[_]) _=_
   rw[show 2*(m:Int)+1=((c.1++[((gI E (m:Int)).2.1,(gI E (m:Int)).2.2.1,(gI E (m:Int)).2.2.2)]).length:Int) by rw[List.length_append,List.length_singleton];omega,mo]
 refine⟨by show((c.1++[_])++[_]).length=_;simp;omega,by show((List.set _ _ _).length:Int)=_;simp;omega,λi hi=>?_,λi hi=>?_,λu a b=>?_⟩
 · by_cases q:i=m
   · rw[q];exact e2
   · rw[e1 _ (by omega) (by omega)];exact h.fw i (by omega)
 · by_cases q:i=m
   · rw[q];exact e3
   · rw[e1 _ (by omega) (by omega)];exact h.bw i (by omega)
 · show gI ((c.2.set (gI E (m:Int)).1.toNat (gI c.2 (gI E (m:Int)).1++[(c.1.length:Int)])).set (gI E (m:Int)).2.1.toNat (gI (c.2.set (gI E (m:Int)).1.toNat (gI c.2 (gI E (m:Int)).1++[(c.1.length:Int)])) (gI E (m:Int)).2.1++[(c.1.length:Int)+1])) u=(n8 E m u++(if(gI E (m:Int)).1=u then[2*(m:Int)] else[]))++(if(gI E (m:Int)).2.1=u then[2*(m:Int)+1] else[])
   have es:∀z,0<=z->z<n2->gI (c.2.set (gI E (m:Int)).1.toNat (gI c.2 (gI E (m:Int)).1++[(c.1.length:Int)])) z=n8 E m z++(if(gI E (m:Int)).1=z then[2*(m:Int)] else[]):=λz z0 z1=>by
     rw[cJ f0 (by omega) z0]
     by_cases q:z=(gI E (m:Int)).1
     · rw[if_pos q,if_pos q.symm,h.row _ f0 f1,q,show(c.1.length:Int)=2*(m:Int) by omega]
     · rw[if_neg q,if_neg (λe=>q e.symm),List.append_nil];exact h.row z z0 z1
   rw[cJ t0 (by rw[List.length_set];omega) a]
   by_cases q:u=(gI E (m:Int)).2.1
   · rw[if_pos q,if_pos q.symm,es _ t0 t1,q,show(c.1.length:Int)+1=2*(m:Int)+1 by omega]
   · rw[if_neg q,es u a b]
     have:(if(gI E (m:Int)).2.1=u then[2*(m:Int)+1] else[])=[]:=if_neg λe=>q e.symm
     rw[this,List.append_nil]
theorem l5(n0:0<=n2)(hr:sT n2 E):∀(m:Nat),m<=E.length->lg n2 E m (jg n2 (E.take m))
 |0,_=>by
   rw[List.take_zero]
   exact oO n0
 |m+1,h=>by
   rw[cy (by omega),jb]
   exact(l5 n0 hr m (by omega)).add hr (by omega)
theorem sw(n0:0<=n2)(hr:sT n2 E):lg n2 E E.length (jg n2 E):=by
 have:=l5 n0 hr E.length (Nat.le_refl _)
 rwa[List.take_length] at this
theorem gA:∀(m:Nat),w∈n8 E m u↔∃i:Nat,i<m/\((w=2*(i:Int)/\(gI E (i:Int)).1=u)\/(w=2*(i:Int)+1/\(gI E (i:Int)).2.1=u))
 |0=>by
   constructor
   · intro h;cases h
   · rintro⟨i,h,_⟩;omega
 |m+1=>by
   unfold n8
   rw[List.mem_append,List.mem_append,gA m]
   constructor
   · rintro((⟨i,h1,h2⟩|h)|h)
     · exact⟨i,by omega,h2⟩
     · split at h
       · rename_i c;exact⟨m,by omega,.inl ⟨List.mem_singleton.1 h,c⟩⟩
       · cases h
     · split at h
       · rename_i c;exact⟨m,by omega,.inr ⟨List.mem_singleton.1 h,c⟩⟩
       · cases h
   · rintro⟨i,h1,h2⟩
     by_cases q:i=m
     · subst q
       rcases h2 with⟨a,b⟩|⟨a,b⟩
       · left;right;rw[if_pos b,a];simp
       · right;rw[if_pos b,a];simp
     · left;left;exact⟨i,by omega,h2⟩
theorem pQ:∀(m:Nat),(n8 E m u).Nodup
 |0=>List.nodup_nil
 |m+1=>by
   unfold n8
   have hb:∀w∈n8 E m u,w<2*(m:Int):=λw hw=>by
     obtain⟨i,h1,h2⟩:=(gA m).1 hw
     omega
   rw[List.nodup_append,List.nodup_append]
   refine⟨⟨pQ m,by split<;>simp,λa ha b hb2 e=>?_⟩,by split<;>simp,λa ha b hb2 e=>?_⟩
   · have:=hb a ha
     split at hb2
     · have:=List.mem_singleton.1 hb2;omega
     · cases hb2
   · split at hb2
     · have h1:=List.mem_singleton.1 hb2
       rcases List.mem_append.1 ha with q|q
       · have:=hb a q;omega
       · split at q
         · have:=List.mem_singleton.1 q;omega
         · cases q
     · cases hb2
theorem ni{g:Int->Int}:∀(m:Nat),((n8 E m u).map g).sum=SP m λi=>(if(gI E (i:Int)).1=u then g (2*(i:Int)) else 0)+(if(gI E (i:Int)).2.1=u then g (2*(i:Int)+1) else 0)
 |0=>rfl
 |m+1=>by
   show(((n8 E m u++_)++_).map g).sum=_+_
   rw[List.map_append,List.map_append,List.sum_append,List.sum_append,ni m]
   have e1:∀(c:Prop) [Decidable c] (z:Int),((if c then[z] else[]).map g).sum=if c then g z else 0:=λc _ z=>by
     by_cases q:c
     · rw[if_pos q,if_pos q];simp
     · rw[if_neg q,if_neg q];rfl
   rw[e1,e1];exact Int.add_assoc _ _ _
theorem fQ(hw:0<=w)(hl:w<2*(m:Int)):∃i:Nat,i<m/\(w=2*(i:Int)\/w=2*(i:Int)+1):=⟨(w/2).toNat,by omega,by omega⟩
theorem eQ:cj (2*(i:Int))=2*(i:Int)+1:=by unfold cj;rw[if_pos (by omega)]
theorem hO:cj (2*(i:Int)+1)=2*(i:Int):=by unfold cj;rw[if_neg (by omega)];omega
theorem lg.sh{c:List cb×List (List Int)}(h:lg n2 E E.length c)(hr:sT n2 E)(hl:E.length<=25000):jT n2 c.1 c.2:=by
 have hlw:=h.lw
 have rg:∀i:Nat,i<E.length->_:=λi hi=>hr _ (bx (xs:=E) (i:=(i:Int)) (by omega) (by omega))
 have f1:∀i:Nat,i<E.length->bV c.1 (2*(i:Int))=(gI E (i:Int)).2.1:=λi hi=>congrArg Prod.fst (h.fw i hi)
 have f2:∀i:Nat,i<E.length->fX c.1 (2*(i:Int))=(gI E (i:Int)).2.2.2:=λi hi=>congrArg (λz=>z.2.2) (h.fw i hi)
 have b1:∀i:Nat,i<E.length->bV c.1 (2*(i:Int)+1)=(gI E (i:Int)).1:=λi hi=>congrArg Prod.fst (h.bw i hi)
 have b2:∀i:Nat,i<E.length->fX c.1 (2*(i:Int)+1)= -(gI E (i:Int)).2.2.2:=λi hi=>congrArg (λz=>z.2.2) (h.bw i hi)
 refine⟨by omega,h.ol,λw hw=>?_,λv v0 v1 w hw=>?_,λw hw=>?_,λv v0 v1=>?_,λw hw=>?_,by omega⟩
 · obtain⟨i,hi,q|q⟩:=fQ (m:=E.length) hw.1 (by have:=hw.2;omega)
   · rw[q,f1 i hi];exact(rg i hi).2.1
   · rw[q,b1 i hi];exact(rg i hi).1
 · rw[h.row v v0 v1,gA] at hw
   obtain⟨i,hi,⟨q,e⟩|⟨q,e⟩⟩:=hw
   · refine⟨⟨by omega,by omega⟩,?_⟩
     unfold dL;rw[q,eQ,b1 i hi];exact e
   · refine⟨⟨by omega,by omega⟩,?_⟩
     unfold dL;rw[q,hO,f1 i hi];exact e
 · obtain⟨i,hi,q|q⟩:=fQ (m:=E.length) hw.1 (by have:=hw.2;omega)
   · have e:dL c.1 w=(gI E (i:Int)).1:=by unfold dL;rw[q,eQ,b1 i hi]
     have:=(rg i hi).1
     rw[e,h.row _ this.1 this.2,gA]
     exact⟨i,hi,.inl ⟨q,rfl⟩⟩
   · have e:dL c.1 w=(gI E (i:Int)).2.1:=by unfold dL;rw[q,hO,f1 i hi]
     have:=(rg i hi).2.1
     rw[e,h.row _ this.1 this.2,gA]
     exact⟨i,hi,.inr ⟨q,rfl⟩⟩
 · rw[h.row v v0 v1];exact pQ _
 · obtain⟨i,hi,q|q⟩:=fQ (m:=E.length) hw.1 (by have:=hw.2;omega)
   · have:=(rg i hi).2.2.2
     rw[q,eQ,b2 i hi,f2 i hi];omega
   · have:=(rg i hi).2.2.2
     rw[q,hO,b2 i hi,f2 i hi];omega
end TL
/-
  TlFlo8: a task: what flows over its arcs; cuts.
  By an AI agent.
-/
set_option linter.all false
namespace TL
variable{n2 N s t v u w x y d B M k ak fl:Int}{W W' W0 W1:List cb}{O:List (List Int)}{A E:List eo}{D:List Int}{m f i j:Nat}{a:eo}{c:List cb×List (List Int)}
structure gp(N:Int)(A:List eo)(D:List Int):Prop where
  n0:0<=N
  n1:N<=4096
  al:A.length<=16384
  dl:(D.length:Int)=N
  ar:∀a∈A,(0<=a.1/\a.1<N)/\(0<=a.2.1/\a.2.1<N)/\(0<=a.2.2.1/\a.2.2.1<=1048576)/\0<=a.2.2.2/\a.2.2.2<=1048576
  nd:∀x∈D,-1048576<=x/\x<=1048576
def mQ(N v k:Int):List eo:=if 0<k then[(N,v,k,0)] else if k<0 then[(v,N+1,-k,0)] else[]
def fW(N:Int)(D:List Int):Nat->List eo
 |0=>[]
 |j+1=>fW N D j++mQ N (j:Int) (gI D (j:Int))
def cC(N:Int)(A:List eo)(D:List Int):List eo:=A++fW N D N.toNat
def dH(D:List Int)(j:Nat):Int:=SP j λv=>if 0<gI D (v:Int) then gI D (v:Int) else 0
theorem mM:∀(j:Nat),(fW N D j).length<=j
 |0=>Nat.le_refl _
 |j+1=>by
   unfold fW mQ
   have:=mM j
   rw[List.length_append]
   split
   · simp;omega
   · split
     · simp;omega
     · simp;omega
theorem px{F:eo->Int}:∀(n:Nat),n<=E.length->SP n (λi=>F (gI E (i:Int)))=((E.take n).map F).sum
 |0,_=>rfl
 |n+1,h=>by
   show SP n (λi=>F (gI E (i:Int)))+F (gI E (n:Int))=_
   rw[px n (by omega),cy (by omega),List.map_append,List.sum_append]
   simp
theorem l4{F:eo->Int}:SP E.length (λi=>F (gI E (i:Int)))=(E.map F).sum:=by
 have:=px (F:=F) (E:=E) E.length (Nat.le_refl _)
 rwa[List.take_length] at this
theorem mw{F:eo->Int}:∀(j:Nat),((fW N D j).map F).sum=SP j λv=>if 0<gI D (v:Int) then F (N,(v:Int),gI D (v:Int),0) else if gI D (v:Int)<0 then F ((v:Int),N+1,-gI D (v:Int),0) else 0
 |0=>rfl
 |j+1=>by
   show((fW N D j++mQ N (j:Int) (gI D (j:Int))).map F).sum=_+_
   rw[List.map_append,List.sum_append,mw j]
   congr 1
   unfold mQ
   show _=if 0<gI D (j:Int) then F (N,(j:Int),gI D (j:Int),0) else if gI D (j:Int)<0 then F ((j:Int),N+1,-gI D (j:Int),0) else 0
   by_cases q:0<gI D (j:Int)
   · rw[if_pos q,if_pos q];simp
   · rw[if_neg q,if_neg q]
     by_cases q2:gI D (j:Int)<0
     · rw[if_pos q2,if_pos q2];simp
     · rw[if_neg q2,if_neg q2];rfl
theorem mt{F:eo->Int}:SP (cC N A D).length (λi=>F (gI (cC N A D) (i:Int)))=SP A.length (λi=>F (gI A (i:Int)))+SP N.toNat λv=>if 0<gI D (v:Int) then F (N,(v:Int),gI D (v:Int),0) else if gI D (v:Int)<0 then F ((v:Int),N+1,-gI D (v:Int),0) else 0:=by
 rw[l4,l4]
 unfold cC
 rw[List.map_append,List.sum_append,mw]
theorem gp.dat(h:gp N A D)(v0:0<=v)(v1:v<N): -1048576<=gI D v/\gI D v<=1048576:=h.nd _ (bx v0 (by have:=h.dl;omega))
theorem iG:∀(j:Nat),a∈fW N D j->∃v:Nat,v<j/\((0<gI D (v:Int)/\a=(N,(v:Int),gI D (v:Int),0))\/(gI D (v:Int)<0/\a=((v:Int),N+1,-gI D (v:Int),0)))
 |0,h=>by cases h
 |j+1,h=>by
   unfold fW at h
   rcases List.mem_append.1 h with q|q
   · obtain⟨v,hv,r⟩:=iG j q
     exact⟨v,by omega,r⟩
   · unfold mQ at q
     split at q
     · rename_i c;exact⟨j,by omega,.inl ⟨c,List.mem_singleton.1 q⟩⟩
     · split at q
       · rename_i c;exact⟨j,by omega,.inr ⟨c,List.mem_singleton.1 q⟩⟩
       · cases q
theorem gp.rg(h:gp N A D):sT (N+2) (cC N A D):=by
 have hn:=h.n0
 intro a ha
 rcases List.mem_append.1 ha with q|q
 · obtain⟨a1,a2,a3,a4⟩:=h.ar a q
   exact⟨by omega,by omega,a3,a4⟩
 · obtain⟨v,hv,⟨c,rfl⟩|⟨c,rfl⟩⟩:=iG _ q
   · have:=h.dat (v:=(v:Int)) (by omega) (by omega)
     exact⟨⟨hn,by show N<N+2;omega⟩,⟨by show(0:Int)<=v;omega,by show(v:Int)<N+2;omega⟩,⟨by show 0<=gI D (v:Int);omega,by show gI D (v:Int)<=_;omega⟩,Int.le_refl _,by show(0:Int)<=1048576;decide⟩
   · have:=h.dat (v:=(v:Int)) (by omega) (by omega)
     exact⟨⟨by show(0:Int)<=v;omega,by show(v:Int)<N+2;omega⟩,⟨by show 0<=N+1;omega,by show N+1<N+2;omega⟩,⟨by show 0<= -gI D (v:Int);omega,by show-gI D (v:Int)<=_;omega⟩,Int.le_refl _,by show(0:Int)<=1048576;decide⟩
theorem gp.el(h:gp N A D):(cC N A D).length<=20480:=by
 have:=mM (N:=N) (D:=D) N.toNat
 have:=h.al
 have:=h.n1
 unfold cC
 rw[List.length_append];omega
theorem gp.ends(h:gp N A D)(hi:i<(cC N A D).length):((gI (cC N A D) (i:Int)).2.1≠N/\(gI (cC N A D) (i:Int)).1≠N+1)/\(A.length<=i->(gI (cC N A D) (i:Int)).1=N\/(gI (cC N A D) (i:Int)).2.1=N+1):=by
  have hm:=bx (xs:=cC N A D) (i:=(i:Int)) (by omega) (by omega)
  have hn:=h.n0
  refine⟨?_,λhl=>?_⟩
  · rcases List.mem_append.1 hm with q|q
    · obtain⟨a1,a2,_⟩:=h.ar _ q
      exact⟨by omega,by omega⟩
    · obtain⟨v,hv,⟨_,e⟩|⟨_,e⟩⟩:=iG _ q
      · rw[e];exact⟨by show(v:Int)≠N;omega,by show N≠N+1;omega⟩
      · rw[e];exact⟨by show N+1≠N;omega,by show(v:Int)≠N+1;omega⟩
  · have:gI (cC N A D) (i:Int)∈fW N D N.toNat:=by
      have e:gI (cC N A D) (i:Int)=gI (fW N D N.toNat) ((i-A.length:Nat):Int):=by
        unfold cC gI
        rw[List.getD_eq_getElem?_getD,List.getD_eq_getElem?_getD,List.getElem?_append_right (by omega)]
        congr 2
      rw[e]
      unfold cC at hi
      rw[List.length_append] at hi
      exact bx (by omega) (by omega)
    obtain⟨v,hv,⟨_,e⟩|⟨_,e⟩⟩:=iG _ this
    · rw[e];exact .inl rfl
    · rw[e];exact .inr rfl
theorem gE(hi:i<A.length):gI (cC N A D) (i:Int)=gI A (i:Int):=by
 unfold cC gI
 rw[List.getD_eq_getElem?_getD,List.getD_eq_getElem?_getD,List.getElem?_append_left (by omega)]
theorem lg.rm{c:List cb×List (List Int)}(h:lg n2 E E.length c)(hi:i<E.length):c7 c.1 (2*(i:Int))=(gI E (i:Int)).2.2.1/\c7 c.1 (2*(i:Int)+1)=0:=⟨congrArg (λz=>z.2.1) (h.fw i hi),congrArg (λz=>z.2.1) (h.bw i hi)⟩
theorem lg.sum{c:List cb×List (List Int)}(h:lg n2 E E.length c)(u0:0<=u)(u1:u<n2)(W:List cb):dS W (gI c.2 u)=SP E.length λi=>(if(gI E (i:Int)).1=u then c7 W (2*(i:Int)) else 0)+(if(gI E (i:Int)).2.1=u then c7 W (2*(i:Int)+1) else 0):=by
 unfold dS
 rw[h.row u u0 u1,ni]
theorem kF(h:gp N A D):∀(j:Nat),(j:Int)<=N->0<=dH D j/\dH D j<=(j:Int)*1048576
 |0,_=>⟨Int.le_refl _,Int.le_refl _⟩
 |j+1,hj=>by
   have:=kF h j (by omega)
   have:=h.dat (v:=(j:Int)) (by omega) (by omega)
   show 0<=dH D j+(if 0<gI D (j:Int) then gI D (j:Int) else 0)/\dH D j+(if 0<gI D (j:Int) then gI D (j:Int) else 0)<=_
   split<;>omega
theorem gp.fib(h:gp N A D){c:List cb×List (List Int)}(hc:lg (N+2) (cC N A D) (cC N A D).length c):s4 (N+2) N (N+1) (dH D N.toNat) ((N+2)*1048576) (1048576+(N+2)*1048576) c.1 c.2:=by
 have hr:=h.rg
 have hn:=h.n0
 have hn1:=h.n1
 have hlw:=hc.lw
 have hel:=h.el
 have rg:∀i:Nat,i<(cC N A D).length->_:=λi hi=>hr _ (bx (xs:=cC N A D) (i:=(i:Int)) (by omega) (by omega))
 refine⟨hc.sh hr (by omega),hn,by omega,by omega,by omega,by omega,by omega,rfl,rfl,?_,λw hw=>?_,λw hw=>?_,λw hw hp=>?_,?_⟩
 · rw[hc.sum hn (by omega)]
   rw[bJ (h:=λi=>(λa:eo=>if a.1=N then a.2.2.1 else 0) (gI (cC N A D) (i:Int))) _ λi hi=>?_]
   · rw[mt (F:=λa:eo=>if a.1=N then a.2.2.1 else 0),bJ (h:=λ_=>0) A.length λi hi=>?_,eP]
     · unfold dH
       rw[Int.zero_add]
       refine bJ _ λv hv=>?_
       by_cases q:0<gI D (v:Int)
       · rw[if_pos q,if_pos q];exact if_pos rfl
       · rw[if_neg q,if_neg q]
         by_cases q2:gI D (v:Int)<0
         · rw[if_pos q2];exact if_neg (by show¬(v:Int)=N;omega)
         · rw[if_neg q2]
     · have:=(h.ar _ (bx (xs:=A) (i:=(i:Int)) (by omega) (by omega))).1
       exact if_neg (by omega)
   · obtain⟨e1,e2⟩:=hc.rm hi
     have:=(h.ends hi).1.1
     rw[e1,e2]
     show _=if(gI (cC N A D) (i:Int)).1=N then(gI (cC N A D) (i:Int)).2.2.1 else 0
     simp
 · obtain⟨i,hi,q|q⟩:=fQ (m:=(cC N A D).length) hw.1 (by have:=hw.2;omega)
   · obtain⟨e1,e2⟩:=hc.rm hi
     have:=(rg i hi).2.2.1
     rw[q,eQ,e1,e2];omega
   · obtain⟨e1,e2⟩:=hc.rm hi
     have:=(rg i hi).2.2.1
     rw[q,hO,e1,e2];omega
 · obtain⟨i,hi,q|q⟩:=fQ (m:=(cC N A D).length) hw.1 (by have:=hw.2;omega)
   · obtain⟨e1,e2⟩:=hc.rm hi
     have:=(rg i hi).2.2.1
     rw[q,e1];omega
   · obtain⟨e1,e2⟩:=hc.rm hi
     rw[q,e2];omega
 · obtain⟨i,hi,q|q⟩:=fQ (m:=(cC N A D).length) hw.1 (by have:=hw.2;omega)
   · have:=(rg i hi).2.2.2
     have e:fX c.1 w=(gI (cC N A D) (i:Int)).2.2.2:=by rw[q];exact congrArg (λz=>z.2.2) (hc.fw i hi)
     omega
   · obtain⟨e1,e2⟩:=hc.rm hi
     rw[q,e2] at hp;omega
 · have:=kF h N.toNat (by omega)
   omega
def j3(E:List eo)(x:Nat->Int)(u:Int):Int:=SP E.length λi=>(if(gI E (i:Int)).1=u then x i else 0)-(if(gI E (i:Int)).2.1=u then x i else 0)
def xW(W:List cb)(i:Nat):Int:=c7 W (2*(i:Int)+1)
theorem nr{c:List cb×List (List Int)}(hc:lg n2 E E.length c)(hl:tK n2 s t c.1 W c.2 fl)(hi:i<E.length):c7 W (2*(i:Int))=(gI E (i:Int)).2.2.1-xW W i/\0<=xW W i/\xW W i<=(gI E (i:Int)).2.2.1:=by
 have hlw:=hc.lw
 have hw:eb c.1 (2*(i:Int)):=⟨by omega,by omega⟩
 have hw2:eb c.1 (2*(i:Int)+1):=⟨by omega,by omega⟩
 obtain⟨e1,e2⟩:=hc.rm hi
 have h1:=hl.sm.rm _ hw
 rw[eQ,e1,e2] at h1
 have h2:=hl.rm _ hw
 have h3:=hl.rm _ hw2
 unfold xW
 omega
theorem kX{c:List cb×List (List Int)}(hc:lg n2 E E.length c)(hl:tK n2 s t c.1 W c.2 fl)(u0:0<=u)(u1:u<n2):j3 E (xW W) u=(if u=s then fl else 0)-(if u=t then fl else 0):=by
 have h:=hl.sum u u0 u1
 rw[hc.sum u0 u1,hc.sum u0 u1] at h
 have:j3 E (xW W) u=SP E.length (λi=>(if(gI E (i:Int)).1=u then c7 c.1 (2*(i:Int)) else 0)+(if(gI E (i:Int)).2.1=u then c7 c.1 (2*(i:Int)+1) else 0))-SP E.length (λi=>(if(gI E (i:Int)).1=u then c7 W (2*(i:Int)) else 0)+(if(gI E (i:Int)).2.1=u then c7 W (2*(i:Int)+1) else 0)):=by
   rw[<-hG]
   refine bJ _ λi hi=>?_
   obtain⟨a1,a2,a3⟩:=nr hc hl hi
   obtain⟨e1,e2⟩:=hc.rm hi
   have e3:c7 W (2*(i:Int)+1)=xW W i:=rfl
   rw[e1,e2,a1,e3]
   split<;>split<;>omega
 omega
theorem mR{φ:Int->Int}{k:Int}{n:Nat}(v0:0<=v)(v1:v<n):SP n (λu=>φ (u:Int)*(if v=(u:Int) then k else 0))=φ v*k:=by
 rw[bJ (h:=λu=>if u=v.toNat then φ v*k else 0) n λu hu=>?_,kM n (by omega)]
 by_cases q:v=(u:Int)
 · rw[if_pos q,if_pos (by omega),q]
 · rw[if_neg q,if_neg (by omega),Int.mul_zero]
theorem mG(φ:Int->Int){x:Nat->Int}{n:Nat}(hr:∀a∈E,(0<=a.1/\a.1<n)/\(0<=a.2.1/\a.2.1<n)):SP n (λu=>φ (u:Int)*j3 E x (u:Int))=SP E.length λi=>x i*(φ (gI E (i:Int)).1-φ (gI E (i:Int)).2.1):=by
  have h1:SP n (λu=>φ (u:Int)*j3 E x (u:Int))=SP n (λu=>SP E.length λi=>φ (u:Int)*((if(gI E (i:Int)).1=(u:Int) then x i else 0)-(if(gI E (i:Int)).2.1=(u:Int) then x i else 0))):=by
    refine bJ _ λu hu=>?_
    unfold j3
    rw[<-ob]
  rw[h1,nj]
  refine bJ _ λi hi=>?_
  obtain⟨⟨a0,a1⟩,b0,b1⟩:=hr _ (bx (xs:=E) (i:=(i:Int)) (by omega) (by omega))
  have h2:SP n (λu=>φ (u:Int)*((if(gI E (i:Int)).1=(u:Int) then x i else 0)-(if(gI E (i:Int)).2.1=(u:Int) then x i else 0)))=SP n (λu=>φ (u:Int)*(if(gI E (i:Int)).1=(u:Int) then x i else 0)-φ (u:Int)*(if(gI E (i:Int)).2.1=(u:Int) then x i else 0)):=bJ _ λu hu=>Int.mul_sub _ _ _
  rw[h2,hG,mR a0 a1,mR b0 b1,Int.mul_sub,Int.mul_comm (x i),Int.mul_comm (x i)]
def jy(χ:Int->Int)(a:eo):Int:=if χ a.1=1/\χ a.2.1=0 then a.2.2.1 else 0
theorem qy(h:gp N A D){c:List cb×List (List Int)}(hc:lg (N+2) (cC N A D) (cC N A D).length c){R:iu}(he:rV (N+2) N (N+1) ak B M c.1 c.2 R)(ha:ak=dH D N.toNat)(χ:Int->Int)(hχ:χ=λv=>if gI R.2.2.1 v=dh then 0 else 1):ak-R.2.2.2.2=SP N.toNat (λv=>if χ (v:Int)=1 then gI D (v:Int) else 0)-SP A.length λi=>jy χ (gI A (i:Int)):=by
 have hn:=h.n0
 have hra:=eM he.i.d
 rw[<-he.far] at hra
 have hs:χ N=1:=by rw[hχ];show(if gI R.2.2.1 N=dh then 0 else 1)=(1:Int);rw[hra.i.fs];rfl
 have ht:χ (N+1)=0:=by rw[hχ];exact if_pos he.un
 have h01:∀v,χ v=0\/χ v=1:=λv=>by rw[hχ];show(if _ then _ else _)=_\/(if _ then _ else _)=_;split<;>simp
 have hst:=he.i.l.sm
 have hlw:=hc.lw
 have htri:∀w,eb R.1 w->0<c7 R.1 w->χ (dL R.1 w)=1->χ (bV R.1 w)=1:=λw hw hr hf=>by
   have:gI R.2.2.1 (dL R.1 w)≠dh:=λe=>by rw[hχ] at hf;simp only[e,if_true] at hf;exact absurd hf (by decide)
   rw[hχ]
   exact if_neg (hra.tri he.i.d hw hr this).2
 have hin:∀w,eb R.1 w↔eb c.1 w:=λw=>hst.inn
 have hkey:∀i:Nat,i<(cC N A D).length->xW R.1 i*(χ (gI (cC N A D) (i:Int)).1-χ (gI (cC N A D) (i:Int)).2.1)=jy χ (gI (cC N A D) (i:Int)):=λi hi=>by
   obtain⟨b1,b2,b3⟩:=nr hc he.i.l hi
   have t1:bV R.1 (2*(i:Int))=(gI (cC N A D) (i:Int)).2.1:=by rw[hst.to _ (by omega)];exact congrArg Prod.fst (hc.fw i hi)
   have t2:bV R.1 (2*(i:Int)+1)=(gI (cC N A D) (i:Int)).1:=by rw[hst.to _ (by omega)];exact congrArg Prod.fst (hc.bw i hi)
   have f1:dL R.1 (2*(i:Int))=(gI (cC N A D) (i:Int)).1:=by unfold dL;rw[eQ];exact t2
   have f2:dL R.1 (2*(i:Int)+1)=(gI (cC N A D) (i:Int)).2.1:=by unfold dL;rw[hO];exact t1
   have w1:eb R.1 (2*(i:Int)):=(hin _).2 ⟨by omega,by omega⟩
   have w2:eb R.1 (2*(i:Int)+1):=(hin _).2 ⟨by omega,by omega⟩
   have g1:=htri _ w1
   have g2:=htri _ w2
   rw[t1,f1,b1] at g1
   rw[t2,f2] at g2
   unfold jy
   rcases h01 (gI (cC N A D) (i:Int)).1 with p|p<;>rcases h01 (gI (cC N A D) (i:Int)).2.1 with q|q<;>rw[p,q]<;>rw[p,q] at g1 g2
   · simp
   · have:¬0<xW R.1 i:=λhp=>absurd (g2 hp rfl) (by decide)
     have:xW R.1 i=0:=by omega
     rw[this];simp
   · have:¬0<(gI (cC N A D) (i:Int)).2.2.1-xW R.1 i:=λhp=>absurd (g1 hp rfl) (by decide)
     simp;omega
   · simp
 have hr:=h.rg
 have hphi:=mG (E:=cC N A D) χ (x:=xW R.1) (n:=(N+2).toNat) λa ha=>by
   obtain⟨a1,a2,_⟩:=hr a ha
   exact⟨by omega,by omega⟩
 rw[bJ _ hkey,mt] at hphi
 have hL:SP (N+2).toNat (λu=>χ (u:Int)*j3 (cC N A D) (xW R.1) (u:Int))=R.2.2.2.2:=by
   rw[bJ (h:=λu=>if u=N.toNat then R.2.2.2.2 else 0) _ λu hu=>?_,kM _ (by omega)]
   rw[kX hc he.i.l (by omega) (by omega)]
   by_cases q:u=N.toNat
   · rw[if_pos (by omega),if_neg (by omega),if_pos q,show(u:Int)=N by omega,hs];omega
   · rw[if_neg (show¬(u:Int)=N by omega),if_neg q]
     by_cases q2:(u:Int)=N+1
     · rw[if_pos q2,q2,ht];omega
     · rw[if_neg q2];omega
 rw[hL] at hphi
 have hD:dH D N.toNat-SP N.toNat (λv=>if 0<gI D (v:Int) then jy χ (N,(v:Int),gI D (v:Int),0) else if gI D (v:Int)<0 then jy χ ((v:Int),N+1,-gI D (v:Int),0) else 0)=SP N.toNat (λv=>if χ (v:Int)=1 then gI D (v:Int) else 0):=by
   unfold dH
   rw[<-hG]
   refine bJ _ λv hv=>?_
   unfold jy
   simp only[hs,ht]
   rcases h01 (v:Int) with p|p<;>rw[p]<;>simp <;>split<;>(try split)<;>omega
 rw[ha]
 omega
end TL
/-
  TlFlo9: a flow of the least cost, or nodes whose needs are too great.
  By an AI agent.
-/
set_option linter.all false
namespace TL
variable{n2 N s t v u w y d B M k ak fl:Int}{W W' W0 W1:List cb}{O:List (List Int)}{A E:List eo}{D x z p:List Int}{m f i j:Nat}{a:eo}{c:List cb×List (List Int)}
def lf(N:Int)(A:List eo)(D:List Int):List cb×List (List Int):=jg (N+2) (cC N A D)
def dx(N:Int)(A:List eo)(D:List Int):iu:=gS (N+2) N (N+1) (dH D N.toNat) (lf N A D).1 (lf N A D).2
def dd(D:List Int):Int:=SP D.length λv=>gI D (v:Int)
def jS(N:Int)(A:List eo)(D:List Int):Prop:=dd D=0/\(dx N A D).2.2.2.2=dH D N.toNat
def ng(N:Int)(A:List eo)(D:List Int):List Int:=(dm A.length).map λi=>c7 (dx N A D).1 (2*i+1)
def pY(N:Int)(A:List eo)(D:List Int):List Int:=(dx N A D).2.1.take N.toNat
def sK(A:List eo)(x:List Int):Int:=SP A.length λi=>gI x (i:Int)*(gI A (i:Int)).2.2.2
def iF(N:Int)(A:List eo)(D:List Int):List Int:=(dm N.toNat).filter λv=>decide (gI (dx N A D).2.2.1 v<dh)
structure q6(N:Int)(A:List eo)(D x:List Int):Prop where
  ln:x.length=A.length
  cap:∀i:Nat,i<A.length->0<=gI x (i:Int)/\gI x (i:Int)<=(gI A (i:Int)).2.2.1
  net:∀v,0<=v->v<N->j3 A (λi=>gI x (i:Int)) v=gI D v
def tO(A:List eo)(x p:List Int):Prop:=∀i:Nat,i<A.length->(gI x (i:Int)<(gI A (i:Int)).2.2.1->0<=(gI A (i:Int)).2.2.2+gI p (gI A (i:Int)).1-gI p (gI A (i:Int)).2.1)/\(0<gI x (i:Int)->(gI A (i:Int)).2.2.2+gI p (gI A (i:Int)).1-gI p (gI A (i:Int)).2.1<=0)
theorem gp.rgA(h:gp N A D):∀a∈A,(0<=a.1/\a.1<(N.toNat:Int))/\(0<=a.2.1/\a.2.1<(N.toNat:Int)):=λa ha=>by
 have:=h.n0
 obtain⟨a1,a2,_⟩:=h.ar a ha
 exact⟨by omega,by omega⟩
theorem q6.phi(h:gp N A D)(hx:q6 N A D x)(φ:Int->Int):SP N.toNat (λv=>φ (v:Int)*gI D (v:Int))=SP A.length λi=>gI x (i:Int)*(φ (gI A (i:Int)).1-φ (gI A (i:Int)).2.1):=by
 rw[<-mG φ (x:=λi=>gI x (i:Int)) h.rgA]
 refine bJ _ λv hv=>?_
 rw[hx.net _ (by omega) (by omega)]
theorem q6.bal(h:gp N A D)(hx:q6 N A D x):dd D=0:=by
 have:=hx.phi h λ_=>1
 rw[bJ (h:=λv=>gI D (v:Int)) _ (λv _=>Int.one_mul _),bJ (h:=λ_=>0) A.length (λi _=>by rw[Int.sub_self,Int.mul_zero]),eP] at this
 unfold dd
 have e:D.length=N.toNat:=by have:=h.dl;omega
 rw[e];exact this
theorem q6.cut(h:gp N A D)(hx:q6 N A D x)(χ:Int->Int)(h01:∀v,χ v=0\/χ v=1):SP N.toNat (λv=>if χ (v:Int)=1 then gI D (v:Int) else 0)<=SP A.length λi=>jy χ (gI A (i:Int)):=by
 have h1:=hx.phi h χ
 rw[bJ (h:=λv=>χ (v:Int)*gI D (v:Int)) _ λv hv=>?_,h1]
 · refine pH _ λi hi=>?_
   have:=hx.cap i hi
   unfold jy
   rcases h01 (gI A (i:Int)).1 with p|p<;>rcases h01 (gI A (i:Int)).2.1 with q|q<;>rw[p,q]<;>simp <;>omega
 · rcases h01 (v:Int) with p|p<;>rw[p]<;>simp
theorem gp.ld(h:gp N A D):lg (N+2) (cC N A D) (cC N A D).length (lf N A D):=sw (by have:=h.n0;omega) h.rg
theorem gp.fi(h:gp N A D):rV (N+2) N (N+1) (dH D N.toNat) ((N+2)*1048576) (1048576+(N+2)*1048576) (lf N A D).1 (lf N A D).2 (dx N A D):=qw (h.fib h.ld)
theorem mW(hi:i<A.length):gI (ng N A D) (i:Int)=xW (dx N A D).1 i:=by
 unfold ng
 rw[qE (by omega) (by simp[dm];omega),np (by omega) (by omega)]
 rfl
theorem ku:(ng N A D).length=A.length:=by unfold ng;simp[dm]
theorem py(hj:j<(fW N D N.toNat).length):gI (cC N A D) ((A.length+j:Nat):Int)=gI (fW N D N.toNat) (j:Int):=by
 unfold cC gI
 rw[List.getD_eq_getElem?_getD,List.getD_eq_getElem?_getD,List.getElem?_append_right (by omega)]
 congr 2
 omega
theorem t3(h:gp N A D)(hok:jS N A D)(hi:i<(cC N A D).length)(hl:A.length<=i):xW (dx N A D).1 i=(gI (cC N A D) (i:Int)).2.2.1:=by
  obtain⟨o1,o2⟩:=hok
  have hc:=h.ld
  have he:=h.fi
  have hn:=h.n0
  have hs:=kX hc he.i.l (u:=N) hn (by omega)
  have ht:=kX hc he.i.l (u:=N+1) (by omega) (by omega)
  rw[if_pos rfl,if_neg (by omega),o2] at hs
  rw[if_neg (by omega),if_pos rfl,o2] at ht
  have hsum:=(h.fib hc).sum
  rw[hc.sum hn (by omega)] at hsum
  have bd:∀i,i<(cC N A D).length->_:=λi hi=>nr hc he.i.l hi
  rcases(h.ends hi).2 hl with q|q
  · have e1:SP (cC N A D).length (λi=>if(gI (cC N A D) (i:Int)).1=N then(gI (cC N A D) (i:Int)).2.2.1-xW (dx N A D).1 i else 0)=0:=by
      rw[bJ (h:=λi=>((if(gI (cC N A D) (i:Int)).1=N then c7 (lf N A D).1 (2*(i:Int)) else 0)+(if(gI (cC N A D) (i:Int)).2.1=N then c7 (lf N A D).1 (2*(i:Int)+1) else 0))-((if(gI (cC N A D) (i:Int)).1=N then xW (dx N A D).1 i else 0)-(if(gI (cC N A D) (i:Int)).2.1=N then xW (dx N A D).1 i else 0))) _ λi hi=>?_]
      · rw[hG,hsum]
        unfold j3 at hs
        rw[hs];omega
      · obtain⟨r1,r2⟩:=hc.rm hi
        have:=(h.ends hi).1.1
        rw[r1,if_neg this,if_neg this]
        split<;>omega
    have:=m4 _ (λi hi=>by
      have:=bd i hi
      split<;>omega) e1 i hi
    rw[if_pos q] at this
    omega
  · have e2:SP (cC N A D).length (λi=>(λa:eo=>if a.2.1=N+1 then a.2.2.1 else 0) (gI (cC N A D) (i:Int)))=dH D N.toNat:=by
      rw[mt (F:=λa:eo=>if a.2.1=N+1 then a.2.2.1 else 0),bJ (h:=λ_=>0) A.length λi hi=>?_,eP]
      · have e3:dH D N.toNat-SP N.toNat (λv=>if 0<gI D (v:Int) then(if(v:Int)=N+1 then gI D (v:Int) else 0) else if gI D (v:Int)<0 then(if N+1=N+1 then-gI D (v:Int) else 0) else 0)=dd D:=by
          unfold dH dd
          rw[<-hG,show D.length=N.toNat by have:=h.dl;omega]
          refine bJ _ λv hv=>?_
          rw[if_neg (show¬(v:Int)=N+1 by omega),if_pos rfl]
          split
          · omega
          · split<;>omega
        show 0+SP N.toNat (λv=>if 0<gI D (v:Int) then(if(v:Int)=N+1 then gI D (v:Int) else 0) else if gI D (v:Int)<0 then(if N+1=N+1 then-gI D (v:Int) else 0) else 0)=_
        omega
      · have:=(h.ar _ (bx (xs:=A) (i:=(i:Int)) (by omega) (by omega))).2.1
        exact if_neg (by omega)
    have e1:SP (cC N A D).length (λi=>if(gI (cC N A D) (i:Int)).2.1=N+1 then(gI (cC N A D) (i:Int)).2.2.1-xW (dx N A D).1 i else 0)=0:=by
      rw[bJ (h:=λi=>(if(gI (cC N A D) (i:Int)).2.1=N+1 then(gI (cC N A D) (i:Int)).2.2.1 else 0)+((if(gI (cC N A D) (i:Int)).1=N+1 then xW (dx N A D).1 i else 0)-(if(gI (cC N A D) (i:Int)).2.1=N+1 then xW (dx N A D).1 i else 0))) _ λi hi=>?_]
      · unfold j3 at ht
        rw[m7,e2,ht];omega
      · have:=(h.ends hi).1.2
        rw[if_neg this]
        split<;>omega
    have:=m4 _ (λi hi=>by
      have:=bd i hi
      split<;>omega) e1 i hi
    rw[if_pos q] at this
    omega
theorem rA(h:gp N A D)(hok:jS N A D):q6 N A D (ng N A D):=by
 have hc:=h.ld
 have he:=h.fi
 have hn:=h.n0
 refine⟨ku,λi hi=>?_,λv v0 v1=>?_⟩
 · rw[mW hi]
   have:=nr hc he.i.l (i:=i) (by unfold cC;rw[List.length_append];omega)
   rw[gE hi] at this
   exact this.2
 · have hv:=kX hc he.i.l (u:=v) v0 (by omega)
   rw[if_neg (by omega),if_neg (by omega)] at hv
   unfold j3 at hv ⊢
   have hlen:(cC N A D).length=A.length+(fW N D N.toNat).length:=by unfold cC;rw[List.length_append]
   rw[hlen,oV] at hv
   have e1:SP A.length (λi=>(if(gI (cC N A D) (i:Int)).1=v then xW (dx N A D).1 i else 0)-(if(gI (cC N A D) (i:Int)).2.1=v then xW (dx N A D).1 i else 0))=SP A.length (λi=>(if(gI A (i:Int)).1=v then gI (ng N A D) (i:Int) else 0)-(if(gI A (i:Int)).2.1=v then gI (ng N A D) (i:Int) else 0)):=by
     refine bJ _ λi hi=>?_
     rw[gE hi,mW hi]
   rw[e1] at hv
   have e2:SP (fW N D N.toNat).length (λj=>(if(gI (cC N A D) ((A.length+j:Nat):Int)).1=v then xW (dx N A D).1 (A.length+j) else 0)-(if(gI (cC N A D) ((A.length+j:Nat):Int)).2.1=v then xW (dx N A D).1 (A.length+j) else 0))=SP (fW N D N.toNat).length (λj=>(λa:eo=>(if a.1=v then a.2.2.1 else 0)-(if a.2.1=v then a.2.2.1 else 0)) (gI (fW N D N.toNat) (j:Int))):=by
     refine bJ _ λj hj=>?_
     rw[t3 h hok (by omega) (by omega),py hj]
   rw[e2,l4 (F:=λa:eo=>(if a.1=v then a.2.2.1 else 0)-(if a.2.1=v then a.2.2.1 else 0)),mw] at hv
   have e3:SP N.toNat (λu=>if 0<gI D (u:Int) then(if N=v then gI D (u:Int) else 0)-(if(u:Int)=v then gI D (u:Int) else 0) else if gI D (u:Int)<0 then(if(u:Int)=v then-gI D (u:Int) else 0)-(if N+1=v then-gI D (u:Int) else 0) else 0)= -gI D v:=by
     rw[bJ (h:=λu=>if u=v.toNat then-gI D v else 0) _ λu hu=>?_,kM _ (by omega)]
     rw[if_neg (show¬N=v by omega),if_neg (show¬N+1=v by omega)]
     by_cases q:(u:Int)=v
     · rw[if_pos q,if_pos q,if_pos (show u=v.toNat by omega),q]
       split
       · omega
       · split<;>omega
     · rw[if_neg q,if_neg q,if_neg (show¬u=v.toNat by omega)]
       split
       · omega
       · split<;>omega
   have fin:∀X Y:Int,X+Y=0-0->Y= -gI D v->X=gI D v:=λX Y a b=>by omega
   exact fin _ _ hv e3
theorem sA{xs:List Int}{n k:Nat}(h:k<n):gI (xs.take n) (k:Int)=gI xs (k:Int):=by
 unfold gI
 rw[List.getD_eq_getElem?_getD,List.getD_eq_getElem?_getD,List.getElem?_take,if_pos (by simpa using h)]
theorem pR(h:gp N A D)(v0:0<=v)(v1:v<N):gI (pY N A D) v=gI (dx N A D).2.1 v:=by
 have:=sA (xs:=(dx N A D).2.1) (n:=N.toNat) (k:=v.toNat) (by omega)
 rw[show((v.toNat:Nat):Int)=v by omega] at this
 exact this
theorem ml(h:gp N A D):((pY N A D).length:Int)=N:=by
 have:=h.fi.i.d.pt.pl
 have:=h.n0
 unfold pY
 rw[List.length_take];omega
theorem sX(h:gp N A D):∀p∈pY N A D,0<=p/\p<=1099511627776:=λp hp=>by
 obtain⟨i,hi,e⟩:=List.mem_iff_getElem.1 hp
 have hl:=ml h
 have:=h.fi.i.d.pt.pb (i:Int) (by omega) (by omega)
 have h2:=pR h (v:=(i:Int)) (by omega) (by omega)
 have e4:∀(L:List Int) (j:Nat) (hj:j<L.length),gI L (j:Int)=L[j]:=λL j hj=>by simp[gI,hj]
 rw[e4 _ i hi,e] at h2
 have:=h.n1
 rw[h2];omega
theorem t6(h:gp N A D):tO A (ng N A D) (pY N A D):=λi hi=>by
 have hc:=h.ld
 have he:=h.fi
 have hlw:=hc.lw
 have hlen:(cC N A D).length=A.length+(fW N D N.toNat).length:=by unfold cC;rw[List.length_append]
 have hie:i<(cC N A D).length:=by omega
 obtain⟨b1,b2,b3⟩:=nr hc he.i.l hie
 obtain⟨a1,a2,_⟩:=h.ar _ (bx (xs:=A) (i:=(i:Int)) (by omega) (by omega))
 have hst:=he.i.l.sm
 have t1:bV (dx N A D).1 (2*(i:Int))=(gI A (i:Int)).2.1:=by rw[hst.to _ (by omega),<-gE hi];exact congrArg Prod.fst (hc.fw i hie)
 have t2:bV (dx N A D).1 (2*(i:Int)+1)=(gI A (i:Int)).1:=by rw[hst.to _ (by omega),<-gE hi];exact congrArg Prod.fst (hc.bw i hie)
 have c1:fX (dx N A D).1 (2*(i:Int))=(gI A (i:Int)).2.2.2:=by rw[hst.cs _ (by omega),<-gE hi];exact congrArg (λz=>z.2.2) (hc.fw i hie)
 have c2:fX (dx N A D).1 (2*(i:Int)+1)= -(gI A (i:Int)).2.2.2:=by rw[hst.cs _ (by omega),<-gE hi];exact congrArg (λz=>z.2.2) (hc.bw i hie)
 have f1:dL (dx N A D).1 (2*(i:Int))=(gI A (i:Int)).1:=by unfold dL;rw[eQ];exact t2
 have f2:dL (dx N A D).1 (2*(i:Int)+1)=(gI A (i:Int)).2.1:=by unfold dL;rw[hO];exact t1
 have w1:eb (dx N A D).1 (2*(i:Int)):=hst.inn.2 ⟨by omega,by omega⟩
 have w2:eb (dx N A D).1 (2*(i:Int)+1):=hst.inn.2 ⟨by omega,by omega⟩
 have r1:=he.i.d.pt.rd _ w1
 have r2:=he.i.d.pt.rd _ w2
 unfold dX at r1 r2
 rw[t1,f1,c1,b1,gE hi] at r1
 rw[t2,f2,c2] at r2
 rw[mW hi,pR h a1.1 a1.2,pR h a2.1 a2.2]
 refine⟨λq=>r1 (by omega),λq=>?_⟩
 have:=r2 q
 omega
def nM(N:Int)(A:List eo)(D:List Int)(v:Int):Int:=if gI (dx N A D).2.2.1 v=dh then 0 else 1
theorem oP(h:gp N A D)(hb:dd D=0)(hno:¬jS N A D):SP A.length (λi=>jy (nM N A D) (gI A (i:Int)))<SP N.toNat λv=>if nM N A D (v:Int)=1 then gI D (v:Int) else 0:=by
 have he:=h.fi
 have h1:=qy h h.ld he rfl (nM N A D) rfl
 have h2:=he.i.le.1
 have h3:¬(dx N A D).2.2.2.2=dH D N.toNat:=λe=>hno ⟨hb,e⟩
 omega
theorem m9(h:gp N A D):jS N A D↔∃x,q6 N A D x:=by
  refine⟨λq=>⟨_,rA h q⟩,λ⟨x,hx⟩=>?_⟩
  refine Classical.byContradiction λhno=>?_
  have h1:=oP h (hx.bal h) hno
  have h2:=hx.cut h (nM N A D) (λv=>by unfold nM;split<;>simp)
  omega
theorem kO(h:gp N A D):v∈iF N A D↔(0<=v/\v<N)/\nM N A D v=1:=by
 have hn:=h.n0
 unfold iF nM
 rw[List.mem_filter,fv,decide_eq_true_eq]
 have he:=h.fi
 have hra:=eM he.i.d
 rw[<-he.far] at hra
 constructor
 · rintro⟨⟨a,b⟩,q⟩
   exact⟨⟨a,by omega⟩,if_neg (by omega)⟩
 · rintro⟨⟨a,b⟩,q⟩
   refine⟨⟨a,by omega⟩,?_⟩
   have hne:gI (dx N A D).2.2.1 v≠dh:=λe=>by rw[if_pos e] at q;exact absurd q (by decide)
   have hM:=he.i.d.hM
   have hB:=he.i.d.b0
   have:=(hra.i.bd (by omega) he.i.d.hb a (by omega) hne).2
   have:=he.i.d.hb
   omega
end TL
/-
  TlFlr: what layer 25 answers.
  By an AI agent.
-/
set_option linter.all false
namespace TL
abbrev gZ:=Int×List eo×List Int
abbrev kQ:=List Int×List Int×Int
variable{T:gZ}{k j:Nat}
def ij(N:Int)(a:eo):Prop:=(0<=a.1/\a.1<N)/\(0<=a.2.1/\a.2.1<N)/\(0<=a.2.2.1/\a.2.2.1<=1048576)/\0<=a.2.2.2/\a.2.2.2<=1048576
instance {N:Int}{a:eo}:Decidable (ij N a):=by unfold ij;infer_instance
def cB(T:gZ):Prop:=(0<=T.1/\T.1<=4096)/\T.2.1.length<=16384/\(T.2.2.length:Int)=T.1/\(∀a∈T.2.1,ij T.1 a)/\∀x∈T.2.2,-1048576<=x/\x<=1048576
instance:Decidable (cB T):=by unfold cB;infer_instance
def bQ(T:gZ):Bool:=decide (cB T)
theorem cB.my(h:cB T):gp T.1 T.2.1 T.2.2:=⟨h.1.1,h.1.2,h.2.1,h.2.2.1,h.2.2.2.1,h.2.2.2.2⟩
theorem ec(h:¬cB T):bQ T=false:=decide_eq_false h
theorem dI(h:cB T):bQ T=true:=decide_eq_true h
theorem cW(h1:(k:Int)<(T.2.1.length:Int))(h:¬ij T.1 (gI T.2.1 (k:Int))):bQ T=false:=ec λq=>h (q.2.2.2.1 _ (bx (by omega) h1))
theorem hH(h1:(k:Int)<(T.2.2.length:Int))(h:¬(-1048576<=gI T.2.2 (k:Int)/\gI T.2.2 (k:Int)<=1048576)):bQ T=false:=ec λq=>h (q.2.2.2.2 _ (bx (by omega) h1))
theorem ly{N:Int}{A:List eo}(h:∀a∈A.take k,ij N a)(h1:(k:Int)<(A.length:Int))(hk:ij N (gI A (k:Int))):∀a∈A.take (k+1),ij N a:=by
 rw[cy h1]
 intro a ha
 rcases List.mem_append.1 ha with q|q
 · exact h a q
 · rw[List.mem_singleton.1 q];exact hk
def jP(x:Int):Prop:= -1048576<=x/\x<=1048576
theorem lp{D:List Int}(h:∀x∈D.take k,jP x)(h1:(k:Int)<(D.length:Int))(hk:jP (gI D (k:Int))):∀x∈D.take (k+1),jP x:=by
 rw[cy h1]
 intro a ha
 rcases List.mem_append.1 ha with q|q
 · exact h a q
 · rw[List.mem_singleton.1 q];exact hk
theorem lP(h0:(0<=T.1/\T.1<=4096)/\T.2.1.length<=16384/\(T.2.2.length:Int)=T.1)(h:∀a∈T.2.1.take k,ij T.1 a)(hk:¬(k:Int)<(T.2.1.length:Int))(h2:∀x∈T.2.2.take j,jP x)(hj:¬(j:Int)<(T.2.2.length:Int)):bQ T=true:=by
 rw[List.take_of_length_le (by omega)] at h h2
 exact dI ⟨h0.1,h0.2.1,h0.2.2,h,h2⟩
instance {N:Int}{A:List eo}{D:List Int}:Decidable (jS N A D):=by unfold jS;infer_instance
def ax(T:gZ):kQ×Int:=if cB T then if jS T.1 T.2.1 T.2.2 then((ng T.1 T.2.1 T.2.2,pY T.1 T.2.1 T.2.2,sK T.2.1 (ng T.1 T.2.1 T.2.2)),0) else(([],[],0),20) else(([],[],0),1)
def aS(T:gZ):List Int×Int:=if cB T then if dd T.2.2=0 then if(dx T.1 T.2.1 T.2.2).2.2.2.2=dH T.2.2 T.1.toNat then([],14) else(iF T.1 T.2.1 T.2.2,0) else([],0) else([],1)
theorem k8{D:List Int}{n:Int}(h:n=SP k λv=>gI D (v:Int)):n+gI D (k:Int)=SP (k+1) λv=>gI D (v:Int):=by subst h;rfl
theorem jW{D:List Int}{n:Int}(h:n=SP k λv=>gI D (v:Int))(h1:(k:Int)<=(D.length:Int))(hk:¬(k:Int)<(D.length:Int)):n=dd D:=by
 have:k=D.length:=by omega
 subst this;exact h
theorem lb{D:List Int}(h:∀x∈D,-1048576<=x/\x<=1048576):∀(k:Nat),(k:Int)<=(D.length:Int)-> -(k:Int)*1048576<=SP k (λv=>gI D (v:Int))/\SP k (λv=>gI D (v:Int))<=(k:Int)*1048576
 |0,_=>⟨Int.le_refl _,Int.le_refl _⟩
 |k+1,hk=>by
   have:=lb h k (by omega)
   have:=h _ (bx (xs:=D) (i:=(k:Int)) (by omega) (by omega))
   show _<=SP k (λv=>gI D (v:Int))+gI D (k:Int)/\SP k (λv=>gI D (v:Int))+gI D (k:Int)<=_
   omega
def ct:gZ:=(3,[(0,1,2,1),(1,2,2,1),(0,2,1,5)],[3,0,-3])
def tp:gZ:=(3,[(0,1,2,1),(1,2,2,1),(0,2,1,5)],[4,0,-4])
theorem kx:∃p,ax ct=(([2,2,1],p,9),0):=⟨(ax ct).1.2.1,by decide+kernel⟩
theorem na:aS tp=([0],0)\/aS tp=([0,1],0):=by decide+kernel
end TL
/-
  TlFlw: a task's pipes laid and filled, step by step.
  By an AI agent.
-/
set_option linter.all false
namespace TL
variable{T:gZ}{k j m:Nat}{W W2:List cb}{O O2:List (List Int)}{n2 u v ak:Int}{E:List eo}
structure jB(T:gZ)(m:Nat)(W:List cb)(O:List (List Int)):Prop where
  e:(W,O)=jg (T.1+2) ((cC T.1 T.2.1 T.2.2).take m)
  le:m<=(cC T.1 T.2.1 T.2.2).length
theorem jB.ld(h:jB T m W O)(hm:cB T):lg (T.1+2) (cC T.1 T.2.1 T.2.2) m (W,O):=by
 rw[h.e]
 exact l5 (by have:=hm.1.1;omega) hm.my.rg m h.le
theorem mC:∀(m:Nat),(n8 E m u).length<=2*m
 |0=>Nat.le_refl _
 |m+1=>by
   unfold n8
   have:=mC m
   rw[List.length_append,List.length_append]
   have h1:∀(c:Prop) [Decidable c] (z:Int),(if c then[z] else[]).length<=1:=λc _ z=>by split<;>simp
   have:=h1 ((gI E (m:Int)).1=u) (2*(m:Int))
   have:=h1 ((gI E (m:Int)).2.1=u) (2*(m:Int)+1)
   omega
theorem jB.lw(h:jB T m W O)(hm:cB T):W.length=2*m/\(O.length:Int)=T.1+2/\m<=20480:=by
 have h1:=h.ld hm
 have:=hm.my.el
 have:=h.le
 exact⟨h1.lw,h1.ol,by omega⟩
theorem jB.rl(h:jB T m W O)(hm:cB T)(u0:0<=u)(u1:u<T.1+2):(gI O u).length<=2*m:=by
 have:=(h.ld hm).row u u0 u1
 rw[show gI O u=n8 (cC T.1 T.2.1 T.2.2) m u from this]
 exact mC m
theorem jB.start(hm:cB T):jB T 0 [] (List.replicate (T.1+2).toNat []):=⟨rfl,Nat.zero_le _⟩
theorem jB.next(h:jB T m W O){a:eo}(hl:m<(cC T.1 T.2.1 T.2.2).length)(ha:gI (cC T.1 T.2.1 T.2.2) (m:Int)=a)(e2:(W2,O2)=jM (W,O) a):jB T (m+1) W2 O2:=by
 refine⟨?_,hl⟩
 rw[cy (by omega),jb,<-h.e,ha,e2]
theorem iE(T:gZ):(cC T.1 T.2.1 T.2.2).length=T.2.1.length+(fW T.1 T.2.2 T.1.toNat).length:=by unfold cC;rw[List.length_append]
theorem jB.arc(h:jB T k W O)(hk:(k:Int)<(T.2.1.length:Int))(e2:(W2,O2)=jM (W,O) (gI T.2.1 (k:Int))):jB T (k+1) W2 O2:=by
 have:=iE T
 exact h.next (by omega) (gE (by omega)) e2
theorem mX(N:Int)(D:List Int)(j:Nat):∀(n:Nat),∃l,fW N D (j+n)=fW N D j++l
 |0=>⟨[],(List.append_nil _).symm⟩
 |n+1=>by
   obtain⟨l,hl⟩:=mX N D j n
   exact⟨l++mQ N ((j+n:Nat):Int) (gI D ((j+n:Nat):Int)),by
     show fW N D (j+n)++mQ N ((j+n:Nat):Int) (gI D ((j+n:Nat):Int))=_
     rw[hl,List.append_assoc]⟩
def gv(T:gZ)(j:Nat)(W:List cb)(O:List (List Int))(ak:Int):Prop:=jB T (T.2.1.length+(fW T.1 T.2.2 j).length) W O/\ak=dH T.2.2 j
theorem gv.start(h:jB T k W O)(h0:(k:Int)<=(T.2.1.length:Int))(hk:¬(k:Int)<(T.2.1.length:Int)):gv T 0 W O 0:=by
 have e:k=T.2.1.length:=by omega
 subst e
 exact⟨h,rfl⟩
theorem gv.at_(hm:cB T)(hj:(j:Int)<(T.2.2.length:Int)){a:eo}(ha:mQ T.1 (j:Int) (gI T.2.2 (j:Int))=[a]):(fW T.1 T.2.2 (j+1)).length=(fW T.1 T.2.2 j).length+1/\T.2.1.length+(fW T.1 T.2.2 j).length<(cC T.1 T.2.1 T.2.2).length/\gI (cC T.1 T.2.1 T.2.2) ((T.2.1.length+(fW T.1 T.2.2 j).length:Nat):Int)=a:=by
 have h1:fW T.1 T.2.2 (j+1)=fW T.1 T.2.2 j++[a]:=by show _++_=_;rw[ha]
 obtain⟨l,hl⟩:=mX T.1 T.2.2 (j+1) (T.1.toNat-(j+1))
 have hdl:=hm.2.2.1
 rw[show j+1+(T.1.toNat-(j+1))=T.1.toNat by omega,h1] at hl
 have h2:=iE T
 have h3:(fW T.1 T.2.2 j).length<(fW T.1 T.2.2 T.1.toNat).length:=by rw[hl];simp
 refine⟨by rw[h1];simp,by omega,?_⟩
 rw[py h3,hl]
 simp[gI]
theorem gv.plus(hm:cB T)(h:gv T j W O ak)(hj:(j:Int)<(T.2.2.length:Int))(hp:0<gI T.2.2 (j:Int))(e2:(W2,O2)=jM (W,O) (T.1,(j:Int),gI T.2.2 (j:Int),0)):gv T (j+1) W2 O2 (ak+gI T.2.2 (j:Int)):=by
 have ha:mQ T.1 (j:Int) (gI T.2.2 (j:Int))=[(T.1,(j:Int),gI T.2.2 (j:Int),0)]:=by unfold mQ;rw[if_pos hp]
 obtain⟨a1,a2,a3⟩:=gv.at_ hm hj ha
 refine⟨by rw[a1];exact h.1.next a2 a3 e2,?_⟩
 rw[h.2]
 show _=dH T.2.2 j+(if 0<gI T.2.2 (j:Int) then gI T.2.2 (j:Int) else 0)
 rw[if_pos hp]
theorem gv.minus(hm:cB T)(h:gv T j W O ak)(hj:(j:Int)<(T.2.2.length:Int))(hp:¬0<gI T.2.2 (j:Int))(hn:gI T.2.2 (j:Int)<0)(e2:(W2,O2)=jM (W,O) ((j:Int),T.1+1,-gI T.2.2 (j:Int),0)):gv T (j+1) W2 O2 ak:=by
 have ha:mQ T.1 (j:Int) (gI T.2.2 (j:Int))=[((j:Int),T.1+1,-gI T.2.2 (j:Int),0)]:=by unfold mQ;rw[if_neg hp,if_pos hn]
 obtain⟨a1,a2,a3⟩:=gv.at_ hm hj ha
 refine⟨by rw[a1];exact h.1.next a2 a3 e2,?_⟩
 rw[h.2]
 show _=dH T.2.2 j+(if 0<gI T.2.2 (j:Int) then gI T.2.2 (j:Int) else 0)
 rw[if_neg hp,Int.add_zero]
theorem gv.none(hm:cB T)(h:gv T j W O ak)(hj:(j:Int)<(T.2.2.length:Int))(hp:¬0<gI T.2.2 (j:Int))(hn:¬gI T.2.2 (j:Int)<0):gv T (j+1) W O ak:=by
 have ha:fW T.1 T.2.2 (j+1)=fW T.1 T.2.2 j:=by
   show _++mQ T.1 (j:Int) (gI T.2.2 (j:Int))=_
   unfold mQ;rw[if_neg hp,if_neg hn,List.append_nil]
 refine⟨by rw[ha];exact h.1,?_⟩
 rw[h.2]
 show _=dH T.2.2 j+(if 0<gI T.2.2 (j:Int) then gI T.2.2 (j:Int) else 0)
 rw[if_neg hp,Int.add_zero]
theorem gv.bd(hm:cB T)(h:gv T j W O ak)(hj:(j:Int)<=(T.2.2.length:Int)):0<=ak/\ak<=(j:Int)*1048576:=by
 rw[h.2]
 exact kF hm.my j (by have:=hm.2.2.1;omega)
theorem gv.done(hm:cB T)(h:gv T j W O ak)(h0:(j:Int)<=(T.2.2.length:Int))(hj:¬(j:Int)<(T.2.2.length:Int)):(W,O)=lf T.1 T.2.1 T.2.2/\ak=dH T.2.2 T.1.toNat:=by
  have e:j=T.1.toNat:=by have:=hm.2.2.1;omega
  subst e
  refine⟨?_,h.2⟩
  have:=h.1.e
  rw[<-iE T,List.take_length] at this
  exact this
open Go Go.Proofs in
theorem jX{γ:aG}{J:cv->Prop}{w:World}{b:Nat}{cs:List Value}(h:Bx γ J w b cs):Bx c0 (is 0) w b cs:=⟨rfl,h.2⟩
end TL
/-
  TlFlx: filling, as the walk goes through it.
  By an AI agent.
-/
set_option linter.all false
namespace TL
variable{n2 s t v u w x y d B M n most ak fl f0 f1:Int}{W W' W0:List cb}{O:List (List Int)}{P P' lv nx nx' far xs:List Int}{m f i k fu:Nat}{R:iu}
theorem gT{a b:List Int}(hl:a.length=b.length)(h:∀i:Nat,i<a.length->gI a (i:Int)=gI b (i:Int)):a=b:=by
 refine List.ext_getElem hl λi h1 h2=>?_
 have:=h i h1
 simpa[gI,h1,h2] using this
structure mO(n2:Int)(k:Nat)(xs:List Int):Prop where
  ln:(xs.length:Int)=n2
  at_:∀i:Nat,i<k->gI xs (i:Int)=dh
theorem mO.start(h:(xs.length:Int)=n2):mO n2 0 xs:=⟨h,λi hi=>by omega⟩
theorem mO.next(h:mO n2 k xs)(hk:(k:Int)<(xs.length:Int)):mO n2 (k+1) (xs.set (k:Int).toNat dh):=by
 refine⟨by rw[List.length_set];exact h.ln,λi hi=>?_⟩
 rw[cJ (by omega) hk (by omega)]
 by_cases c:(i:Int)=(k:Int)
 · rw[if_pos c]
 · rw[if_neg c];exact h.at_ i (by omega)
theorem mO.done(h:mO n2 k xs)(hk:¬(k:Int)<(xs.length:Int))(hle:(k:Int)<=(xs.length:Int)):xs=List.replicate n2.toNat dh:=by
 have:=h.ln
 refine gT (by simp;omega) λi hi=>?_
 rw[h.at_ i (by omega),dP (by omega) (by omega)]
def dc(n2 s:Int)(W:List cb)(O:List (List Int))(P:List Int):List Int×List cR:=kn W O P (ek (ey n2 s,[(0,s)])) (ey n2 s,[(0,s)])
theorem rN(hb:gk n2 s B M W O P)(h:mO n2 k xs)(hk:¬(k:Int)<(xs.length:Int))(hle:(k:Int)<=(xs.length:Int)):iW n2 s M W O P (dc n2 s W O P) (xs.set s.toNat 0) [(0,s)]:=by
 rw[h.done hk hle]
 exact iW.start hb
theorem iW.end_{q:List cR}(h:iW n2 s M W O P (dc n2 s W O P) far q)(h0:¬0<(q.length:Int)):far=ck n2 s W O P:=(h.fin (by omega)).1
structure me(P far:List Int)(ft:Int)(k:Nat)(xs:List Int):Prop where
  ln:xs.length=P.length
  at_:∀i:Nat,i<P.length->gI xs (i:Int)=if i<k then gI P (i:Int)+min (gI far (i:Int)) ft else gI P (i:Int)
theorem me.start{ft:Int}:me P far ft 0 P:=⟨rfl,λi _=>by rw[if_neg (by omega)]⟩
theorem me.now{ft:Int}(h:me P far ft k xs)(hk:(k:Int)<(xs.length:Int)):gI xs (k:Int)=gI P (k:Int):=by
 have:=h.ln
 rw[h.at_ k (by omega),if_neg (by omega)]
theorem me.next{ft z:Int}(h:me P far ft k xs)(hk:(k:Int)<(xs.length:Int))(hz:z=gI xs (k:Int)+min (gI far (k:Int)) ft):me P far ft (k+1) (xs.set (k:Int).toNat z):=by
 have hl:=h.ln
 refine⟨by rw[List.length_set];exact hl,λi hi=>?_⟩
 rw[cJ (by omega) hk (by omega)]
 by_cases c:(i:Int)=(k:Int)
 · have:i=k:=by omega
   subst this
   rw[if_pos rfl,if_pos (by omega),hz,h.now hk]
 · rw[if_neg c,h.at_ i hi]
   by_cases c2:i<k
   · rw[if_pos c2,if_pos (by omega)]
   · rw[if_neg c2,if_neg (by omega)]
theorem me.done{ft:Int}(h:me P far ft k xs)(hk:¬(k:Int)<(xs.length:Int)):xs=di P far ft:=by
 have hl:=h.ln
 refine gT (by rw[hl,j2]) λi hi=>?_
 rw[h.at_ i (by omega),if_pos (by omega),iN (by omega) (by omega)]
def jQ(n2 s t ak B M:Int)(W0:List cb)(O:List (List Int))(R:iu)(W:List cb)(P far nx:List Int)(fl:Int):Prop:=∃f,nK n2 s t ak B M W0 O R f W P far nx fl
def jR(n2 s t ak B M:Int)(W0:List cb)(O:List (List Int))(R:iu)(f0:Int)(W:List cb)(P far nx:List Int)(fl:Int):Prop:=(∃f,pX n2 s t ak B M W0 O R f W P far nx fl)/\(f0<fl\/f0=fl/\ZpW W P s t)
def li(n2 s t ak B M:Int)(W0:List cb)(O:List (List Int))(R:iu)(f1:Int)(W:List cb)(P lv nx:List Int)(fl:Int):Prop:=(∃f,nJ n2 s t ak B M W0 O R f W P lv nx fl)/\(f1<fl\/f1=fl/\ry n2 s W P lv/\0<=gI lv t/\nx=gb n2)
theorem jQ.stop(h:jQ n2 s t ak B M W0 O R W P far nx fl)(hs:gI (ck n2 s W O P) t=dh):R=(W,P,ck n2 s W O P,nx,fl):=by
 obtain⟨f,hf⟩:=h
 exact hf.stop hs
theorem jQ.go(h:jQ n2 s t ak B M W0 O R W P far nx fl)(hs:¬gI (ck n2 s W O P) t=dh):jR n2 s t ak B M W0 O R fl W (di P (ck n2 s W O P) (gI (ck n2 s W O P) t)) (ck n2 s W O P) nx fl:=by
 obtain⟨f,hf⟩:=h
 obtain⟨r1,r2,r3⟩:=lh hf.i.d hf.i.b.hB (eM hf.i.d) hf.i.p ⟨hf.i.b.t0,hf.i.b.t1⟩ hs
 exact⟨⟨_,hf.go hs⟩,.inr ⟨rfl,r3⟩⟩
theorem jQ.ii(h:jQ n2 s t ak B M W0 O R W P far nx fl):jC n2 s t ak B M W0 O W P fl:=by
 obtain⟨f,hf⟩:=h
 exact hf.i
theorem jR.ii(h:jR n2 s t ak B M W0 O R f0 W P far nx fl):jC n2 s t ak B M W0 O W P fl:=by
 obtain⟨⟨f,hf⟩,_⟩:=h
 exact hf.i
theorem li.ii(h:li n2 s t ak B M W0 O R f1 W P lv nx fl):jC n2 s t ak B M W0 O W P fl:=by
 obtain⟨⟨f,hf⟩,_⟩:=h
 exact hf.i
theorem jR.yes(h:jR n2 s t ak B M W0 O R f0 W P far nx fl)(hl:0<=gI (bM n2 s W O P).1 t):li n2 s t ak B M W0 O R fl W P (bM n2 s W O P).1 (gb n2) fl:=by
 obtain⟨⟨f,hf⟩,_⟩:=h
 exact⟨⟨_,hf.yes hl⟩,.inr ⟨rfl,gw hf.i.d,hl,rfl⟩⟩
theorem jR.no(h:jR n2 s t ak B M W0 O R f0 W P far nx fl)(hl:¬0<=gI (bM n2 s W O P).1 t):jQ n2 s t ak B M W0 O R W P (bM n2 s W O P).1 (gb n2) fl/\f0<fl:=by
 obtain⟨⟨f,hf⟩,h2⟩:=h
 refine⟨⟨_,hf.no hl⟩,?_⟩
 rcases h2 with q|⟨_,q⟩
 · exact q
 · exact absurd (rx (gw hf.i.d) q) hl
theorem li.yes(h:li n2 s t ak B M W0 O R f1 W P lv nx fl){r:Int×List cb×List Int}(hr:r=pu n2 O P lv t s ak W nx)(hp:0<r.1):li n2 s t ak B M W0 O R f1 r.2.1 P lv r.2.2 (fl+r.1):=by
 obtain⟨⟨f,hf⟩,h2⟩:=h
 exact⟨⟨_,(hf.yes hr hp).1⟩,.inl (by rcases h2 with q|⟨q,_⟩<;>omega)⟩
theorem li.no(h:li n2 s t ak B M W0 O R f1 W P lv nx fl){r:Int×List cb×List Int}(hr:r=pu n2 O P lv t s ak W nx)(hp:¬0<r.1)(h0:f0<=f1):jR n2 s t ak B M W0 O R f0 r.2.1 P lv r.2.2 fl/\f1<fl:=by
 obtain⟨⟨f,hf⟩,h2⟩:=h
 have h3:f1<fl:=by
   rcases h2 with q|⟨q,q1,q2,q3⟩
   · exact q
   · subst q3
     have:=pJ (P:=P) (most:=ak) hf.u q1 hf.i.b.s0 hf.i.b.s1 hf.i.b.st hf.i.b.t0 hf.i.b.t1 q2 hf.ap
     rw[<-hr] at this
     exact absurd this hp
 exact⟨⟨⟨_,hf.no hr hp⟩,.inl (by omega)⟩,h3⟩
structure qo(n2 t:Int)(O:List (List Int))(P lv:List Int)(fu:Nat)(v most:Int)(W:List cb)(nx:List Int):Prop where
  i:pL n2 W O lv nx
  mu:fh n2 O nx lv v<=fu
  v0:0<=v
  v1:v<n2
  m0:0<=most
  m1:most<=1099511627776
  t0:0<=t
  t1:t<n2
  pl:(P.length:Int)=n2
  ll:(lv.length:Int)=n2
  pb:∀v,0<=v->v<n2->0<=gI P v/\gI P v<=1099511627776
  n2b:n2<=5000
theorem li.pun(h:li n2 s t ak B M W0 O R f1 W P lv nx fl):qo n2 t O P lv (fh n2 O nx lv s) s ak W nx:=by
 obtain⟨⟨f,hf⟩,_⟩:=h
 have hn:=hf.i.b.n2b
 have hB:=hf.i.b.hB
 refine⟨hf.u,Nat.le_refl _,hf.i.b.s0,hf.i.b.s1,by have:=hf.ap;omega,hf.i.b.ab,hf.i.b.t0,hf.i.b.t1,hf.i.d.pt.pl,hf.ll,λv a b=>?_,hn⟩
 have:=hf.i.d.pt.pb v a b
 omega
def iO(n2 t v most:Int)(O:List (List Int))(P lv:List Int)(fu:Nat)(R:Int×List cb×List Int)(W:List cb)(nx:List Int):Prop:=∃f,f<=fu/\lc n2 t v most O P lv R f W nx
theorem iO.start(h:qo n2 t O P lv fu v most W nx)(hv:¬v=t):iO n2 t v most O P lv fu (cL O P lv t fu v most W nx) W nx:=⟨fu,Nat.le_refl _,⟨h.i,h.mu,h.v0,h.v1,h.m0,hv,rfl⟩⟩
theorem oC(h:qo n2 t O P lv fu v most W nx)(hv:v=t):cL O P lv t fu v most W nx=(most,W,nx):=by
 have h1:=h.mu
 have h2:=(h.i.lv v h.v0 h.v1).2
 obtain⟨g,rfl⟩:∃g,fu=g+1:=⟨fu-1,by unfold fh at h1;omega⟩
 unfold cL
 rw[if_pos hv]
end TL
/-
  TlFly: levels and pushes, as the walk goes through them.
  By an AI agent.
-/
set_option linter.all false
namespace TL
variable{n2 s t v u w x y d B M n most ak fl f0 f1 rr pn:Int}{W W' W0 xW:List cb}{O:List (List Int)}{P P' lv nx nx' far xs ys xn Nn:List Int}{m f i k fu:Nat}{R:iu}{Q:Int×List cb×List Int}
structure mJ(n2:Int)(k:Nat)(xs ys:List Int):Prop where
  l1:(xs.length:Int)=n2
  l2:(ys.length:Int)=n2
  at_:∀i:Nat,i<k->gI xs (i:Int)= -1/\gI ys (i:Int)=0
theorem mJ.start(h:(xs.length:Int)=n2)(h2:(ys.length:Int)=n2):mJ n2 0 xs ys:=⟨h,h2,λi hi=>by omega⟩
theorem mJ.next(h:mJ n2 k xs ys)(hk:(k:Int)<(xs.length:Int)):mJ n2 (k+1) (xs.set (k:Int).toNat (-1)) (ys.set (k:Int).toNat 0):=by
 have h1:=h.l1
 have h2:=h.l2
 refine⟨by rw[List.length_set];exact h.l1,by rw[List.length_set];exact h.l2,λi hi=>?_⟩
 rw[cJ (by omega) hk (by omega),cJ (by omega) (by omega) (by omega)]
 by_cases c:(i:Int)=(k:Int)
 · rw[if_pos c,if_pos c];exact⟨rfl,rfl⟩
 · rw[if_neg c,if_neg c];exact h.at_ i (by omega)
theorem mJ.done(h:mJ n2 k xs ys)(hk:¬(k:Int)<(xs.length:Int)):xs=List.replicate n2.toNat (-1)/\ys=gb n2:=by
 have h1:=h.l1
 have h2:=h.l2
 refine⟨gT (by simp;omega) λi hi=>?_,gT (by unfold gb;simp;omega) λi hi=>?_⟩
 · rw[(h.at_ i (by omega)).1,dP (by omega) (by omega)]
 · unfold gb
   rw[(h.at_ i (by omega)).2,dP (by omega) (by omega)]
theorem rM(s0:0<=s)(s1:s<n2)(h:mJ n2 k xs ys)(hk:¬(k:Int)<(xs.length:Int)):kP n2 s W O P (bM n2 s W O P) (xs.set s.toNat 0) [s] 0:=by
 rw[(h.done hk).1]
 exact lK s0 s1
theorem kP.qb{R:List Int×List Int}{qu:List Int}(h:kP n2 s W O P R lv qu i)(n0:0<=n2):(qu.length:Int)<=n2/\(i:Int)<=qu.length:=⟨h.l.ql n0,h.le⟩
theorem kP.vb{R:List Int×List Int}{qu:List Int}(h:kP n2 s W O P R lv qu i)(hi:(i:Int)<(qu.length:Int)):0<=gI qu (i:Int)/\gI qu (i:Int)<n2:=h.l.qr _ (bx (by omega) hi)
theorem jD.qb{R:List Int×List Int}{qu:List Int}(h:jD n2 s W O P R lv qu i k v)(n0:0<=n2):(qu.length:Int)<=n2/\(i:Int)<qu.length/\(0<=v/\v<n2)/\((lv.length:Int)=n2)/\ -1<=gI lv v/\gI lv v<n2:=by
 have hv:=h.l.qr _ (bx (xs:=qu) (i:=(i:Int)) (by omega) h.le)
 rw[h.hv] at hv
 exact⟨h.l.ql n0,h.le,hv,h.l.ll,h.l.top n0 hv.1 hv.2⟩
theorem mZ(hs:jT n2 W O)(v0:0<=v)(v1:v<n2)(hw:w∈gI O v):(0<=w/\w<(W.length:Int))/\(0<=(gI W w).1/\(gI W w).1<n2)/\ -1048576<=(gI W w).2.2/\(gI W w).2.2<=1048576:=by
  obtain⟨h1,h2⟩:=hs.row v v0 v1 w hw
  exact⟨h1,hs.to w h1,(hs.cs w h1).2⟩
theorem gk.pot(h:gk n2 s B M W O P)(hB:B<=5242880000)(v0:0<=v)(v1:v<n2):0<=gI P v/\gI P v<=5242880000:=by
 have:=h.pt.pb v v0 v1
 omega
theorem jQ.go'(h:jQ n2 s t ak B M W0 O R W P far nx fl)(hr:xs=ck n2 s W O P)(hp:P'=di P xs (gI xs t))(hs:¬gI xs t=dh):jR n2 s t ak B M W0 O R fl W P' xs nx fl:=by
 subst hr hp
 exact h.go hs
theorem jQ.stop'(h:jQ n2 s t ak B M W0 O R W P far nx fl)(hr:xs=ck n2 s W O P)(hs:gI xs t=dh):R=(W,P,xs,nx,fl):=by
 subst hr
 exact h.stop hs
theorem jR.yes'(h:jR n2 s t ak B M W0 O R f0 W P far nx fl)(hl:lv=(bM n2 s W O P).1)(hn:Nn=gb n2)(ht:0<=gI lv t):li n2 s t ak B M W0 O R fl W P lv Nn fl:=by
 subst hl hn
 exact h.yes ht
theorem jR.no'(h:jR n2 s t ak B M W0 O R f0 W P far nx fl)(hl:lv=(bM n2 s W O P).1)(hn:Nn=gb n2)(ht:¬0<=gI lv t):jQ n2 s t ak B M W0 O R W P lv Nn fl/\f0<fl:=by
 subst hl hn
 exact h.no ht
def oA(n2 s t ak B M:Int)(W0:List cb)(O:List (List Int))(R:iu)(f1:Int)(W':List cb)(P lv nx':List Int)(fl pn:Int):Prop:=∃W nx,li n2 s t ak B M W0 O R f1 W P lv nx fl/\pn=(pu n2 O P lv t s ak W nx).1/\W'=(pu n2 O P lv t s ak W nx).2.1/\nx'=(pu n2 O P lv t s ak W nx).2.2
theorem li.push(h:li n2 s t ak B M W0 O R f1 W P lv nx fl)(hr:pn=(cL O P lv t (fh n2 O nx lv s) s ak W nx).1/\W'=(cL O P lv t (fh n2 O nx lv s) s ak W nx).2.1/\nx'=(cL O P lv t (fh n2 O nx lv s) s ak W nx).2.2):oA n2 s t ak B M W0 O R f1 W' P lv nx' fl pn:=⟨W,nx,h,hr⟩
theorem oA.yes(h:oA n2 s t ak B M W0 O R f1 W' P lv nx' fl pn)(hp:0<pn):li n2 s t ak B M W0 O R f1 W' P lv nx' (fl+pn):=by
 obtain⟨W,nx,h1,rfl,rfl,rfl⟩:=h
 exact h1.yes rfl hp
theorem oA.no(h:oA n2 s t ak B M W0 O R f1 W' P lv nx' fl pn)(hp:¬0<pn)(h0:f0<=f1):jR n2 s t ak B M W0 O R f0 W' P lv nx' fl/\f1<fl:=by
 obtain⟨W,nx,h1,rfl,rfl,rfl⟩:=h
 exact h1.no rfl hp h0
theorem jR.le0(h:jR n2 s t ak B M W0 O R f0 W P far nx fl):f0<=fl:=by
 rcases h.2 with q|⟨q,_⟩<;>omega
theorem li.lens(h:li n2 s t ak B M W0 O R f1 W P lv nx fl):(lv.length:Int)=n2/\(nx.length:Int)=n2:=by
 obtain⟨⟨f,hf⟩,_⟩:=h
 exact⟨hf.ll,hf.u.nx.nl⟩
theorem oA.ii(h:oA n2 s t ak B M W0 O R f1 W' P lv nx' fl pn):jC n2 s t ak B M W0 O W' P (fl+pn)/\0<=pn/\(lv.length:Int)=n2/\(nx'.length:Int)=n2:=by
 obtain⟨W,nx,⟨⟨f,hf⟩,_⟩,rfl,rfl,rfl⟩:=h
 exact⟨hf.i.push hf.ok,hf.ok.k0,hf.ll,hf.ok.nxi.nl⟩
theorem jC.fb(h:jC n2 s t ak B M W0 O W P fl):0<=fl/\fl<=ak/\ak<=1099511627776:=⟨h.l.f0,h.le.1,h.b.ab⟩
theorem qo.pos(h:qo n2 t O P lv fu v most W nx):(O.length:Int)=n2/\(nx.length:Int)=n2/\W.length<=50000:=⟨h.i.sh.ol,h.i.nx.nl,h.i.sh.len⟩
theorem iO.lens(h:iO n2 t v most O P lv fu Q W nx):(nx.length:Int)=n2/\(O.length:Int)=n2/\W.length<=50000/\0<=gI nx v/\gI nx v<=((gI O v).length:Int)/\((gI O v).length:Int)<=(W.length:Int):=by
 obtain⟨f,_,h⟩:=h
 have:=h.i.nx.rg v h.v0 h.v1
 exact⟨h.i.nx.nl,h.i.sh.ol,h.i.sh.len,this.1,this.2,h.i.sh.rl h.v0 h.v1⟩
theorem iO.done(h:iO n2 t v most O P lv fu Q W nx)(hk:¬gI nx v<((gI O v).length:Int)):Q=(0,W,nx):=by
 obtain⟨f,_,h⟩:=h
 exact h.done hk
theorem iO.skip(h:iO n2 t v most O P lv fu Q W nx)(hk:gI nx v<((gI O v).length:Int))(hc:(gI W (gI (gI O v) (gI nx v))).2.1=0\/¬gI lv (gI W (gI (gI O v) (gI nx v))).1=gI lv v+1\/¬dX W P v (gI (gI O v) (gI nx v))=0):iO n2 t v most O P lv fu Q W (nx.set v.toNat (gI nx v+1)):=by
 obtain⟨f,hf,h⟩:=h
 obtain⟨h1,h2⟩:=h.skip hk hc
 exact⟨f-1,by omega,h1⟩
theorem iO.way(h:iO n2 t v most O P lv fu Q W nx)(hk:gI nx v<((gI O v).length:Int)):(0<=gI (gI O v) (gI nx v)/\gI (gI O v) (gI nx v)<(W.length:Int))/\(0<=cj (gI (gI O v) (gI nx v))/\cj (gI (gI O v) (gI nx v))<(W.length:Int))/\(0<=(gI W (gI (gI O v) (gI nx v))).1/\(gI W (gI (gI O v) (gI nx v))).1<n2)/\(-1048576<=(gI W (gI (gI O v) (gI nx v))).2.2/\(gI W (gI (gI O v) (gI nx v))).2.2<=1048576)/\(-1<=gI lv v/\gI lv v<n2)/\0<=(gI W (gI (gI O v) (gI nx v))).2.1/\(gI W (gI (gI O v) (gI nx v))).2.1<=1048576:=by
 obtain⟨f,_,h⟩:=h
 obtain⟨hw,_⟩:=h.way hk
 have ht:=h.i.sh.tw hw
 have r1:=h.i.rm _ hw
 have r2:=h.i.rm _ ht
 have r3:=h.i.rb _ hw
 exact⟨hw,ht,h.i.sh.to _ hw,(h.i.sh.cs _ hw).2,h.i.lv v h.v0 h.v1,r1,by show c7 W _<=_;omega⟩
theorem lc.need(h0:qo n2 t O P lv fu v most W0 Nn)(h:lc n2 t v most O P lv Q f W nx)(hk:gI nx v<((gI O v).length:Int))(c2:gI lv (gI W (gI (gI O v) (gI nx v))).1=gI lv v+1):qo n2 t O P lv (f-1) (gI W (gI (gI O v) (gI nx v))).1 (min most (gI W (gI (gI O v) (gI nx v))).2.1) W nx:=by
 obtain⟨q1,q2,q3,q4⟩:=h.call hk c2
 have:=h0.m1
 exact⟨h.i,q1,q3.1,q3.2,q4,by show min most (c7 W _)<=_;omega,h0.t0,h0.t1,h0.pl,h0.ll,h0.pb,h0.n2b⟩
structure tJ(n2 t v most:Int)(O:List (List Int))(P lv:List Int)(fu:Nat)(Q:Int×List cb×List Int)(nx:List Int)(w rr:Int)(xW:List cb)(xn:List Int):Prop where
  en:gI xn v=gI nx v
  nl:(xn.length:Int)=n2
  nv:0<=gI xn v/\gI xn v<((gI O v).length:Int)
  wi:0<=w/\w<(xW.length:Int)
  ti:0<=cj w/\cj w<(xW.length:Int)
  k0:0<=rr
  k1:rr<=(gI xW w).2.1
  rm:(gI xW w).2.1<=1048576
  rt:0<=(gI xW (cj w)).2.1/\(gI xW (cj w)).2.1<=1048576
  nt:cj w≠w
  yes:0<rr->Q=(rr,dZ xW w rr,xn)
  no:¬0<rr->iO n2 t v most O P lv fu Q xW (xn.set v.toNat (gI xn v+1))
theorem lc.after(h:lc n2 t v most O P lv Q f W nx)(hf:f<=fu)(hk:gI nx v<((gI O v).length:Int))(c1:¬(gI W (gI (gI O v) (gI nx v))).2.1=0)(c2:gI lv (gI W (gI (gI O v) (gI nx v))).1=gI lv v+1)(c3:dX W P v (gI (gI O v) (gI nx v))=0)
   (hr:rr=(cL O P lv t (f-1) (gI W (gI (gI O v) (gI nx v))).1 (min most (gI W (gI (gI O v) (gI nx v))).2.1) W nx).1/\xW=(cL O P lv t (f-1) (gI W (gI (gI O v) (gI nx v))).1 (min most (gI W (gI (gI O v) (gI nx v))).2.1) W nx).2.1/\xn=(cL O P lv t (f-1) (gI W (gI (gI O v) (gI nx v))).1 (min most (gI W (gI (gI O v) (gI nx v))).2.1) W nx).2.2):tJ n2 t v most O P lv fu Q nx (gI (gI O v) (gI nx v)) rr xW xn:=by
 obtain⟨hw,hfr⟩:=h.way hk
 obtain⟨e1,e2,e3,e4,e5⟩:=h.rec_ hk c1 c2 c3 rfl
 have hlt:=(h.call hk c2).2.1
 have hv0:=(h.i.nx.rg v h.v0 h.v1).1
 obtain⟨rfl,rfl,rfl⟩:=hr
 have hi:=e1.pui h.i
 have hw':=e1.sm.inn.2 hw
 have ht':=hi.sh.tw hw'
 have r1:=hi.rm _ hw'
 have r2:=hi.rm _ ht'
 have r3:=hi.rb _ hw'
 have k1:=e1.k1
 have k1':=Int.le_trans (Int.le_trans k1 (Int.min_le_right _ _)) (Int.le_of_eq e2.symm)
 exact⟨e3,e1.nxi.nl,⟨by show 0<=gI (cL O P lv t (f-1) (bV W (gI (gI O v) (gI nx v))) (min most (c7 W (gI (gI O v) (gI nx v)))) W nx).2.2 v;rw[e3];exact hv0,by show gI (cL O P lv t (f-1) (bV W (gI (gI O v) (gI nx v))) (min most (c7 W (gI (gI O v) (gI nx v)))) W nx).2.2 v<_;rw[e3];exact hk⟩,hw',ht',e1.k0,k1',by show c7 (cL O P lv t (f-1) (bV W (gI (gI O v) (gI nx v))) (min most (c7 W (gI (gI O v) (gI nx v)))) W nx).2.1 _<=_;omega,⟨r2,by show c7 (cL O P lv t (f-1) (bV W (gI (gI O v) (gI nx v))) (min most (c7 W (gI (gI O v) (gI nx v)))) W nx).2.1 _<=_;omega⟩,(eF hw.1).2.2.1,e4,λhn=>⟨f-1,by omega,e5 hn⟩⟩
theorem tJ.sz{z:cb}(h:tJ n2 t v most O P lv fu Q nx w rr xW xn):gI (xW.set w.toNat z) (cj w)=gI xW (cj w):=by
 rw[cJ h.wi.1 h.wi.2 h.ti.1,if_neg h.nt]
theorem dG{z:Int}{xs:List Int}(h0:0<=v)(h1:v<(xs.length:Int)):gI (xs.set v.toNat z) v=z:=by
 rw[cJ h0 h1 h0,if_pos rfl]
theorem kt.bd{x:Int×Int}{R:List Int×List cR}{q:List cR}{M:Int}(hb:gk n2 s B M W O P)(h:kt n2 s M W O P R far q x k m):0<=x.1/\x.1<=1152921504606846976:=by
 have h1:=h.r.xb
 have h2:=h.r.x0
 have h3:=h.r.xf
 have hM:=hb.hM
 have:=hb.b0
 have h4:=(h.r.i.bd (by omega) hb.hb h2.1 h2.2 (by omega)).1
 have hu:dh=1152921504606846976:=rfl
 omega
theorem pZ.fb{q:List cR}{M:Int}(hb:gk n2 s B M W O P)(h:pZ n2 s M W P far q)(v0:0<=v)(v1:v<n2):0<=gI far v/\gI far v<=1152921504606846976:=by
 have hM:=hb.hM
 have:=hb.b0
 by_cases c:gI far v=dh
 · rw[c];exact⟨by decide,by decide⟩
 · have:=h.bd (by omega) hb.hb v0 v1 c
   have:=hb.hb
   have hu:dh=1152921504606846976:=rfl
   omega
theorem lU{T:gZ}(hm:cB T)(h:(W,O)=lf T.1 T.2.1 T.2.2/\ak=dH T.2.2 T.1.toNat):jQ (T.1+2) T.1 (T.1+1) ak ((T.1+2)*1048576) (1048576+(T.1+2)*1048576) W O (dx T.1 T.2.1 T.2.2) W (List.replicate (T.1+2).toNat 0) (List.replicate (T.1+2).toNat 0) (List.replicate (T.1+2).toNat 0) 0:=by
 obtain⟨h1,rfl⟩:=h
 have e1:W=(lf T.1 T.2.1 T.2.2).1:=by rw[<-h1]
 have e2:O=(lf T.1 T.2.1 T.2.2).2:=by rw[<-h1]
 subst e1 e2
 exact⟨_,(hm.my.fib hm.my.ld).start⟩
theorem cS{a b x:Int}(a0:0<=a)(a1:a<(O.length:Int))(b0:0<=b):(gI (O.set a.toNat (gI O a++[x])) b).length<=(gI O a).length+(gI O b).length+1:=by
 rw[cJ a0 a1 b0]
 split
 · rw[List.length_append,List.length_singleton];omega
 · omega
def nL(n2 s t:Int)(W:List cb)(O:List (List Int))(P:List Int)(rr:Bool)(xF xP:List Int):Prop:=xF=ck n2 s W O P/\((rr=true/\¬gI xF t=dh/\xP=di P xF (gI xF t))\/(rr=false/\gI xF t=dh/\xP=P))
theorem jQ.goJ{rb:Bool}{xP xF:List Int}(h:jQ n2 s t ak B M W0 O R W P far nx fl)(hj:nL n2 s t W O P rb xF xP)(hr:rb=true):jR n2 s t ak B M W0 O R fl W xP xF nx fl:=by
 obtain⟨h1,⟨_,h2,h3⟩|⟨h2,_⟩⟩:=hj
 · exact h.go' h1 h3 h2
 · rw[h2] at hr;cases hr
theorem jQ.stopJ{rb:Bool}{xP xF:List Int}(h:jQ n2 s t ak B M W0 O R W P far nx fl)(hj:nL n2 s t W O P rb xF xP)(hr:¬rb=true):R=(W,xP,xF,nx,fl):=by
 obtain⟨h1,⟨h2,_⟩|⟨_,h2,h3⟩⟩:=hj
 · exact absurd h2 hr
 · rw[h3];exact h.stop' h1 h2
theorem nL.len{rb:Bool}{xP xF:List Int}(hj:nL n2 s t W O P rb xF xP)(hb:gk n2 s B M W O P):(xF.length:Int)=n2/\(xP.length:Int)=n2:=by
 obtain⟨h1,h2⟩:=hj
 have h3:=(eM hb).i.fl
 have h4:=hb.pt.pl
 refine⟨by rw[h1];exact h3,?_⟩
 rcases h2 with⟨_,_,q⟩|⟨_,_,q⟩
 · rw[q,j2];exact h4
 · rw[q];exact h4
theorem fJ(hb:gk n2 s B M W O P){xL:List Int}(h:xL=(bM n2 s W O P).1):(xL.length:Int)=n2:=by
 obtain⟨qu,hq⟩:=(gw hb).l
 rw[h];exact hq.ll
theorem iP(n0:0<=n2){xN:List Int}(h:xN=gb n2):(xN.length:Int)=n2:=by rw[h];unfold gb;simp;omega
theorem eK{xj qq:List cR}(h:xj.length=qq.length):xj.take ((xj.length:Int)-1).toNat=xj.take (qq.length-1):=by
 congr 1;omega
theorem pZ.ql{q:List cR}{M:Int}(h:pZ n2 s M W P far q)(n0:0<n2)(hM:0<=M):(q.length:Int)<=(n2*M+1)*n2:=by
 have hp:=i8 ((n2*M+1)*n2).toNat (q.map λz=>z.1*n2+z.2) (by
   unfold List.Nodup
   rw[List.pairwise_map]
   refine List.Pairwise.imp_of_mem (R:=λa b=>a≠b) ?_ h.qn
   intro a b ha hb hne e
   obtain⟨⟨a0,a1⟩,_⟩:=h.qin a ha
   obtain⟨⟨b0,b1⟩,_⟩:=h.qin b hb
   have e:a.1*n2+a.2=b.1*n2+b.2:=e
   have oL:∀x y:Int,x<y->x*n2+n2<=y*n2:=λx y hxy=>by
     have:=Int.mul_le_mul_of_nonneg_right (show x+1<=y by omega) (show 0<=n2 by omega)
     rwa[Int.add_mul,Int.one_mul] at this
   rcases Int.lt_trichotomy a.1 b.1 with q|q|q
   · have:=oL _ _ q;omega
   · rw[q] at e
     exact hne (Prod.ext q (by omega))
   · have:=oL _ _ q;omega) λx hx=>by
   obtain⟨z,hz,rfl⟩:=List.mem_map.1 hx
   obtain⟨⟨a0,a1⟩,_⟩:=h.qin z hz
   obtain⟨b0,b1⟩:=h.qb z hz
   have h1:=Int.mul_le_mul_of_nonneg_right b1 (show 0<=n2 by omega)
   have h2:=Int.mul_nonneg b0 (show 0<=n2 by omega)
   have h3:(n2*M+1)*n2=n2*M*n2+n2:=by rw[Int.add_mul,Int.one_mul]
   exact⟨by omega,by omega⟩
 rw[List.length_map] at hp
 by_cases c:q=[]
 · rw[c]
   exact Int.mul_nonneg (by have:=Int.mul_nonneg (show 0<=n2 by omega) hM;omega) (by omega)
 · obtain⟨z,hz⟩:=List.exists_mem_of_ne_nil q c
   obtain⟨b0,b1⟩:=h.qb z hz
   have:=Int.mul_nonneg (show 0<=n2*M+1 by omega) (show 0<=n2 by omega)
   omega
theorem pZ.ql2{q:List cR}(hb:gk n2 s B M W O P)(h:pZ n2 s M W P far q)(hB:B=n2*1048576)(hn:n2<=62):(q.length:Int)<=300000000000:=by
 have s0:=hb.s0
 have s1:=hb.s1
 have hM:=hb.hM
 have h1:=h.ql (by omega) (by omega)
 have hM1:M<=66060288:=by omega
 have hM0:0<=M:=by omega
 have e1:n2*M<=62*66060288:=Int.le_trans (Int.mul_le_mul_of_nonneg_right hn hM0) (Int.mul_le_mul_of_nonneg_left hM1 (by decide))
 have e2:0<=n2*M:=Int.mul_nonneg (by omega) hM0
 have e3:(n2*M+1)*n2<=(62*66060288+1)*62:=Int.le_trans (Int.mul_le_mul_of_nonneg_right (by omega) (by omega)) (Int.mul_le_mul_of_nonneg_left hn (by decide))
 omega
end TL
/-
  TlFlz: what Min tells, as the walk goes through it.
  By an AI agent.
-/
set_option linter.all false
namespace TL
variable{T:gZ}{k:Nat}{W:List cb}{P F Nx xs:List Int}{fl c ak:Int}{O:List (List Int)}{W0:List cb}
structure nb(T:gZ)(W:List cb)(k:Nat)(xs:List Int)(c:Int):Prop where
  ln:xs.length=T.2.1.length
  at_:∀i:Nat,i<k->gI xs (i:Int)=xW W i
  cs:c=SP k λi=>xW W i*(gI T.2.1 (i:Int)).2.2.2
theorem nb.start:nb T W 0 (List.replicate (T.2.1.length:Int).toNat 0) 0:=⟨by simp,λi hi=>by omega,rfl⟩
theorem te(hm:cB T)(hR:dx T.1 T.2.1 T.2.2=(W,P,F,Nx,fl))(hk:(k:Int)<(T.2.1.length:Int)):(2*(k:Int)+1<(W.length:Int))/\(0<=xW W k/\xW W k<=1048576)/\(0<=(gI T.2.1 (k:Int)).2.2.2/\(gI T.2.1 (k:Int)).2.2.2<=1048576)/\0<=xW W k*(gI T.2.1 (k:Int)).2.2.2/\xW W k*(gI T.2.1 (k:Int)).2.2.2<=1099511627776:=by
 have he:=hm.my.fi
 have hc:=hm.my.ld
 have hlen:(cC T.1 T.2.1 T.2.2).length=T.2.1.length+(fW T.1 T.2.2 T.1.toNat).length:=iE T
 have hx:=nr hc he.i.l (i:=k) (by omega)
 rw[hR] at hx
 have hx:c7 W (2*(k:Int))=(gI (cC T.1 T.2.1 T.2.2) (k:Int)).2.2.1-xW W k/\0<=xW W k/\xW W k<=(gI (cC T.1 T.2.1 T.2.2) (k:Int)).2.2.1:=hx
 obtain⟨_,h1,h2⟩:=hx
 rw[gE (by omega)] at h2
 obtain⟨_,_,⟨h3,h4⟩,h5,h6⟩:=hm.2.2.2.1 _ (bx (xs:=T.2.1) (i:=(k:Int)) (by omega) hk)
 have hl:=he.i.l.sm.ln
 rw[hR] at hl
 have hl2:=hc.lw
 have h7:=Int.mul_nonneg h1 h5
 have h8:xW W k*(gI T.2.1 (k:Int)).2.2.2<=1048576*1048576:=Int.le_trans (Int.mul_le_mul_of_nonneg_right (show xW W k<=1048576 by omega) h5) (Int.mul_le_mul_of_nonneg_left h6 (by decide))
 have hl3:W.length=(lf T.1 T.2.1 T.2.2).1.length:=hl
 exact⟨by omega,⟨h1,by omega⟩,⟨h5,h6⟩,h7,by omega⟩
theorem tj(hm:cB T)(hR:dx T.1 T.2.1 T.2.2=(W,P,F,Nx,fl))(hk:(k:Int)<(T.2.1.length:Int)):(2*(k:Int)+1<(W.length:Int))/\(0<=(gI W (2*(k:Int)+1)).2.1/\(gI W (2*(k:Int)+1)).2.1<=1048576)/\(0<=(gI T.2.1 (k:Int)).2.2.2/\(gI T.2.1 (k:Int)).2.2.2<=1048576)/\0<=(gI W (2*(k:Int)+1)).2.1*(gI T.2.1 (k:Int)).2.2.2/\(gI W (2*(k:Int)+1)).2.1*(gI T.2.1 (k:Int)).2.2.2<=1099511627776:=te hm hR hk
theorem mE(hm:cB T)(hR:dx T.1 T.2.1 T.2.2=(W,P,F,Nx,fl)):∀(k:Nat),(k:Int)<=(T.2.1.length:Int)->0<=SP k (λi=>xW W i*(gI T.2.1 (i:Int)).2.2.2)/\SP k (λi=>xW W i*(gI T.2.1 (i:Int)).2.2.2)<=(k:Int)*1099511627776
 |0,_=>⟨Int.le_refl _,Int.le_refl _⟩
 |k+1,h=>by
   have h1:=mE hm hR k (by omega)
   have h2:=(te hm hR (k:=k) (by omega)).2.2.2
   show 0<=SP k (λi=>xW W i*(gI T.2.1 (i:Int)).2.2.2)+xW W k*(gI T.2.1 (k:Int)).2.2.2/\SP k (λi=>xW W i*(gI T.2.1 (i:Int)).2.2.2)+xW W k*(gI T.2.1 (k:Int)).2.2.2<=_
   omega
theorem nb.bd(h:nb T W k xs c)(hm:cB T)(hR:dx T.1 T.2.1 T.2.2=(W,P,F,Nx,fl))(hk:(k:Int)<=(T.2.1.length:Int)):0<=c/\c<=(k:Int)*1099511627776:=by
 rw[h.cs];exact mE hm hR k hk
theorem nb.next(h:nb T W k xs c)(hk:(k:Int)<(T.2.1.length:Int)){z d:Int}(hz:z=(gI W (2*(k:Int)+1)).2.1)(hd:d=c+z*(gI T.2.1 (k:Int)).2.2.2):nb T W (k+1) (xs.set (k:Int).toNat z) d:=by
 have hl:=h.ln
 have hz:z=xW W k:=hz
 refine⟨by rw[List.length_set];exact hl,λi hi=>?_,?_⟩
 · rw[cJ (by omega) (by omega) (by omega)]
   by_cases q:(i:Int)=(k:Int)
   · rw[if_pos q,hz,show i=k by omega]
   · rw[if_neg q];exact h.at_ i (by omega)
 · rw[hd,hz,h.cs];rfl
theorem kB(h:¬cB T):ax T=(([],[],0),1):=by unfold ax;rw[if_neg h]
theorem eR(hm:cB T)(h:¬jS T.1 T.2.1 T.2.2):ax T=(([],[],0),20):=by unfold ax;rw[if_pos hm,if_neg h]
theorem oN(h:¬dd T.2.2=0):¬jS T.1 T.2.1 T.2.2:=λq=>h q.1
theorem oB(hR:dx T.1 T.2.1 T.2.2=(W,P,F,Nx,fl))(hWO:(W0,O)=lf T.1 T.2.1 T.2.2/\ak=dH T.2.2 T.1.toNat)(h:¬fl=ak):¬jS T.1 T.2.1 T.2.2:=λq=>h (by
 have:=q.2
 rw[hR] at this
 rw[hWO.2];exact this)
theorem nb.done(hm:cB T)(hR:dx T.1 T.2.1 T.2.2=(W,P,F,Nx,fl))(hWO:(W0,O)=lf T.1 T.2.1 T.2.2/\ak=dH T.2.2 T.1.toNat)(hb:dd T.2.2=0)(hf:fl=ak)(h:nb T W k xs c)(h0:(k:Int)<=(T.2.1.length:Int))(hk:¬(k:Int)<(T.2.1.length:Int)):ax T=((xs,P.take T.1.toNat,c),0):=by
 have hok:jS T.1 T.2.1 T.2.2:=⟨hb,by rw[hR,<-hWO.2];exact hf⟩
 have e:k=T.2.1.length:=by omega
 subst e
 have hx:ng T.1 T.2.1 T.2.2=xs:=by
   refine gT (by rw[ku,h.ln]) λi hi=>?_
   rw[ku] at hi
   rw[mW hi,h.at_ i hi,hR]
 unfold ax
 rw[if_pos hm,if_pos hok,hx]
 have h1:pY T.1 T.2.1 T.2.2=P.take T.1.toNat:=by unfold pY;rw[hR]
 have h2:sK T.2.1 xs=c:=by
   unfold sK
   rw[h.cs]
   exact bJ _ λi hi=>by rw[h.at_ i hi]
 rw[h1,h2]
theorem o8(hm:cB T)(hR:dx T.1 T.2.1 T.2.2=(W,P,F,Nx,fl)):(P.length:Int)=T.1+2/\(F.length:Int)=T.1+2/\(W.length:Int)<=50000/\0<=fl/\fl<=1099511627776:=by
 have he:=hm.my.fi
 have h1:=he.i.d.pt.pl
 have h2:=(eM he.i.d).i.fl
 rw[<-he.far] at h2
 have h3:=he.i.d.sh.len
 obtain⟨h4,h5,h6⟩:=he.i.fb
 rw[hR] at h1 h2 h3 h4 h5
 exact⟨h1,h2,by have:W.length<=50000:=h3;omega,h4,Int.le_trans h5 h6⟩
end TL
