/- Plain texts of this claim, part 3. By an AI agent. -/
import Derived.Test.YtmakonaaojadbaaBcTlP2
/-
  TlPg: components without some nodes and edges, found by a stack: the document's way.
  By an AI agent.
-/
set_option linter.all false
namespace TL
structure fC(g g':bw)(gone:List Bool)(ps:Int->Prop):Prop where
  hm:aV g
  hm':aV g'
  n:g'.1=g.1
  pg:∀h,ps h->¬gI gone (aq g h)=true/\¬gI gone (b9 g h)=true
  one:∀h,hf g h->ps h->Cn g' (aq g h) (b9 g h)
  cl:∀S:Int->Prop,(∀h,hf g h->ps h->S (aq g h)->S (b9 g h))->∀u v,Cn g' u v->S u->S v
def fY(g':bw)(gone:List Bool)(p:List Int×Int)(v:Int):List Int×Int:=
 if 0<=gI p.1 v\/gI gone v=true then p else((cT g' v).order.foldl (λl w=>l.set w.toNat p.2) p.1,p.2+1)
def bc(g':bw)(gone:List Bool)(k:Nat):List Int×Int:=(bN k).foldl (fY g' gone) (List.replicate g'.1.toNat (-1),0)
section
variable{g g':bw}{gone:List Bool}{ps:Int->Prop}{u v x y:Int}
theorem f4(g':bw)(gone:List Bool)(k:Nat):bc g' gone (k+1)=fY g' gone (bc g' gone k) (k:Int):=by
 unfold bc
 rw[ck,List.foldl_append];rfl
theorem fC.nd(hP:fC g g' gone ps):dA g' v↔dA g v:=by unfold dA;rw[hP.n]
theorem fC.iso(hP:fC g g' gone ps)(hu:gI gone u=true)(hc:Cn g' u v):v=u:=
  hP.cl (λz=>z=u) (λh _ hp e=>absurd (by rw[e];exact hu) (hP.pg h hp).1) u v hc rfl
theorem fC.ng(hP:fC g g' gone ps)(hd:dA g u)(hd2:dA g v)(hc:Cn g' u v)(hu:¬gI gone u=true):¬gI gone v=true:=λk=>by
 have:=hP.iso k ((Cn.eqv g').symm _ _ (hP.nd.2 hd) (hP.nd.2 hd2) hc)
 rw[this] at hu;exact hu k
structure rT(g g':bw)(gone:List Bool)(p:List Int×Int)(l:List Int)(k:Nat):Prop where
  len:(p.1.length:Int)=g.1
  num:p.2=(l.length:Int)
  nd:l.Nodup
  dom:∀x∈l,dA g x/\¬gI gone x=true
  one:∀x∈l,∀y∈l,Cn g' x y->x=y
  iff:∀v,dA g v->(0<=gI p.1 v↔∃y∈l,Cn g' v y)
  all:∀v:Nat,v<k->(v:Int)<g.1->¬gI gone (v:Int)=true->∃y∈l,Cn g' (v:Int) y
  top:∀v,dA g v->gI p.1 v<p.2
  lab:∀u v,dA g u->dA g v->0<=gI p.1 u->(gI p.1 u=gI p.1 v↔Cn g' u v)
  le:l.length<=k
theorem fC.inv(hP:fC g g' gone ps):∀k:Nat,(k:Int)<=g.1->∃l,rT g g' gone (bc g' gone k) l k
 |0,_=>by
   have h0:=hP.hm.1
   have e:(bc g' gone 0).1=List.replicate g.1.toNat (-1):=by simp[bc,bN,hP.n]
   have r:∀v,dA g v->gI (bc g' gone 0).1 v= -1:=λv hv=>by rw[e,ff hv.1 (by have:=hv.2;omega)]
   have e2:(bc g' gone 0).2=0:=by simp[bc,bN]
   refine⟨[],by rw[e];simp;omega,by rw[e2];rfl,by simp,by simp,by simp,λv hv=>by rw[r v hv];simp,λv hv=>by omega,λv hv=>by rw[r v hv,e2];omega,λu v hu _ h=>by rw[r u hu] at h;omega,Nat.le_refl _⟩
 |k+1,hk=>by
   obtain⟨l,h⟩:=hP.inv k (by omega)
   have hkd:dA g (k:Int):=⟨by omega,by omega⟩
   have hkd':=hP.nd.2 hkd
   obtain⟨hb1,hb2⟩:=gD hP.hm' hkd'
   have hq:=Cn.eqv g'
   rw[f4]
   unfold fY
   by_cases c:0<=gI (bc g' gone k).1 (k:Int)\/gI gone (k:Int)=true
   · rw[if_pos c]
     refine⟨l,h.len,h.num,h.nd,h.dom,h.one,h.iff,λv hv hg hn=>?_,h.top,h.lab,by have:=h.le;omega⟩
     by_cases e:v=k
     · subst e;exact(h.iff _ hkd).1 (c.resolve_right hn)
     · exact h.all v (by omega) hg hn
   · rw[if_neg c]
     have c1:¬0<=gI (bc g' gone k).1 (k:Int):=λj=>c (.inl j)
     have c2:¬gI gone (k:Int)=true:=λj=>c (.inr j)
     have hno:∀y∈l,¬Cn g' (k:Int) y:=λy hy hc=>c1 ((h.iff _ hkd).2 ⟨y,hy,hc⟩)
     have hlen:=h.len
     have hnn:0<=(bc g' gone k).2:=by rw[h.num];omega
     have hset:∀v,dA g v->gI ((cT g' (k:Int)).order.foldl (λl w=>l.set w.toNat (bc g' gone k).2) (bc g' gone k).1) v=if v∈(cT g' (k:Int)).order then(bc g' gone k).2 else gI (bc g' gone k).1 v:=λv hv=>jy _ _ v hv.1 (by have:=hv.2;omega) (λx hx=>by have:=hb1 x hx;exact⟨this.1,by have:=this.2;rw[hP.n] at this;omega⟩)
     have hmem:∀v,v∈(cT g' (k:Int)).order->dA g v:=λv hv=>hP.nd.1 (hb1 v hv)
     have hnew:∀v,v∈(cT g' (k:Int)).order->gI (bc g' gone k).1 v<0:=λv hv=>by
       refine Int.not_le.1 λj=>?_
       obtain⟨y,hy,hc⟩:=(h.iff v (hmem v hv)).1 j
       exact hno y hy (hq.trans _ _ _ hkd' (hb1 v hv) (hP.nd.2 (h.dom y hy).1) ((hb2 v).1 hv) hc)
     refine⟨l++[(k:Int)],?_,?_,?_,?_,?_,?_,?_,?_,?_,by rw[List.length_append,List.length_singleton];have:=h.le;omega⟩
     · simp only;rw[eZ];exact hlen
     · simp only[h.num];simp
     · rw[List.nodup_append]
       refine⟨h.nd,by simp,λa ha b hb e=>?_⟩
       obtain rfl:=List.mem_singleton.1 hb
       subst e
       exact hno _ ha (hq.rfl _ hkd')
     · intro x hx
       rcases List.mem_append.1 hx with hx|hx
       · exact h.dom x hx
       · obtain rfl:=List.mem_singleton.1 hx;exact⟨hkd,c2⟩
     · intro x hx y hy hc
       rcases List.mem_append.1 hx with hx|hx
       · rcases List.mem_append.1 hy with hy|hy
         · exact h.one x hx y hy hc
         · obtain rfl:=List.mem_singleton.1 hy
           exact absurd (hq.symm _ _ (hP.nd.2 (h.dom x hx).1) hkd' hc) (hno x hx)
       · obtain rfl:=List.mem_singleton.1 hx
         rcases List.mem_append.1 hy with hy|hy
         · exact absurd hc (hno y hy)
         · obtain rfl:=List.mem_singleton.1 hy;rfl
     · intro v hv
       simp only
       rw[hset v hv]
       by_cases hvo:v∈(cT g' (k:Int)).order
       · rw[if_pos hvo]
         exact⟨λ_=>⟨(k:Int),by simp,hq.symm _ _ hkd' (hP.nd.2 hv) ((hb2 v).1 hvo)⟩,λ_=>hnn⟩
       · rw[if_neg hvo,h.iff v hv]
         constructor
         · rintro⟨y,hy,hc⟩;exact⟨y,by simp[hy],hc⟩
         · rintro⟨y,hy,hc⟩
           rcases List.mem_append.1 hy with hy|hy
           · exact⟨y,hy,hc⟩
           · obtain rfl:=List.mem_singleton.1 hy
             exact absurd ((hb2 v).2 (hq.symm _ _ (hP.nd.2 hv) hkd' hc)) hvo
     · intro v hv hg hn
       by_cases e:v=k
       · subst e;exact⟨(v:Int),by simp,hq.rfl _ hkd'⟩
       · obtain⟨y,hy,hc⟩:=h.all v (by omega) hg hn
         exact⟨y,by simp[hy],hc⟩
     · intro v hv
       simp only
       rw[hset v hv]
       have:=h.top v hv
       split<;>omega
     · intro u v hu hv h0
       simp only at h0 ⊢
       rw[hset u hu] at h0 ⊢
       rw[hset v hv]
       have tu:=h.top u hu
       have tv:=h.top v hv
       by_cases a:u∈(cT g' (k:Int)).order
       · rw[if_pos a]
         by_cases b:v∈(cT g' (k:Int)).order
         · rw[if_pos b]
           exact⟨λ_=>hq.trans _ _ _ (hP.nd.2 hu) hkd' (hP.nd.2 hv) (hq.symm _ _ hkd' (hP.nd.2 hu) ((hb2 u).1 a)) ((hb2 v).1 b),λ_=>rfl⟩
         · rw[if_neg b]
           exact⟨λj=>by omega,λj=>absurd ((hb2 v).2 (hq.trans _ _ _ hkd' (hP.nd.2 hu) (hP.nd.2 hv) ((hb2 u).1 a) j)) b⟩
       · rw[if_neg a] at h0 ⊢
         by_cases b:v∈(cT g' (k:Int)).order
         · rw[if_pos b]
           exact⟨λj=>by omega,λj=>absurd ((hb2 u).2 (hq.trans _ _ _ hkd' (hP.nd.2 hv) (hP.nd.2 hu) ((hb2 v).1 b) (hq.symm _ _ (hP.nd.2 hu) (hP.nd.2 hv) j))) a⟩
         · rw[if_neg b]
           exact h.lab u v hu hv h0
structure dN(g g':bw)(ps:Int->Prop)(c0 c todo x:List Int)(n s:Int):Prop where
  len:(c.length:Int)=g.1
  n0:0<=n
  sd:dA g s
  pre:∀w,dA g w->Cn g' s w->gI c0 w<0
  cmp:∀w,dA g w->(Cn g' s w/\gI c w=n)\/gI c w=gI c0 w
  nd:todo.Nodup
  tds:∀t∈todo,dA g t/\Cn g' s t/\gI c t=n
  clo:∀v,dA g v->Cn g' s v->gI c v=n->v∉todo->v∉x->∀h∈cG g v,ps h->0<=gI c (b9 g h)
  src:gI c s=n
theorem dN.start(hP:fC g g' gone ps){c0:List Int}{n:Int}{q:Nat}(hq:(q:Int)<g.1)(h:c0=(bc g' gone q).1/\n=(bc g' gone q).2)(c:¬0<=gI c0 (q:Int)):dN g g' ps c0 (c0.set (q:Int).toNat n) [(q:Int)] [] n (q:Int):=by
 obtain⟨l,hi⟩:=hP.inv q (by omega)
 obtain⟨rfl,rfl⟩:=h
 have hqd:dA g (q:Int):=⟨by omega,hq⟩
 have hqd':=hP.nd.2 hqd
 have hn:0<=(bc g' gone q).2:=by rw[hi.num];omega
 have hlen:=hi.len
 have hcn:=Cn.eqv g'
 have hpre:∀w,dA g w->Cn g' (q:Int) w->gI (bc g' gone q).1 w<0:=λw hw hc=>by
   refine Int.not_le.1 λh0=>c ?_
   obtain⟨y,hy,hwy⟩:=(hi.iff w hw).1 h0
   exact(hi.iff _ hqd).2 ⟨y,hy,hcn.trans _ _ _ hqd' (hP.nd.2 hw) (hP.nd.2 (hi.dom y hy).1) hc hwy⟩
 have hset:∀w,dA g w->gI ((bc g' gone q).1.set (q:Int).toNat (bc g' gone q).2) w=if w=q then(bc g' gone q).2 else gI (bc g' gone q).1 w:=λw hw=>bT (by omega) (by omega) hw.1
 refine⟨by simpa using hlen,hn,hqd,hpre,λw hw=>?_,by simp,λt ht=>?_,λv hv hc e hnt _=>?_,?_⟩
 · rw[hset w hw]
   by_cases e:w=q
   · subst e;exact .inl ⟨hcn.rfl _ hqd',if_pos rfl⟩
   · rw[if_neg e];exact .inr rfl
 · obtain rfl:=List.mem_singleton.1 ht
   exact⟨hqd,hcn.rfl _ hqd',by rw[hset _ hqd,if_pos rfl]⟩
 · have hne:v≠q:=λe=>hnt (by simp[e])
   rw[hset v hv,if_neg hne] at e
   have:=hpre v hv hc
   omega
 · rw[hset _ hqd,if_pos rfl]
end
section
variable{g g':bw}{gone:List Bool}{ps:Int->Prop}{c0 c todo x:List Int}{n s:Int}
theorem dN.bd(h:dN g g' ps c0 c todo x n s):(todo.length:Int)<=g.1:=by
 have h1:=h.sd.1
 have h2:=h.sd.2
 exact lK (by omega) h.nd (λt ht=>(h.tds t ht).1)
theorem dN.pop(h:dN g g' ps c0 c todo [] n s)(ht:0<todo.length):dN g g' ps c0 c (todo.take (todo.length-1)) [gI todo ((todo.length:Int)-1)] n s/\dA g (gI todo ((todo.length:Int)-1))/\Cn g' s (gI todo ((todo.length:Int)-1))/\gI c (gI todo ((todo.length:Int)-1))=n:=by
 have hm:=bP (xs:=todo) (i:=(todo.length:Int)-1) (by omega) (by omega)
 have hs:=gf (xs:=todo) (k:=todo.length-1) (by omega)
 rw[List.take_of_length_le (by omega),show((todo.length-1:Nat):Int)=(todo.length:Int)-1 by omega] at hs
 refine⟨⟨h.len,h.n0,h.sd,h.pre,h.cmp,h.nd.sublist (List.take_sublist _ _),λt ht=>h.tds t (List.mem_of_mem_take ht),λv hv hc e hnt hnx=>h.clo v hv hc e (λhm=>?_) (by simp),h.src⟩,h.tds _ hm⟩
 rw[hs] at hm
 rcases List.mem_append.1 hm with hm|hm
 · exact hnt hm
 · exact hnx hm
theorem dN.push(hP:fC g g' gone ps)(h:dN g g' ps c0 c todo x n s){v:Int}(hv:dA g v)(hc:Cn g' s v){hh:Int}(hh0:hh∈cG g v)(hps:ps hh)(hw:gI c (b9 g hh)<0):dN g g' ps c0 (c.set (b9 g hh).toNat n) (todo++[b9 g hh]) x n s/\∀u,0<=u->0<=gI c u->0<=gI (c.set (b9 g hh).toNat n) u:=by
 obtain⟨⟨a1,a2⟩,a3⟩:=cW hh0
 have hto:=dF hP.hm a1 a2
 have hlen:=h.len
 have hn:=h.n0
 have hcw:Cn g' s (b9 g hh):=(Cn.eqv g').trans _ _ _ (hP.nd.2 h.sd) (hP.nd.2 hv) (hP.nd.2 hto) hc (by have:=hP.one hh ⟨a1,a2⟩ hps;rwa[a3] at this)
 have hset:∀u,0<=u->gI (c.set (b9 g hh).toNat n) u=if u=b9 g hh then n else gI c u:=λu h0=>bT hto.1 (by omega) h0
 have hmono:∀u,0<=u->0<=gI c u->0<=gI (c.set (b9 g hh).toNat n) u:=λu h0 h1=>by
   rw[hset u h0];split<;>omega
 refine⟨⟨by simpa using hlen,hn,h.sd,h.pre,λw hwd=>?_,?_,λt ht=>?_,λv' hv' hc' e hnt hnx h' hh' hp'=>?_,?_⟩,hmono⟩
 · rw[hset w hwd.1]
   by_cases e:w=b9 g hh
   · subst e;exact .inl ⟨hcw,if_pos rfl⟩
   · rw[if_neg e];exact h.cmp w hwd
 · rw[List.nodup_append]
   refine⟨h.nd,by simp,λa ha b hb e=>?_⟩
   obtain rfl:=List.mem_singleton.1 hb
   have:=(h.tds a ha).2.2
   rw[e] at this
   omega
 · rcases List.mem_append.1 ht with ht|ht
   · obtain⟨b1,b2,b3⟩:=h.tds t ht
     refine⟨b1,b2,?_⟩
     rw[hset t b1.1];split
     · rfl
     · exact b3
   · obtain rfl:=List.mem_singleton.1 ht
     exact⟨hto,hcw,by rw[hset _ hto.1,if_pos rfl]⟩
 · have hne:v'≠b9 g hh:=λe=>hnt (by simp[e])
   rw[hset v' hv'.1,if_neg hne] at e
   have b:=cW hh'
   exact hmono _ (dF hP.hm b.1.1 b.1.2).1 (h.clo v' hv' hc' e (λhm=>hnt (by simp[hm])) hnx h' hh' hp')
 · rw[hset s h.sd.1];split
   · rfl
   · exact h.src
structure dM(g g':bw)(ps:Int->Prop)(c0 c todo:List Int)(n s v:Int)(k M:Nat):Prop where
  inv:dN g g' ps c0 c todo [v] n s
  vd:dA g v
  vc:Cn g' s v
  row:∀i:Nat,i<k->(i:Int)<(cG g v).length->ps (gI (cG g v) (i:Int))->0<=gI c (b9 g (gI (cG g v) (i:Int)))
  meas:todo.length+2*fz c<M
theorem dN.row(h:dN g g' ps c0 c todo [] n s)(ht:0<todo.length):dM g g' ps c0 c (todo.take (todo.length-1)) n s (gI todo ((todo.length:Int)-1)) 0 (todo.length+2*fz c):=by
 obtain⟨h1,h2,h3,h4⟩:=h.pop ht
 exact⟨h1,h2,h3,λi hi=>by omega,by rw[List.length_take];omega⟩
variable{v:Int}{k M:Nat}
theorem dM.skip(h:dM g g' ps c0 c todo n s v k M)(hk:ps (gI (cG g v) (k:Int))->0<=gI c (b9 g (gI (cG g v) (k:Int)))):dM g g' ps c0 c todo n s v (k+1) M:=
 ⟨h.inv,h.vd,h.vc,λi hi hl hp=>by
   by_cases e:i=k
   · subst e;exact hk hp
   · exact h.row i (by omega) hl hp,h.meas⟩
theorem dM.push(hP:fC g g' gone ps)(h:dM g g' ps c0 c todo n s v k M)(hl:(k:Int)<(cG g v).length)(hps:ps (gI (cG g v) (k:Int)))(hk:¬0<=gI c (b9 g (gI (cG g v) (k:Int)))):dM g g' ps c0 (c.set (b9 g (gI (cG g v) (k:Int))).toNat n) (todo++[b9 g (gI (cG g v) (k:Int))]) n s v (k+1) M:=by
 have hmem:=bP (xs:=cG g v) (i:=(k:Int)) (by omega) hl
 obtain⟨h1,h2⟩:=h.inv.push hP h.vd h.vc hmem hps (by omega)
 have b:=cW hmem
 have hto:=dF hP.hm b.1.1 b.1.2
 have hlen:=h.inv.len
 have hn:=h.inv.n0
 have hme:=h.meas
 have hcn:=ql (c:=c) (w:=b9 g (gI (cG g v) (k:Int))) (n:=n) hto.1 (by omega) (by omega) hn
 refine⟨h1,h.vd,h.vc,λi hi hil hp=>?_,?_⟩
 · by_cases e:i=k
   · subst e
     rw[bT hto.1 (by omega) hto.1,if_pos rfl];exact hn
   · have bi:=cW (bP (xs:=cG g v) (i:=(i:Int)) (by omega) hil)
     exact h2 _ (dF hP.hm bi.1.1 bi.1.2).1 (h.row i (by omega) hil hp)
 · rw[List.length_append,List.length_singleton];omega
theorem dM.done(h:dM g g' ps c0 c todo n s v k M)(hl:¬(k:Int)<(cG g v).length):dN g g' ps c0 c todo [] n s:=
 ⟨h.inv.len,h.inv.n0,h.inv.sd,h.inv.pre,h.inv.cmp,h.inv.nd,h.inv.tds,λu hu hc e hnt _ hh hhu hp=>by
   by_cases e2:u=v
   · subst e2
     obtain⟨i,hi,rfl⟩:=List.mem_iff_getElem.1 hhu
     have e3:gI (cG g u) (i:Int)=(cG g u)[i]:=by simp[gI,hi]
     rw[<-e3] at hp ⊢
     exact h.row i (by omega) (by omega) hp
   · exact h.inv.clo u hu hc e hnt (by simp[e2]) hh hhu hp,h.inv.src⟩
theorem dN.done(hP:fC g g' gone ps){q:Nat}(h:dN g g' ps c0 c todo [] n (q:Int))(ht:¬0<todo.length)(h0:c0=(bc g' gone q).1/\n=(bc g' gone q).2)(hc:¬0<=gI c0 (q:Int))(hg:¬gI gone (q:Int)=true):c=(bc g' gone (q+1)).1/\n+1=(bc g' gone (q+1)).2:=by
 have hnil:todo=[]:=List.eq_nil_of_length_eq_zero (by omega)
 subst hnil
 have hsd:=h.sd
 have hsd':=hP.nd.2 hsd
 obtain⟨hb1,hb2⟩:=gD hP.hm' hsd'
 obtain⟨l,hi⟩:=hP.inv q (by have:=hsd.2;omega)
 have hpl:=hi.len
 have hcn:=Cn.eqv g'
 have hall:∀w,Cn g' (q:Int) w->gI c w=n:=λw hw=>
   (hP.cl (λw=>(dA g w/\Cn g' (q:Int) w)/\gI c w=n) (λhh hhf hp hx=>by
     have hto:=dF hP.hm hhf.1 hhf.2
     have hcx:Cn g' (q:Int) (b9 g hh):=hcn.trans _ _ _ hsd' (hP.nd.2 hx.1.1) (hP.nd.2 hto) hx.1.2 (hP.one hh hhf hp)
     have h1:=h.clo _ hx.1.1 hx.1.2 hx.2 (by simp) (by simp) hh (e8 hhf) hp
     refine⟨⟨hto,hcx⟩,?_⟩
     rcases h.cmp _ hto with e|e
     · exact e.2
     · have:=h.pre _ hto hcx
       omega) _ _ hw ⟨⟨h.sd,hcn.rfl _ hsd'⟩,h.src⟩).2
 have h1:bc g' gone (q+1)=((cT g' (q:Int)).order.foldl (λl w=>l.set w.toNat (bc g' gone q).2) (bc g' gone q).1,(bc g' gone q).2+1):=by
   rw[f4]
   unfold fY
   rw[if_neg (λj=>j.elim (λj=>hc (by rw[h0.1];exact j)) hg)]
 have hlen:=h.len
 have hsd2:=hsd.2
 rw[h1]
 refine⟨?_,by rw[h0.2]⟩
 simp only
 have hl2:(((cT g' (q:Int)).order.foldl (λl w=>l.set w.toNat (bc g' gone q).2) (bc g' gone q).1).length:Int)=g.1:=by rw[eZ];exact hpl
 apply fD
 · omega
 · intro w hw
   have hwd:dA g (w:Int):=⟨by omega,by omega⟩
   rw[jy _ _ (w:Int) (by omega) (by omega) (λx hx=>by
     have:=hP.nd.1 (hb1 x hx)
     have h2:=this.1
     have h3:=this.2
     omega)]
   by_cases hc':Cn g' (q:Int) (w:Int)
   · rw[if_pos ((hb2 _).2 hc'),hall _ hc',h0.2]
   · rw[if_neg (λhm=>hc' ((hb2 _).1 hm)),<-h0.1]
     rcases h.cmp _ hwd with e|e
     · exact absurd e.1 hc'
     · exact e
theorem ij{p:List Int}{m:Int}{q:Nat}(h:p=(bc g' gone q).1/\m=(bc g' gone q).2)(c:0<=gI p (q:Int)\/gI gone (q:Int)=true):p=(bc g' gone (q+1)).1/\m=(bc g' gone (q+1)).2:=by
 have h1:bc g' gone (q+1)=bc g' gone q:=by
   rw[f4]
   unfold fY
   rw[if_pos (by rw[<-h.1];exact c)]
 rw[h1];exact h
end
def jK(g:bw)(gone cut:List Bool):List Int:=(bN g.2.length).filter λe=> !(gI gone (gI g.2 e).1||gI gone (gI g.2 e).2||gI cut e)
def cq(g:bw)(gone cut:List Bool):bw:=(g.1,(jK g gone cut).map (gI g.2))
def bf(g:bw)(gone cut:List Bool):List Int×Int:=bc (cq g gone cut) gone g.1.toNat
def lp(g:bw)(gone cut:List Bool)(h:Int):Prop:=¬gI gone (aq g h)=true/\¬gI gone (b9 g h)=true/\¬gI cut (h/2)=true
section
variable{g:bw}{gone cut:List Bool}{h e:Int}
theorem iA:e∈jK g gone cut↔(0<=e/\e<(g.2.length:Int))/\¬gI gone (gI g.2 e).1=true/\¬gI gone (gI g.2 e).2=true/\¬gI cut e=true:=by
 unfold jK
 rw[List.mem_filter,ec]
 refine and_congr Iff.rfl ?_
 simp[and_assoc]
theorem jY(h0:0<=h):(aq g h=(gI g.2 (h/2)).1/\b9 g h=(gI g.2 (h/2)).2)\/(aq g h=(gI g.2 (h/2)).2/\b9 g h=(gI g.2 (h/2)).1):=by
 unfold aq b9 pI
 have:h%2=0\/h%2=1:=by omega
 rcases this with q|q
 · rw[q];left;simp
 · rw[q];right;simp
theorem pW(hm:aV g):aV (cq g gone cut):=by
 obtain⟨m1,m2,m3,m4⟩:=hm
 refine⟨m1,m2,?_,λe he=>?_⟩
 · unfold cq
   rw[List.length_map]
   have:(jK g gone cut).length<=(bN g.2.length).length:=List.length_filter_le ..
   have h2:(bN g.2.length).length=g.2.length:=by simp[bN]
   omega
 · obtain⟨i,hi,rfl⟩:=List.mem_map.1 he
   have:=(iA.1 hi).1
   exact m4 _ (bP this.1 this.2)
theorem gZ(hm:aV g):fC g (cq g gone cut) gone (lp g gone cut):=by
 refine⟨hm,pW hm,rfl,λh hp=>⟨hp.1,hp.2.1⟩,λh hh hp=>?_,λS hS u v hc hu=>?_⟩
 · obtain⟨p1,p2,p3⟩:=hp
   have hin:=bP (xs:=g.2) (i:=h/2) (by have:=hh.1;omega) (by have:=hh.2;omega)
   have hok:=hm.2.2.2 _ hin
   have hk:h/2∈jK g gone cut:=by
     refine iA.2 ⟨⟨by have:=hh.1;omega,by have:=hh.2;omega⟩,?_⟩
     rcases jY (g:=g) hh.1 with⟨a,b⟩|⟨a,b⟩
     · rw[<-a,<-b];exact⟨p1,p2,p3⟩
     · rw[<-a,<-b];exact⟨p2,p1,p3⟩
   have he:gI g.2 (h/2)∈(cq g gone cut).2:=List.mem_map.2 ⟨_,hk,rfl⟩
   have hc:=Cn.edge he
   rcases jY (g:=g) hh.1 with⟨a,b⟩|⟨a,b⟩
   · rw[a,b];exact hc
   · rw[a,b];exact(Cn.eqv (cq g gone cut)).symm _ _ hok.1 hok.2 hc
 · refine(hc (λu v=>S u↔S v) ⟨λ_ _=>Iff.rfl,λ_ _ _ _ h=>h.symm,λ_ _ _ _ _ _ h1 h2=>h1.trans h2⟩ (λe he=>?_)).1 hu
   obtain⟨i,hi,rfl⟩:=List.mem_map.1 he
   obtain⟨⟨i0,i1⟩,k1,k2,k3⟩:=iA.1 hi
   have e0:(2*i)/2=i:=by omega
   have e1:(2*i+1)/2=i:=by omega
   have f0:aq g (2*i)=(gI g.2 i).1/\b9 g (2*i)=(gI g.2 i).2:=by
     unfold aq b9 pI
     rw[e0,show(2*i)%2=0 by omega];simp
   have f1:aq g (2*i+1)=(gI g.2 i).2/\b9 g (2*i+1)=(gI g.2 i).1:=by
     unfold aq b9 pI
     rw[e1,show(2*i+1)%2=1 by omega];simp
   constructor
   · have:=hS (2*i) ⟨by omega,by omega⟩ ⟨by rw[f0.1];exact k1,by rw[f0.2];exact k2,by rw[e0];exact k3⟩
     rw[f0.1,f0.2] at this;exact this
   · have:=hS (2*i+1) ⟨by omega,by omega⟩ ⟨by rw[f1.1];exact k2,by rw[f1.2];exact k1,by rw[e1];exact k3⟩
     rw[f1.1,f1.2] at this;exact this
theorem eF(hm:aV g):∃l,rT g (cq g gone cut) gone (bf g gone cut) l g.1.toNat:=(gZ hm).inv g.1.toNat (by have:=hm.1;omega)
theorem g0(hm:aV g):((bf g gone cut).1.length:Int)=g.1/\0<=(bf g gone cut).2/\(bf g gone cut).2<=g.1:=by
 have h0:=hm.1
 obtain⟨l,h⟩:=eF (gone:=gone) (cut:=cut) hm
 have:=h.num
 have:=h.le
 exact⟨h.len,by omega,by omega⟩
end
end TL
namespace TL
section
variable{g g':bw}{gone cut:List Bool}{ps:Int->Prop}{c0 c todo:List Int}{n s v:Int}{k M q:Nat}
theorem jX{xs:List Bool}{i:Int}{P:Prop}(h:¬P->xs=[])(hn:¬P):¬gI xs i=true:=by
 rw[h hn];simp[gI]
theorem lI(hP:fC g g' gone ps)(h:c=(bc g' gone q).1/\n=(bc g' gone q).2)(hq:(q:Int)<=g.1):(c.length:Int)=g.1/\0<=n/\n<=q:=by
 obtain⟨rfl,rfl⟩:=h
 obtain⟨l,h⟩:=hP.inv q hq
 have:=h.num
 have:=h.le
 exact⟨h.len,by omega,by omega⟩
theorem dM.psg(hm:aV g)(h:dM g (cq g gone cut) (lp g gone cut) c0 c todo n s v k M)(hs:¬gI gone s=true)(hl:(k:Int)<(cG g v).length)(h1:¬gI gone (b9 g (gI (cG g v) (k:Int)))=true)(h2:¬gI cut (gI (cG g v) (k:Int)/2)=true):lp g gone cut (gI (cG g v) (k:Int)):=by
 have hf:=(cW (bP (xs:=cG g v) (i:=(k:Int)) (by omega) hl)).2
 exact⟨by rw[hf];exact(gZ hm).ng h.inv.sd h.vd h.vc hs,h1,h2⟩
theorem jZ(hm:aV g)(hq:(q:Int)=g.1)(h:c=(bc (cq g gone cut) gone q).1/\n=(bc (cq g gone cut) gone q).2):c=(bf g gone cut).1/\n=(bf g gone cut).2:=by
 have:q=g.1.toNat:=by omega
 rw[this] at h;exact h
end
end TL
/-
  TlCls2: the steps of the walk keep what it relies on.
  By an AI agent.
-/
set_option linter.all false
namespace TL
variable{g:bw}{s:Bs}{fr:Fm}{path:List Int}{A B:Fm}{S:List Int}{v e b:Int}{pl lo by_:List Int}{la:List Bool}{ed bl:List Int}
theorem e7{h k:Int}(h0:0<=h)(k0:0<=k)(e:h/2=k/2):h=k\/h=dz k:=by
 unfold dz
 split<;>omega
theorem jp{pre P:List Int}{x:Int}(he:ed=pre++P)(hn:ed.Nodup)(hP:∀x∈ed,(0<=x/\x<(g.2.length:Int))/\gI la x=true):j8 g la pre x↔j8 g la ed x\/x∈P:=by
 subst he
 unfold j8
 constructor
 · rintro⟨a,c,d⟩
   by_cases k:x∈P
   · exact .inr k
   · exact .inl ⟨a,c,λj=>(List.mem_append.1 j).elim d k⟩
 · rintro(⟨a,c,d⟩|k)
   · exact⟨a,c,λj=>d (List.mem_append_left _ j)⟩
   · obtain⟨a,c⟩:=hP x (List.mem_append_right _ k)
     exact⟨a,c,λj=>(List.nodup_append.1 hn).2.2 x j x k rfl⟩
theorem pA{pre P:List Int}{c:Int}(he:ed=pre++P)(hn:ed.Nodup)(hP:∀x∈ed,(0<=x/\x<(g.2.length:Int))/\gI la x=true)(hbl:(bl.length:Int)=(g.2.length:Int))(hc:0<=c)
    (hr:∀e,j8 g la ed e->0<=gI bl e/\gI bl e<c)(hb:∀b,0<=b->b<c->rG g la ed bl b)(hnew:(∀x,j8 g la pre x->gI (P.foldl (λb e=>b.set e.toNat c) bl) x=c->x∈P)->(∀x,j8 g la pre x->gI (P.foldl (λb e=>b.set e.toNat c) bl) x<=c)->rG g la pre (P.foldl (λb e=>b.set e.toNat c) bl) c):
    (∀e,j8 g la pre e->0<=gI (P.foldl (λb e=>b.set e.toNat c) bl) e/\gI (P.foldl (λb e=>b.set e.toNat c) bl) e<c+1)/\∀b,0<=b->b<c+1->rG g la pre (P.foldl (λb e=>b.set e.toNat c) bl) b:=by
  have hg:∀x,0<=x->x<(g.2.length:Int)->gI (P.foldl (λb e=>b.set e.toNat c) bl) x=if x∈P then c else gI bl x:=λx a d=>o9 c P bl x a (by omega) (λy hy=>by have:=(hP y (by rw[he];exact List.mem_append_right _ hy)).1;omega)
  have hnP:∀x,j8 g la ed x->x∉P:=λx hx k=>hx.2.2 (by rw[he];exact List.mem_append_right _ k)
  have h1:∀e,j8 g la pre e->0<=gI (P.foldl (λb e=>b.set e.toNat c) bl) e/\gI (P.foldl (λb e=>b.set e.toNat c) bl) e<c+1:=λe hx=>by
    rw[hg e hx.1.1 hx.1.2]
    rcases(jp he hn hP).1 hx with k|k
    · rw[if_neg (hnP e k)];have:=hr e k;omega
    · rw[if_pos k];omega
  refine⟨h1,λb b0 b1=>?_⟩
  by_cases k:b=c
  · rw[k]
    refine hnew (λx hx hxc=>?_) (λx hx=>by have:=h1 x hx;omega)
    rcases(jp he hn hP).1 hx with j|j
    · rw[hg x hx.1.1 hx.1.2,if_neg (hnP x j)] at hxc
      have:=hr x j;omega
    · exact j
  · refine(hb b b0 (by omega)).congr (λx hx hxb=>?_) (λx hx=>⟨(jp he hn hP).2 (.inl hx),by rw[hg x hx.1.1 hx.1.2,if_neg (hnP x hx)]⟩)
    rw[hg x hx.1.1 hx.1.2] at hxb
    by_cases j:x∈P
    · rw[if_pos j] at hxb;exact absurd hxb.symm k
    · rw[if_neg j] at hxb
      exact⟨((jp he hn hP).1 hx).resolve_right j,hxb⟩
theorem mL(e0:0<=e)(e1:e<(la.length:Int))(hl:¬gI la e=true)(h:rG g la ed bl b):rG g (la.set e.toNat true) (ed++[e]) bl b:=
  h.congr (λx hx hb=>⟨(i7 e0 e1 hl).1 hx,hb⟩) (λx hx=>⟨(i7 e0 e1 hl).2 hx,rfl⟩)
theorem oZ.lay(h:oZ g pl lo by_ la path A v S B)(e0:0<=e)(e1:e<(la.length:Int))(hm2:∀x:Int,hf g x->0<=x/2)(hw:∀h,hf g h->h/2=e->gI pl v<=gI pl (aq g h)->gI pl (b9 g h)<gI pl v->h/2≠gI by_ v/2->∃w∈v::B.map Prod.fst,gI lo w<=gI pl (b9 g h)):oZ g pl lo by_ (la.set e.toNat true) path A v S B:=
  {h with
    l1:=λk hk hl a c d=>by
      by_cases q:k/2=e
      · exact hw k hk q a c d
      · rw[dm e0 e1 (hm2 k hk),if_neg q] at hl
        exact h.l1 k hk hl a c d
    l3:=λk=>by
      obtain⟨x,a,c,d⟩:=h.l3 k
      refine⟨x,a,?_,d⟩
      rw[dm e0 e1 (hm2 x a)]
      split
      · rfl
      · exact c}
theorem eY{x:Int}(h:hf g x):0<=x/2:=by have:=h.1;omega
theorem dI{x:Int}(h:hf g x):x/2<(g.2.length:Int):=by have:=h.2;omega
theorem qF(hf0:∀A v S B,fr=A++(v,S)::B->(A=[]/\S=[]/\gI by_ v= -1)\/(∃A' u U S',A=A'++[(u,U)]/\S=gI by_ v/2::S'/\aq g (gI by_ v)=u/\0<=gI by_ v))(hto:∀p∈fr,0<=gI by_ p.1->hf g (gI by_ p.1)/\b9 g (gI by_ p.1)=p.1):
    ∀(n:Nat) (A B:Fm),A.length=n->fr=A++B->∀x∈A.map Prod.fst,∀y∈A.map Prod.fst,Wy g (λz=>z∈A.map Prod.fst) x y:=by
  intro n
  induction n with
  |zero=>
    intro A B hl _ x hx
    rw[List.length_eq_zero_iff.1 hl] at hx;exact absurd hx List.not_mem_nil
  |succ n ih=>
    intro A B hl he x hx y hy
    obtain⟨A',p,rfl⟩:∃A' p,A=A'++[p]:=⟨A.dropLast,A.getLast (by intro k;rw[k] at hl;simp at hl),(List.dropLast_concat_getLast _).symm⟩
    have hl':A'.length=n:=by simpa using hl
    have he':fr=A'++p::B:=by rw[he];simp
    have ih':=ih A' (p::B) hl' he'
    have key:∀x∈(A'++[p]).map Prod.fst,Wy g (λz=>z∈(A'++[p]).map Prod.fst) x p.1:=by
      intro x hx
      have hp:p.1∈(A'++[p]).map Prod.fst:=by simp
      rw[List.map_append,List.mem_append] at hx
      rcases hx with hx|hx
      · rcases hf0 A' p.1 p.2 B he' with⟨q,_⟩|⟨A2,u,U,S',q1,_,q3,q4⟩
        · rw[q] at hx;exact absurd hx List.not_mem_nil
        · have hu:u∈A'.map Prod.fst:=by rw[q1];simp
          have hh:=hto p (by rw[he'];simp) q4
          have w1:=(ih' x hx u hu).mono (B:=λz=>z∈(A'++[p]).map Prod.fst) (λz hz=>by rw[List.map_append];exact List.mem_append_left _ hz)
          have w2:Wy g (λz=>z∈(A'++[p]).map Prod.fst) u p.1:=by
            have:=Wy.one (g:=g) (A:=λz=>z∈(A'++[p]).map Prod.fst) hh.1 (by rw[q3,List.map_append];exact List.mem_append_left _ hu) (by rw[hh.2];exact hp)
            rwa[q3,hh.2] at this
          exact w1.trans w2
      · have:x=p.1:=by simpa using hx
        rw[this];exact .refl hp
    exact(key x hx).trans (key y hy).symm
end TL
/-
  TlCls3: each step of the walk keeps what it relies on: a loop, an edge back.
  By an AI agent.
-/
set_option linter.all false
namespace TL
variable{g:bw}{s:Bs}{fr:Fm}{path:List Int}{A B A0:Fm}{S U:List Int}{u v w e b h:Int}{pl lo by_:List Int}{la:List Bool}{ed bl:List Int}
theorem fA.mem(hd:fA g s fr){p:Int×List Int}(hp:p∈fr):(0<=p.1/\p.1<g.1)/\gI s.place p.1≠0:=hd.se.pr _ (List.mem_map.2 ⟨p,hp,rfl⟩)
theorem fA.to(hd:fA g s fr):∀p∈fr,0<=gI s.by_ p.1->hf g (gI s.by_ p.1)/\b9 g (gI s.by_ p.1)=p.1:=λp hp h0=>by
 have h1:=(hd.mem hp).1
 rcases hd.se.by_ p.1 h1.1 h1.2 with k|⟨k,j,_⟩
 · omega
 · exact⟨k,j⟩
theorem fA.wy(hd:fA g s fr){A B:Fm}(he:fr=A++B):∀x∈A.map Prod.fst,∀y∈A.map Prod.fst,Wy g (λz=>z∈A.map Prod.fst) x y:=
 qF (λA v S B k=>(hd.fra A v S B k).own) hd.to A.length A B rfl he
theorem fA.el(hd:fA g s fr):∀p∈fr,∀e∈p.2,(0<=e/\e<(g.2.length:Int))/\gI s.laid e=true:=λp hp e he=>hd.se.el e (by
 rw[hd.stk];exact List.mem_flatten.2 ⟨p.2,List.mem_map.2 ⟨p,hp,rfl⟩,he⟩)
theorem fA.lot(hd:fA g s fr){k:Int}(hk:hf g k)(hl:gI s.laid (k/2)=true):gI s.place (b9 g k)≠0:=by
  obtain⟨t1,t2,t3,t4⟩:=cH (g:=g) hk
  have:=hd.lof _ t1 (by rw[t2];exact hl)
  rwa[t3] at this
theorem jU{x y:Int}(h:gI pl x<gI pl y):x≠y:=λe=>by rw[e] at h;omega
theorem fe{X A:List (Int×List Int)}{a x:Int×List Int}{B:List (Int×List Int)}(h:X++[a]=A++x::B):(A=X/\x=a/\B=[])\/∃B0,X=A++x::B0/\B=B0++[a]:=by
 rcases List.eq_nil_or_concat B with k|⟨B0,y,k⟩
 · subst k
   have:=List.append_inj' h rfl
   exact .inl ⟨this.1.symm,by simpa using this.2.symm,rfl⟩
 · rw[List.concat_eq_append] at k
   subst k
   have h2:X++[a]=(A++x::B0)++[y]:=by rw[h];simp
   have:=List.append_inj' h2 rfl
   exact .inr ⟨B0,this.1,by rw[show a=y by simpa using this.2]⟩
theorem fA.nexts(hd:fA g s fr)(u0:0<=u)(u1:u<g.1)(hn:¬gI s.next u=((gI (ar g) u).length:Int)):fA g {s with next:=s.next.set u.toNat (gI s.next u+1)} fr:=
 ⟨hd.se.nexts u0 u1 hn,hd.stk,hd.inj,hd.lof,hd.fra,hd.clr,hd.clb⟩
theorem fA.loop(hm:aV g)(hd:fA g s fr)(hh:hf g h)(hl:¬gI s.laid (h/2)=true)(hv:gI s.place (aq g h)≠0)(hw:b9 g h=aq g h)(hse:dH g (dq (gc s (h/2)) (h/2)) (fr.map Prod.fst)):fA g (dq (gc s (h/2)) (h/2)) fr:=by
  have e0:=eY hh
  have e1:=dI hh
  have hl5:=hd.se.l5
  obtain⟨hlay,hne⟩:=hd.se.lay e0 e1 hl
  have hen:(s.edges++[h/2]).Nodup:=hlay.en
  have hel:∀x∈s.edges++[h/2],(0<=x/\x<(g.2.length:Int))/\gI (s.laid.set (h/2).toNat true) x=true:=hlay.el
  rw[lA (s:=gc s (h/2)) (pre:=s.edges) (rest:=[]) (e:=h/2) rfl hen] at hse ⊢
  have hends:∀k,hf g k->k/2=h/2->aq g k=aq g h/\b9 g k=aq g h:=λk hk he=>by
    rcases e7 hk.1 hh.1 he with q|q
    · rw[q];exact⟨rfl,hw⟩
    · obtain⟨_,_,t3,t4⟩:=cH (g:=g) hh
      rw[q,t3,t4];exact⟨hw,rfl⟩
  have hcl:=pA (g:=g) (la:=s.laid.set (h/2).toNat true) (ed:=s.edges++[h/2]) (bl:=s.block) (pre:=s.edges) (P:=[h/2]) (c:=s.count) rfl hen hel hd.se.l6 hd.se.ct
    (λx hx=>hd.clr x ((i7 e0 (by omega) hl).1 hx)) (λb b0 b1=>mL e0 (by omega) hl (hd.clb b b0 b1)) (λhin _=>.inl ⟨h/2,by
      have hf1:(gI g.2 (h/2)).1=(gI g.2 (h/2)).2:=by
        have h1:=hw
        unfold b9 aq at h1
        have h2:h%2=0\/h%2=1:=by omega
        rcases h2 with q|q
        · rw[q] at h1;exact h1.symm
        · rw[q] at h1;exact h1
      exact hf1,λx hx hb=>List.mem_singleton.1 (hin x hx hb)⟩)
  refine⟨hse,hd.stk,hd.inj,λk hk hlk=>?_,λA v S B he=>(hd.fra A v S B he).lay e0 (by omega) (λ_=>eY) (λk hk hke a c _=>?_),hcl.1,hcl.2⟩
  · have hlk:gI (s.laid.set (h/2).toNat true) (k/2)=true:=hlk
    show gI s.place (aq g k)≠0
    by_cases q:k/2=h/2
    · rw[(hends k hk q).1];exact hv
    · rw[dm e0 (by omega) (eY hk),if_neg q] at hlk
      exact hd.lof k hk hlk
  · obtain⟨p,q⟩:=hends k hk hke
    rw[p] at a;rw[q] at c
    exfalso
    have a:gI s.place v<=gI s.place (aq g h):=a
    have c:gI s.place (aq g h)<gI s.place v:=c
    omega
theorem fA.back(hm:aV g)(hd:fA g s (A0++[(v,S)]))(hall:∀k,hf g k->gI s.place (aq g k)≠0->aq g k∉(A0++[(v,S)]).map Prod.fst->gI s.laid (k/2)=true)(hh:hf g h)(hv:aq g h=v)(hl:¬gI s.laid (h/2)=true)(hne:b9 g h≠v)(hw:gI s.place (b9 g h)≠0)
    (hse:dH g {gc s (h/2) with low:=s.low.set v.toNat (min (gI s.low v) (gI s.place (b9 g h)))} ((A0++[(v,S++[h/2])]).map Prod.fst)):
    fA g {gc s (h/2) with low:=s.low.set v.toNat (min (gI s.low v) (gI s.place (b9 g h)))} (A0++[(v,S++[h/2])]):=by
  have e0:=eY hh
  have e1:=dI hh
  have hl5:=hd.se.l5
  have hl2:=hd.se.l2
  have hvm:=hd.mem (p:=(v,S)) (by simp)
  have hlast:=hd.fra A0 v S [] rfl
  obtain⟨t1,t2,t3,t4⟩:=cH (g:=g) hh
  -- the other end is on the path, ahead
  have hwp:b9 g h∈A0.map Prod.fst:=by
    by_cases c:b9 g h∈(A0++[(v,S)]).map Prod.fst
    · rw[List.map_append,List.mem_append] at c
      exact c.resolve_right (λk=>hne (by simpa using k))
    · exfalso
      have:=hall _ t1 (by rw[t3];exact hw) (by rw[t3];exact c)
      rw[t2] at this;exact hl this
  have hpw:gI s.place (b9 g h)<gI s.place v:=by
    obtain⟨p,hp,e⟩:=List.mem_map.1 hwp
    rw[<-e];exact hlast.asc p hp
  have hlo:∀x,0<=x->gI (s.low.set v.toNat (min (gI s.low v) (gI s.place (b9 g h)))) x=if x=v then min (gI s.low v) (gI s.place (b9 g h)) else gI s.low x:=λx a=>bT hvm.1.1 (by omega) a
  have hlv:gI (s.low.set v.toNat (min (gI s.low v) (gI s.place (b9 g h)))) v=min (gI s.low v) (gI s.place (b9 g h)):=by rw[hlo v hvm.1.1,if_pos rfl]
  have hle:∀x,0<=x->gI (s.low.set v.toNat (min (gI s.low v) (gI s.place (b9 g h)))) x<=gI s.low x:=λx a=>by
    rw[hlo x a];split
    · rename_i k;rw[k];omega
    · omega
  have hends:∀k,hf g k->k/2=h/2->(aq g k=v/\b9 g k=b9 g h)\/(aq g k=b9 g h/\b9 g k=v):=λk hk he=>by
    rcases e7 hk.1 hh.1 he with q|q
    · rw[q];exact .inl ⟨hv,rfl⟩
    · rw[q,t3,t4];exact .inr ⟨rfl,hv⟩
  have hmap:(A0++[(v,S++[h/2])]).map Prod.fst=(A0++[(v,S)]).map Prod.fst:=by simp
  -- the edge belongs to the edge by which v was found
  have hrel:∃A' q Q S',A0=A'++[(q,Q)]/\S=gI s.by_ v/2::S'/\aq g (gI s.by_ v)=q/\0<=gI s.by_ v:=by
    rcases hlast.own with⟨k,_⟩|k
    · rw[k] at hwp;exact absurd hwp List.not_mem_nil
    · exact k
  obtain⟨A',q,Q,S',ha1,ha2,ha3,ha4⟩:=hrel
  have hbv:=hd.to (v,S) (by simp) ha4
  have hvA:v∉A0.map Prod.fst:=λk=>by
    obtain⟨p,hp,e⟩:=List.mem_map.1 k
    have:=hlast.asc p hp
    rw[e] at this;omega
  have hqA:q∈A0.map Prod.fst:=by rw[ha1];simp
  have heq:EqB g (h/2) (gI s.by_ v/2):=by
    obtain⟨b1,b2,b3,b4⟩:=cH (g:=g) hbv.1
    refine .rel ⟨h,dz (gI s.by_ v),hh,b1,rfl,b2,?_,?_,?_,?_⟩
    · rw[b3,hbv.2,hv]
    · rw[hv];exact hne
    · rw[b4,b3,hbv.2,ha3];exact λk=>hvA (by have k:q=v:=k;rw[<-k];exact hqA)
    · rw[b4,ha3,hv]
      exact(hd.wy (A:=A0) (B:=[(v,S)]) rfl _ hwp _ hqA).mono (λz hz k=>hvA (by rw[<-k];exact hz))
  have hclo:∀x,j8 g (s.laid.set (h/2).toNat true) (s.edges++[h/2]) x↔j8 g s.laid s.edges x:=λx=>i7 e0 (by omega) hl
  refine⟨hse,?_,hd.inj,λk hk hlk=>?_,λA x Sx B he=>?_,λx hx=>hd.clr x ((hclo x).1 hx),λb b0 b1=>mL e0 (by omega) hl (hd.clb b b0 b1)⟩
  · show s.edges++[h/2]=_
    rw[hd.stk];simp
  · have hlk:gI (s.laid.set (h/2).toNat true) (k/2)=true:=hlk
    show gI s.place (aq g k)≠0
    by_cases c:k/2=h/2
    · rcases hends k hk c with⟨r,_⟩|⟨r,_⟩
      · rw[r];exact hvm.2
      · rw[r];exact hw
    · rw[dm e0 (by omega) (eY hk),if_neg c] at hlk
      exact hd.lof k hk hlk
  · rw[hmap]
    rcases fe he with⟨k1,k2,k3⟩|⟨B0,k1,k2⟩
    · -- the last one
      obtain⟨rfl,rfl⟩:x=v/\Sx=S++[h/2]:=by simpa using k2
      subst k1 k3
      refine {hlast with own:=.inr ⟨A',q,Q,S'++[h/2],ha1,by rw[ha2];rfl,ha3,ha4⟩,eqb:=λy hy=>?_,end_:=λy hy=>?_,l1:=λk hk hlk a c d=>?_,l2:=?_,l3:=λhlt=>?_}
      · rcases List.mem_append.1 hy with j|j
        · exact hlast.eqb y j
        · rw[List.mem_singleton.1 j];exact heq
      · rcases List.mem_append.1 hy with j|j
        · exact hlast.end_ y j
        · exact⟨h,hh,(List.mem_singleton.1 j).symm,by rw[hv];exact Int.le_refl _⟩
      · have hlk:gI (s.laid.set (h/2).toNat true) (k/2)=true:=hlk
        have a:gI s.place x<=gI s.place (aq g k):=a
        have c:gI s.place (b9 g k)<gI s.place x:=c
        refine⟨x,by simp,?_⟩
        show gI (s.low.set x.toNat _) x<=gI s.place (b9 g k)
        rw[hlv]
        by_cases j:k/2=h/2
        · rcases hends k hk j with⟨r,r2⟩|⟨r,r2⟩
          · rw[r2];omega
          · rw[r2] at c;omega
        · rw[dm e0 (by omega) (eY hk),if_neg j] at hlk
          obtain⟨y,hy,hy2⟩:=hlast.l1 k hk hlk a c d
          have:y=x:=by simpa using hy
          rw[this] at hy2;omega
      · show gI (s.low.set x.toNat _) x<=gI s.place x
        rw[hlv];have:=hlast.l2;omega
      · have hlt:gI (s.low.set x.toNat (min (gI s.low x) (gI s.place (b9 g h)))) x<gI s.place x:=hlt
        show∃k,hf g k/\gI (s.laid.set (h/2).toNat true) (k/2)=true/\gI s.place x<=gI s.place (aq g k)/\gI s.place (b9 g k)=gI (s.low.set x.toNat _) x
        rw[hlv] at hlt ⊢
        by_cases j:gI s.place (b9 g h)<=gI s.low x
        · refine⟨h,hh,?_,by rw[hv];exact Int.le_refl _,by omega⟩
          rw[dm e0 (by omega) e0,if_pos rfl]
        · obtain⟨k,c1,c2,c3,c4⟩:=hlast.l3 (by omega)
          refine⟨k,c1,?_,c3,by omega⟩
          rw[dm e0 (by omega) (eY c1)];split
          · rfl
          · exact c2
    · -- one ahead of it
      have hold:=hd.fra A x Sx (B0++[(v,S)]) (by rw[k1];simp)
      have hx:=hd.mem (p:=(x,Sx)) (by rw[k1];simp)
      have hxv:gI s.place x<gI s.place v:=hlast.asc (x,Sx) (by rw[k1];simp)
      have hxne:x≠v:=jU hxv
      have hlx:gI (s.low.set v.toNat (min (gI s.low v) (gI s.place (b9 g h)))) x=gI s.low x:=by rw[hlo x hx.1.1,if_neg hxne]
      subst k2
      refine {hold with l1:=λk hk hlk a c d=>?_,l2:=?_,l3:=λhlt=>?_}
      · have hlk:gI (s.laid.set (h/2).toNat true) (k/2)=true:=hlk
        have a:gI s.place x<=gI s.place (aq g k):=a
        have c:gI s.place (b9 g k)<gI s.place x:=c
        show∃y∈x::(B0++[(v,S++[h/2])]).map Prod.fst,gI (s.low.set v.toNat _) y<=gI s.place (b9 g k)
        by_cases j:k/2=h/2
        · rcases hends k hk j with⟨r,r2⟩|⟨r,r2⟩
          · exact⟨v,by simp,by rw[hlv,r2];omega⟩
          · rw[r2] at c;omega
        · rw[dm e0 (by omega) (eY hk),if_neg j] at hlk
          obtain⟨y,hy,hy2⟩:=hold.l1 k hk hlk a c d
          refine⟨y,by simpa using hy,?_⟩
          have hy0:0<=y:=by
            have:y∈(A0++[(v,S)]).map Prod.fst:=by
              rw[k1]
              simp only[List.map_append,List.map_cons,List.mem_append,List.mem_cons] at hy ⊢
              rcases hy with q|q|q|q
              · exact .inl (.inr (.inl q))
              · exact .inl (.inr (.inr q))
              · exact .inr (.inl q)
              · exact absurd q List.not_mem_nil
            exact(hd.se.pr y this).1.1
          have:=hle y hy0
          omega
      · show gI (s.low.set v.toNat _) x<=gI s.place x
        rw[hlx];exact hold.l2
      · have hlt:gI (s.low.set v.toNat (min (gI s.low v) (gI s.place (b9 g h)))) x<gI s.place x:=hlt
        show∃k,hf g k/\gI (s.laid.set (h/2).toNat true) (k/2)=true/\gI s.place x<=gI s.place (aq g k)/\gI s.place (b9 g k)=gI (s.low.set v.toNat _) x
        rw[hlx] at hlt ⊢
        obtain⟨k,c1,c2,c3,c4⟩:=hold.l3 hlt
        refine⟨k,c1,?_,c3,c4⟩
        rw[dm e0 (by omega) (eY c1)];split
        · rfl
        · exact c2
end TL
/-
  TlCls4: each step of the walk keeps what it relies on: a node found, a node left.
  By an AI agent.
-/
set_option linter.all false
namespace TL
variable{g:bw}{s:Bs}{fr:Fm}{path:List Int}{A B A0:Fm}{S U:List Int}{u v w e b h:Int}
theorem fA.new(hm:aV g)(hd:fA g s (A0++[(v,S)]))(hall:∀k,hf g k->gI s.place (aq g k)≠0->aq g k∉(A0++[(v,S)]).map Prod.fst->gI s.laid (k/2)=true)(hh:hf g h)(hv:aq g h=v)(hl:¬gI s.laid (h/2)=true)(hw:gI s.place (b9 g h)=0)
    (hse:dH g (fh {gc s (h/2) with by_:=s.by_.set (b9 g h).toNat h} (b9 g h)) ((A0++[(v,S)]++[(b9 g h,[h/2])]).map Prod.fst)):
    fA g (fh {gc s (h/2) with by_:=s.by_.set (b9 g h).toNat h} (b9 g h)) (A0++[(v,S)]++[(b9 g h,[h/2])]):=by
  have e0:=eY hh
  have e1:=dI hh
  have hl5:=hd.se.l5
  have hl1:=hd.se.l1
  have hl2:=hd.se.l2
  have hl3:=hd.se.l3
  have hf0:=hd.se.f0
  obtain⟨w0,w1⟩:=dY hm hh
  have hvm:=hd.mem (p:=(v,S)) (by simp)
  have hlast:=hd.fra A0 v S [] rfl
  obtain⟨t1,t2,t3,t4⟩:=cH (g:=g) hh
  generalize hwe:b9 g h=w at*
  have hpl:∀x,0<=x->gI (s.place.set w.toNat (s.found+1)) x=if x=w then s.found+1 else gI s.place x:=λx a=>bT w0 (by omega) a
  have hlo:∀x,0<=x->gI (s.low.set w.toNat (s.found+1)) x=if x=w then s.found+1 else gI s.low x:=λx a=>bT w0 (by omega) a
  have hby:∀x,0<=x->gI (s.by_.set w.toNat h) x=if x=w then h else gI s.by_ x:=λx a=>bT w0 (by omega) a
  have hla:∀x,0<=x->gI (s.laid.set (h/2).toNat true) x=if x=h/2 then true else gI s.laid x:=λx a=>dm e0 (by omega) a
  have hfd:∀x,0<=x->gI s.place x≠0->gI (s.place.set w.toNat (s.found+1)) x=gI s.place x:=λx a c=>by
    rw[hpl x a,if_neg (λk=>c (by rw[k];exact hw))]
  have hub:∀x,0<=x->x<g.1->gI s.place x<=s.found:=λx a c=>(hd.se.pl x a c).2
  have hge:∀x,0<=x->x<g.1->gI s.place x<=gI (s.place.set w.toNat (s.found+1)) x:=λx a c=>by
    rw[hpl x a];have:=hub x a c;split<;>omega
  have hends:∀k,hf g k->k/2=h/2->(aq g k=v/\b9 g k=w)\/(aq g k=w/\b9 g k=v):=λk hk he=>by
    rcases e7 hk.1 hh.1 he with q|q
    · rw[q];exact .inl ⟨hv,hwe⟩
    · rw[q,t3,t4];exact .inr ⟨rfl,hv⟩
  have hlaf:∀k,hf g k->gI (s.laid.set (h/2).toNat true) (k/2)=true->k/2≠h/2->gI s.laid (k/2)=true:=λk hk hlk j=>by
    rw[hla _ (eY hk),if_neg j] at hlk;exact hlk
  have hlam:∀k,hf g k->gI s.laid (k/2)=true->gI (s.laid.set (h/2).toNat true) (k/2)=true:=λk hk hlk=>by
    rw[hla _ (eY hk)];split
    · rfl
    · exact hlk
  have hvf:=hfd v hvm.1.1 hvm.2
  -- a done node's other ends are found
  have hdone:∀k,hf g k->gI s.place (aq g k)≠0->aq g k∉(A0++[(v,S)]).map Prod.fst->gI s.place (b9 g k)≠0:=λk hk a c=>hd.lot hk (hall k hk a c)
  have hwpath:w∉(A0++[(v,S)]).map Prod.fst:=λk=>(hd.se.pr w k).2 hw
  -- the stack's edges are laid
  have hstk:∀p∈A0++[(v,S)],∀e∈p.2,∀k,hf g k->k/2=e->gI s.place (aq g k)≠0:=λp hp e he k hk hke=>hd.lof k hk (by rw[hke];exact(hd.el p hp e he).2)
  refine⟨hse,?_,λx y x0 x1 y0 y1 hx hxy=>?_,λk hk hlk=>?_,λA x Sx B he=>?_,λx hx=>hd.clr x ((i7 e0 (by omega) hl).1 hx),λb b0 b1=>mL e0 (by omega) hl (hd.clb b b0 b1)⟩
  · show s.edges++[h/2]=_
    rw[hd.stk];simp
  · have hx:gI (s.place.set w.toNat (s.found+1)) x≠0:=hx
    have hxy:gI (s.place.set w.toNat (s.found+1)) x=gI (s.place.set w.toNat (s.found+1)) y:=hxy
    rw[hpl x x0,hpl y y0] at hxy
    rw[hpl x x0] at hx
    have h1:=hub x x0 x1
    have h2:=hub y y0 y1
    by_cases c1:x=w
    · by_cases c2:y=w
      · rw[c1,c2]
      · rw[if_pos c1,if_neg c2] at hxy;omega
    · by_cases c2:y=w
      · rw[if_neg c1,if_pos c2] at hxy;omega
      · rw[if_neg c1,if_neg c2] at hxy
        rw[if_neg c1] at hx
        exact hd.inj x y x0 x1 y0 y1 hx hxy
  · have hlk:gI (s.laid.set (h/2).toNat true) (k/2)=true:=hlk
    show gI (s.place.set w.toNat (s.found+1)) (aq g k)≠0
    obtain⟨f0,f1⟩:=bW hm hk
    by_cases c:k/2=h/2
    · rcases hends k hk c with⟨r,_⟩|⟨r,_⟩
      · rw[r,hvf];exact hvm.2
      · rw[r,hpl w w0,if_pos rfl];omega
    · have:=hd.lof k hk (hlaf k hk hlk c)
      rw[hfd _ f0 this];exact this
  · show oZ g (s.place.set w.toNat (s.found+1)) (s.low.set w.toNat (s.found+1)) (s.by_.set w.toNat h) (s.laid.set (h/2).toNat true) _ A x Sx B
    rcases fe he with⟨k1,k2,k3⟩|⟨B0,k1,k2⟩
    · obtain⟨rfl,rfl⟩:x=w/\Sx=[h/2]:=by simpa using k2
      subst k1 k3
      have hxp:gI (s.place.set x.toNat (s.found+1)) x=s.found+1:=by rw[hpl x w0,if_pos rfl]
      have hxb:gI (s.by_.set x.toNat h) x=h:=by rw[hby x w0,if_pos rfl]
      refine⟨.inr ⟨A0,v,S,[],rfl,by rw[hxb],by rw[hxb];exact hv,by rw[hxb];exact hh.1⟩,λp hp=>?_,λy hy=>?_,λy hy=>?_,λp hp y hy k hk hke=>?_,λk hk a c d=>?_,λy y0 y1 hy=>?_,λk hk hlk a c d=>?_,?_,λhlt=>?_⟩
      · have:=hd.mem hp
        rw[hxp,hfd _ this.1.1 this.2];have:=hub _ this.1.1 this.1.2;omega
      · rw[List.mem_singleton.1 hy,hxb];exact .refl _
      · refine⟨dz h,t1,by rw[t2];exact(List.mem_singleton.1 hy).symm,?_⟩
        rw[t3];exact Int.le_refl _
      · have h1:=hstk p hp y hy k hk hke
        obtain⟨f0,f1⟩:=bW hm hk
        rw[hxp,hfd _ f0 h1];have:=hub _ f0 f1;omega
      · obtain⟨f0,f1⟩:=bW hm hk
        obtain⟨q0,q1⟩:=dY hm hk
        have hne:aq g k≠x:=λj=>c (by rw[j];simp)
        rw[hpl _ f0,if_neg hne] at a
        have h1:=hdone k hk a (λj=>c (by rw[List.map_append];exact List.mem_append_left _ j))
        rw[hxp,hfd _ q0 h1];have:=hub _ q0 q1;omega
      · rw[hxp,hpl y y0] at hy
        have:y=x:=by
          by_cases c:y=x
          · exact c
          · rw[if_neg c] at hy;have:=hub y y0 y1;omega
        subst this
        exact .refl ⟨⟨w0,w1⟩,Int.le_refl _⟩
      · obtain⟨f0,f1⟩:=bW hm hk
        rw[hxp,hpl _ f0] at a
        have hfx:aq g k=x:=by
          by_cases j:aq g k=x
          · exact j
          · rw[if_neg j] at a;have:=hub _ f0 f1;omega
        exfalso
        rw[hxb] at d
        exact hd.lof k hk (hlaf k hk hlk d) (by rw[hfx];exact hw)
      · rw[hxp,hlo x w0,if_pos rfl];exact Int.le_refl _
      · rw[hxp,hlo x w0,if_pos rfl] at hlt;omega
    · have hold:=hd.fra A x Sx B0 k1
      have hx:=hd.mem (p:=(x,Sx)) (by rw[k1];simp)
      have hxne:x≠w:=λk=>hx.2 (by rw[k];exact hw)
      have hxp:gI (s.place.set w.toNat (s.found+1)) x=gI s.place x:=hfd x hx.1.1 hx.2
      have hxl:gI (s.low.set w.toNat (s.found+1)) x=gI s.low x:=by rw[hlo x hx.1.1,if_neg hxne]
      have hxb:gI (s.by_.set w.toNat h) x=gI s.by_ x:=by rw[hby x hx.1.1,if_neg hxne]
      have hxv:gI s.place x<=gI s.place v:=by
        rcases fe k1 with⟨_,j,_⟩|⟨B1,j,_⟩
        · have:x=v:=by have:=congrArg Prod.fst j;exact this
          rw[this];exact Int.le_refl _
        · have:=hlast.asc (x,Sx) (by rw[j];simp)
          exact Int.le_of_lt this
      have hinA:∀p∈A,p∈A0++[(v,S)]:=λp hp=>by rw[k1];exact List.mem_append_left _ hp
      subst k2
      refine⟨?_,λp hp=>?_,λy hy=>?_,λy hy=>?_,λp hp y hy k hk hke=>?_,λk hk a c d=>?_,λy y0 y1 hy=>?_,λk hk hlk a c d=>?_,?_,λhlt=>?_⟩
      · rw[hxb];exact hold.own
      · have:=hd.mem (hinA p hp)
        rw[hxp,hfd _ this.1.1 this.2];exact hold.asc p hp
      · rw[hxb];exact hold.eqb y hy
      · obtain⟨k,c1,c2,c3⟩:=hold.end_ y hy
        obtain⟨f0,f1⟩:=bW hm c1
        exact⟨k,c1,c2,by rw[hxp];exact Int.le_trans c3 (hge _ f0 f1)⟩
      · have h1:=hstk p (hinA p hp) y hy k hk hke
        rw[hxp,hfd _ (bW hm hk).1 h1];exact hold.low p hp y hy k hk hke
      · obtain⟨f0,f1⟩:=bW hm hk
        have hne:aq g k≠w:=λj=>c (by rw[j];simp)
        rw[hpl _ f0,if_neg hne] at a
        have hnp:aq g k∉(A0++[(v,S)]).map Prod.fst:=λj=>c (by rw[List.map_append];exact List.mem_append_left _ j)
        have h1:=hdone k hk a hnp
        rw[hxp,hfd _ f0 a] at d
        rw[hxp,hfd _ (dY hm hk).1 h1]
        exact hold.cross k hk a hnp d
      · rw[hxp]
        by_cases c:y=w
        · subst c
          have h1:=(hold.conn v hvm.1.1 hvm.1.2 hxv).mono (B:=λz=>(0<=z/\z<g.1)/\gI s.place x<=gI (s.place.set y.toNat (s.found+1)) z) (λz hz=>⟨hz.1,Int.le_trans hz.2 (hge z hz.1.1 hz.1.2)⟩)
          have h2:(0<=y/\y<g.1)/\gI s.place x<=gI (s.place.set y.toNat (s.found+1)) y:=⟨⟨w0,w1⟩,by rw[hpl y w0,if_pos rfl];have:=hub x hx.1.1 hx.1.2;omega⟩
          have h3:=Wy.one (g:=g) (A:=λz=>(0<=z/\z<g.1)/\gI s.place x<=gI (s.place.set y.toNat (s.found+1)) z) hh (by rw[hv];exact h1.right) (by rw[hwe];exact h2)
          rw[hv,hwe] at h3
          exact h1.trans h3
        · rw[hxp,hpl y y0,if_neg c] at hy
          exact(hold.conn y y0 y1 hy).mono (λz hz=>⟨hz.1,Int.le_trans hz.2 (hge z hz.1.1 hz.1.2)⟩)
      · obtain⟨f0,f1⟩:=bW hm hk
        obtain⟨q0,q1⟩:=dY hm hk
        by_cases j:k/2=h/2
        · exfalso
          rcases hends k hk j with⟨r,r2⟩|⟨r,r2⟩
          · rw[r2,hxp,hpl w w0,if_pos rfl] at c;have:=hub x hx.1.1 hx.1.2;omega
          · rw[r2,hxp,hvf] at c;omega
        · have hlk':=hlaf k hk hlk j
          have h1:=hd.lof k hk hlk'
          have h2:=hd.lot hk hlk'
          rw[hxp,hfd _ f0 h1] at a
          rw[hxp,hfd _ q0 h2] at c
          rw[hxb] at d
          obtain⟨y,hy,hy2⟩:=hold.l1 k hk hlk' a c d
          have hyp:y∈(A0++[(v,S)]).map Prod.fst:=by
            rw[k1];simp only[List.map_append,List.map_cons,List.mem_append];exact .inr hy
          have hym:=hd.se.pr y hyp
          refine⟨y,?_,?_⟩
          · simp only[List.map_append,List.mem_cons,List.mem_append] at hy ⊢
            rcases hy with r|r
            · exact .inl r
            · exact .inr (.inl r)
          · rw[hlo y hym.1.1,if_neg (λr=>hym.2 (by rw[r];exact hw)),hfd _ q0 h2];exact hy2
      · rw[hxl,hxp];exact hold.l2
      · rw[hxl,hxp] at hlt
        obtain⟨k,c1,c2,c3,c4⟩:=hold.l3 hlt
        have h2:=hd.lot c1 c2
        exact⟨k,c1,hlam k c1 c2,by rw[hxp,hfd _ (bW hm c1).1 (hd.lof k c1 c2)];exact c3,by rw[hxl,hfd _ (dY hm c1).1 h2];exact c4⟩
end TL
/-
  TlCls5: each step of the walk keeps what it relies on: a walk begun, a node left.
  By an AI agent.
-/
set_option linter.all false
namespace TL
variable{g:bw}{s:Bs}{fr:Fm}{path:List Int}{A B A0:Fm}{S U:List Int}{u v w e b h:Int}
theorem fA.begin_(hm:aV g)(hd:fA g s [])(hu:kw g s [])(v0:0<=v)(v1:v<g.1)(hv:gI s.place v=0)(hse:dH g (fh s v) [v]):fA g (fh s v) [(v,[])]:=by
  have hl1:=hd.se.l1
  have hl2:=hd.se.l2
  have hf0:=hd.se.f0
  have hpl:∀x,0<=x->gI (s.place.set v.toNat (s.found+1)) x=if x=v then s.found+1 else gI s.place x:=λx a=>bT v0 (by omega) a
  have hlo:∀x,0<=x->gI (s.low.set v.toNat (s.found+1)) x=if x=v then s.found+1 else gI s.low x:=λx a=>bT v0 (by omega) a
  have hub:∀x,0<=x->x<g.1->gI s.place x<=s.found:=λx a c=>(hd.se.pl x a c).2
  have hfd:∀x,0<=x->gI s.place x≠0->gI (s.place.set v.toNat (s.found+1)) x=gI s.place x:=λx a c=>by
    rw[hpl x a,if_neg (λk=>c (by rw[k];exact hv))]
  have hxp:gI (s.place.set v.toNat (s.found+1)) v=s.found+1:=by rw[hpl v v0,if_pos rfl]
  have hed:s.edges=[]:=hd.stk
  refine⟨hse,hd.stk,λx y x0 x1 y0 y1 hx hxy=>?_,λk hk hlk=>?_,λA x Sx B he=>?_,hd.clr,hd.clb⟩
  · have hx:gI (s.place.set v.toNat (s.found+1)) x≠0:=hx
    have hxy:gI (s.place.set v.toNat (s.found+1)) x=gI (s.place.set v.toNat (s.found+1)) y:=hxy
    rw[hpl x x0,hpl y y0] at hxy
    rw[hpl x x0] at hx
    have h1:=hub x x0 x1
    have h2:=hub y y0 y1
    by_cases c1:x=v
    · by_cases c2:y=v
      · rw[c1,c2]
      · rw[if_pos c1,if_neg c2] at hxy;omega
    · by_cases c2:y=v
      · rw[if_neg c1,if_pos c2] at hxy;omega
      · rw[if_neg c1,if_neg c2] at hxy
        rw[if_neg c1] at hx
        exact hd.inj x y x0 x1 y0 y1 hx hxy
  · show gI (s.place.set v.toNat (s.found+1)) (aq g k)≠0
    have:=hd.lof k hk hlk
    rw[hfd _ (bW hm hk).1 this];exact this
  · show oZ g (s.place.set v.toNat (s.found+1)) (s.low.set v.toNat (s.found+1)) s.by_ s.laid _ A x Sx B
    rcases fe (X:=[]) he with⟨k1,k2,k3⟩|⟨B0,k1,k2⟩
    · obtain⟨rfl,rfl⟩:x=v/\Sx=[]:=by simpa using k2
      subst k1 k3
      have hbx:gI s.by_ x= -1:=hse.p0 x rfl
      refine⟨.inl ⟨rfl,rfl,hbx⟩,λp hp=>absurd hp List.not_mem_nil,λy hy=>absurd hy List.not_mem_nil,λy hy=>absurd hy List.not_mem_nil,λp hp=>absurd hp List.not_mem_nil,λk hk a c d=>?_,λy y0 y1 hy=>?_,λk hk hlk a c d=>?_,?_,λhlt=>?_⟩
      · obtain⟨f0,f1⟩:=bW hm hk
        obtain⟨q0,q1⟩:=dY hm hk
        have hne:aq g k≠x:=λj=>c (by rw[j];simp)
        rw[hpl _ f0,if_neg hne] at a
        have h1:=hd.lot hk (hu.all hm hk a (by simp))
        rw[hxp,hfd _ q0 h1];have:=hub _ q0 q1;omega
      · rw[hxp,hpl y y0] at hy
        have:y=x:=by
          by_cases c:y=x
          · exact c
          · rw[if_neg c] at hy;have:=hub y y0 y1;omega
        subst this
        exact .refl ⟨⟨v0,v1⟩,Int.le_refl _⟩
      · obtain⟨f0,f1⟩:=bW hm hk
        rw[hxp,hpl _ f0] at a
        have hfx:aq g k=x:=by
          by_cases j:aq g k=x
          · exact j
          · rw[if_neg j] at a;have:=hub _ f0 f1;omega
        exact absurd (by rw[hfx];exact hv) (hd.lof k hk hlk)
      · rw[hxp,hlo x v0,if_pos rfl];exact Int.le_refl _
      · rw[hxp,hlo x v0,if_pos rfl] at hlt;omega
    · exact absurd k1.symm (by simp)
theorem fA.off0(hd:fA g s [(v,[])])(hse:dH g s []):fA g s []:=
  ⟨hse,hd.stk,hd.inj,hd.lof,λA x Sx B he=>by simp at he,hd.clr,hd.clb⟩
theorem oZ.off(hm:aV g)(hd:fA g s (A0++[(u,U),(v,S)])){A1:Fm}{x:Int}{Sx Sy:List Int}{B1 B2:Fm}(hold:oZ g s.place s.low s.by_ s.laid ((A0++[(u,U),(v,S)]).map Prod.fst) A1 x Sx (B1++[(v,S)]))
    (hin:(x,Sx)∈A0++[(u,U)])(hin2:∀y∈(x::B1.map Prod.fst),y∈(A0++[(u,U)]).map Prod.fst)(hu:u∈x::B1.map Prod.fst)(hB:B2.map Prod.fst=B1.map Prod.fst)(heqb:∀e∈Sy,EqB g e (gI s.by_ x/2))(hend:∀e∈Sy,∃h,hf g h/\h/2=e/\gI s.place x<=gI s.place (aq g h))
    (hown:(A1=[]/\Sy=[]/\gI s.by_ x= -1)\/(∃A' u U S',A1=A'++[(u,U)]/\Sy=gI s.by_ x/2::S'/\aq g (gI s.by_ x)=u/\0<=gI s.by_ x)):
    oZ g s.place (s.low.set u.toNat (min (gI s.low u) (gI s.low v))) s.by_ s.laid ((A0++[(u,U)]).map Prod.fst) A1 x Sy B2:=by
  have hl2:=hd.se.l2
  have hvf:=hd.fra (A0++[(u,U)]) v S [] (by simp)
  have hum:=hd.mem (p:=(u,U)) (by simp)
  have hvm:=hd.mem (p:=(v,S)) (by simp)
  have hlo:∀x,0<=x->gI (s.low.set u.toNat (min (gI s.low u) (gI s.low v))) x=if x=u then min (gI s.low u) (gI s.low v) else gI s.low x:=λx a=>bT hum.1.1 (by omega) a
  have hxm:=hd.mem (p:=(x,Sx)) (by
    have:=List.mem_append.1 hin
    rcases this with k|k
    · exact List.mem_append_left _ k
    · rw[List.mem_singleton.1 k];simp)
  have hxv:gI s.place x<gI s.place v:=hvf.asc (x,Sx) hin
  refine {hold with own:=hown,eqb:=heqb,end_:=hend,cross:=λk hk a c d=>?_,l1:=λk hk hlk a c d=>?_,l2:=?_,l3:=λhlt=>?_}
  · by_cases j:aq g k=v
    · rw[j] at d;omega
    · refine hold.cross k hk a (λq=>c ?_) d
      have e1:(A0++[(u,U),(v,S)]).map Prod.fst=(A0++[(u,U)]).map Prod.fst++[v]:=by simp
      rw[e1,List.mem_append] at q
      exact q.resolve_right (λr=>j (by simpa using r))
  · obtain⟨y,hy,hy2⟩:=hold.l1 k hk hlk a c d
    have hlu:gI (s.low.set u.toNat (min (gI s.low u) (gI s.low v))) u=min (gI s.low u) (gI s.low v):=by rw[hlo u hum.1.1,if_pos rfl]
    have hy3:y∈x::B1.map Prod.fst\/y=v:=by
      simp only[List.map_append,List.mem_cons,List.mem_append,List.map_cons,List.map_nil] at hy ⊢
      rcases hy with r|r|r
      · exact .inl (.inl r)
      · exact .inl (.inr r)
      · exact .inr (r.resolve_right List.not_mem_nil)
    rw[hB]
    rcases hy3 with r|r
    · by_cases q:y=u
      · exact⟨u,hu,by rw[hlu,<-q];omega⟩
      · have:=(hd.se.pr y (by
          have:=hin2 y r
          rw[show(A0++[(u,U),(v,S)]).map Prod.fst=(A0++[(u,U)]).map Prod.fst++[v] by simp]
          exact List.mem_append_left _ this)).1.1
        exact⟨y,r,by rw[hlo y this,if_neg q];exact hy2⟩
    · exact⟨u,hu,by rw[hlu,<-r];omega⟩
  · rw[hlo x hxm.1.1]
    have:=hold.l2
    split
    · rename_i k;rw[<-k];omega
    · exact this
  · rw[hlo x hxm.1.1] at hlt ⊢
    by_cases k:x=u
    · rw[if_pos k] at hlt ⊢
      by_cases j:gI s.low u<=gI s.low v
      · rw[show min (gI s.low u) (gI s.low v)=gI s.low x by rw[k];omega] at hlt ⊢
        exact hold.l3 hlt
      · obtain⟨q,c1,c2,c3,c4⟩:=hvf.l3 (by omega)
        exact⟨q,c1,c2,by omega,by omega⟩
    · rw[if_neg k] at hlt ⊢
      exact hold.l3 hlt
end TL
/-
  TlCls6: a node left: its edges go to the one ahead, or are a block.
  By an AI agent.
-/
set_option linter.all false
namespace TL
variable{g:bw}{s:Bs}{fr:Fm}{path:List Int}{A B A0:Fm}{S U:List Int}{u v w e b h:Int}
theorem fA.ahead(hm:aV g)(hd:fA g s (A0++[(u,U),(v,S)])){k:Int}(hk:hf g k)(hlk:gI s.laid (k/2)=true)(h1:gI s.place v<=gI s.place (aq g k))(h2:gI s.place (b9 g k)<gI s.place v):b9 g k=u\/(b9 g k∈A0.map Prod.fst/\gI s.place (b9 g k)<gI s.place u):=by
  have hvf:=hd.fra (A0++[(u,U)]) v S [] (by simp)
  have huf:=hd.fra A0 u U [(v,S)] rfl
  obtain⟨t1,t2,t3,t4⟩:=cH (g:=g) hk
  have hp:b9 g k∈(A0++[(u,U),(v,S)]).map Prod.fst:=by
    by_cases c:b9 g k∈(A0++[(u,U),(v,S)]).map Prod.fst
    · exact c
    · have:=hvf.cross (dz k) t1 (by rw[t3];exact hd.lot hk hlk) (by rw[t3];exact c) (by rw[t3];exact h2)
      rw[t4] at this;omega
  simp only[List.map_append,List.map_cons,List.map_nil,List.mem_append,List.mem_cons] at hp
  rcases hp with c|c|c|c
  · refine .inr ⟨c,?_⟩
    obtain⟨p,hp,e⟩:=List.mem_map.1 c
    rw[<-e];exact huf.asc p hp
  · exact .inl c
  · rw[c] at h2;omega
  · exact absurd c List.not_mem_nil
theorem fA.offA(hm:aV g)(hd:fA g s (A0++[(u,U),(v,S)])){U2:List Int}{A B:Fm}{x:Int}{Sx:List Int}(he:A0++[(u,U2)]=A++(x,Sx)::B)
    (h2:(∀e∈U2,EqB g e (gI s.by_ u/2))/\(∀e∈U2,∃h,hf g h/\h/2=e/\gI s.place u<=gI s.place (aq g h))/\((A0=[]/\U2=[]/\gI s.by_ u= -1)\/(∃A' u' U' S',A0=A'++[(u',U')]/\U2=gI s.by_ u/2::S'/\aq g (gI s.by_ u)=u'/\0<=gI s.by_ u))):
    oZ g s.place (s.low.set u.toNat (min (gI s.low u) (gI s.low v))) s.by_ s.laid ((A0++[(u,U2)]).map Prod.fst) A x Sx B:=by
  have hmap:(A0++[(u,U2)]).map Prod.fst=(A0++[(u,U)]).map Prod.fst:=by simp
  rw[hmap]
  rcases fe he with⟨k1,k2,k3⟩|⟨B0,k1,k2⟩
  · obtain⟨rfl,rfl⟩:x=u/\Sx=U2:=by simpa using k2
    subst k1 k3
    exact oZ.off hm hd (B1:=[]) (Sx:=U) (hd.fra A x U [(v,S)] rfl) (by simp) (λy hy=>by
      have:y=x:=by simpa using hy
      rw[this];simp) (by simp) rfl h2.1 h2.2.1 h2.2.2
  · subst k2
    have hold:=hd.fra A x Sx (B0++[(u,U)]++[(v,S)]) (by rw[k1];simp)
    refine oZ.off hm hd (B1:=B0++[(u,U)]) hold (by rw[k1];simp) (λy hy=>?_) (by simp) (by simp) hold.eqb hold.end_ hold.own
    rw[k1]
    simp only[List.map_append,List.map_cons,List.map_nil,List.mem_append,List.mem_cons] at hy ⊢
    rcases hy with r|r|r
    · exact .inl (.inr (.inl r))
    · exact .inl (.inr (.inr r))
    · exact .inr r
theorem fA.off1(hm:aV g)(hd:fA g s (A0++[(u,U),(v,S)]))(hc:gI s.low v<gI s.place u)
    (hse:dH g {s with low:=s.low.set u.toNat (min (gI s.low u) (gI s.low v))} ((A0++[(u,U++S)]).map Prod.fst)):
    fA g {s with low:=s.low.set u.toNat (min (gI s.low u) (gI s.low v))} (A0++[(u,U++S)]):=by
  have hvf:=hd.fra (A0++[(u,U)]) v S [] (by simp)
  have huf:=hd.fra A0 u U [(v,S)] rfl
  have hum:=hd.mem (p:=(u,U)) (by simp)
  have huv:gI s.place u<gI s.place v:=hvf.asc (u,U) (by simp)
  -- an edge from behind to one ahead of u
  obtain⟨k,k1,k2,k3,k4⟩:=hvf.l3 (by omega)
  have hka:=(hd.ahead hm k1 k2 k3 (by omega)).resolve_left (λj=>by rw[j] at k4;omega)
  obtain⟨q,Q,A',S',ha1,ha2,ha3,ha4⟩:∃q Q A' S',A0=A'++[(q,Q)]/\U=gI s.by_ u/2::S'/\aq g (gI s.by_ u)=q/\0<=gI s.by_ u:=by
    rcases huf.own with⟨j,_⟩|⟨A',q,Q,S',a,b,c,d⟩
    · rw[j] at hka;exact absurd hka.1 List.not_mem_nil
    · exact⟨q,Q,A',S',a,b,c,d⟩
  obtain⟨hb0,hb1⟩:0<=gI s.by_ v/\aq g (gI s.by_ v)=u:=by
    rcases hvf.own with⟨j,_⟩|⟨A2,u2,U2,S2,a,_,c,d⟩
    · simp at j
    · have:=(List.append_inj' a rfl).2
      have:u=u2:=by have:=(List.cons.inj this).1;exact congrArg Prod.fst this
      exact⟨d,by rw[c,this]⟩
  have hbv:=hd.to (v,S) (by simp) hb0
  have hbu:=hd.to (u,U) (by simp) ha4
  have huA:u∉A0.map Prod.fst:=λj=>by
    obtain⟨p,hp,e⟩:=List.mem_map.1 j
    have:=huf.asc p hp
    rw[e] at this;omega
  have hqA:q∈A0.map Prod.fst:=by rw[ha1];simp
  have hrel:EqB g (gI s.by_ v/2) (gI s.by_ u/2):=by
    obtain⟨b1,b2,b3,b4⟩:=cH (g:=g) hbu.1
    refine .rel ⟨gI s.by_ v,dz (gI s.by_ u),hbv.1,b1,rfl,b2,?_,?_,?_,?_⟩
    · rw[hb1,b3,hbu.2]
    · rw[hbv.2,hb1];exact(jU huv).symm
    · rw[b4,b3,hbu.2,ha3];exact λj=>huA (by have j:q=u:=j;rw[<-j];exact hqA)
    · rw[hb1,hbv.2,b4,ha3]
      have w1:=(hvf.conn (aq g k) (bW hm k1).1 (bW hm k1).2 k3).mono (B:=λz=>z≠u) (λz hz j=>by rw[j] at hz;omega)
      have w2:=Wy.one (g:=g) (A:=λz=>z≠u) k1 w1.right (λj=>huA (by rw[<-j];exact hka.1))
      have w3:=(hd.wy (A:=A0) (B:=[(u,U),(v,S)]) rfl _ hka.1 _ hqA).mono (B:=λz=>z≠u) (λz hz j=>huA (by rw[<-j];exact hz))
      exact(w1.trans w2).trans w3
  refine⟨hse,?_,hd.inj,hd.lof,λA x Sx B he=>hd.offA hm he ⟨λy hy=>?_,λy hy=>?_,.inr ⟨A',q,Q,S'++S,ha1,by rw[ha2];rfl,ha3,ha4⟩⟩,hd.clr,hd.clb⟩
  · show s.edges=_
    rw[hd.stk];simp
  · rcases List.mem_append.1 hy with j|j
    · exact huf.eqb y j
    · exact(hvf.eqb y j).trans hrel
  · rcases List.mem_append.1 hy with j|j
    · exact huf.end_ y j
    · obtain⟨r,c1,c2,c3⟩:=hvf.end_ y j
      exact⟨r,c1,c2,by omega⟩
theorem fA.off2(hm:aV g)(hd:fA g s (A0++[(u,U),(v,S)]))(hu:kw g s ((A0++[(u,U)]).map Prod.fst))(hc:gI s.place u<=gI s.low v)
    (hse:dH g (dq {s with low:=s.low.set u.toNat (min (gI s.low u) (gI s.low v))} (gI s.by_ v/2)) ((A0++[(u,U)]).map Prod.fst)):
    fA g (dq {s with low:=s.low.set u.toNat (min (gI s.low u) (gI s.low v))} (gI s.by_ v/2)) (A0++[(u,U)]):=by
  have hvf:=hd.fra (A0++[(u,U)]) v S [] (by simp)
  have huf:=hd.fra A0 u U [(v,S)] rfl
  have huv:gI s.place u<gI s.place v:=hvf.asc (u,U) (by simp)
  obtain⟨S',hS,hb0,hb1⟩:∃S',S=gI s.by_ v/2::S'/\0<=gI s.by_ v/\aq g (gI s.by_ v)=u:=by
    rcases hvf.own with⟨j,_⟩|⟨A2,u2,U2,S2,a,b,c,d⟩
    · simp at j
    · have:=(List.append_inj' a rfl).2
      have:u=u2:=by have:=(List.cons.inj this).1;exact congrArg Prod.fst this
      exact⟨S2,b,d,by rw[c,this]⟩
  have hbv:=hd.to (v,S) (by simp) hb0
  have hpre:s.edges=((A0++[(u,U)]).map Prod.snd).flatten++gI s.by_ v/2::S':=by rw[hd.stk,<-hS];simp
  rw[lA (s:={s with low:=s.low.set u.toNat (min (gI s.low u) (gI s.low v))}) hpre hd.se.en] at hse ⊢
  have hpre':s.edges=((A0++[(u,U)]).map Prod.snd).flatten++S:=by rw[hpre,hS]
  have hvout:v∉(A0++[(u,U)]).map Prod.fst:=λj=>by
    obtain⟨p,hp,e⟩:=List.mem_map.1 j
    have:=hvf.asc p hp
    rw[e] at this;omega
  -- nodes behind v are done
  have hT:∀k,hf g k->gI s.place v<=gI s.place (aq g k)->gI s.laid (k/2)=true:=λk hk a=>by
    refine hu.all hm hk (λj=>?_) (λj=>?_)
    · have h9:=(hd.mem (p:=(v,S)) (by simp))
      have h3:0<=gI s.place v:=(hd.se.pl v h9.1.1 h9.1.2).1
      have h4:gI s.place v≠0:=h9.2
      omega
    · obtain⟨p,hp,e⟩:=List.mem_map.1 j
      have:=hvf.asc p hp
      rw[e] at this;omega
  have hcl:=pA (g:=g) (la:=s.laid) (ed:=s.edges) (bl:=s.block) (pre:=((A0++[(u,U)]).map Prod.snd).flatten) (P:=gI s.by_ v/2::S') (c:=s.count) hpre hd.se.en hd.se.el hd.se.l6 hd.se.ct hd.clr hd.clb (λhin hle=>.inr ⟨λz=>(0<=z/\z<g.1)/\gI s.place v<=gI s.place z,u,λk=>by have:=k.2;omega,λk hk ht=>?_,λx hx hb=>?_,λx y hx hy hbx hby=>?_⟩)
  · refine⟨hse,rfl,hd.inj,hd.lof,λA x Sx B he=>hd.offA hm he ⟨huf.eqb,huf.end_,huf.own⟩,hcl.1,hcl.2⟩
  · have hlk:=hT k hk ht.2
    have hclo:j8 g s.laid ((A0++[(u,U)]).map Prod.snd).flatten (k/2):=by
      refine⟨⟨eY hk,dI hk⟩,hlk,λj=>?_⟩
      obtain⟨l,hl,hkl⟩:=List.mem_flatten.1 j
      obtain⟨p,hp,rfl⟩:=List.mem_map.1 hl
      have:=hvf.low p hp _ hkl k hk rfl
      have:=ht.2
      omega
    refine⟨?_,hclo,hle _ hclo⟩
    by_cases c:gI s.place v<=gI s.place (b9 g k)
    · exact .inl ⟨dY hm hk,c⟩
    · by_cases d:k/2=gI s.by_ v/2
      · rcases e7 hk.1 hbv.1.1 d with r|r
        · rw[r,hbv.2] at c;exact absurd (Int.le_refl _) c
        · obtain⟨_,_,_,t4⟩:=cH (g:=g) hbv.1
          rw[r,t4];exact .inr hb1
      · obtain⟨y,hy,hy2⟩:=hvf.l1 k hk hlk ht.2 (by omega) d
        have:y=v:=by simpa using hy
        rw[this] at hy2
        rcases hd.ahead hm hk hlk ht.2 (by omega) with r|⟨_,r⟩
        · exact .inr r
        · omega
  · have:=hin x hx hb
    rw[<-hS] at this
    obtain⟨k,c1,c2,c3⟩:=hvf.end_ x this
    exact⟨k,c1,c2,bW hm c1,c3⟩
  · have h1:=hin x hx hbx
    have h2:=hin y hy hby
    rw[<-hS] at h1 h2
    exact(hvf.eqb x h1).trans (hvf.eqb y h2).symm
end TL
/-
  TlCls7: the walk as a whole.
  By an AI agent.
-/
set_option linter.all false
namespace TL
variable{g:bw}{s:Bs}{fr:Fm}{path:List Int}{A B A0:Fm}{S U:List Int}{u v w e b h:Int}
theorem rq(hne:fr≠[]):∃A0 v S,fr=A0++[(v,S)]/\gI (fr.map Prod.fst) (((fr.map Prod.fst).length:Int)-1)=v:=by
 refine⟨fr.dropLast,(fr.getLast hne).1,(fr.getLast hne).2,(List.dropLast_concat_getLast hne).symm,?_⟩
 have h1:fr=fr.dropLast++[fr.getLast hne]:=(List.dropLast_concat_getLast hne).symm
 generalize fr.dropLast=X at h1
 generalize fr.getLast hne=p at h1 ⊢
 subst h1
 have e1:(((X++[p]).map Prod.fst).length:Int)-1=((X.length:Nat):Int):=by simp
 rw[e1]
 simp[gI]
theorem mD:(di g s v).laid=s.laid:=by
 unfold di;split
 · rfl
 · simp only;split<;>rfl
theorem iW:(di g s v).place=s.place:=by
 unfold di;split
 · rfl
 · simp only;split<;>rfl
theorem kw.leave(h:kw g s (path++[v]))(hn:gI s.next v=((gI (ar g) v).length:Int)):kw g s path/\kw g (di g s v) path:=by
 have h1:kw g s path:=⟨h.use,λx x0 x1 hx hxp=>by
   by_cases c:x=v
   · rw[c];exact hn
   · exact h.exh x x0 x1 hx (λk=>(List.mem_append.1 k).elim hxp (λj=>c (List.mem_singleton.1 j)))⟩
 refine⟨h1,⟨λx x0 x1 j j0 j1=>?_,λx x0 x1 hx hxp=>?_⟩⟩
 · rw[mD];rw[i4] at j1;exact h1.use x x0 x1 j j0 j1
 · rw[i4];rw[iW] at hx;exact h1.exh x x0 x1 hx hxp
theorem kw.take{s':Bs}{path':List Int}(hu:kw g s path)(hse:dH g s path)(u0:0<=u)(u1:u<g.1)(hup:u∈path)(hh:gI (gI (ar g) u) (gI s.next u)=h)(hnx:s'.next=s.next.set u.toNat (gI s.next u+1))(hla:∀e,0<=e->e<(g.2.length:Int)->gI s.laid e=true->gI s'.laid e=true)(hlh:gI s'.laid (h/2)=true)(hin:∀x,0<=x->x<g.1->∀j:Int,0<=j->j<((gI (ar g) x).length:Int)->0<=gI (gI (ar g) x) j/2/\gI (gI (ar g) x) j/2<(g.2.length:Int))
    (hp:∀x∈path,x∈path')(hpl:∀x,0<=x->x<g.1->gI s'.place x≠0->gI s.place x≠0\/x∈path'):kw g s' path':=by
  have hl4:=hse.l4
  have hnn:∀x,0<=x->gI s'.next x=if x=u then gI s.next u+1 else gI s.next x:=λx a=>by rw[hnx];exact bT u0 (by omega) a
  refine⟨λx x0 x1 j j0 j1=>?_,λx x0 x1 hx hxp=>?_⟩
  · rw[hnn x x0] at j1
    have hold:∀x,0<=x->x<g.1->∀j:Int,0<=j->j<gI s.next x->gI s'.laid (gI (gI (ar g) x) j/2)=true:=λx x0 x1 j j0 j1=>by
      have:=hse.nx x x0 x1
      obtain⟨a,c⟩:=hin x x0 x1 j j0 (by omega)
      exact hla _ a c (hu.use x x0 x1 j j0 j1)
    by_cases c:x=u
    · rw[if_pos c] at j1
      by_cases d:j=gI s.next u
      · rw[c,d,hh];exact hlh
      · exact hold x x0 x1 j j0 (by rw[c];omega)
    · rw[if_neg c] at j1
      exact hold x x0 x1 j j0 j1
  · rcases hpl x x0 x1 hx with k|k
    · have hne:x≠u:=λj=>hxp (hp x (by rw[j];exact hup))
      rw[hnn x x0,if_neg hne]
      exact hu.exh x x0 x1 k (λj=>hxp (hp x j))
    · exact absurd k hxp
theorem ik{x j:Int}(x0:0<=x)(x1:x<g.1)(j0:0<=j)(j1:j<((gI (ar g) x).length:Int)):hf g (gI (gI (ar g) x) j)/\aq g (gI (gI (ar g) x) j)=x:=by
 have hin:gI (gI (ar g) x) j∈gI (ar g) x:=bP j0 j1
 rw[dP x0 x1] at hin ⊢
 exact cW hin
theorem s6(hm:aV g)(hd:fA g s fr)(hu:kw g s (fr.map Prod.fst))(hne:fr≠[])(hv:v=gI (fr.map Prod.fst) (((fr.map Prod.fst).length:Int)-1)):
   ∃fr',fr'.map Prod.fst=(d8 g s (fr.map Prod.fst) v).2/\fA g (d8 g s (fr.map Prod.fst) v).1 fr'/\kw g (d8 g s (fr.map Prod.fst) v).1 (d8 g s (fr.map Prod.fst) v).2:=by
 have hpne:fr.map Prod.fst≠[]:=λk=>hne (List.map_eq_nil_iff.1 k)
 have hse:=hd.se.step hm hpne hv
 obtain⟨A0,v',S,rfl,hv'⟩:=rq hne
 have:v'=v:=by rw[hv];exact hv'.symm
 subst this
 clear hv hv'
 have hvm:(0<=v'/\v'<g.1)/\gI s.place v'≠0:=hd.mem (p:=(v',S)) (by simp)
 have hmap:(A0++[(v',S)]).map Prod.fst=A0.map Prod.fst++[v']:=by simp
 have hl2:=hd.se.l2
 have hl5:=hd.se.l5
 have hlast:=hd.fra A0 v' S [] rfl
 by_cases hn:gI s.next v'=((gI (ar g) v').length:Int)
 · -- left
   have hst:d8 g s ((A0++[(v',S)]).map Prod.fst) v'=(di g s v',A0.map Prod.fst):=by
     unfold d8;rw[if_pos hn,hmap,List.dropLast_concat]
   rw[hst] at hse ⊢
   rw[hmap] at hu
   obtain⟨hu1,hu2⟩:=hu.leave hn
   by_cases hb:gI s.by_ v'<0
   · have hlv:di g s v'=s:=by unfold di;rw[if_pos hb]
     rcases hlast.own with⟨k1,k2,_⟩|⟨A',q,Q,S',_,_,_,k4⟩
     · subst k1 k2
       rw[hlv] at hse ⊢
       exact⟨[],rfl,hd.off0 hse,by rw[hlv] at hu2;exact hu2⟩
     · omega
   · obtain⟨A',q,Q,S',k1,k2,k3,k4⟩:=hlast.own.resolve_left (λk=>by omega)
     subst k1
     have hq:=hd.mem (p:=(q,Q)) (by simp)
     have hqv:gI s.place q<gI s.place v':=hlast.asc (q,Q) (by simp)
     have hqn:v'≠q:=(jU hqv).symm
     have hlow:gI (s.low.set q.toNat (min (gI s.low q) (gI s.low v'))) v'=gI s.low v':=by
       rw[bT hq.1.1 (by omega) hvm.1.1,if_neg hqn]
     have hd':fA g s (A'++[(q,Q),(v',S)]):=by simpa using hd
     have hm2:(A'++[(q,Q)]).map Prod.fst=A'.map Prod.fst++[q]:=by simp
     by_cases hc:gI s.place q<=gI s.low v'
     · have hlv:di g s v'=dq {s with low:=s.low.set q.toNat (min (gI s.low q) (gI s.low v'))} (gI s.by_ v'/2):=by
         unfold di;rw[if_neg hb];simp only[k3];rw[if_pos (by rw[hlow];exact hc)]
       rw[hlv] at hse hu2 ⊢
       exact⟨A'++[(q,Q)],rfl,hd'.off2 hm hu1 hc hse,hu2⟩
     · have hlv:di g s v'={s with low:=s.low.set q.toNat (min (gI s.low q) (gI s.low v'))}:=by
         unfold di;rw[if_neg hb];simp only[k3];rw[if_neg (by rw[hlow];exact hc)]
       rw[hlv] at hse hu2 ⊢
       refine⟨A'++[(q,Q++S)],by simp,hd'.off1 hm (by omega) (by rw[show(A'++[(q,Q++S)]).map Prod.fst=(A'++[(q,Q)]).map Prod.fst by simp];exact hse),hu2⟩
 · -- a half-edge more
   obtain⟨n0,n1⟩:=hd.se.nx v' hvm.1.1 hvm.1.2
   have n1':gI s.next v'<=((gI (ar g) v').length:Int):=n1
   obtain⟨hh,hfv⟩:=ik hvm.1.1 hvm.1.2 n0 (by omega)
   generalize hhe:gI (gI (ar g) v') (gI s.next v')=h at hh hfv
   have hd1:=hd.nexts hvm.1.1 hvm.1.2 hn
   have e0:=eY hh
   have e1:=dI hh
   have hvp:v'∈(A0++[(v',S)]).map Prod.fst:=by simp
   have hin:∀x,0<=x->x<g.1->∀j:Int,0<=j->j<((gI (ar g) x).length:Int)->0<=gI (gI (ar g) x) j/2/\gI (gI (ar g) x) j/2<(g.2.length:Int):=λx x0 x1 j j0 j1=>⟨eY (ik x0 x1 j0 j1).1,dI (ik x0 x1 j0 j1).1⟩
   have hlam:∀e,0<=e->e<(g.2.length:Int)->gI s.laid e=true->gI (s.laid.set (h/2).toNat true) e=true:=λe a c d=>by
     rw[dm e0 (by omega) a];split
     · rfl
     · exact d
   have hlah:gI (s.laid.set (h/2).toNat true) (h/2)=true:=by rw[dm e0 (by omega) e0,if_pos rfl]
   have hst:d8 g s ((A0++[(v',S)]).map Prod.fst) v'=((dB g {s with next:=s.next.set v'.toNat (gI s.next v'+1)} v' h).1,if(dB g {s with next:=s.next.set v'.toNat (gI s.next v'+1)} v' h).2.2=true then(A0++[(v',S)]).map Prod.fst++[(dB g {s with next:=s.next.set v'.toNat (gI s.next v'+1)} v' h).2.1] else(A0++[(v',S)]).map Prod.fst):=by
     unfold d8;rw[if_neg hn,hhe]
   by_cases hl:gI s.laid (h/2)=true
   · have ht:dB g {s with next:=s.next.set v'.toNat (gI s.next v'+1)} v' h=({s with next:=s.next.set v'.toNat (gI s.next v'+1)},0,false):=by unfold dB;rw[if_pos hl]
     rw[hst,ht]
     exact⟨_,rfl,hd1,hu.take hd.se hvm.1.1 hvm.1.2 hvp hhe rfl (λe _ _ d=>d) hl hin (λx hx=>hx) (λx _ _ k=>.inl k)⟩
   · by_cases hw:b9 g h=v'
     · have ht:dB g {s with next:=s.next.set v'.toNat (gI s.next v'+1)} v' h=(dq (gc {s with next:=s.next.set v'.toNat (gI s.next v'+1)} (h/2)) (h/2),0,false):=by unfold dB;rw[if_neg hl,if_pos hw]
       rw[hst,ht] at hse ⊢
       exact⟨_,rfl,hd1.loop hm hh hl (by rw[hfv];exact hvm.2) (by rw[hw,hfv]) hse,hu.take hd.se hvm.1.1 hvm.1.2 hvp hhe rfl hlam hlah hin (λx hx=>hx) (λx _ _ k=>.inl k)⟩
     · by_cases hp:gI s.place (b9 g h)=0
       · have ht:dB g {s with next:=s.next.set v'.toNat (gI s.next v'+1)} v' h=(fh {gc {s with next:=s.next.set v'.toNat (gI s.next v'+1)} (h/2) with by_:=s.by_.set (b9 g h).toNat h} (b9 g h),b9 g h,true):=by unfold dB;rw[if_neg hl,if_neg hw,if_pos hp]
         rw[hst,ht] at hse ⊢
         have hse':dH g (fh {gc {s with next:=s.next.set v'.toNat (gI s.next v'+1)} (h/2) with by_:=s.by_.set (b9 g h).toNat h} (b9 g h)) ((A0++[(v',S)]++[(b9 g h,[h/2])]).map Prod.fst):=by
           rw[List.map_append];exact hse
         refine⟨A0++[(v',S)]++[(b9 g h,[h/2])],by rw[List.map_append];rfl,?_,?_⟩
         · exact hd1.new hm (λk hk a c=>hu.all hm hk a c) hh hfv hl hp hse'
         · obtain⟨w0,w1⟩:=dY hm hh
           have hl1:=hd.se.l1
           refine hu.take hd.se hvm.1.1 hvm.1.2 hvp hhe rfl hlam hlah hin (λx hx=>List.mem_append_left _ hx) (λx x0 x1 k=>?_)
           by_cases c:x=b9 g h
           · exact .inr (by rw[c];simp)
           · have k:gI (s.place.set (b9 g h).toNat (s.found+1)) x≠0:=k
             rw[bT w0 (by omega) x0,if_neg c] at k
             exact .inl k
       · have ht:dB g {s with next:=s.next.set v'.toNat (gI s.next v'+1)} v' h=({gc {s with next:=s.next.set v'.toNat (gI s.next v'+1)} (h/2) with low:=s.low.set v'.toNat (min (gI s.low v') (gI s.place (b9 g h)))},0,false):=by unfold dB;rw[if_neg hl,if_neg hw,if_neg hp]
         rw[hst,ht] at hse ⊢
         have hse':dH g {gc {s with next:=s.next.set v'.toNat (gI s.next v'+1)} (h/2) with low:=s.low.set v'.toNat (min (gI s.low v') (gI s.place (b9 g h)))} ((A0++[(v',S++[h/2])]).map Prod.fst):=by
           rw[show(A0++[(v',S++[h/2])]).map Prod.fst=(A0++[(v',S)]).map Prod.fst by simp];exact hse
         refine⟨A0++[(v',S++[h/2])],by simp,?_,?_⟩
         · exact hd1.back hm (λk hk a c=>hu.all hm hk a c) hh hfv hl hw hp hse'
         · exact hu.take hd.se hvm.1.1 hvm.1.2 hvp hhe rfl hlam hlah hin (λx hx=>hx) (λx _ _ k=>.inl k)
end TL
/-
  TlCls8: what the blocks of a net are: edges are in one block just if a chain of edges joins them, each two at a node whose other ends are joined without it.
  By an AI agent.
-/
set_option linter.all false
namespace TL
variable{g:bw}{s:Bs}{fr:Fm}{path:List Int}{u v w e f b h x:Int}
theorem mN(hx:gI s.place x≠0)(hs:dH g s path)(x0:0<=x)(hm:aV g)(hp:path≠[])(hu:u=gI path ((path.length:Int)-1)):gI (d8 g s path u).1.place x≠0:=by
 unfold d8
 split
 · rw[iW];exact hx
 · rename_i hn
   simp only
   unfold dB
   split
   · exact hx
   · split
     · exact hx
     · split
       · rename_i c
         have hup:=hs.pr u (by rw[hu,gR hp];simp[gI])
         obtain⟨n0,n1⟩:=hs.nx u hup.1.1 hup.1.2
         have n1':gI s.next u<=((gI (ar g) u).length:Int):=n1
         obtain⟨hh,_⟩:=ik hup.1.1 hup.1.2 n0 (by omega)
         obtain⟨w0,w1⟩:=dY hm hh
         have hl:=hs.l1
         have hf:=hs.f0
         show gI (s.place.set _ (s.found+1)) x≠0
         rw[bT w0 (by omega) x0]
         split
         · omega
         · exact hx
       · exact hx
theorem sK(hm:aV g):∀(n:Nat) (s:Bs) (fr:Fm),fA g s fr->kw g s (fr.map Prod.fst)->bA g s (fr.map Prod.fst)<=n->
   fA g (pa g n s (fr.map Prod.fst)) []/\kw g (pa g n s (fr.map Prod.fst)) []/\∀x,0<=x->gI s.place x≠0->gI (pa g n s (fr.map Prod.fst)).place x≠0
 |0,s,fr,hd,hu,hl=>by
   have:fr.map Prod.fst=[]:=List.length_eq_zero_iff.1 (by unfold bA at hl;omega)
   have:fr=[]:=List.map_eq_nil_iff.1 this
   subst this
   exact⟨hd,hu,λx _ h=>h⟩
 |n+1,s,fr,hd,hu,hl=>by
   by_cases c:fr=[]
   · subst c
     unfold pa
     exact⟨hd,hu,λx _ h=>h⟩
   · have hp:fr.map Prod.fst≠[]:=λk=>c (List.map_eq_nil_iff.1 k)
     obtain⟨fr',h1,h2,h3⟩:=s6 hm hd hu c rfl
     have hless:=iT hd.se hp rfl
     unfold pa
     rw[if_neg hp,<-h1]
     rw[<-h1] at h3 hless
     obtain⟨a1,a2,a3⟩:=sK hm n _ fr' h2 h3 (by omega)
     exact⟨a1,a2,λx x0 hx=>a3 x x0 (mN hx hd.se x0 hm hp rfl)⟩
theorem kw.begin_(hu:kw g s [])(hse:dH g s [])(v0:0<=v)(v1:v<g.1):kw g (fh s v) [v]:=by
 have hl:=hse.l1
 refine⟨hu.use,λx x0 x1 hx hxp=>?_⟩
 have hx:gI (s.place.set v.toNat (s.found+1)) x≠0:=hx
 have hne:x≠v:=λk=>hxp (by rw[k];simp)
 rw[bT v0 (by omega) x0,if_neg hne] at hx
 exact hu.exh x x0 x1 hx (by simp)
theorem nt(hm:aV g):∀k:Nat,(k:Int)<=g.1->fA g (cO g k) []/\kw g (cO g k) []/\∀v:Int,0<=v->v<k->gI (cO g k).place v≠0
 |0,hk=>by
   have h0:=hm.1
   have r0:∀{x:Int} {v:Int},0<=v->v<g.1->gI (List.replicate g.1.toNat x) v=x:=λa b=>lE a (by omega)
   have rb:∀{v:Int},0<=v->v<(g.2.length:Int)->gI (List.replicate g.2.length false) v=false:=λ {v} a b=>by
     obtain⟨k,rfl⟩:∃k:Nat,v=(k:Int):=⟨v.toNat,by omega⟩
     have:k<g.2.length:=by omega
     simp[gI,this]
   have hse:dH g (fH g) []:=dH.start hm
   refine⟨⟨hse,rfl,λx y x0 x1 y0 y1 hx _=>absurd (r0 x0 x1) hx,λk hk hl=>?_,λA v S B he=>?_,λe he=>?_,λb b0 b1=>?_⟩,⟨λx x0 x1 j j0 j1=>?_,λx x0 x1 hx _=>absurd (r0 x0 x1) hx⟩,λv v0 v1=>by omega⟩
   · have hl:gI (List.replicate g.2.length false) (k/2)=true:=hl
     rw[rb (eY hk) (dI hk)] at hl;cases hl
   · simp at he
   · have hl:gI (List.replicate g.2.length false) e=true:=he.2.1
     rw[rb he.1.1 he.1.2] at hl;cases hl
   · have b1:b<0:=b1
     omega
   · have j1:j<gI (List.replicate g.1.toNat (0:Int)) x:=j1
     rw[r0 x0 x1] at j1;omega
 |k+1,hk=>by
   obtain⟨h1,h2,h3⟩:=nt hm k (by omega)
   rw[gJ]
   by_cases c:gI (cO g k).place (k:Int)=0
   · rw[if_pos c]
     have hse:=h1.se.first (v:=(k:Int)) (by omega) (by omega) c
     have hd:=h1.begin_ hm h2 (by omega) (by omega) c hse
     have hu:=h2.begin_ (v:=(k:Int)) h1.se (by omega) (by omega)
     obtain⟨a1,a2,a3⟩:=sK hm _ (fh (cO g k) k) [((k:Int),[])] hd hu (Nat.le_refl _)
     refine⟨a1,a2,λv v0 v1=>a3 v v0 ?_⟩
     have hl:=h1.se.l1
     have hf:=h1.se.f0
     show gI ((cO g k).place.set _ ((cO g k).found+1)) v≠0
     rw[bT (by omega) (by omega) v0]
     split
     · omega
     · exact h3 v v0 (by omega)
   · rw[if_neg c]
     refine⟨h1,h2,λv v0 v1=>?_⟩
     by_cases d:v=(k:Int)
     · rw[d];exact c
     · exact h3 v v0 (by omega)
theorem kZ(hm:aV g)(e0:0<=e)(e1:e<(g.2.length:Int)):j8 g (cO g g.1.toNat).laid (cO g g.1.toNat).edges e:=by
  have h0:=hm.1
  obtain⟨h1,h2,h3⟩:=nt hm g.1.toNat (by omega)
  have hed:(cO g g.1.toNat).edges=[]:=h1.stk
  refine⟨⟨e0,e1⟩,?_,by rw[hed];simp⟩
  have hh:hf g (2*e):=⟨by omega,by omega⟩
  obtain⟨f0,f1⟩:=bW hm hh
  have:=h2.all hm hh (h3 _ f0 (by omega)) (by simp)
  rwa[show 2*e/2=e by omega] at this
def jz(g:bw)(e:Int):Int:=gI (cO g g.1.toNat).block e
theorem oC{k:Int}(hk:hf g k)(he:k/2=e)(hl:(gI g.2 e).1=(gI g.2 e).2):b9 g k=aq g k:=by
 unfold b9 aq
 rw[he]
 have h2:k%2=0\/k%2=1:=by omega
 rcases h2 with q|q
 · rw[q];exact hl.symm
 · rw[q];exact hl
theorem qq(hm:aV g)(hr:kS g e f):jz g f<=jz g e:=by
 have h0:=hm.1
 obtain⟨h,k,hh,hk,he,hkf,hx,hne,hnk,hw⟩:=hr
 obtain⟨h1,h2,h3⟩:=nt hm g.1.toNat (by omega)
 have hce:=kZ hm (e:=e) (by rw[<-he];exact eY hh) (by rw[<-he];exact dI hh)
 obtain⟨c0,c1⟩:=h1.clr e hce
 rcases h1.clb _ c0 c1 with⟨e0,l1,l2⟩|⟨T,u,t1,t2,t3,t4⟩
 · have:=l2 e hce rfl
   rw[<-this] at l1
   exact absurd (oC hh he l1) hne
 · obtain⟨h',q1,q2,q3⟩:=t3 e hce rfl
   by_cases c:T (aq g h)
   · have:=(t2 k hk (by rw[<-hx];exact c)).2.2
     rw[hkf] at this;exact this
   · obtain⟨a1,a2,a3,a4⟩:=cH (g:=g) hh
     have hq:h'=dz h:=by
       rcases e7 q1.1 hh.1 (by rw[q2,he]) with r|r
       · rw[r] at q3;exact absurd q3 c
       · exact r
     rw[hq,a3] at q3
     have hxu:aq g h=u:=by
       have:=(t2 (dz h) a1 (by rw[a3];exact q3)).1
       rw[a4] at this
       exact this.resolve_left c
     have key:∀y,Wy g (λz=>z≠aq g h) (b9 g h) y->T y:=by
       intro y hy
       generalize hz:b9 g h=z0 at hy q3
       clear hw
       induction hy with
       |refl _=>exact q3
       |step p1 p2 p3 ih=>
         have:=(t2 _ p2 ih).1
         exact this.resolve_right (λr=>p3 (by rw[hxu];exact r))
     obtain⟨b1,b2,b3,b4⟩:=cH (g:=g) hk
     have:=(t2 (dz k) b1 (by rw[b3];exact key _ hw)).2.2
     rw[b2,hkf] at this;exact this
theorem kS.symm(hr:kS g e f):kS g f e:=by
 obtain⟨h,k,hh,hk,he,hkf,hx,hne,hnk,hw⟩:=hr
 exact⟨k,h,hk,hh,hkf,he,hx.symm,hnk,hne,by rw[<-hx];exact hw.symm⟩
theorem qR(hm:aV g)(hr:kS g e f):jz g e=jz g f:=Int.le_antisymm (qq hm hr.symm) (qq hm hr)
theorem rK(hm:aV g)(hr:EqB g e f):jz g e=jz g f:=by
 induction hr with
 |refl=>rfl
 |rel h=>exact qR hm h
 |symm _ ih=>exact ih.symm
 |trans _ _ i1 i2=>exact i1.trans i2
theorem qK(hm:aV g)(e0:0<=e)(e1:e<(g.2.length:Int))(f0:0<=f)(f1:f<(g.2.length:Int))(h:jz g e=jz g f):EqB g e f:=by
  have h0:=hm.1
  obtain⟨h1,h2,h3⟩:=nt hm g.1.toNat (by omega)
  have hce:=kZ hm e0 e1
  have hcf:=kZ hm f0 f1
  obtain⟨c0,c1⟩:=h1.clr e hce
  rcases h1.clb _ c0 c1 with⟨q,_,l2⟩|⟨T,u,t1,t2,t3,t4⟩
  · rw[l2 e hce rfl,l2 f hcf h.symm];exact .refl _
  · exact t4 e f hce hcf rfl h.symm
end TL
/-
  TlJoin: an edge more within a component: what becomes of blocks.
  By an AI agent.
-/
set_option linter.all false
namespace TL
variable{g:bw}{u v w x y z h k e f:Int}{A B:Int->Prop}
def eW(g:bw)(u v:Int):bw:=(g.1,g.2++[(u,v)])
theorem iv:((eW g u v).2.length:Int)=(g.2.length:Int)+1:=by simp[eW]
theorem jN{α:Type}[Inhabited α]{l:List α}{a:α}{i:Int}(h1:i<(l.length:Int))(h0:0<=i):gI (l++[a]) i=gI l i:=by
 have h:i.toNat<l.length:=by omega
 simp[gI,List.getElem?_append_left h]
theorem jI{α:Type}[Inhabited α]{l:List α}{a:α}:gI (l++[a]) (l.length:Int)=a:=by simp[gI]
theorem qC(hk:hf g k):hf (eW g u v) k/\aq (eW g u v) k=aq g k/\b9 (eW g u v) k=b9 g k:=by
 have h2:=hk.2
 have h1:=hk.1
 have e:gI (eW g u v).2 (k/2)=gI g.2 (k/2):=jN (by omega) (by omega)
 refine⟨⟨h1,by rw[iv];omega⟩,?_,?_⟩
 · unfold aq;rw[e]
 · unfold b9;rw[e]
theorem oW:hf (eW g u v) (2*(g.2.length:Int))/\aq (eW g u v) (2*(g.2.length:Int))=u/\b9 (eW g u v) (2*(g.2.length:Int))=v:=by
 have e:gI (eW g u v).2 (2*(g.2.length:Int)/2)=(u,v):=by
   rw[show 2*(g.2.length:Int)/2=(g.2.length:Int) by omega];exact jI
 refine⟨⟨by omega,by rw[iv];omega⟩,?_,?_⟩
 · unfold aq;rw[e,show 2*(g.2.length:Int)%2=0 by omega];rfl
 · unfold b9;rw[e,show 2*(g.2.length:Int)%2=0 by omega];rfl
theorem ow:hf (eW g u v) (2*(g.2.length:Int)+1)/\aq (eW g u v) (2*(g.2.length:Int)+1)=v/\b9 (eW g u v) (2*(g.2.length:Int)+1)=u:=by
 have e:gI (eW g u v).2 ((2*(g.2.length:Int)+1)/2)=(u,v):=by
   rw[show(2*(g.2.length:Int)+1)/2=(g.2.length:Int) by omega];exact jI
 refine⟨⟨by omega,by rw[iv];omega⟩,?_,?_⟩
 · unfold aq;rw[e,show(2*(g.2.length:Int)+1)%2=1 by omega];rfl
 · unfold b9;rw[e,show(2*(g.2.length:Int)+1)%2=1 by omega];rfl
theorem n4(hk:hf (eW g u v) k):hf g k\/k=2*(g.2.length:Int)\/k=2*(g.2.length:Int)+1:=by
 have h1:=hk.1
 have h2:=hk.2
 rw[iv] at h2
 by_cases c:k<2*(g.2.length:Int)
 · exact .inl ⟨h1,c⟩
 · right;omega
theorem Wy.split(hw:Wy (eW g u v) A x y):Wy g A x y\/(A u/\A v/\((Wy g A x u/\Wy g A v y)\/(Wy g A x v/\Wy g A u y))):=by
  induction hw with
  |refl a=>exact .inl (.refl a)
  |step p q r ih=>
    rename_i k
    rcases n4 q with c|c|c
    · obtain⟨_,b1,b2⟩:=qC (u:=u) (v:=v) c
      rw[b1] at ih
      rw[b2] at r ⊢
      rcases ih with d|⟨a1,a2,d|d⟩
      · exact .inl (.step d c r)
      · exact .inr ⟨a1,a2,.inl ⟨d.1,.step d.2 c r⟩⟩
      · exact .inr ⟨a1,a2,.inr ⟨d.1,.step d.2 c r⟩⟩
    · obtain⟨_,b1,b2⟩:=oW (g:=g) (u:=u) (v:=v)
      subst c
      rw[b1] at ih
      rw[b2] at r ⊢
      rcases ih with d|⟨a1,a2,d|d⟩
      · exact .inr ⟨d.right,r,.inl ⟨d,.refl r⟩⟩
      · exact .inl (d.1.trans d.2.symm)
      · exact .inl d.1
    · obtain⟨_,b1,b2⟩:=ow (g:=g) (u:=u) (v:=v)
      subst c
      rw[b1] at ih
      rw[b2] at r ⊢
      rcases ih with d|⟨a1,a2,d|d⟩
      · exact .inr ⟨r,d.right,.inr ⟨d,.refl r⟩⟩
      · exact .inl d.1
      · exact .inl (d.1.trans d.2.symm)
end TL
/-
  TlJoin3: numbers of blocks; the law on an edge more.
  By an AI agent.
-/
set_option linter.all false
namespace TL
variable{g:bw}{u v w s x e f i k:Int}{by_ far:List Int}{O:Int->Prop}
theorem iw(l:List Int):∀n (i:Nat),i<n->gI (aB l n).2 (i:Int)=((aB l n).1.idxOf (gI l (i:Int)):Int)/\gI l (i:Int)∈(aB l n).1
 |0,i,h=>by omega
 |n+1,i,h=>by
   have hl:=(gP l n).1
   unfold aB
   simp only
   by_cases c:i=n
   · subst c
     refine⟨?_,?_⟩
     · have:gI ((aB l i).2++[((List.idxOf (gI l (i:Int)) (if gI l (i:Int)∈(aB l i).1 then(aB l i).1 else(aB l i).1++[gI l (i:Int)]):Nat):Int)]) (i:Int)=((List.idxOf (gI l (i:Int)) (if gI l (i:Int)∈(aB l i).1 then(aB l i).1 else(aB l i).1++[gI l (i:Int)]):Nat):Int):=by
         have h2:=jI (l:=(aB l i).2) (a:=((List.idxOf (gI l (i:Int)) (if gI l (i:Int)∈(aB l i).1 then(aB l i).1 else(aB l i).1++[gI l (i:Int)]):Nat):Int))
         rwa[hl] at h2
       exact this
     · split
       · assumption
       · simp
   · obtain⟨h1,h2⟩:=iw l n i (by omega)
     have h3:gI ((aB l n).2++[((List.idxOf (gI l (n:Int)) (if gI l (n:Int)∈(aB l n).1 then(aB l n).1 else(aB l n).1++[gI l (n:Int)]):Nat):Int)]) (i:Int)=gI (aB l n).2 (i:Int):=jN (by omega) (by omega)
     rw[h3,h1]
     split
     · exact⟨rfl,h2⟩
     · refine⟨?_,List.mem_append_left _ h2⟩
       rw[List.idxOf_append,if_pos h2]
theorem r6(e0:0<=e)(e1:e<(g.2.length:Int))(f0:0<=f)(f1:f<(g.2.length:Int)):gI (dl g) e=gI (dl g) f↔jz g e=jz g f:=by
  obtain⟨a,rfl⟩:∃a:Nat,e=(a:Int):=⟨e.toNat,by omega⟩
  obtain⟨b,rfl⟩:∃b:Nat,f=(b:Int):=⟨f.toNat,by omega⟩
  obtain⟨h1,h2⟩:=iw (cO g g.1.toNat).block g.2.length a (by omega)
  obtain⟨h3,h4⟩:=iw (cO g g.1.toNat).block g.2.length b (by omega)
  unfold dl jz
  rw[h1,h3]
  constructor
  · intro h
    have h:List.idxOf (gI (cO g g.1.toNat).block (a:Int)) (aB (cO g g.1.toNat).block g.2.length).1=List.idxOf (gI (cO g g.1.toNat).block (b:Int)) (aB (cO g g.1.toNat).block g.2.length).1:=by omega
    have k1:=List.getElem_idxOf (List.idxOf_lt_length_of_mem h2)
    have k2:=List.getElem_idxOf (List.idxOf_lt_length_of_mem h4)
    rw[<-k1,<-k2]
    simp only[h]
  · intro h;rw[h]
theorem iB(hm:aV g)(e0:0<=e)(e1:e<(g.2.length:Int))(f0:0<=f)(f1:f<(g.2.length:Int)):gI (dl g) e=gI (dl g) f↔EqB g e f:=by
  rw[r6 e0 e1 f0 f1]
  exact⟨qK hm e0 e1 f0 f1,rK hm⟩
end TL
/-
  TlKap: edges of one block, a node taken out: what is left of them stays joined.
  By an AI agent.
-/
set_option linter.all false
namespace TL
variable{g:bw}{e f x y z:Int}
def iL(g:bw)(e y:Int):Prop:=∃h,hf g h/\h/2=e/\b9 g h=y
theorem kP{h k:Int}(hh:hf g h)(hk:hf g k)(he:h/2=k/2):b9 g k=b9 g h\/b9 g k=aq g h:=by
 rcases e7 hk.1 hh.1 he.symm with q|q
 · exact .inl (by rw[q])
 · obtain⟨_,_,_,t4⟩:=cH (g:=g) hh
   exact .inr (by rw[q,t4])
theorem iz(hy:iL g e y)(hz:iL g e z)(hyx:y≠x)(hzx:z≠x):Wy g (λw=>w≠x) y z:=by
 obtain⟨h,h1,h2,h3⟩:=hy
 obtain⟨k,k1,k2,k3⟩:=hz
 rcases kP h1 k1 (by rw[h2,k2]) with q|q
 · rw[<-k3,q,h3];exact .refl hyx
 · rw[k3] at q
   have:=Wy.one (g:=g) (A:=λw=>w≠x) h1 (by rw[<-q];exact hzx) (by rw[h3];exact hyx)
   rw[<-q,h3] at this
   exact this.symm
def oz(g:bw)(e:Int):Prop:=∃h,hf g h/\h/2=e/\b9 g h≠aq g h
theorem oz.end_(h:oz g e)(x:Int):∃y,iL g e y/\y≠x:=by
 obtain⟨k,k1,k2,k3⟩:=h
 obtain⟨t1,t2,t3,t4⟩:=cH (g:=g) k1
 by_cases c:b9 g k=x
 · exact⟨aq g k,⟨dz k,t1,by rw[t2,k2],t4⟩,λj=>k3 (by rw[c,j])⟩
 · exact⟨b9 g k,⟨k,k1,k2,rfl⟩,c⟩
theorem ni(h:kS g e f):oz g e/\oz g f:=by
 obtain⟨h,k,hh,hk,he,hkf,hx,hne,hnk,hw⟩:=h
 exact⟨⟨h,hh,he,hne⟩,⟨k,hk,hkf,hnk⟩⟩
theorem qP(hr:kS g e f)(hy:iL g e y)(hz:iL g f z)(hyx:y≠x)(hzx:z≠x):Wy g (λw=>w≠x) y z:=by
 obtain⟨h,k,hh,hk,he,hkf,hx,hne,hnk,hw⟩:=hr
 obtain⟨t1,t2,t3,t4⟩:=cH (g:=g) hh
 obtain⟨s1,s2,s3,s4⟩:=cH (g:=g) hk
 by_cases c:aq g h=x
 · have ey:y=b9 g h:=by
     obtain⟨q,q1,q2,q3⟩:=hy
     rcases kP hh q1 (by rw[he,q2]) with r|r
     · rw[<-q3,r]
     · exact absurd (by rw[<-q3,r,c]) hyx
   have ez:z=b9 g k:=by
     obtain⟨q,q1,q2,q3⟩:=hz
     rcases kP hk q1 (by rw[hkf,q2]) with r|r
     · rw[<-q3,r]
     · exact absurd (by rw[<-q3,r,<-hx,c]) hzx
   rw[ey,ez,<-c];exact hw
 · have e1:iL g e (aq g h):=⟨dz h,t1,by rw[t2,he],t4⟩
   have e2:iL g f (aq g h):=⟨dz k,s1,by rw[s2,hkf],by rw[s4,hx]⟩
   exact(iz hy e1 hyx c).trans (iz e2 hz c hzx)
theorem jx(hr:EqB g e f):e=f\/(oz g e/\oz g f/\∀x y z,iL g e y->iL g f z->y≠x->z≠x->Wy g (λw=>w≠x) y z):=by
  induction hr with
  |refl=>exact .inl rfl
  |rel h=>exact .inr ⟨(ni h).1,(ni h).2,λx y z a b c d=>qP h a b c d⟩
  |symm _ ih=>
    rcases ih with a|⟨a,b,c⟩
    · exact .inl a.symm
    · exact .inr ⟨b,a,λx y z p q r s=>(c x z y q p s r).symm⟩
  |trans _ _ i1 i2=>
    rcases i1 with a|⟨a,b,c⟩
    · rw[a];exact i2
    · rcases i2 with d|⟨d,k,q⟩
      · rw[<-d];exact .inr ⟨a,b,c⟩
      · refine .inr ⟨a,k,λx y z p r s t=>?_⟩
        obtain⟨w,w1,w2⟩:=b.end_ x
        exact(c x y w p w1 s w2).trans (q x w z w1 r w2 t)
end TL
/-
  TlDocB: blocks, as the document makes them: edges joined at each node by what is joined without it.
  By an AI agent.
-/
set_option linter.all false
namespace TL
variable{g:bw}{of of0 of2 fi c L M:List Int}{a b v h k' i j x y z:Int}{k m:Nat}
def fx(g:bw)(v:Int):List Bool:=(List.replicate g.1.toNat false).set v.toNat true
theorem jw(hm:aV g)(v0:0<=v)(v1:v<g.1)(x0:0<=x):gI (fx g v) x=true↔x=v:=by
 unfold fx
 rw[dm v0 (by simp;omega) x0]
 by_cases q:x=v
 · rw[if_pos q];simp[q]
 · rw[if_neg q]
   constructor
   · intro j
     exfalso
     by_cases c:x<g.1
     · rw[ff x0 (by omega)] at j;cases j
     · have:¬x.toNat<g.1.toNat:=by omega
       simp[gI,this] at j
   · intro j;exact absurd j q
theorem ox(hm:aV g)(v0:0<=v)(v1:v<g.1)(x0:0<=x)(x1:x<g.1)(y0:0<=y)(y1:y<g.1)(hx:x≠v)(hy:y≠v):
    (0<=gI (bf g (fx g v) []).1 x/\gI (bf g (fx g v) []).1 x<g.1)/\(gI (bf g (fx g v) []).1 x=gI (bf g (fx g v) []).1 y↔Wy g (λz=>z≠v) x y):=by
  obtain⟨l,hi⟩:=eF (gone:=fx g v) (cut:=[]) hm
  have hP:=gZ (gone:=fx g v) (cut:=[]) hm
  have hno:∀z,0<=z->z≠v->¬gI (fx g v) z=true:=λz z0 q j=>q ((jw hm v0 v1 z0).1 j)
  have hxd:dA g x:=⟨x0,x1⟩
  have hyd:dA g y:=⟨y0,y1⟩
  obtain⟨l1,l2,l3⟩:=g0 (gone:=fx g v) (cut:=[]) hm
  have h0:0<=gI (bf g (fx g v) []).1 x:=(hi.iff x hxd).2 (by
    have:=hi.all x.toNat (by omega) (by omega) (by rw[show((x.toNat:Nat):Int)=x by omega];exact hno x x0 hx)
    rwa[show((x.toNat:Nat):Int)=x by omega] at this)
  have h1:=hi.top x hxd
  refine⟨⟨h0,by omega⟩,(hi.lab x y hxd hyd h0).trans ⟨λhc=>?_,λhw=>?_⟩⟩
  · exact hP.cl (λz=>z≠v/\Wy g (λz=>z≠v) x z) (λh hh hp q=>by
      have:=hp.2.1
      have ht:=dY hm hh
      have hne:b9 g h≠v:=λj=>this ((jw hm v0 v1 ht.1).2 j)
      exact⟨hne,.step q.2 hh hne⟩) x y hc ⟨hx,.refl hx⟩ |>.2
  · induction hw with
    |refl _=>exact(Cn.eqv _).rfl _ (hP.nd.2 hxd)
    |step p q r ih=>
      rename_i h'
      have hf:=bW hm q
      have hfn:=p.right
      have hc:=ih hf.1 hf.2 hfn ⟨hf.1,hf.2⟩
      have ht:=dY hm q
      exact(Cn.eqv _).trans _ _ _ (hP.nd.2 hxd) (hP.nd.2 hf) (hP.nd.2 ht) hc (hP.one h' q ⟨hno _ hf.1 hfn,hno _ ht.1 r,by simp[gI]⟩)
end TL
/-
  TlDocC: the document's blocks and cut nodes are the program's.
  By an AI agent.
-/
set_option linter.all false
namespace TL
variable{g:bw}{of nu bo cu L M l:List Int}{a b v h i j x y n n' ct:Int}{k m:Nat}
inductive Fn (L:List Int):Nat->Int->Prop
  |zero:Fn L 0 0
  |old {k:Nat} {n:Int} (j:Nat):Fn L k n->j<k->gI L (j:Int)=gI L (k:Int)->Fn L (k+1) n
  |new {k:Nat} {n:Int}:Fn L k n->(∀j:Nat,j<k->gI L (j:Int)≠gI L (k:Int))->gI L (k:Int)=n->Fn L (k+1) (n+1)
theorem Fn.congr(h:Fn L k n):(∀i:Nat,i<k->gI L (i:Int)=gI M (i:Int))->Fn M k n:=by
 induction h with
 |zero=>intro _;exact .zero
 | @old k n j h1 h2 h3 ih=>
   intro hh
   exact .old j (ih λi q=>hh i (by omega)) h2 (by rw[<-hh j (by omega),<-hh k (by omega),h3])
 | @new k n h1 h2 h3 ih=>
   intro hh
   exact .new (ih λi q=>hh i (by omega)) (λj q=>by rw[<-hh j (by omega),<-hh k (by omega)];exact h2 j q) (by rw[<-hh k (by omega),h3])
theorem Fn.top(h:Fn L k n):0<=n/\(0<n->∃i:Nat,i<k/\gI L (i:Int)=n-1):=by
 induction h with
 |zero=>exact⟨Int.le_refl _,λq=>by omega⟩
 |old j h1 h2 h3 ih=>
   refine⟨ih.1,λq=>?_⟩
   obtain⟨i,i1,i2⟩:=ih.2 q
   exact⟨i,by omega,i2⟩
 | @new k n h1 h2 h3 ih=>exact⟨by omega,λ_=>⟨k,by omega,by omega⟩⟩
theorem nv(l:List Int):∀(k:Nat) (x:Int),x∈(aB l k).1->∃j:Nat,j<k/\gI l (j:Int)=x
 |0,x,hx=>absurd hx List.not_mem_nil
 |k+1,x,hx=>by
   have hx2:x∈(if gI l (k:Int)∈(aB l k).1 then(aB l k).1 else(aB l k).1++[gI l (k:Int)]):=hx
   have:x∈(aB l k).1\/x=gI l (k:Int):=by
     split at hx2
     · exact .inl hx2
     · exact(List.mem_append.1 hx2).imp id List.mem_singleton.1
   rcases this with q|q
   · obtain⟨j,j1,j2⟩:=nv l k x q
     exact⟨j,by omega,j2⟩
   · exact⟨k,by omega,q.symm⟩
theorem pN(l:List Int):∀k:Nat,Fn (aB l k).2 k ((aB l k).1.length:Int)
 |0=>.zero
 |k+1=>by
   have hl:=(gP l k).1
   have hlast:=(iw l (k+1) k (by omega)).1
   have hpre:∀i:Nat,i<k->gI (aB l k).2 (i:Int)=gI (aB l (k+1)).2 (i:Int):=λi q=>by
     conv=>rhs;unfold aB
     exact(jN (by omega) (by omega)).symm
   have hc:=(pN l k).congr hpre
   by_cases c:gI l (k:Int)∈(aB l k).1
   · have e:(aB l (k+1)).1=(aB l k).1:=by conv=>lhs;unfold aB;simp only[if_pos c]
     obtain⟨j,j1,j2⟩:=nv l k _ c
     rw[e]
     refine .old j hc j1 ?_
     rw[hlast,e,<-hpre j j1,(iw l k j j1).1,j2]
   · have e:(aB l (k+1)).1=(aB l k).1++[gI l (k:Int)]:=by conv=>lhs;unfold aB;simp only[if_neg c]
     have elast:gI (aB l (k+1)).2 (k:Int)=((aB l k).1.length:Int):=by
       rw[hlast,e,List.idxOf_append,if_neg c];simp
     have e3:(((aB l (k+1)).1.length:Nat):Int)=((aB l k).1.length:Int)+1:=by rw[e,List.length_append,List.length_singleton];omega
     rw[e3]
     refine .new hc (λj q=>?_) elast
     rw[elast,<-hpre j q]
     have:=l7 l k _ (bP (xs:=(aB l k).2) (i:=(j:Int)) (by omega) (by omega))
     omega
theorem sm(g:bw):Fn (dl g) g.2.length (bJ g):=pN _ _
def tl(g:bw)(of:List Int)(v:Int)(k:Int):Prop:=∃x y,hf g x/\hf g y/\x<k/\y<k/\aq g x=v/\aq g y=v/\gI of (x/2)≠gI of (y/2)
theorem nY(hm:aV g)(ho:∀e,0<=e->e<(g.2.length:Int)->0<=gI of e)(v0:0<=v)(v1:v<g.1):∀k:Nat,(k:Int)<=2*(g.2.length:Int)->
   (eB of g k).1.length=g.1.toNat/\(eB of g k).2.length=g.1.toNat/\
   ((gI (eB of g k).1 v=0/\∀x,hf g x->x<k->aq g x≠v)\/∃x,hf g x/\x<k/\aq g x=v/\gI (eB of g k).1 v=gI of (x/2)+1)/\(gI (eB of g k).2 v=true↔tl g of v k)
 |0,_=>by
   have r0:gI (eB of g 0).1 v=0:=ff v0 (by omega)
   have r1:gI (eB of g 0).2 v=false:=ff v0 (by omega)
   refine⟨by simp[eB,bN],by simp[eB,bN],.inl ⟨r0,λx hx q=>by have:=hx.1;omega⟩,?_⟩
   rw[r1]
   exact⟨λq=>absurd q (by decide),λ⟨x,_,hx,_,q,_⟩=>(by have:=hx.1;omega)⟩
 |k+1,hk=>by
   obtain⟨l1,l2,h1,h2⟩:=nY hm ho v0 v1 k (by omega)
   have e:eB of g (k+1)=q5 of g (eB of g k) (k:Int):=by
     unfold eB
     rw[ck,List.foldl_append];rfl
   have hkf:hf g (k:Int):=⟨by clear h1;omega,by clear h1;omega⟩
   have hup:∀z:Int,z<(k:Int)->z<((k+1:Nat):Int):=λz q=>by clear h1;omega
   have hkk:(k:Int)<((k+1:Nat):Int):=by clear h1;omega
   obtain⟨f0,f1⟩:=bW hm hkf
   have hok:=ho _ (eY hkf) (dI hkf)
   have s1:gI (eB of g (k+1)).1 v=if v=aq g (k:Int) then gI of ((k:Int)/2)+1 else gI (eB of g k).1 v:=by
     rw[e];exact bT f0 (by clear h1;omega) v0
   have s2:gI (eB of g (k+1)).2 v=if v=aq g (k:Int) then(gI (eB of g k).2 (aq g (k:Int))||(decide (0<gI (eB of g k).1 (aq g (k:Int)))&& !decide (gI (eB of g k).1 (aq g (k:Int))=gI of ((k:Int)/2)+1))) else gI (eB of g k).2 v:=by
     rw[e];exact bT f0 (by clear h1;omega) v0
   refine⟨by rw[e];unfold q5;rw[List.length_set];exact l1,by rw[e];unfold q5;rw[List.length_set];exact l2,?_,?_⟩
   · rw[s1]
     by_cases c:v=aq g (k:Int)
     · rw[if_pos c]
       exact .inr ⟨_,hkf,hkk,c.symm,rfl⟩
     · rw[if_neg c]
       rcases h1 with⟨p,q⟩|⟨x,x1,x2,x3,x4⟩
       · refine .inl ⟨p,λx hx hlt hv=>?_⟩
         by_cases d:x=(k:Int)
         · rw[d] at hv;exact c hv.symm
         · exact q x hx (by omega) hv
       · exact .inr ⟨x,x1,hup x x2,x3,x4⟩
   · rw[s2]
     by_cases c:v=aq g (k:Int)
     · rw[if_pos c,<-c]
       rw[Bool.or_eq_true,Bool.and_eq_true,decide_eq_true_iff,Bool.not_eq_true',decide_eq_false_iff_not]
       constructor
       · rintro(q|⟨q1,q2⟩)
         · obtain⟨x,y,a1,a2,a3,a4,a5⟩:=h2.1 q
           exact⟨x,y,a1,a2,hup x a3,hup y a4,a5⟩
         · rcases h1 with⟨p,_⟩|⟨x,x1,x2,x3,x4⟩
           · omega
           · exact⟨x,(k:Int),x1,hkf,hup x x2,hkk,x3,c.symm,λj=>q2 (by rw[x4,j])⟩
       · rintro⟨x,y,a1,a2,a3,a4,a5,a6,a7⟩
         by_cases d:gI (eB of g k).2 v=true
         · exact .inl d
         · right
           have same:∀x y,hf g x->hf g y->x<(k:Int)->y<(k:Int)->aq g x=v->aq g y=v->gI of (x/2)=gI of (y/2):=λx y p1 p2 p3 p4 p5 p6=>Classical.byContradiction λj=>d (h2.2 ⟨x,y,p1,p2,p3,p4,p5,p6,j⟩)
           have hz:∃z,hf g z/\z<(k:Int)/\aq g z=v/\gI of (z/2)≠gI of ((k:Int)/2):=by
             by_cases dx:x=(k:Int)
             · by_cases dy:y=(k:Int)
               · rw[dx,dy] at a7;exact absurd rfl a7
               · exact⟨y,a2,(by clear h1;omega),a6,by rw[dx] at a7;exact a7.symm⟩
             · by_cases dy:y=(k:Int)
               · exact⟨x,a1,(by clear h1;omega),a5,by rw[dy] at a7;exact a7⟩
               · exact absurd (same x y a1 a2 (by clear h1;omega) (by clear h1;omega) a5 a6) a7
           obtain⟨z,z1,z2,z3,z4⟩:=hz
           rcases h1 with⟨p,q⟩|⟨w,w1,w2,w3,w4⟩
           · exact absurd z3 (q z z1 z2)
           · have:=same w z w1 z1 w2 z2 w3 z3
             have h5:=ho _ (eY w1) (dI w1)
             exact⟨by omega,λj=>z4 (by omega)⟩
     · rw[if_neg c,h2]
       constructor
       · rintro⟨x,y,a1,a2,a3,a4,a5⟩
         exact⟨x,y,a1,a2,hup x a3,hup y a4,a5⟩
       · rintro⟨x,y,a1,a2,a3,a4,a5,a6,a7⟩
         refine⟨x,y,a1,a2,?_,?_,a5,a6,a7⟩
         · have:x≠(k:Int):=λj=>by rw[j] at a5;exact c a5.symm
           clear h1;omega
         · have:y≠(k:Int):=λj=>by rw[j] at a6;exact c a6.symm
           clear h1;omega
def ly(g:bw):List Bool:=(eB (dl g) g (2*g.2.length)).2
theorem iO(hm:aV g)(v0:0<=v)(v1:v<g.1):gI (ly g) v=true↔∃x∈cG g v,∃y∈cG g v,gI (dl g) (x/2)≠gI (dl g) (y/2):=by
 rw[show gI (ly g) v=gI (eB (dl g) g (2*g.2.length)).2 v from rfl,(nY hm (λe a b=>(eV g a b).1) v0 v1 (2*g.2.length) (by omega)).2.2.2]
 constructor
 · rintro⟨x,y,a1,a2,_,_,a5,a6,a7⟩
   refine⟨x,?_,y,?_,a7⟩
   · rw[<-a5];exact e8 a1
   · rw[<-a6];exact e8 a2
 · rintro⟨x,x1,y,y1,q⟩
   obtain⟨a1,a2⟩:=cW x1
   obtain⟨b1,b2⟩:=cW y1
   exact⟨x,y,a1,b1,by have:=a1.2;omega,by have:=b1.2;omega,a2,b2,q⟩
end TL
/-
  TlCut: a node is a cut node just if its component falls apart without it.
  By an AI agent.
-/
set_option linter.all false
namespace TL
variable{g:bw}{a b v w h i j x y z e:Int}{k m q:Nat}{l l':List Int}
theorem jr(hm:aV g)(v0:0<=v)(v1:v<g.1)(x0:0<=x)(x1:x<g.1)(y0:0<=y)(y1:y<g.1)(hx:x≠v)(hy:y≠v):Cn (cq g (fx g v) []) x y↔Wy g (λz=>z≠v) x y:=by
 obtain⟨l,hi⟩:=eF (gone:=fx g v) (cut:=[]) hm
 obtain⟨⟨p1,_⟩,p2⟩:=ox hm v0 v1 x0 x1 y0 y1 hx hy
 exact(hi.lab x y ⟨x0,x1⟩ ⟨y0,y1⟩ p1).symm.trans p2
theorem sS(hm:aV g){A:Int->Prop}(h:Wy g A x y)(hx:dA g x):Cn (cq g [] []) x y/\dA g y:=by
 have hP:=gZ (gone:=[]) (cut:=[]) hm
 induction h with
 |refl _=>exact⟨(Cn.eqv _).rfl _ hx,hx⟩
 |step p q r ih=>
   have ht:=dY hm q
   exact⟨(Cn.eqv (cq g [] [])).trans _ _ _ hx ih.2 ht ih.1 (hP.one _ q ⟨by simp[gI],by simp[gI],by simp[gI]⟩),ht⟩
theorem kM(hm:aV g)(hh:hf g h):Cn (cq g [] []) (aq g h) (b9 g h):=(gZ (gone:=[]) (cut:=[]) hm).one _ hh ⟨by simp[gI],by simp[gI],by simp[gI]⟩
theorem pz(hm:aV g){S:Int->Prop}(hS:∀h,hf g h->S (aq g h)->S (b9 g h))(hc:Cn (cq g [] []) x y)(hx:S x):S y:=(gZ (gone:=[]) (cut:=[]) hm).cl S (λh a _ c=>hS h a c) x y hc hx
def tA(g:bw)(v:Int):Prop:=∀h h',hf g h->hf g h'->aq g h=v->aq g h'=v->b9 g h≠v->b9 g h'≠v->Wy g (λz=>z≠v) (b9 g h) (b9 g h')
theorem s7(hm:aV g)(v0:0<=v)(v1:v<g.1)(hn:tA g v):(bf g (fx g v) []).2<=(bf g [] []).2:=by
 obtain⟨l,hi⟩:=eF (gone:=[]) (cut:=[]) hm
 obtain⟨l',hi'⟩:=eF (gone:=fx g v) (cut:=[]) hm
 have hq:=Cn.eqv (cq g [] [])
 have hne:∀x∈l',x≠v:=λx hx e=>(hi'.dom x hx).2 ((jw hm v0 v1 (hi'.dom x hx).1.1).2 e)
 rw[hi.num,hi'.num]
 have main:∀x y,dA g x->dA g y->x≠v->y≠v->Cn (cq g [] []) x y->Wy g (λz=>z≠v) x y:=λx y hx hy nx ny hc=>by
   refine(pz hm (S:=λu=>(u≠v->Wy g (λz=>z≠v) x u)/\(u=v->∀h,hf g h->aq g h=v->b9 g h≠v->Wy g (λz=>z≠v) x (b9 g h))) (λh hh hs=>?_) hc ⟨λ_=>.refl nx,λq=>absurd q nx⟩).1 ny
   obtain⟨t1,t2,t3,t4⟩:=cH (g:=g) hh
   refine⟨λq=>?_,λq k hk hkv hkt=>?_⟩
   · by_cases c:aq g h=v
     · exact hs.2 c h hh c q
     · exact .step (hs.1 c) hh q
   · by_cases c:aq g h=v
     · exact hs.2 c k hk hkv hkt
     · exact(hs.1 c).trans (by have:=hn (dz h) k t1 hk (by rw[t3,q]) hkv (by rw[t4];exact c) hkt;rwa[t4] at this)
 have:=jt (P:=λx y=>Cn (cq g [] []) x y) l' l hi'.nd (λx hx=>by
   have hd:=(hi'.dom x hx).1
   have h0:=hd.1
   have h1:=hd.2
   have:=hi.all x.toNat (by omega) (by omega) (by simp[gI])
   rwa[show((x.toNat:Nat):Int)=x by omega] at this) (λx hx x' hx' y hy h1 h2=>by
   have dx:=(hi'.dom x hx).1
   have dx':=(hi'.dom x' hx').1
   have dy:=(hi.dom y hy).1
   have hc:=hq.trans _ _ _ dx dy dx' h1 (hq.symm _ _ dx' dy h2)
   exact hi'.one x hx x' hx' ((jr hm v0 v1 dx.1 dx.2 dx'.1 dx'.2 (hne x hx) (hne x' hx')).2 (main x x' dx dx' (hne x hx) (hne x' hx') hc)))
 omega
theorem rY(hm:aV g)(v0:0<=v)(v1:v<g.1)(hn:¬tA g v):(bf g [] []).2<(bf g (fx g v) []).2:=by
 obtain⟨l,hi⟩:=eF (gone:=[]) (cut:=[]) hm
 obtain⟨l',hi'⟩:=eF (gone:=fx g v) (cut:=[]) hm
 have hq:=Cn.eqv (cq g [] [])
 have hq':=Cn.eqv (cq g (fx g v) [])
 obtain⟨h,h',hh,hh',hv,hv',ht,ht',hw⟩:∃h h',hf g h/\hf g h'/\aq g h=v/\aq g h'=v/\b9 g h≠v/\b9 g h'≠v/\¬Wy g (λz=>z≠v) (b9 g h) (b9 g h'):=Classical.byContradiction λq=>hn λh h' a b c d e f=>Classical.byContradiction λk=>q ⟨h,h',a,b,c,d,e,f,k⟩
 have xd:=dY hm hh
 have yd:=dY hm hh'
 have cx:Cn (cq g [] []) v (b9 g h):=by have:=kM hm hh;rwa[hv] at this
 have cy:Cn (cq g [] []) v (b9 g h'):=by have:=kM hm hh';rwa[hv'] at this
 obtain⟨r,r1,r2⟩:∃r∈l,Cn (cq g [] []) v r:=by
   have:=hi.all v.toNat (by omega) (by omega) (by simp[gI])
   rwa[show((v.toNat:Nat):Int)=v by omega] at this
 have hrd:=(hi.dom r r1).1
 have hzv:∀z∈l.erase r,z∈l/\z≠r:=λz hz=>⟨List.mem_of_mem_erase hz,λe=>by rw[e] at hz;exact(List.Nodup.not_mem_erase hi.nd) hz⟩
 have hfar:∀z∈l.erase r,¬Cn (cq g [] []) z v:=λz hz hc=>(hzv z hz).2 (hi.one z (hzv z hz).1 r r1 (hq.trans _ _ _ (hi.dom z (hzv z hz).1).1 ⟨v0,v1⟩ hrd hc r2))
 have hnv:∀z∈l.erase r,z≠v:=λz hz e=>hfar z hz (by rw[e];exact hq.rfl _ ⟨v0,v1⟩)
 -- what is joined without v is joined
 have down:∀x y,dA g x->dA g y->x≠v->y≠v->Cn (cq g (fx g v) []) x y->Cn (cq g [] []) x y:=λx y hx hy nx ny hc=>(sS hm ((jr hm v0 v1 hx.1 hx.2 hy.1 hy.2 nx ny).1 hc) hx).1
 have hL:∀z∈b9 g h::b9 g h'::l.erase r,dA g z/\z≠v:=λz hz=>by
   rcases List.mem_cons.1 hz with q|q
   · rw[q];exact⟨xd,ht⟩
   · rcases List.mem_cons.1 q with q|q
     · rw[q];exact⟨yd,ht'⟩
     · exact⟨(hi.dom z (hzv z q).1).1,hnv z q⟩
 have hone:∀z∈b9 g h::b9 g h'::l.erase r,∀z'∈b9 g h::b9 g h'::l.erase r,Cn (cq g (fx g v) []) z z'->z=z':=λz hz z' hz' hc=>by
   obtain⟨d1,n1⟩:=hL z hz
   obtain⟨d2,n2⟩:=hL z' hz'
   have hd:=down z z' d1 d2 n1 n2 hc
   rcases List.mem_cons.1 hz with p|p
   · rcases List.mem_cons.1 hz' with p'|p'
     · rw[p,p']
     · rcases List.mem_cons.1 p' with p'|p'
       · rw[p,p'] at hc
         exact absurd ((jr hm v0 v1 xd.1 xd.2 yd.1 yd.2 ht ht').1 hc) hw
       · rw[p] at hd
         exact absurd (hq.trans _ _ _ d2 xd ⟨v0,v1⟩ (hq.symm _ _ xd d2 hd) (hq.symm _ _ ⟨v0,v1⟩ xd cx)) (hfar z' p')
   · rcases List.mem_cons.1 p with p|p
     · rcases List.mem_cons.1 hz' with p'|p'
       · rw[p,p'] at hc
         exact absurd ((jr hm v0 v1 yd.1 yd.2 xd.1 xd.2 ht' ht).1 hc).symm hw
       · rcases List.mem_cons.1 p' with p'|p'
         · rw[p,p']
         · rw[p] at hd
           exact absurd (hq.trans _ _ _ d2 yd ⟨v0,v1⟩ (hq.symm _ _ yd d2 hd) (hq.symm _ _ ⟨v0,v1⟩ yd cy)) (hfar z' p')
     · rcases List.mem_cons.1 hz' with p'|p'
       · rw[p'] at hd
         exact absurd (hq.trans _ _ _ d1 xd ⟨v0,v1⟩ hd (hq.symm _ _ ⟨v0,v1⟩ xd cx)) (hfar z p)
       · rcases List.mem_cons.1 p' with p'|p'
         · rw[p'] at hd
           exact absurd (hq.trans _ _ _ d1 yd ⟨v0,v1⟩ hd (hq.symm _ _ ⟨v0,v1⟩ yd cy)) (hfar z p)
         · exact hi.one z (hzv z p).1 z' (hzv z' p').1 hd
 have hnd:(b9 g h::b9 g h'::l.erase r).Nodup:=by
   refine List.nodup_cons.2 ⟨λq=>?_,List.nodup_cons.2 ⟨λq=>hfar _ q (hq.symm _ _ ⟨v0,v1⟩ yd cy),hi.nd.erase r⟩⟩
   rcases List.mem_cons.1 q with q|q
   · exact hw (by rw[q];exact .refl ht')
   · exact hfar _ q (hq.symm _ _ ⟨v0,v1⟩ xd cx)
 have:=jt (P:=λx y=>Cn (cq g (fx g v) []) x y) (b9 g h::b9 g h'::l.erase r) l' hnd (λz hz=>by
   obtain⟨d,n⟩:=hL z hz
   have h0:=d.1
   have h1:=d.2
   have:=hi'.all z.toNat (by omega) (by omega) (λq=>n (by have:=(jw hm v0 v1 (x:=((z.toNat:Nat):Int)) (by omega)).1 q;omega))
   rwa[show((z.toNat:Nat):Int)=z by omega] at this) (λz hz z' hz' y hy h1 h2=>hone z hz z' hz' (hq'.trans _ _ _ (hL z hz).1 (hi'.dom y hy).1 (hL z' hz').1 h1 (hq'.symm _ _ (hL z' hz').1 (hi'.dom y hy).1 h2)))
 have e1:=List.length_erase_of_mem r1
 have e2:=List.length_pos_of_mem r1
 rw[hi.num,hi'.num]
 simp only[List.length_cons] at this
 omega
theorem nI(hm:aV g)(v0:0<=v)(v1:v<g.1)(hl:∀h,hf g h->aq g h=v->b9 g h≠v):gI (ly g) v=true↔0<(cG g v).length/\(bf g [] []).2<(bf g (fx g v) []).2:=by
  rw[iO hm v0 v1]
  constructor
  · rintro⟨x,x1,y,y1,hne⟩
    obtain⟨hx,xv⟩:=cW x1
    obtain⟨hy,yv⟩:=cW y1
    refine⟨List.length_pos_of_mem x1,rY hm v0 v1 λhn=>hne ?_⟩
    rw[iB hm (eY (x:=x) hx) (dI hx) (eY (x:=y) hy) (dI hy)]
    exact .rel ⟨x,y,hx,hy,rfl,rfl,by rw[xv,yv],by rw[xv];exact hl x hx xv,by rw[yv];exact hl y hy yv,by rw[xv];exact hn x y hx hy xv yv (hl x hx xv) (hl y hy yv)⟩
  · rintro⟨h1,h2⟩
    refine Classical.byContradiction λhn=>?_
    have:tA g v:=λx y hx hy xv yv xt yt=>by
      have he:gI (dl g) (x/2)=gI (dl g) (y/2):=Classical.byContradiction λq=>hn ⟨x,by rw[<-xv];exact e8 hx,y,by rw[<-yv];exact e8 hy,q⟩
      rw[iB hm (eY hx) (dI hx) (eY hy) (dI hy)] at he
      have ex:iL g (x/2) (b9 g x):=⟨x,hx,rfl,rfl⟩
      have ey:iL g (y/2) (b9 g y):=⟨y,hy,rfl,rfl⟩
      rcases jx he with q|⟨_,_,q⟩
      · rw[q] at ex;exact iz ex ey xt yt
      · exact q v _ _ ex ey xt yt
    have:=s7 hm v0 v1 this
    omega
end TL
/-
  TlTre: the tree of blocks and cut nodes: its edges; it has no cycle, and as many components as the net has with edges.
  By an AI agent.
-/
set_option linter.all false
namespace TL
variable{g:bw}{a b v w h i j x y z e c r:Int}{k m q:Nat}{l l':List Int}{A:List (Int×Int)}
theorem mc:cq g [] []=g:=by
 have e1:jK g [] []=bN g.2.length:=by
   unfold jK
   rw[List.filter_eq_self]
   intro a _
   simp[gI]
 unfold cq
 rw[e1]
 have:(bN g.2.length).map (gI g.2)=g.2:=by
   apply List.ext_getElem?
   intro i
   by_cases h:i<g.2.length
   · simp[bN,gI,h]
   · simp[bN,h]
 rw[this]
theorem gY(hm:aV g):(bf g [] []).2=(eT g).2.1:=by
 unfold eT bf
 rw[if_pos hm,mc]
 have:∀k:Nat,bc g [] k=e9 g k:=by
   intro k
   induction k with
   |zero=>rfl
   |succ k ih=>
     rw[f4,j5,ih]
     unfold fY jm
     have hn:¬gI ([]:List Bool) (k:Int)=true:=by simp[gI]
     by_cases c:0<=gI (e9 g k).1 (k:Int)
     · rw[if_pos c,if_pos (.inl c)]
     · rw[if_neg c,if_neg (λj=>j.elim c hn)]
 rw[this]
theorem fZ(hm:aV g):v∈bR g↔(0<=v/\v<g.1)/\gI (ly g) v=true:=by
 unfold bR
 rw[List.mem_filter,ec]
 have h0:=hm.1
 exact⟨λ⟨⟨a,b⟩,c⟩=>⟨⟨a,by omega⟩,c⟩,λ⟨⟨a,b⟩,c⟩=>⟨⟨a,by omega⟩,c⟩⟩
theorem k8:(bR g).Nodup:=(g5 _).filter _
theorem qO(hm:aV g)(hv:v∈bR g):∃h,hf g h/\aq g h=v:=by
 obtain⟨⟨a,b⟩,c⟩:=(fZ hm).1 hv
 obtain⟨x,x1,_⟩:=(iO hm a b).1 c
 exact⟨x,cW x1⟩
theorem rF(hm:aV g){x y:Int}(hx:hf g x)(hy:hf g y)(he:aq g x=aq g y)(hne:gI (dl g) (x/2)≠gI (dl g) (y/2)):aq g x∈bR g:=by
 obtain⟨f0,f1⟩:=bW hm hx
 exact(fZ hm).2 ⟨⟨f0,f1⟩,(iO hm f0 f1).2 ⟨x,e8 hx,y,by rw[he];exact e8 hy,hne⟩⟩
theorem Fn.all{L:List Int}{n:Int}(h:Fn L k n):∀i,0<=i->i<n->∃e:Nat,e<k/\gI L (e:Int)=i:=by
 induction h with
 |zero=>intro i a b;omega
 | @old k n j h1 h2 h3 ih=>
   intro i a b
   obtain⟨e,e1,e2⟩:=ih i a b
   exact⟨e,by omega,e2⟩
 | @new k n h1 h2 h3 ih=>
   intro i a b
   by_cases c:i=n
   · exact⟨k,by omega,by rw[h3,c]⟩
   · obtain⟨e,e1,e2⟩:=ih i a (by omega)
     exact⟨e,by omega,e2⟩
theorem qU(g:bw)(i0:0<=i)(i1:i<bJ g):∃h,hf g h/\gI (dl g) (h/2)=i:=by
  obtain⟨e,e1,e2⟩:=(sm g).all i i0 i1
  exact⟨2*(e:Int),⟨by omega,by omega⟩,by rw[show 2*(e:Int)/2=(e:Int) by omega];exact e2⟩
theorem oc(g:bw):∀k:Nat,k<=(bR g).length->(∀j:Nat,j<k->gg g k (gI (bR g) (j:Int))=bJ g+(j:Int))/\∀q,(∀j:Nat,j<k->gI (bR g) (j:Int)≠q)->gg g k q=0
 |0,_=>⟨λj q=>by omega,λq _=>rfl⟩
 |k+1,hk=>by
   obtain⟨h1,h2⟩:=oc g k (by omega)
   have e:gg g (k+1)=λq=>if q=gI (bR g) (k:Int) then bJ g+(k:Int) else gg g k q:=by
     unfold gg
     rw[ck,List.foldl_append];rfl
   refine⟨λj hj=>?_,λq hq=>?_⟩
   · rw[e]
     simp only
     by_cases c:j=k
     · rw[c,if_pos rfl]
     · rw[if_neg (λq=>c (by
         have:=q7 (k8 (g:=g)) (i:=(j:Int)) (j:=(k:Int)) (by omega) (by omega) (by omega) (by omega) q
         omega))]
       exact h1 j (by omega)
   · rw[e]
     simp only
     rw[if_neg (λj=>hq k (by omega) j.symm)]
     exact h2 q λj hj=>hq j (by omega)
def sE(g:bw)(i c:Int):Prop:=∃h,hf g h/\i=gI (dl g) (h/2)/\∃j:Nat,j<(bR g).length/\gI (bR g) (j:Int)=aq g h/\c=bJ g+(j:Int)
theorem lU(hm:aV g)(hh:hf g h):(0<gg g (bR g).length (aq g h)/\gg g (bR g).length (aq g h)=c)↔∃j:Nat,j<(bR g).length/\gI (bR g) (j:Int)=aq g h/\c=bJ g+(j:Int):=by
 obtain⟨h1,h2⟩:=oc g (bR g).length (Nat.le_refl _)
 have hp:0<bJ g:=by have:=eV g (eY hh) (dI hh);omega
 constructor
 · rintro⟨a,b⟩
   refine Classical.byContradiction λhn=>?_
   have:=h2 (aq g h) λj hj e=>hn ⟨j,hj,e,by rw[<-b,<-e,h1 j hj]⟩
   omega
 · rintro⟨j,hj,e,rfl⟩
   rw[<-e,h1 j hj]
   exact⟨by omega,rfl⟩
theorem kW(g:bw)(F:Int->Int):∀n:Nat,(fy g F n).1.Nodup/\(∀K:Int×Int,K∈(fy g F n).1↔∃h:Nat,h<n/\K=(gI (dl g) ((h:Int)/2),F (aq g (h:Int)))/\0<K.2)/\∀K,0<=(fy g F n).2 K/\((fy g F n).2 K=0↔∀h:Nat,h<n->K≠(gI (dl g) ((h:Int)/2),F (aq g (h:Int))))
 |0=>⟨by simp[fy,bN],λK=>⟨λq=>by simp[fy,bN] at q,λ⟨h,q,_⟩=>by omega⟩,λK=>⟨by simp[fy,bN],⟨λ_ h q=>by omega,λ_=>by simp[fy,bN]⟩⟩⟩
 |n+1=>by
   obtain⟨h1,h2,h3⟩:=kW g F n
   have e:fy g F (n+1)=oy g F (fy g F n) (n:Int):=by
     unfold fy
     rw[ck,List.foldl_append];rfl
   have eK:(gI (aa g).1 ((n:Int)/2),F (aq g (n:Int)))=(gI (dl g) ((n:Int)/2),F (aq g (n:Int))):=rfl
   rw[e]
   unfold oy
   rw[eK]
   generalize hK0:(gI (dl g) ((n:Int)/2),F (aq g (n:Int)))=K0
   have hF:F (aq g (n:Int))=K0.2:=by rw[<-hK0]
   rw[hF]
   refine⟨?_,λK=>?_,λK=>?_⟩
   · simp only
     split
     · rename_i c
       rw[List.nodup_append]
       refine⟨h1,by simp,λa ha b hb q=>?_⟩
       rw[List.mem_singleton.1 hb] at q
       obtain⟨h,p1,p2,p3⟩:=(h2 a).1 ha
       exact((h3 K0).2.1 c.2) h p1 (by rw[<-q];exact p2)
     · exact h1
   · simp only
     constructor
     · intro q
       have:K∈(fy g F n).1\/(K=K0/\0<K0.2):=by
         split at q
         · rename_i c
           exact(List.mem_append.1 q).imp id λj=>⟨List.mem_singleton.1 j,c.1⟩
         · exact .inl q
       rcases this with j|⟨j1,j2⟩
       · obtain⟨h,p1,p2⟩:=(h2 K).1 j
         exact⟨h,by omega,p2⟩
       · exact⟨n,by omega,by rw[j1,hK0],by rw[j1];exact j2⟩
     · rintro⟨h,p1,p2,p3⟩
       by_cases c:K∈(fy g F n).1
       · split
         · exact List.mem_append_left _ c
         · exact c
       · have hn:∀h:Nat,h<n->K≠(gI (dl g) ((h:Int)/2),F (aq g (h:Int))):=λh' q1 q2=>c ((h2 K).2 ⟨h',q1,q2,p3⟩)
         have:h=n:=by
           by_cases d:h<n
           · exact absurd p2 (hn h d)
           · omega
         rw[this,hK0] at p2
         subst p2
         rw[if_pos ⟨p3,(h3 K).2.2 hn⟩]
         simp
   · simp only
     obtain⟨q1,q2⟩:=h3 K
     obtain⟨r1,r2⟩:=h3 K0
     by_cases c:K=K0
     · rw[if_pos c]
       refine⟨by omega,⟨λj=>by omega,λj=>absurd (by rw[c,hK0]) (j n (by omega))⟩⟩
     · rw[if_neg c]
       refine⟨q1,q2.trans ⟨λj h hh=>?_,λj h hh=>j h (by omega)⟩⟩
       by_cases d:h=n
       · rw[d,hK0];exact c
       · exact j h (by omega)
theorem oP(g:bw):(ie g).Nodup:=(kW g _ _).1
theorem qN(hm:aV g){K:Int×Int}:K∈ie g↔sE g K.1 K.2:=by
 have h2:=(kW g (gg g (bR g).length) (2*g.2.length)).2.1 K
 refine Iff.trans (show K∈ie g↔_ from h2) ?_
 constructor
 · rintro⟨h,p1,p2,p3⟩
   have hh:hf g (h:Int):=⟨by omega,by omega⟩
   rw[p2] at p3 ⊢
   exact⟨(h:Int),hh,rfl,(lU hm hh).1 ⟨p3,rfl⟩⟩
 · rintro⟨h,hh,p1,p2⟩
   obtain⟨q1,q2⟩:=(lU hm hh).2 p2
   have h0:=hh.1
   have h1:=hh.2
   refine⟨h.toNat,by omega,?_,by rw[<-q2];exact q1⟩
   rw[show((h.toNat:Nat):Int)=h by omega]
   exact Prod.ext p1 q2.symm
theorem nb(hm:aV g):(ie g).length<=2*g.2.length:=by
 have:∀n:Nat,(fy g (gg g (aa g).2.1.length) n).1.length<=n:=by
   intro n
   induction n with
   |zero=>simp[fy,bN]
   |succ n ih=>
     have e:fy g (gg g (aa g).2.1.length) (n+1)=oy g (gg g (aa g).2.1.length) (fy g (gg g (aa g).2.1.length) n) (n:Int):=by
       unfold fy
       rw[ck,List.foldl_append];rfl
     rw[e]
     unfold oy
     simp only
     split
     · rw[List.length_append,List.length_singleton];omega
     · omega
 exact this _
def bZ(g:bw):bw:=(bJ g+((bR g).length:Int),gx (ie g))
theorem fl(hm:aV g){K:Int×Int}:K∈(bZ g).2↔sE g K.1 K.2:=by
 rw[<-qN hm]
 exact(fS (ie g)).mem_iff
theorem mJ(g:bw):(bZ g).2.Nodup:=(fS (ie g)).nodup_iff.2 (oP g)
theorem sE.rng(h:sE g i c):(0<=i/\i<bJ g)/\bJ g<=c/\c<bJ g+((bR g).length:Int):=by
 obtain⟨k,hk,rfl,j,j1,_,rfl⟩:=h
 exact⟨eV g (eY hk) (dI hk),by omega,by omega⟩
theorem m7(g:bw):(bZ g).2.length=(ie g).length:=(fS (ie g)).length_eq
theorem qg(hm:aV g)(hn:g.1+(g.2.length:Int)<=1024)(h2:g.2.length<=1536):aV (bZ g):=by
 obtain⟨c0,c1⟩:=gr g
 have c2:=kg (g:=g) hm.1
 have c2:((bR g).length:Int)<=g.1:=c2
 have hl:=nb hm
 refine⟨by show 0<=bJ g+((bR g).length:Int);omega,by show bJ g+((bR g).length:Int)<=1024;omega,by rw[m7];omega,λe he=>?_⟩
 obtain⟨⟨a1,a2⟩,b1,b2⟩:=((fl hm).1 he).rng
 exact⟨⟨a1,by show e.1<bJ g+((bR g).length:Int);omega⟩,by show 0<=e.2;omega,b2⟩
theorem pd{j:Nat}{j':Nat}(hj:j<(bR g).length)(hj':j'<(bR g).length)(h:gI (bR g) (j:Int)=gI (bR g) (j':Int)):j=j':=by
 have:=q7 (k8 (g:=g)) (i:=(j:Int)) (j:=(j':Int)) (by omega) (by omega) (by omega) (by omega) h
 omega
theorem lz(hm:aV g){h k x:Int}(hh:hf g h)(hk:hf g k)(he:gI (dl g) (h/2)=gI (dl g) (k/2))(hx:aq g h≠v)(hy:aq g k≠v):Wy g (λz=>z≠v) (aq g h) (aq g k):=by
 rw[iB hm (eY hh) (dI hh) (eY hk) (dI hk)] at he
 obtain⟨t1,t2,t3,t4⟩:=cH (g:=g) hh
 obtain⟨s1,s2,s3,s4⟩:=cH (g:=g) hk
 have ex:iL g (h/2) (aq g h):=⟨dz h,t1,t2,t4⟩
 have ey:iL g (k/2) (aq g k):=⟨dz k,s1,s2,s4⟩
 rcases jx he with q|⟨_,_,q⟩
 · rw[q] at ex;exact iz ex ey hx hy
 · exact q v _ _ ex ey hx hy
theorem mn(hm:aV g){h k:Int}(hh:hf g h)(hk:hf g k)(he:gI (dl g) (h/2)=gI (dl g) (k/2))(hl:b9 g h=aq g h):aq g k=aq g h:=by
  rw[iB hm (eY hh) (dI hh) (eY hk) (dI hk)] at he
  rcases jx he with q|⟨⟨p,p1,p2,p3⟩,_⟩
  · rcases e7 hh.1 hk.1 q with r|r
    · rw[r]
    · obtain⟨_,_,s3,s4⟩:=cH (g:=g) hk
      rw[r,s3,s4] at hl
      rw[r,s3,hl]
  · exfalso
    obtain⟨_,_,s3,s4⟩:=cH (g:=g) hh
    rcases e7 p1.1 hh.1 p2 with r|r
    · rw[r] at p3;exact p3 hl
    · rw[r,s3,s4] at p3;exact p3 hl.symm
theorem pj(hm:aV g){B c:Int}(hT:sE g B c)(hA:∀K∈A,sE g K.1 K.2)(hn:(B,c)∉A):¬Cn ((bZ g).1,A) B c:=by
 obtain⟨h0,hh0,hB,j0,j1,j2,hc⟩:=hT
 have hcl:∀S:Int->Prop,(∀K∈A,S K.1↔S K.2)->Cn ((bZ g).1,A) B c->S B->S c:=λS hS hc hb=>(hc (λu v=>S u↔S v) ⟨λ_ _=>Iff.rfl,λ_ _ _ _ h=>h.symm,λ_ _ _ _ _ _ h1 h2=>h1.trans h2⟩ (λe he=>hS e he)).1 hb
 have hBr:=eV g (eY hh0) (dI hh0)
 rw[<-hB] at hBr
 intro hcn
 by_cases hl:b9 g h0=aq g h0
 · -- a loop's block has but one edge in the tree
   have:=hcl (λu=>u=B) (λK hK=>by
     obtain⟨h,hh,e1,j,q1,q2,q3⟩:=hA K hK
     constructor
     · intro e
       exfalso
       have hf:=mn hm hh0 hh (by rw[<-hB,<-e1,e]) hl
       have:j0=j:=pd j1 q1 (by rw[j2,q2,hf])
       exact hn (by rw[<-e,hc,this,<-q3];exact hK)
     · intro e
       have:=(hA K hK).rng
       omega) hcn rfl
   omega
 · obtain⟨t1,t2,t3,t4⟩:=cH (g:=g) hh0
   have hxv:aq g (dz h0)≠aq g h0:=by rw[t3];exact hl
   have:=hcl (λu=>(u<bJ g/\(∀h,hf g h->gI (dl g) (h/2)=u->aq g h≠aq g h0->Wy g (λz=>z≠aq g h0) (b9 g h0) (aq g h))/\∃h,hf g h/\gI (dl g) (h/2)=u/\aq g h≠aq g h0)\/(bJ g<=u/\∀j:Nat,j<(bR g).length->u=bJ g+(j:Int)->gI (bR g) (j:Int)≠aq g h0/\Wy g (λz=>z≠aq g h0) (b9 g h0) (gI (bR g) (j:Int)))) (λK hK=>by
     obtain⟨⟨k1,k2⟩,k3,k4⟩:=(hA K hK).rng
     obtain⟨h,hh,e1,j,q1,q2,q3⟩:=hA K hK
     obtain⟨s1,s2,s3,s4⟩:=cH (g:=g) hh
     constructor
     · rintro(⟨_,p1,p,p2,p3,p4⟩|⟨p0,_⟩)
       · refine .inr ⟨k3,λj' r1 r2=>?_⟩
         have:j'=j:=by omega
         subst this
         have hne:gI (bR g) (j':Int)≠aq g h0:=λe=>by
           have hj:j'=j0:=pd q1 j1 (by rw[e,j2])
           have hlp:b9 g h≠aq g h:=λc'=>by
             have:=mn hm hh p2 (by rw[<-e1,p3]) c'
             rw[<-q2,e] at this
             exact p4 this
           have hfv:aq g h=aq g h0:=by rw[<-q2,e]
           have hw:=p1 (dz h) s1 (by rw[s2,<-e1]) (by rw[s3,<-hfv];exact hlp)
           rw[s3] at hw
           have hr:kS g (h0/2) (h/2):=⟨h0,h,hh0,hh,rfl,rfl,hfv.symm,hl,hlp,hw⟩
           have he:=(iB hm (eY hh0) (dI hh0) (eY hh) (dI hh)).2 (.rel hr)
           exact hn (by rw[hB,he,<-e1,hc,<-hj,<-q3];exact hK)
         refine⟨hne,?_⟩
         rw[q2] at hne ⊢
         exact p1 h hh e1.symm hne
       · omega
     · rintro(⟨p0,_⟩|⟨_,p⟩)
       · omega
       · obtain⟨p1,p2⟩:=p j q1 q3
         rw[q2] at p1 p2
         refine .inl ⟨k2,λh' hh' e' hne=>p2.trans (lz (x:=0) hm hh hh' (by rw[<-e1,e']) p1 hne),h,hh,e1.symm,p1⟩) hcn (.inl ⟨hBr.2,λh hh e hne=>by
       have:=lz (x:=0) (v:=aq g h0) hm t1 hh (by rw[t2,<-hB,e]) hxv hne
       rwa[t3] at this,dz h0,t1,by rw[t2,hB],hxv⟩)
   rcases this with⟨p,_⟩|⟨_,p⟩
   · omega
   · exact(p j0 j1 hc).1 j2
theorem mU{n:Int}(hm:aV (n,[])):(eT (n,[])).2.1=n:=by
 have h0:0<=n:=hm.1
 obtain⟨k,e1,h1⟩:=fQ hm
 have heq:∀u v,Cn (n,[]) u v->u=v:=λu v hc=>hc (λx y=>x=y) ⟨λ_ _=>rfl,λ_ _ _ _ h=>h.symm,λ_ _ _ _ _ _ h1 h2=>h1.trans h2⟩ (λe he=>absurd he List.not_mem_nil)
 have h2:jS (dA (n,[])) (Cn (n,[])) n.toNat:=⟨bN n.toNat,⟨g5 _,λx hx=>by
     have:=ec.1 hx
     exact⟨this.1,show x<n by omega⟩,λx hx=>⟨x,ec.2 ⟨hx.1,by have:x<n:=hx.2;omega⟩,(Cn.eqv _).rfl x hx⟩,λx hx y hy hxy=>heq x y hxy⟩,qh _⟩
 have:=h1.eq (Cn.eqv _) h2
 rw[e1];omega
theorem jV(hm:aV g)(ht:aV (bZ g)):∀k:Nat,k<=(bZ g).2.length->(eT ((bZ g).1,(bZ g).2.take k)).2.1+(k:Int)=(bZ g).1
 |0,_=>by
   have hm0:aV ((bZ g).1,[]):=⟨ht.1,ht.2.1,by simp,λe he=>absurd he List.not_mem_nil⟩
   rw[List.take_zero,mU hm0];omega
 |k+1,hk=>by
   have ih:=jV hm ht k (by omega)
   have hm1:∀k:Nat,aV ((bZ g).1,(bZ g).2.take k):=λk=>⟨ht.1,ht.2.1,by
     have:=ht.2.2.1
     show((bZ g).2.take k).length<=3072
     rw[List.length_take];omega,λe he=>ht.2.2.2 e (List.mem_of_mem_take he)⟩
   have hlt:k<(bZ g).2.length:=by omega
   have hok:=ht.2.2.2 _ (List.getElem_mem hlt)
   have hmem:∀e,e∈(bZ g).2.take (k+1)↔e∈(bZ g).2.take k\/e=((bZ g).2[k].1,(bZ g).2[k].2):=λe=>by
     rw[List.take_succ_eq_append_getElem hlt,List.mem_append,List.mem_singleton]
   have hnot:((bZ g).2[k].1,(bZ g).2[k].2)∉(bZ g).2.take k:=λq=>by
     obtain⟨i,hi,e⟩:=List.mem_iff_getElem.1 q
     rw[List.getElem_take] at e
     have hik:i<k:=by rw[List.length_take] at hi;omega
     have:=(List.pairwise_iff_getElem.1 (mJ g)) i k (by omega) hlt hik
     exact this e
   have hac:=pj (A:=(bZ g).2.take k) hm ((fl hm).1 (List.getElem_mem hlt)) (λK hK=>(fl hm).1 (List.mem_of_mem_take hK)) hnot
   rcases mA (g:=((bZ g).1,(bZ g).2.take (k+1))) (h:=((bZ g).1,(bZ g).2.take k)) (hm1 (k+1)) (hm1 k) rfl hok.1 hok.2 hmem with⟨q,_⟩|⟨_,q⟩
   · exact absurd q hac
   · omega
theorem oI(hm:aV g)(ht:aV (bZ g)):((bZ g).2.length:Int)=(bZ g).1-(bf (bZ g) [] []).2:=by
  have:=jV hm ht (bZ g).2.length (Nat.le_refl _)
  rw[List.take_length] at this
  rw[gY ht]
  have e:(eT ((bZ g).1,(bZ g).2)).2.1=(eT (bZ g)).2.1:=rfl
  omega
end TL
namespace TL
def aT(g:bw):bw×Int:=if aV g then if aV (bZ g) then(bZ g,0) else((0,[]),3) else((0,[]),1)
end TL
/-
  TlNilV: a list compared with none.
  By an AI agent.
-/
set_option linter.all false
namespace TL
open Go
def kI:Value->Bool
  | .slice none _ _=>false
  |_=>true
section
variable{P:Program}{w w':World}{t t':TypeId}{f:Fr}{x y:Operand}{dst:Option Tmp}{ty:TypeId}{pos:String}{after:Array Edge}{g:Option (Nat×Bool)}{α:Type}[Rp α]{γ:aG}{S:cw->Prop}{v:Value}{xs:List α}
theorem jR{e:TypeId}(ht:P.underlying t=some (.slice e))(hv:∃a l c,v= .slice a l c):(Op.equal t v (.slice none 0 0)).run P w= .ok (Bool.not (kI v)) w:=by
 obtain⟨a,l,c,rfl⟩:=hv
 unfold Op.equal
 rw[show Op.maxDepth=9999+1 from rfl]
 unfold Op.equalIn
 cases a<;>simp[aP ht,kI]
theorem Sl.shape(hs:Sl γ S w v xs):∃a l c,v= .slice a l c:=by
 rcases hs with⟨⟨a,rfl⟩,_⟩|⟨b,off,cap,rfl,_⟩
 · exact⟨_,_,_,rfl⟩
 · exact⟨_,_,_,rfl⟩
theorem fq{e:TypeId}(ht:P.underlying t=some (.slice e))(hs:Sl γ S w' v xs)(hx:ev f x=v)(hy:ev f y= .slice none 0 0):(execOp (ev f) ⟨dst,.binOp .neq t x y t',ty,pos,after,g⟩).run P w= .ok (.value (.bool (kI v))) w:=
 pG .neq hx hy (by simp[eqGuard]) (by simp[binOp,jR ht hs.shape])
theorem pT(hs:Sl γ S w v xs)(h:¬kI v=true):xs=[]:=by
 rcases hs with⟨_,h2⟩|⟨b,off,cap,rfl,_⟩
 · exact h2
 · exact absurd rfl h
end
end TL
