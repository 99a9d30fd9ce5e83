/- Plain texts of this claim, part 4. By an AI agent. -/
import Derived.Test.YtmakonaaojadbaaBaTlP3
import Derived.RowKit
/-
  TlTre: the tree of blocks and cut nodes: its edges; it has no cycle, and as many components as the net has with edges.
  By an AI agent.
-/
set_option linter.all false
namespace TL
variable{g:bK}{a b v w h i j x y z e c r:Int}{k m q:Nat}{l l':List Int}{A:List (Int×Int)}
theorem rc:cV g [] []=g:=by
 have e1:kX g [] []=bJ g.2.length:=by
   unfold kX
   rw[List.filter_eq_self]
   intro a _
   simp[gI]
 unfold cV
 rw[e1]
 have:(bJ g.2.length).map (gI g.2)=g.2:=by
   apply List.ext_getElem?
   intro i
   by_cases h:i<g.2.length
   · simp[bJ,gI,h]
   · simp[bJ,h]
 rw[this]
theorem nU(hm:bg g):(b7 g [] []).2=(fY g).2.1:=by
 unfold fY b7
 rw[if_pos hm,rc]
 have:∀k:Nat,bz g [] k=dZ g k:=by
   intro k
   induction k with
   |zero=>rfl
   |succ k ih=>
     rw[eM,gW,ih]
     unfold fH j6
     have hn:¬gI ([]:List Bool) (k:Int)=true:=by simp[gI]
     by_cases c:0<=gI (dZ g k).1 (k:Int)
     · rw[if_pos c,if_pos (.inl c)]
     · rw[if_neg c,if_neg (λj=>j.elim c hn)]
 rw[this]
theorem o4:(de g).Nodup:=(iz _).filter _
theorem Fn.all{L:List Int}{n:Int}(h:Fn L k n):∀i,0<=i->i<n->∃e:Nat,e<k/\gI L (e:Int)=i:=by
 induction h with
 |zero=>intro i a b;omega
 | @old k n j h1 h2 h3 ih=>
   intro i a b
   obtain⟨e,e1,e2⟩:=ih i a b
   exact⟨e,by omega,e2⟩
 | @new k n h1 h2 h3 ih=>
   intro i a b
   by_cases c:i=n
   · exact⟨k,by omega,by rw[h3,c]⟩
   · obtain⟨e,e1,e2⟩:=ih i a (by omega)
     exact⟨e,by omega,e2⟩
theorem oq(g:bK):∀k:Nat,k<=(de g).length->(∀j:Nat,j<k->gD g k (gI (de g) (j:Int))=cx g+(j:Int))/\∀q,(∀j:Nat,j<k->gI (de g) (j:Int)≠q)->gD g k q=0
 |0,_=>⟨λj q=>by omega,λq _=>rfl⟩
 |k+1,hk=>by
   obtain⟨h1,h2⟩:=oq g k (by omega)
   have e:gD g (k+1)=λq=>if q=gI (de g) (k:Int) then cx g+(k:Int) else gD g k q:=by
     unfold gD
     rw[cz,List.foldl_append];rfl
   refine⟨λj hj=>?_,λq hq=>?_⟩
   · rw[e]
     simp only
     by_cases c:j=k
     · rw[c,if_pos rfl]
     · rw[if_neg (λq=>c (by
         have:=tQ (o4 (g:=g)) (i:=(j:Int)) (j:=(k:Int)) (by omega) (by omega) (by omega) (by omega) q
         omega))]
       exact h1 j (by omega)
   · rw[e]
     simp only
     rw[if_neg (λj=>hq k (by omega) j.symm)]
     exact h2 q λj hj=>hq j (by omega)
def un(g:bK)(i c:Int):Prop:=∃h,hf g h/\i=gI (dq g) (h/2)/\∃j:Nat,j<(de g).length/\gI (de g) (j:Int)=aw g h/\c=cx g+(j:Int)
theorem nj(hm:bg g)(hh:hf g h):(0<gD g (de g).length (aw g h)/\gD g (de g).length (aw g h)=c)↔∃j:Nat,j<(de g).length/\gI (de g) (j:Int)=aw g h/\c=cx g+(j:Int):=by
 obtain⟨h1,h2⟩:=oq g (de g).length (Nat.le_refl _)
 have hp:0<cx g:=by have:=eR g (fM hh) (eP hh);omega
 constructor
 · rintro⟨a,b⟩
   refine Classical.byContradiction λhn=>?_
   have:=h2 (aw g h) λj hj e=>hn ⟨j,hj,e,by rw[<-b,<-e,h1 j hj]⟩
   omega
 · rintro⟨j,hj,e,rfl⟩
   rw[<-e,h1 j hj]
   exact⟨by omega,rfl⟩
theorem mq(g:bK)(F:Int->Int):∀n:Nat,(fR g F n).1.Nodup/\(∀K:Int×Int,K∈(fR g F n).1↔∃h:Nat,h<n/\K=(gI (dq g) ((h:Int)/2),F (aw g (h:Int)))/\0<K.2)/\∀K,0<=(fR g F n).2 K/\((fR g F n).2 K=0↔∀h:Nat,h<n->K≠(gI (dq g) ((h:Int)/2),F (aw g (h:Int))))
 |0=>⟨by simp[fR,bJ],λK=>⟨λq=>by simp[fR,bJ] at q,λ⟨h,q,_⟩=>by omega⟩,λK=>⟨by simp[fR,bJ],⟨λ_ h q=>by omega,λ_=>by simp[fR,bJ]⟩⟩⟩
 |n+1=>by
   obtain⟨h1,h2,h3⟩:=mq g F n
   have e:fR g F (n+1)=qn g F (fR g F n) (n:Int):=by
     unfold fR
     rw[cz,List.foldl_append];rfl
   have eK:(gI (aa g).1 ((n:Int)/2),F (aw g (n:Int)))=(gI (dq g) ((n:Int)/2),F (aw g (n:Int))):=rfl
   rw[e]
   unfold qn
   rw[eK]
   generalize hK0:(gI (dq g) ((n:Int)/2),F (aw g (n:Int)))=K0
   have hF:F (aw g (n:Int))=K0.2:=by rw[<-hK0]
   rw[hF]
   refine⟨?_,λK=>?_,λK=>?_⟩
   · simp only
     split
     · rename_i c
       rw[List.nodup_append]
       refine⟨h1,by simp,λa ha b hb q=>?_⟩
       rw[List.mem_singleton.1 hb] at q
       obtain⟨h,p1,p2,p3⟩:=(h2 a).1 ha
       exact((h3 K0).2.1 c.2) h p1 (by rw[<-q];exact p2)
     · exact h1
   · simp only
     constructor
     · intro q
       have:K∈(fR g F n).1\/(K=K0/\0<K0.2):=by
         split at q
         · rename_i c
           exact(List.mem_append.1 q).imp id λj=>⟨List.mem_singleton.1 j,c.1⟩
         · exact .inl q
       rcases this with j|⟨j1,j2⟩
       · obtain⟨h,p1,p2⟩:=(h2 K).1 j
         exact⟨h,by omega,p2⟩
       · exact⟨n,by omega,by rw[j1,hK0],by rw[j1];exact j2⟩
     · rintro⟨h,p1,p2,p3⟩
       by_cases c:K∈(fR g F n).1
       · split
         · exact List.mem_append_left _ c
         · exact c
       · have hn:∀h:Nat,h<n->K≠(gI (dq g) ((h:Int)/2),F (aw g (h:Int))):=λh' q1 q2=>c ((h2 K).2 ⟨h',q1,q2,p3⟩)
         have:h=n:=by
           by_cases d:h<n
           · exact absurd p2 (hn h d)
           · omega
         rw[this,hK0] at p2
         subst p2
         rw[if_pos ⟨p3,(h3 K).2.2 hn⟩]
         simp
   · simp only
     obtain⟨q1,q2⟩:=h3 K
     obtain⟨r1,r2⟩:=h3 K0
     by_cases c:K=K0
     · rw[if_pos c]
       refine⟨by omega,⟨λj=>by omega,λj=>absurd (by rw[c,hK0]) (j n (by omega))⟩⟩
     · rw[if_neg c]
       refine⟨q1,q2.trans ⟨λj h hh=>?_,λj h hh=>j h (by omega)⟩⟩
       by_cases d:h=n
       · rw[d,hK0];exact c
       · exact j h (by omega)
theorem ll(g:bK):(ii g).Nodup:=(mq g _ _).1
theorem ox(hm:bg g){K:Int×Int}:K∈ii g↔un g K.1 K.2:=by
 have h2:=(mq g (gD g (de g).length) (2*g.2.length)).2.1 K
 refine Iff.trans (show K∈ii g↔_ from h2) ?_
 constructor
 · rintro⟨h,p1,p2,p3⟩
   have hh:hf g (h:Int):=⟨by omega,by omega⟩
   rw[p2] at p3 ⊢
   exact⟨(h:Int),hh,rfl,(nj hm hh).1 ⟨p3,rfl⟩⟩
 · rintro⟨h,hh,p1,p2⟩
   obtain⟨q1,q2⟩:=(nj hm hh).2 p2
   have h0:=hh.1
   have h1:=hh.2
   refine⟨h.toNat,by omega,?_,by rw[<-q2];exact q1⟩
   rw[show((h.toNat:Nat):Int)=h by omega]
   exact Prod.ext p1 q2.symm
theorem ms(hm:bg g):(ii g).length<=2*g.2.length:=by
 have:∀n:Nat,(fR g (gD g (aa g).2.1.length) n).1.length<=n:=by
   intro n
   induction n with
   |zero=>simp[fR,bJ]
   |succ n ih=>
     have e:fR g (gD g (aa g).2.1.length) (n+1)=qn g (gD g (aa g).2.1.length) (fR g (gD g (aa g).2.1.length) n) (n:Int):=by
       unfold fR
       rw[cz,List.foldl_append];rfl
     rw[e]
     unfold qn
     simp only
     split
     · rw[List.length_append,List.length_singleton];omega
     · omega
 exact this _
def ie(g:bK):bK:=(cx g+((de g).length:Int),gM (ii g))
theorem un.rng(h:un g i c):(0<=i/\i<cx g)/\cx g<=c/\c<cx g+((de g).length:Int):=by
 obtain⟨k,hk,rfl,j,j1,_,rfl⟩:=h
 exact⟨eR g (fM hk) (eP hk),by omega,by omega⟩
theorem n5(g:bK):(ie g).2.length=(ii g).length:=(jt (ii g)).length_eq
end TL
namespace TL
def aO(g:bK):bK×Int:=if bg g then if bg (ie g) then(ie g,0) else((0,[]),3) else((0,[]),1)
end TL
/-
  TlBlk8: what the statements on blocks ask of samples.
  By an AI agent.
-/
set_option linter.all false
namespace TL
def bj:bK:=(4,[(0,1),(1,2),(2,0),(2,3),(3,3)])
theorem sm:rE (2,[(0,1),(0,1)]):=by
 intro _ _ _
 refine⟨?_,?_,?_⟩<;>decide+kernel
theorem kP{g:bK}(hm:bg g):(aA g).1=aa g:=by unfold aA;rw[if_pos hm];rfl
theorem iQ{g:bK}(hm:bg g):(aH g).1=bN g g.2.length:=by unfold aH;rw[if_pos hm]
theorem rG{g:bK}(h:d5 g=true)(h2:g.1<=40):decide ((g.2.length:Int)<=60)=decide (¬bg g\/(g.1<=40/\g.2.length<=60)):=by
 have hm:bg g:=of_decide_eq_true h
 rw[decide_eq_decide]
 exact⟨λa=>.inr ⟨h2,by omega⟩,λa=>by have:=(a.resolve_left (λk=>k hm)).2;omega⟩
theorem qw{g:bK}(h:d5 g=true)(h2:¬g.1<=40):false=decide (¬bg g\/(g.1<=40/\g.2.length<=60)):=by
 have hm:bg g:=of_decide_eq_true h
 rw[decide_eq_false]
 exact λa=>h2 (a.resolve_left (λk=>k hm)).1
theorem qR{g:bK}(h:¬d5 g=true):true=decide (¬bg g\/(g.1<=40/\g.2.length<=60)):=by
 rw[decide_eq_true]
 exact .inl λk=>h (decide_eq_true k)
section
variable{g:bK}{br:List Bool}{many:List Int}{j k:Nat}{e:Int}
end
end TL
/-
  TlBri: bridges, as the document has them; the tree of blocks, as the document makes it.
  By an AI agent.
-/
set_option linter.all false
namespace TL
variable{g:bK}{a b v w h i j x y z e f c r:Int}{k m q:Nat}{l:List Int}{ed:List (Int×Int)}
def iu(g:bK)(e:Int):List Bool:=(List.replicate g.2.length false).set e.toNat true
theorem k9(e0:0<=e)(e1:e<(g.2.length:Int))(x0:0<=x):gI (iu g e) x=true↔x=e:=by
 unfold iu
 rw[cS e0 (by simp;omega) x0]
 by_cases q:x=e
 · rw[if_pos q];simp[q]
 · rw[if_neg q]
   constructor
   · intro j
     exfalso
     by_cases c:x<(g.2.length:Int)
     · rw[fm x0 (by omega)] at j;cases j
     · have:¬x.toNat<g.2.length:=by omega
       simp[gI,this] at j
   · intro j;exact absurd j q
theorem nL(hm:bg g)(cut:List Bool):(b7 g [] cut).2=(fY (cV g [] cut)).2.1:=by
 unfold fY b7
 rw[if_pos (kK hm)]
 have:∀k:Nat,bz (cV g [] cut) [] k=dZ (cV g [] cut) k:=by
   intro k
   induction k with
   |zero=>rfl
   |succ k ih=>
     rw[eM,gW,ih]
     unfold fH j6
     have hn:¬gI ([]:List Bool) (k:Int)=true:=by simp[gI]
     by_cases c:0<=gI (dZ (cV g [] cut) k).1 (k:Int)
     · rw[if_pos c,if_pos (.inl c)]
     · rw[if_neg c,if_neg (λj=>j.elim c hn)]
 rw[this]
 rfl
theorem lj(hm:bg g)(e0:0<=e)(e1:e<(g.2.length:Int)):(b7 g [] []).2<(b7 g [] (iu g e)).2↔¬Cn (cV g [] (iu g e)) (gI g.2 e).1 (gI g.2 e).2:=by
  rw[nU hm,nL hm]
  have hok:=hm.2.2.2 _ (bP (xs:=g.2) e0 e1)
  have hmem:∀p,p∈g.2↔p∈(cV g [] (iu g e)).2\/p=((gI g.2 e).1,(gI g.2 e).2):=λp=>by
    constructor
    · intro hp
      obtain⟨i,hi,rfl⟩:=List.mem_iff_getElem.1 hp
      have ei:gI g.2 (i:Int)=g.2[i]:=by simp[gI,hi]
      by_cases c:(i:Int)=e
      · right;rw[<-ei,c]
      · left
        refine List.mem_map.2 ⟨(i:Int),gu.2 ⟨⟨by omega,by omega⟩,by simp[gI],by simp[gI],λq=>c ((k9 e0 e1 (by omega)).1 q)⟩,ei⟩
    · rintro(q|q)
      · obtain⟨i,hi,rfl⟩:=List.mem_map.1 q
        have:=(gu.1 hi).1
        exact bP this.1 this.2
      · rw[q];exact bP e0 e1
  rcases nK (g:=g) (h:=cV g [] (iu g e)) hm (kK hm) rfl hok.1 hok.2 hmem with⟨p,q⟩|⟨p,q⟩
  · exact⟨λj=>by omega,λj=>absurd p j⟩
  · exact⟨λ_=>p,λ_=>by omega⟩
theorem qt(hm:bg g)(e0:0<=e)(e1:e<(g.2.length:Int))(hv:∀h,hf g h->h/2=e->aw g h=v\/b6 g h=v)(hw:Wy g (λz=>z≠v) x y)(hx:eE g x):Cn (cV g [] (iu g e)) x y/\eE g y:=by
  have hP:=hG (gone:=[]) (cut:=iu g e) hm
  induction hw with
  |refl _=>exact⟨(Cn.eqv _).rfl _ hx,hx⟩
  |step p q r ih=>
    rename_i h'
    have ht:=di hm q
    have hne:¬gI (iu g e) (h'/2)=true:=λj=>by
      have:=(k9 e0 e1 (fM q)).1 j
      rcases hv h' q this with c|c
      · exact p.right c
      · exact r c
    exact⟨(Cn.eqv _).trans _ _ _ (hP.nd.2 hx) (hP.nd.2 ih.2) (hP.nd.2 ht) ih.1 (hP.one _ q ⟨by simp[gI],by simp[gI],hne⟩),ht⟩
theorem lC(hm:bg g)(e0:0<=e)(e1:e<(g.2.length:Int))(hl:¬(gI g.2 e).1=(gI g.2 e).2):(∀f,0<=f->f<(g.2.length:Int)->gI (dq g) f=gI (dq g) e->f=e)↔¬Cn (cV g [] (iu g e)) (gI g.2 e).1 (gI g.2 e).2:=by
  have hP:=hG (gone:=[]) (cut:=iu g e) hm
  have hq:=Cn.eqv (cV g [] (iu g e))
  have hok:=hm.2.2.2 _ (bP (xs:=g.2) e0 e1)
  have hoa:eE g (gI g.2 e).1:=hok.1
  have hob:eE g (gI g.2 e).2:=hok.2
  clear hok
  have hh:hf g (2*e):=⟨by omega,by omega⟩
  have hh2:hf g (2*e+1):=⟨by omega,by omega⟩
  have d0:(2*e)/2=e:=by omega
  have d1:(2*e+1)/2=e:=by omega
  have f0:aw g (2*e)=(gI g.2 e).1/\b6 g (2*e)=(gI g.2 e).2:=by
    unfold aw b6 pI
    rw[d0,show(2*e)%2=0 by omega];simp
  have f1:aw g (2*e+1)=(gI g.2 e).2/\b6 g (2*e+1)=(gI g.2 e).1:=by
    unfold aw b6 pI
    rw[d1,show(2*e+1)%2=1 by omega];simp
  generalize ha:(gI g.2 e).1=a at*
  generalize hb:(gI g.2 e).2=b at*
  have ends:∀h,hf g h->h/2=e->(aw g h=a/\b6 g h=b)\/(aw g h=b/\b6 g h=a):=λh h1 h2=>by
    rcases gO (g:=g) h1.1 with⟨p,q⟩|⟨p,q⟩
    · rw[h2,ha] at p;rw[h2,hb] at q;exact .inl ⟨p,q⟩
    · rw[h2,hb] at p;rw[h2,ha] at q;exact .inr ⟨p,q⟩
  constructor
  · intro hal hc
    -- a way round gives an edge beside it in its block
    have hk:∃k,hf g k/\k/2≠e/\aw g k=a/\b6 g k≠a/\Wy g (λz=>z≠a) (b6 g k) b:=Classical.byContradiction λhn=>by
      have:=hP.cl (λu=>u=a\/¬Wy g (λz=>z≠a) u b) (λk hk hp hs=>by
        have hke:k/2≠e:=λj=>hp.2.2 ((k9 e0 e1 (fM hk)).2 j)
        by_cases c:b6 g k=a
        · exact .inl c
        · right
          intro hw
          by_cases d:aw g k=a
          · exact hn ⟨k,hk,hke,d,c,hw⟩
          · rcases hs with s|s
            · exact d s
            · refine s ?_
              have:=Wy.one (g:=g) (A:=λz=>z≠a) hk d c
              exact this.trans hw) a b hc (.inl rfl)
      rcases this with s|s
      · exact hl s.symm
      · exact s (.refl λj=>hl j.symm)
    obtain⟨k,k1,k2,k3,k4,k5⟩:=hk
    have hrel:jY g (k/2) e:=⟨k,2*e,k1,hh,rfl,d0,by rw[k3,f0.1],by rw[k3];exact k4,by rw[f0.1,f0.2];exact λj=>hl j.symm,by rw[k3,f0.2];exact k5⟩
    exact k2 (hal (k/2) (fM k1) (eP k1) ((m8 hm (fM k1) (eP k1) e0 e1).2 (.rel hrel)))
  · intro hc f ff0 ff1 hof
    refine Classical.byContradiction λhne=>hc ?_
    rw[m8 hm ff0 ff1 e0 e1] at hof
    have hof:=hof.symm
    rcases si hof with p|⟨_,p2,p3⟩
    · exact absurd p.symm hne
    · obtain⟨z,hz,hza⟩:=p2.end_ a
      obtain⟨z',hz',hzb⟩:=p2.end_ b
      have ea:ko g e a:=⟨2*e+1,hh2,d1,f1.2⟩
      have eb:ko g e b:=⟨2*e,hh,d0,f0.2⟩
      have w1:=p3 a b z eb hz (λj=>hl j.symm) hza
      have w2:=p3 b a z' ea hz' hl hzb
      obtain⟨c1,n1⟩:=qt hm e0 e1 (v:=a) (λh h1 h2=>(ends h h1 h2).elim (λj=>.inl j.1) (λj=>.inr j.2)) w1 hob
      obtain⟨c2,n2⟩:=qt hm e0 e1 (v:=b) (λh h1 h2=>(ends h h1 h2).elim (λj=>.inr j.2) (λj=>.inl j.1)) w2 hoa
      have c3:Cn (cV g [] (iu g e)) z z':=by
        obtain⟨s,s1,s2,s3⟩:=hz
        obtain⟨t,t1,t2,t3⟩:=hz'
        have hone:=hP.one s s1 ⟨by simp[gI],by simp[gI],λj=>hne (by rw[<-s2];exact(k9 e0 e1 (fM s1)).1 j)⟩
        rcases kn s1 t1 (by rw[s2,t2]) with r|r
        · rw[<-s3,<-t3,r];exact hq.rfl _ (hP.nd.2 (di hm s1))
        · rw[<-s3,<-t3,r];exact hq.symm _ _ (hP.nd.2 (c8 hm s1)) (hP.nd.2 (di hm s1)) hone
      exact hq.symm _ _ (hP.nd.2 hob) (hP.nd.2 hoa) (hq.trans _ _ _ (hP.nd.2 hob) (hP.nd.2 n1) (hP.nd.2 hoa) c1 (hq.trans _ _ _ (hP.nd.2 n1) (hP.nd.2 n2) (hP.nd.2 hoa) c3 (hq.symm _ _ (hP.nd.2 hoa) (hP.nd.2 n2) c2)))
theorem mW(of:List Int)(n:Nat)(hr:∀e,0<=e->e<(of.length:Int)->0<=gI of e/\gI of e<(n:Int))(b0:0<=b):∀k:Nat,k<=of.length->gI (e9 of n k) b=(((bJ k).filter λj=>decide (gI of j=b)).length:Int)
  |0,_=>by
    have:e9 of n 0=List.replicate n 0:=rfl
    rw[this]
    by_cases c:b<(n:Int)
    · rw[fm b0 c];rfl
    · have hc:¬b.toNat<n:=by omega
      simp[gI,hc,bJ]
  |k+1,hk=>by
    have ih:=mW of n hr b0 k (by omega)
    obtain⟨r0,r1⟩:=hr (k:Int) (by omega) (by omega)
    have hl:=mD of n k
    rw[ju (by omega),bY r0 (by rw[hl];exact r1) b0,cz,List.filter_append,List.length_append]
    by_cases c:gI of (k:Int)=b
    · rw[if_pos c.symm,c,ih,List.filter_cons,if_pos (decide_eq_true c),List.filter_nil,List.length_singleton];omega
    · rw[if_neg (λq=>c q.symm),ih,List.filter_cons,if_neg (λq=>c (of_decide_eq_true q)),List.filter_nil,List.length_nil];omega
theorem mR(e0:0<=e)(e1:e<(g.2.length:Int)):gI (e9 (dq g) (cx g).toNat g.2.length) (gI (dq g) e)=1↔∀f,0<=f->f<(g.2.length:Int)->gI (dq g) f=gI (dq g) e->f=e:=by
 have hol:=fT g
 have hre:=eR g e0 e1
 rw[mW (dq g) (cx g).toNat (λx p q=>by have:=eR g p (by omega);omega) hre.1 g.2.length (by omega)]
 have hmem:∀f,f∈(bJ g.2.length).filter (λj=>decide (gI (dq g) j=gI (dq g) e))↔(0<=f/\f<(g.2.length:Int))/\gI (dq g) f=gI (dq g) e:=λf=>by
   rw[List.mem_filter,fa,decide_eq_true_iff]
 have hnd:((bJ g.2.length).filter (λj=>decide (gI (dq g) j=gI (dq g) e))).Nodup:=(iz _).filter _
 generalize(bJ g.2.length).filter (λj=>decide (gI (dq g) j=gI (dq g) e))=L at hmem hnd
 have he:=(hmem e).2 ⟨⟨e0,e1⟩,rfl⟩
 constructor
 · intro h f p q r
   have hf:=(hmem f).2 ⟨⟨p,q⟩,r⟩
   match L,h,he,hf with
   |[z],_,he,hf=>rw[List.mem_singleton.1 he,List.mem_singleton.1 hf]
   |[],h,he,_=>cases he
   |_::_::_,h,_,_=>simp at h;omega
 · intro h
   match L,he,hmem,hnd with
   |[z],_,_,_=>rfl
   |u::u'::t,_,hmem,hnd=>
     have h1:=(hmem u).1 (by simp)
     have h2:=(hmem u').1 (by simp)
     have e3:=h u h1.1.1 h1.1.2 h1.2
     have e4:=h u' h2.1.1 h2.1.2 h2.2
     rw[e3,e4] at hnd
     simp at hnd
theorem t7(hm:bg g)(hl:l=bN g k)(hk:(k:Int)<g.2.length)(hc:(b7 g [] []).2<(b7 g [] (List.set (List.replicate (Int.toNat (g.2.length:Int)) false) (Int.toNat (k:Int)) true)).2):l++[(k:Int)]=bN g (k+1):=by
 have hc:(b7 g [] []).2<(b7 g [] (iu g (k:Int))).2:=hc
 rw[lj hm (by omega) hk] at hc
 have hn:¬(gI g.2 (k:Int)).1=(gI g.2 (k:Int)).2:=λq=>hc (by
   have hok:=hm.2.2.2 _ (bP (xs:=g.2) (i:=(k:Int)) (by omega) hk)
   rw[<-q];exact(Cn.eqv _).rfl _ ⟨hok.1.1,hok.1.2⟩)
 rw[hl]
 exact(jM (decide_eq_true ((mR (by omega) hk).2 ((lC hm (by omega) hk hn).2 hc))) hn).symm
theorem tS(hm:bg g)(hl:l=bN g k)(hk:(k:Int)<g.2.length)(hc:¬(b7 g [] []).2<(b7 g [] (List.set (List.replicate (Int.toNat (g.2.length:Int)) false) (Int.toNat (k:Int)) true)).2):l=bN g (k+1):=by
 have hc:¬(b7 g [] []).2<(b7 g [] (iu g (k:Int))).2:=hc
 rw[lj hm (by omega) hk] at hc
 rw[hl]
 by_cases q:(gI g.2 (k:Int)).1=(gI g.2 (k:Int)).2
 · exact(iy (.inr q)).symm
 · exact(iy (.inl λj=>hc ((lC hm (by omega) hk q).1 ((mR (by omega) hk).1 j)))).symm
structure eH(g:bK)(ed:List (Int×Int))(i j:Nat):Prop where
  srt:ed.Pairwise λa b=>jf a b
  mem:∀K:Int×Int,K∈ed↔un g K.1 K.2/\(K.1<(i:Int)\/(K.1=(i:Int)/\K.2<cx g+(j:Int)))
theorem eH.start:eH g [] 0 0:=⟨.nil,λK=>⟨λq=>(by cases q),λ⟨q,r⟩=>(by have:=q.rng;omega)⟩⟩
theorem eH.few(hm:bg g)(h:eH g ed k m):(ed.length:Int)<=2*(g.2.length:Int):=by
 have hnd:ed.Nodup:=h.srt.imp λq r=>by rw[r] at q;exact iV q
 have hp:ed.Perm ((ii g).filter λK=>decide (K∈ed)):=by
   rw[List.perm_ext_iff_of_nodup hnd ((ll g).filter _)]
   intro K
   rw[List.mem_filter,decide_eq_true_iff,ox hm]
   exact⟨λq=>⟨((h.mem K).1 q).1,q⟩,λq=>q.2⟩
 have h1:=hp.length_eq
 have h2:((ii g).filter λK=>decide (K∈ed)).length<=(ii g).length:=List.length_filter_le ..
 have h3:=ms hm
 omega
theorem eH.next(h:eH g ed k m)(hm:¬(m:Int)<((aa g).2.1.length:Int)):eH g ed (k+1) 0:=by
 have hm:¬(m:Int)<((de g).length:Int):=hm
 refine⟨h.srt,λK=>?_⟩
 rw[h.mem K]
 refine and_congr_right λt=>?_
 have:=t.rng
 constructor
 · rintro(q|⟨q,_⟩)<;>omega
 · intro q
   by_cases d:K.1=(k:Int)
   · right;exact⟨d,by omega⟩
   · left;omega
theorem eH.no(h:eH g ed k m)(hn:¬un g (k:Int) (cx g+(m:Int))):eH g ed k (m+1):=by
 refine⟨h.srt,λK=>?_⟩
 rw[h.mem K]
 refine and_congr_right λt=>?_
 constructor
 · rintro(q|⟨q,r⟩)
   · exact .inl q
   · exact .inr ⟨q,by omega⟩
 · rintro(q|⟨q,r⟩)
   · exact .inl q
   · by_cases d:K.2=cx g+(m:Int)
     · rw[q,d] at t;exact absurd t hn
     · exact .inr ⟨q,by omega⟩
theorem eH.yes(h:eH g ed k m)(ht:un g (k:Int) (cx g+(m:Int))):eH g (ed++[((k:Int),cx g+(m:Int))]) k (m+1):=by
 refine⟨?_,λK=>?_⟩
 · rw[List.pairwise_append]
   refine⟨h.srt,by simp,λa ha b hb=>?_⟩
   rw[List.mem_singleton.1 hb]
   have:=((h.mem a).1 ha).2
   unfold jf
   simp only
   omega
 · rw[List.mem_append,List.mem_singleton,h.mem K]
   constructor
   · rintro(⟨t,q|⟨q,r⟩⟩|q)
     · exact⟨t,.inl q⟩
     · exact⟨t,.inr ⟨q,by omega⟩⟩
     · rw[q];exact⟨ht,.inr ⟨rfl,by simp only;omega⟩⟩
   · rintro⟨t,q|⟨q,r⟩⟩
     · exact .inl ⟨t,.inl q⟩
     · by_cases d:K.2=cx g+(m:Int)
       · exact .inr (Prod.ext q d)
       · exact .inl ⟨t,.inr ⟨q,by omega⟩⟩
theorem eH.done(hm:bg g)(h:eH g ed k m)(hk:¬(k:Int)<cx g)(hm0:m=0):(cx g+((de g).length:Int),ed)=ie g:=by
 have hs:ed=gM (ii g):=by
   refine pB ?_ (h.srt.imp λq r=>iV (oe q r))
   have hnd:ed.Nodup:=h.srt.imp λq r=>by rw[r] at q;exact iV q
   rw[List.perm_ext_iff_of_nodup hnd (ll g)]
   intro K
   rw[h.mem K,ox hm]
   exact⟨λq=>q.1,λq=>⟨q,.inl (by have:=q.rng;omega)⟩⟩
 unfold ie
 rw[hs]
def uE(g:bK)(i v:Int)(k:Nat):Prop:=∃e:Nat,e<k/\gI (dq g) (e:Int)=i/\((gI g.2 (e:Int)).1=v\/(gI g.2 (e:Int)).2=v)
theorem oy(hm:bg g){k:Nat}(hk:(k:Int)=g.2.length)(hj:m<(de g).length):uE g i (gI (de g) (m:Int)) k↔un g i (cx g+(m:Int)):=by
 constructor
 · rintro⟨e,e1,e2,e3⟩
   have d0:(2*(e:Int))/2=(e:Int):=by omega
   have d1:(2*(e:Int)+1)/2=(e:Int):=by omega
   rcases e3 with e3|e3
   · refine⟨2*(e:Int),⟨by omega,by omega⟩,by rw[d0,e2],m,hj,?_,rfl⟩
     rw[<-e3]
     unfold aw pI
     rw[d0,show(2*(e:Int))%2=0 by omega];rfl
   · refine⟨2*(e:Int)+1,⟨by omega,by omega⟩,by rw[d1,e2],m,hj,?_,rfl⟩
     rw[<-e3]
     unfold aw pI
     rw[d1,show(2*(e:Int)+1)%2=1 by omega];rfl
 · rintro⟨h,hh,h1,j,j1,j2,j3⟩
   have:j=m:=by omega
   subst this
   refine⟨(h/2).toNat,by have:=fM hh;have:=eP hh;omega,?_,?_⟩
   · rw[show(((h/2).toNat:Nat):Int)=h/2 by have:=fM hh;omega];exact h1.symm
   · rw[show(((h/2).toNat:Nat):Int)=h/2 by have:=fM hh;omega,j2]
     rcases gO (g:=g) hh.1 with⟨p,_⟩|⟨p,_⟩
     · exact .inl p.symm
     · exact .inr p.symm
structure jg(g:bK)(i v:Int)(th:Bool)(k:Nat):Prop where
 iff:th=true↔uE g i v k
theorem jg.start:jg g i v false 0:=⟨⟨λq=>(by cases q),λ⟨e,q,_⟩=>absurd q (Nat.not_lt_zero e)⟩⟩
theorem jg.keep(h:jg g i v true k):jg g i v true (k+1):=⟨⟨λ_=>by obtain⟨e,e1,e2⟩:=h.iff.1 rfl;exact⟨e,by omega,e2⟩,λ_=>rfl⟩⟩
theorem jg.yes{th:Bool}(h:jg g i v th k)(h1:gI (dq g) (k:Int)=i)(h2:(gI g.2 (k:Int)).1=v\/(gI g.2 (k:Int)).2=v):jg g i v true (k+1):=⟨⟨λ_=>⟨k,by omega,h1,h2⟩,λ_=>rfl⟩⟩
theorem jg.no(h:jg g i v false k)(hn:¬(gI (dq g) (k:Int)=i/\((gI g.2 (k:Int)).1=v\/(gI g.2 (k:Int)).2=v))):jg g i v false (k+1):=⟨⟨λq=>(by cases q),λ⟨e,e1,e2⟩=>by
 by_cases c:e=k
 · subst c;exact absurd e2 hn
 · exact h.iff.2 ⟨e,by omega,e2⟩⟩⟩
theorem jg.keep'{th:Bool}(h:jg g i v th k)(ht:th=true):jg g i v true (k+1):=by subst ht;exact h.keep
theorem jg.no'{th:Bool}(h:jg g i v th k)(ht:¬th=true)(hn:¬gI (dq g) (k:Int)=i):jg g i v false (k+1):=by
 have:th=false:=by simpa using ht
 subst this
 exact h.no λq=>hn q.1
theorem jg.dec{th:Bool}(h:jg g i v th k)(ht:¬th=true)(h1:gI (dq g) (k:Int)=i)(h2:¬(gI g.2 (k:Int)).1=v):jg g i v (decide ((gI g.2 (k:Int)).2=v)) (k+1):=by
 have:th=false:=by simpa using ht
 subst this
 by_cases c:(gI g.2 (k:Int)).2=v
 · rw[decide_eq_true c];exact h.yes h1 (.inr c)
 · rw[decide_eq_false c];exact h.no λq=>q.2.elim h2 c
theorem eH.yes'{th:Bool}{q:Nat}(hm:bg g)(h:eH g ed k m)(hj:(m:Int)<((aa g).2.1.length:Int))(hq:(q:Int)=g.2.length)(ht:jg g (k:Int) (gI (aa g).2.1 (m:Int)) th q)(hc:th=true):eH g (ed++[((k:Int),(aa g).2.2+(m:Int))]) k (m+1):=
 h.yes ((oy hm hq (by have:(m:Int)<((de g).length:Int):=hj;omega)).1 (ht.iff.1 hc))
theorem eH.no'{th:Bool}{q:Nat}(hm:bg g)(h:eH g ed k m)(hj:(m:Int)<((aa g).2.1.length:Int))(hq:(q:Int)=g.2.length)(ht:jg g (k:Int) (gI (aa g).2.1 (m:Int)) th q)(hc:¬th=true):eH g ed k (m+1):=
 h.no λz=>hc (ht.iff.2 ((oy hm hq (by have:(m:Int)<((de g).length:Int):=hj;omega)).2 z))
theorem eH.done'(hm:bg g)(h:eH g ed k 0)(hk:¬(k:Int)<(aa g).2.2):((aa g).2.2+((aa g).2.1.length:Int),ed)=ie g:=h.done hm hk rfl
theorem qA(h:l=bN g k)(hk:(k:Int)=g.2.length):l=bN g g.2.length:=by
 have:k=g.2.length:=by omega
 rw[h,this]
theorem ug(hm:bg g):(aA g).1=aa g/\(aA g).2=0/\(aH g).1=bN g g.2.length/\(aH g).2=0/\(bF g).1=c9 g/\(bF g).2=0:=by
 refine⟨kP hm,?_,iQ hm,?_,?_,?_⟩
 · unfold aA;rw[if_pos hm]
 · unfold aH;rw[if_pos hm]
 · unfold bF;rw[if_pos hm]
 · unfold bF;rw[if_pos hm]
theorem uI(hm:¬bg g):aA g=(([],[],0),1)/\aH g=([],1)/\aO g=((0,[]),1)/\bF g=(false,1):=by
 refine⟨?_,?_,?_,?_⟩
 · unfold aA;rw[if_neg hm]
 · unfold aH;rw[if_neg hm]
 · unfold aO;rw[if_neg hm]
 · unfold bF;rw[if_neg hm]
theorem tX(hm:bg g):((aA g).1.1.length:Int)<=3072/\((aA g).1.2.1.length:Int)<=1024/\((aH g).1.length:Int)<=3072/\((aO g).1.2.length:Int)<=6144:=by
 obtain⟨m1,m2,m3,m4⟩:=id hm
 have h1:=fT g
 have h2:=jo (g:=g) m1
 have h3:=gS (g:=g) (k:=g.2.length) rfl
 have h4:=ms hm
 have h5:=n5 g
 rw[kP hm,iQ hm]
 refine⟨by show((dq g).length:Int)<=3072;omega,by omega,by omega,?_⟩
 unfold aO
 rw[if_pos hm]
 split
 · show((ie g).2.length:Int)<=6144
   omega
 · simp
end TL
/-
  TlKru: edges of the least weight that join all that is joined (package path's Least): Kruskal's way by labels, and a forest of parents that agrees with the labels.
  By an AI agent.
-/
set_option linter.all false
namespace TL
def uH(ws:List Nat)(i:Int):Pl:=(zf (gI ws i),i)
def vD(ws:List Nat)(i k:Int):Prop:=uw (uH ws i) (uH ws k)
instance (ws:List Nat)(i k:Int):Decidable (vD ws i k):=by unfold vD;infer_instance
-- by labels
variable{n:Int}{of0 of c:List Int}{rho:Int->Nat}{v v0:Int}
end TL
namespace TL
variable{g:bK}{ws:List Nat}{of l:List Int}{k:Nat}
end TL
namespace TL
end TL
namespace TL
end TL
/-
  TlOnes: ways of weights 1, 0 and of none: as a walk breadth first goes.
  By an AI agent.
-/
set_option linter.all false
namespace TL
variable{g g1 g2:bK}{ws w1 w2:List Nat}{s v:Int}{f1 f2 far:List Nat}{b1 b2 by_:List Int}{r1 r2 rk:Int->Nat}{C:Nat}
end TL
namespace TL
variable{g:bK}{s:Int}
end TL
namespace TL
open Go
theorem lX{P:Program}{f:Fr}{w:World}{dst:Option Tmp}{ty:TypeId}{pos:String}{after:Array Edge}{g:Option (Nat×Bool)}{t t':TypeId}{x y:Operand}{op:BinOp}{k:IntKind}{m n r:Int}(hx:ev f x= .int k m)(hy:ev f y= .int k n)(h:binOp op t (.int k m) (.int k n)=pure (.int k r)):(execOp (ev f) ⟨dst,.binOp op t x y t',ty,pos,after,g⟩).run P w= .ok (.value (.int k r)) w:=
 cQ op x y hx hy (by rw[h];rfl)
end TL
namespace TL
variable{g:bK}{s v:Int}{on ze so:List Nat}{op:List Int}{i:Nat}
end TL
/-
  TlPerm: several new objects that are made in whatever order is drawn: all orders end alike.
  By an AI agent.
-/
set_option linter.all false
namespace TL
open Go
def lb(f:Fr)(val:Nat->Value)(S:List Nat):Fr:=λt=>bif S.contains t then val t else f t
theorem pW{f:Fr}{val:Nat->Value}{S S':List Nat}(h:∀t,t∈S↔t∈S'):lb f val S=lb f val S':=by
 funext t
 unfold lb
 have:S.contains t=S'.contains t:=by
   rw[Bool.eq_iff_iff]
   simp only[List.contains_iff_mem];exact h t
 rw[this]
theorem rZ{f:Fr}{val:Nat->Value}{S:List Nat}{d:Nat}{v:Value}(hd:d∉S):fF (lb f val S) (some d) v=lb f (λt=>if t=d then v else val t) (d::S):=by
 funext t
 unfold fF lb
 simp only
 by_cases c:t=d
 · subst c
   have e1:(t::S).contains t=true:=by simp
   rw[e1,Nat.beq_refl];simp
 · have e1:Nat.beq t d=false:=by
     cases h:Nat.beq t d with
     |false=>rfl
     |true=>exact absurd (Nat.eq_of_beq_eq_true h) c
   have e2:(d::S).contains t=S.contains t:=by
     rw[Bool.eq_iff_iff]
     simp[c]
   rw[e1,e2,if_neg c];rfl
def nB{α:Type}:List α->List (List α)
 |[]=>[[]]
 |a::l=>nB l++(nB l).map (a:: ·)
theorem jJ{α:Type}(p:α->Bool):∀l:List α,l.filter p∈nB l
 |[]=>List.mem_singleton.2 rfl
 |a::l=>by
   have ih:=jJ p l
   unfold nB
   rw[List.filter_cons]
   split
   · exact List.mem_append_right _ (List.mem_map.2 ⟨_,ih,rfl⟩)
   · exact List.mem_append_left _ ih
theorem iA:∀(D A:List (Nat×Nat)),D.Nodup->(∀p∈D,p∈A)->D.length<=A.length
 |[],A,_,_=>Nat.zero_le _
 |a::D,A,hn,hs=>by
   have hn':=List.nodup_cons.1 hn
   have ha:=hs a (List.mem_cons_self ..)
   have h3:=iA D (A.erase a) hn'.2 (λx hx=>by
     have hne:x≠a:=λe=>hn'.1 (by rw[<-e];exact hx)
     exact(List.mem_erase_of_ne hne).2 (hs x (List.mem_cons_of_mem _ hx)))
   have h4:=List.length_erase_of_mem ha
   have h5:=List.length_pos_of_mem ha
   rw[List.length_cons];omega
theorem kO:∀{A:List (Nat×Nat)},(A.map Prod.fst).Nodup->A.Nodup
 |[],_=>List.nodup_nil
 |a::A,h=>by
   rw[List.map_cons,List.nodup_cons] at h
   exact List.nodup_cons.2 ⟨λk=>h.1 (List.mem_map.2 ⟨a,k,rfl⟩),kO h.2⟩
theorem lf{A:List (Nat×Nat)}(h:(A.map Prod.snd).Nodup){p q:Nat×Nat}(hp:p∈A)(hq:q∈A)(e:p.2=q.2):p=q:=by
 induction A with
 |nil=>exact absurd hp List.not_mem_nil
 |cons a A ih=>
   rw[List.map_cons,List.nodup_cons] at h
   rcases List.mem_cons.1 hp with e1|e1
   · rcases List.mem_cons.1 hq with e2|e2
     · rw[e1,e2]
     · exact absurd (List.mem_map.2 ⟨q,e2,by rw[<-e,e1]⟩) h.1
   · rcases List.mem_cons.1 hq with e2|e2
     · exact absurd (List.mem_map.2 ⟨p,e1,by rw[e,e2]⟩) h.1
     · exact ih h.2 e1 e2
section
variable{P:Program}{n:Nat}{l:List Oper}{qs:List Nat}{K:Fr->World->Prop}{f:Fr}{w:World}{done:List Nat}{fuel:Nat}
theorem kR{n:Nat}{d d':List Nat}(h:∀t,t∈d↔t∈d'):cr n d=cr n d':=by
 unfold cr
 congr 1
 apply List.map_congr_left
 intro t _
 rw[decide_eq_decide];exact h t
theorem qk{done':List Nat}(h:∀t,t∈done↔t∈done')(hw:iE P n l qs K fuel done f w):iE P n l qs K fuel done' f w:=by
 unfold iE at*
 rw[<-kR h];exact hw
def rJ(dep:Nat->List Nat)(D:List (Nat×Nat)):Bool:=D.all λp=>(dep p.2).all λt=>(D.map Prod.snd).contains t
def mF(dep:Nat->List Nat)(A D:List (Nat×Nat)):List (Nat×Nat):=A.filter λp=> !(D.map Prod.fst).contains p.1&&(dep p.2).all λt=>(D.map Prod.snd).contains t
def vz(l:List Oper)(done:List Nat)(dep:Nat->List Nat)(A:List (Nat×Nat)):Bool:=(nB A).all λD=>decide (D.length=A.length)||(rJ dep D).not||(decide (Region.ready .any l.toArray (cr l.length (D.map Prod.fst++done))=(mF dep A D).map Prod.fst)&& !(mF dep A D).isEmpty)
theorem u9(A:List (Nat×Nat))(dep:Nat->List Nat)(Φ:Nat->List Value->aJ->World->Value->Prop)(γ:aJ)
    (hst:∀p∈A,∀vs γ w γ' w' v,bp no γ w γ' w'->Φ p.2 vs γ w v->Φ p.2 vs γ' w' v)
    (hnd:(A.map Prod.snd).Nodup)(hnf:(A.map Prod.fst).Nodup)
    (hrd:vz l done dep A=true)
    (hop:∀p∈A,qs.contains p.1=false/\∃o,l[p.1]? =some o/\o.dst=some p.2/\jP n o=true/\∀(f':Fr) (val:Nat->Value),(∀t,(A.map Prod.snd).contains t=false->f' t=f t)->(∀t∈dep p.2,f' t=val t)->cU l o f'=true/\∀γ w,(∀t∈dep p.2,Φ t ((dep t).map val) γ w (val t))->fA P o f' w λv w'=>∃γ',bp no γ w γ' w'/\Φ p.2 ((dep p.2).map val) γ' w' v)
    (hk:∀val γ' w',bp no γ w γ' w'->(∀p∈A,Φ p.2 ((dep p.2).map val) γ' w' (val p.2))->iE P n l qs K fuel (A.map Prod.fst++done) (lb f val (A.map Prod.snd)) w'):iE P n l qs K (fuel+A.length) done f w:=by
  have main:∀(m:Nat) (D:List (Nat×Nat)) (val:Nat->Value) (γ':aJ) (w':World),D.Nodup->(∀p∈D,p∈A)->(∀p∈D,∀t∈dep p.2,t∈D.map Prod.snd)->D.length+m=A.length->bp no γ w γ' w'->(∀p∈D,Φ p.2 ((dep p.2).map val) γ' w' (val p.2))->iE P n l qs K (fuel+m) (D.map Prod.fst++done) (lb f val (D.map Prod.snd)) w':=by
    have hAn:A.Nodup:=kO hnf
    intro m
    induction m with
    |zero=>
      intro D val γ' w' hD hsub hcl hl hc hF
      have hmem:∀p,p∈A↔p∈D:=by
        intro p
        refine⟨λhp=>?_,hsub p⟩
        by_cases c:p∈D
        · exact c
        · exfalso
          have:=iA (p::D) A (List.nodup_cons.2 ⟨c,hD⟩) (λq hq=>(List.mem_cons.1 hq).elim (λe=>by rw[e];exact hp) (hsub q))
          rw[List.length_cons] at this;omega
      have h1:=hk val γ' w' hc (λp hp=>hF p ((hmem p).1 hp))
      have e1:∀t,t∈A.map Prod.fst++done↔t∈D.map Prod.fst++done:=λt=>by
        simp only[List.mem_append,List.mem_map]
        constructor
        · rintro(⟨p,hp,rfl⟩|h)
          · exact .inl ⟨p,(hmem p).1 hp,rfl⟩
          · exact .inr h
        · rintro(⟨p,hp,rfl⟩|h)
          · exact .inl ⟨p,(hmem p).2 hp,rfl⟩
          · exact .inr h
      have e2:lb f val (A.map Prod.snd)=lb f val (D.map Prod.snd):=pW λt=>by
        simp only[List.mem_map]
        constructor
        · rintro⟨p,hp,rfl⟩;exact⟨p,(hmem p).1 hp,rfl⟩
        · rintro⟨p,hp,rfl⟩;exact⟨p,(hmem p).2 hp,rfl⟩
      rw[e2] at h1
      exact qk e1 h1
    |succ m ih=>
      intro D val γ' w' hD hsub hcl hl hc hF
      let D':=A.filter λp=>decide (p∈D)
      have hD':∀p,p∈D'↔p∈D:=λp=>by
        show p∈A.filter _↔_
        rw[List.mem_filter,decide_eq_true_iff]
        exact⟨λh=>h.2,λh=>⟨hsub p h,h⟩⟩
      have hD1:∀t,t∈D'.map Prod.fst↔t∈D.map Prod.fst:=λt=>by
        simp only[List.mem_map]
        exact⟨λ⟨p,hp,e⟩=>⟨p,(hD' p).1 hp,e⟩,λ⟨p,hp,e⟩=>⟨p,(hD' p).2 hp,e⟩⟩
      have hD2:∀t,t∈D'.map Prod.snd↔t∈D.map Prod.snd:=λt=>by
        simp only[List.mem_map]
        exact⟨λ⟨p,hp,e⟩=>⟨p,(hD' p).1 hp,e⟩,λ⟨p,hp,e⟩=>⟨p,(hD' p).2 hp,e⟩⟩
      have hlD:D'.length≠A.length:=by
        have h1:=iA D' D (hAn.filter _) (λp hp=>(hD' p).1 hp)
        omega
      have hcD:rJ dep D'=true:=by
        unfold rJ
        simp only[List.all_eq_true,List.contains_iff_mem]
        exact λp hp t ht=>(hD2 t).2 (hcl p ((hD' p).1 hp) t ht)
      have hr0:=List.all_eq_true.1 hrd D' (jJ _ A)
      rw[decide_eq_false hlD,hcD] at hr0
      simp only[Bool.not_true,Bool.or_false,Bool.false_or,Bool.and_eq_true] at hr0
      obtain⟨hr1,hne⟩:=hr0
      have hr:=of_decide_eq_true hr1
      have em:cr l.length (D'.map Prod.fst++done)=cr l.length (D.map Prod.fst++done):=kR λt=>by
        simp only[List.mem_append];rw[hD1 t]
      rw[em] at hr
      have hnx:∀p,p∈mF dep A D'->p∈A/\p∉D/\∀t∈dep p.2,t∈D.map Prod.snd:=λp hp=>by
        unfold mF at hp
        rw[List.mem_filter,Bool.and_eq_true,List.all_eq_true] at hp
        obtain⟨h1,h2,h3⟩:=hp
        refine⟨h1,λk=>?_,λt ht=>(hD2 t).1 (List.contains_iff_mem.1 (h3 t ht))⟩
        have:p.1∈D'.map Prod.fst:=List.mem_map.2 ⟨p,(hD' p).2 k,rfl⟩
        simp[this] at h2
      intro a ha
      refine⟨λh0=>?_,λk hk2=>?_⟩
      · rw[hr] at h0
        have h5:mF dep A D'=[]:=List.map_eq_nil_iff.1 h0
        rw[h5] at hne;cases hne
      · rw[hr] at hk2
        obtain⟨p,hp0,rfl⟩:=List.mem_map.1 hk2
        obtain⟨hp,hpD,hdp⟩:=hnx p hp0
        obtain⟨hq,o,hi,hdst,hdk,ho⟩:=hop p hp
        have hlt:p.1<l.length:=(List.getElem?_eq_some_iff.1 hi).1
        have hq':decide (p.1∈qs)=false:=by simpa using hq
        have hd2:p.2∉D.map Prod.snd:=by
          intro k
          obtain⟨q,hq2,e⟩:=List.mem_map.1 k
          have:q=p:=lf hnd (hsub q hq2) hp e
          rw[this] at hq2;exact hpD hq2
        obtain⟨hw1,hw2⟩:=ho (lb f val (D.map Prod.snd)) val (λt ht=>by
          unfold lb
          have:(D.map Prod.snd).contains t=false:=by
            cases hc2:(D.map Prod.snd).contains t with
            |false=>rfl
            |true=>
              obtain⟨q,hq2,e⟩:=List.mem_map.1 (List.contains_iff_mem.1 hc2)
              have:(A.map Prod.snd).contains t=true:=List.contains_iff_mem.2 (List.mem_map.2 ⟨q,hsub q hq2,e⟩)
              rw[this] at ht;cases ht
          rw[this];rfl) (λt ht=>by
          unfold lb
          rw[List.contains_iff_mem.2 (hdp t ht)];rfl)
        simp only[hq',Bool.false_eq_true,if_false]
        refine ff ha hi hw1 (hw2 γ' w' (λt ht=>?_)) λv w2 ⟨γ2,c2,h2⟩=>?_
        · obtain⟨q,hq2,e⟩:=List.mem_map.1 (hdp t ht)
          rw[<-e];exact hF q hq2
        rw[dd _ hlt]
        have hc2:bp no γ w γ2 w2:=hc.trans c2 (λ_ _ h=>h.elim id id)
        have hval:∀q:Nat×Nat,(∀t∈dep q.2,t∈D.map Prod.snd)->(dep q.2).map (λt=>if t=p.2 then v else val t)=(dep q.2).map val:=λq hq2=>List.map_congr_left λt ht=>by
          rw[if_neg]
          intro e
          exact hd2 (by rw[<-e];exact hq2 t ht)
        have hnext:=ih (p::D) (λt=>if t=p.2 then v else val t) γ2 w2 (List.nodup_cons.2 ⟨hpD,hD⟩) (λq hq2=>(List.mem_cons.1 hq2).elim (λe=>by rw[e];exact hp) (hsub q)) (λq hq2 t ht=>by
          rw[List.map_cons]
          rcases List.mem_cons.1 hq2 with e|e
          · rw[e] at ht;exact List.mem_cons_of_mem _ (hdp t ht)
          · exact List.mem_cons_of_mem _ (hcl q e t ht)) (by rw[List.length_cons];omega) hc2 (λq hq2=>by
          rcases List.mem_cons.1 hq2 with e|e
          · rw[e,if_pos rfl,hval p hdp];exact h2
          · have hne:q.2≠p.2:=λk=>hd2 (by rw[<-k];exact List.mem_map.2 ⟨q,e,rfl⟩)
            rw[if_neg hne,hval q (hcl q e)]
            exact hst q (hsub q e) _ _ _ _ _ _ c2 (hF q e))
        have ef:fF (lb f val (D.map Prod.snd)) o.dst v=lb f (λt=>if t=p.2 then v else val t) ((p::D).map Prod.snd):=by
          rw[hdst,rZ hd2];rfl
        have:=hnext (a.put o.dst v) (by rw[<-ef];exact ha.put hdk v)
        exact this
  have h0:=main A.length [] (λ_=>undef) γ w List.nodup_nil (λp hp=>absurd hp List.not_mem_nil) (λp hp=>absurd hp List.not_mem_nil) (by simp) (bp.refl _ _ _) (λp hp=>absurd hp List.not_mem_nil)
  have e0:lb f (λ_=>undef) (([]:List (Nat×Nat)).map Prod.snd)=f:=by
    funext t;rfl
  rw[e0] at h0
  exact h0
end
end TL
namespace TL
open Go
structure Mk where
  op:Nat
  slot:Nat
  dep:List Nat
  ok:List Value->aJ->World->Value->Prop
def t8:List Mk->Prop
 |[]=>True
 |p::r=>(∀vs γ w γ' w' v,bp no γ w γ' w'->p.ok vs γ w v->p.ok vs γ' w' v)/\t8 r
def gn:List Mk->Nat->List Nat
 |[],_=>[]
 |p::r,t=>bif Nat.beq t p.slot then p.dep else gn r t
def jV:List Mk->Nat->List Value->aJ->World->Value->Prop
 |[],_=>λ_ _ _ _=>False
 |p::r,t=>bif Nat.beq t p.slot then p.ok else jV r t
def s9(P:Program)(n:Nat)(l:List Oper)(qs:List Nat)(f:Fr)(L:List Mk)(S:List Nat):List Mk->Prop
  |[]=>True
  |p::r=>(qs.contains p.op=false/\∃o,l[p.op]? =some o/\o.dst=some p.slot/\jP n o=true/\∀(f':Fr) (val:Nat->Value),(∀t,S.contains t=false->f' t=f t)->(∀t∈p.dep,f' t=val t)->cU l o f'=true/\∀γ w,(∀t∈p.dep,jV L t ((gn L t).map val) γ w (val t))->fA P o f' w λv w'=>∃γ',bp no γ w γ' w'/\p.ok (p.dep.map val) γ' w' v)/\s9 P n l qs f L S r
theorem t8.mem{L:List Mk}(h:t8 L):∀p∈L,∀vs γ w γ' w' v,bp no γ w γ' w'->p.ok vs γ w v->p.ok vs γ' w' v:=by
 induction L with
 |nil=>intro p hp;exact absurd hp List.not_mem_nil
 |cons a L ih=>
   intro p hp
   rcases List.mem_cons.1 hp with e|e
   · rw[e];exact h.1
   · exact ih h.2 p e
theorem ly{a b:Nat}(h:a≠b):Nat.beq a b=false:=by
 cases k:Nat.beq a b with
 |false=>rfl
 |true=>exact absurd (Nat.eq_of_beq_eq_true k) h
theorem jl:∀{L:List Mk},(L.map Mk.slot).Nodup->∀p∈L,gn L p.slot=p.dep/\jV L p.slot=p.ok
 |[],_,p,hp=>absurd hp List.not_mem_nil
 |a::L,h,p,hp=>by
   rw[List.map_cons,List.nodup_cons] at h
   rcases List.mem_cons.1 hp with e|e
   · rw[e];unfold gn jV;rw[Nat.beq_refl];exact⟨rfl,rfl⟩
   · have hne:p.slot≠a.slot:=λk=>h.1 (by rw[<-k];exact List.mem_map.2 ⟨p,e,rfl⟩)
     unfold gn jV
     rw[ly hne];exact jl h.2 p e
def kD(K:Fr->Prop)(γ:aJ)(w:World):List Mk->List (Nat×Value)->Fr->Prop
  |[],_,f=>K f
  |p::r,env,f=>∀v,p.ok (p.dep.map λt=>(env.lookup t).getD undef) γ w v->kD K γ w r ((p.slot,v)::env) (fF f (some p.slot) v)
def ol:List Mk->List Nat->Bool
 |[],_=>true
 |p::r,S=>(p.dep.all λt=>S.contains t)&&ol r (p.slot::S)
theorem rI{f:Fr}{val:Nat->Value}{d:Nat}{S:List Nat}:lb (fF f (some d) (val d)) val S=lb f val (d::S):=by
 funext t
 unfold lb fF
 simp only
 by_cases c:t=d
 · subst c
   have e1:(t::S).contains t=true:=by simp
   rw[e1,Nat.beq_refl];cases S.contains t<;>rfl
 · have e1:Nat.beq t d=false:=ly c
   have e2:(d::S).contains t=S.contains t:=by
     rw[Bool.eq_iff_iff]
     simp[c]
   rw[e1,e2];rfl
theorem kD.use{K:Fr->Prop}{γ:aJ}{w:World}{val:Nat->Value}:∀{L:List Mk} {env:List (Nat×Value)} {f:Fr},kD K γ w L env f->(∀t∈env.map Prod.fst,(env.lookup t).getD undef=val t)->ol L (env.map Prod.fst)=true->(∀p∈L,p.ok (p.dep.map val) γ w (val p.slot))->K (lb f val (L.map Mk.slot))
 |[],_,f,h,_,_,_=>by
   have:lb f val (([]:List Mk).map Mk.slot)=f:=by funext t;rfl
   rw[this];exact h
 |p::L,env,f,h,he,ht,hF=>by
   unfold ol at ht
   rw[Bool.and_eq_true,List.all_eq_true] at ht
   have e1:p.dep.map (λt=>(env.lookup t).getD undef)=p.dep.map val:=List.map_congr_left λt h1=>he t (List.contains_iff_mem.1 (ht.1 t h1))
   have h2:=h (val p.slot) (by rw[e1];exact hF p (List.mem_cons_self ..))
   have:=kD.use h2 (λt h3=>by
     rw[List.lookup_cons]
     by_cases c:t=p.slot
     · rw[c];simp
     · have:(t==p.slot)=false:=by simpa using c
       rw[this]
       exact he t ((List.mem_cons.1 h3).resolve_left c)) ht.2 (λq hq=>hF q (List.mem_cons_of_mem _ hq))
   rw[rI] at this;exact this
section
variable{P:Program}{n:Nat}{l:List Oper}{qs:List Nat}{K:Fr->World->Prop}{f:Fr}{w:World}{done:List Nat}{fuel:Nat}{S:List Nat}
theorem s9.mem{L M:List Mk}(h:s9 P n l qs f M S L):∀p∈L,qs.contains p.op=false/\∃o,l[p.op]? =some o/\o.dst=some p.slot/\jP n o=true/\∀(f':Fr) (val:Nat->Value),(∀t,S.contains t=false->f' t=f t)->(∀t∈p.dep,f' t=val t)->cU l o f'=true/\∀γ w,(∀t∈p.dep,jV M t ((gn M t).map val) γ w (val t))->fA P o f' w λv w'=>∃γ',bp no γ w γ' w'/\p.ok (p.dep.map val) γ' w' v:=by
 induction L with
 |nil=>intro p hp;exact absurd hp List.not_mem_nil
 |cons a L ih=>
   intro p hp
   rcases List.mem_cons.1 hp with e|e
   · rw[e];exact h.1
   · exact ih h.2 p e
theorem fA.mono{o:Oper}{N N':Value->World->Prop}(h:fA P o f w N)(hN:∀v w,N v w->N' v w):fA P o f w N':=by
 unfold fA at*
 generalize(execOp (ev f) o).run P w=r at*
 cases r with
 |halt x w'=>exact h.elim
 |ok nx w'=>
   cases nx<;>simp only[pj] at h ⊢
   case value v=>exact hN _ _ h
   case skip=>exact hN _ _ h
   case enter g args=>
     refine h.mono λe w'' he=>?_
     cases e with
     |returned v=>exact hN _ _ he
     |panicked c=>exact he.elim
     |outgrown=>exact he.elim
theorem oX(γ:aJ)(L:List Mk)(A:List (Nat×Nat))(fu:Nat)(hA:L.map (λp=>(p.op,p.slot))=A)(hst:t8 L)(hnd0:(A.map Prod.snd).Nodup)(hnf:(A.map Prod.fst).Nodup)
    (hrd:vz l done (gn L) A=true)(htp:ol L []=true)
    (hfu:fu=fuel+A.length)(hop:s9 P n l qs f L (A.map Prod.snd) L)
    (hk:∀γ' w',bp no γ w γ' w'->kD (λf'=>iE P n l qs K fuel (A.map Prod.fst++done) f' w') γ' w' L [] f):iE P n l qs K fu done f w:=by
  subst hfu
  have e1:A.map Prod.snd=L.map Mk.slot:=by rw[<-hA,List.map_map];rfl
  have hnd:(L.map Mk.slot).Nodup:=by rw[<-e1];exact hnd0
  refine u9 A (gn L) (jV L) γ (λq hq=>?_) hnd0 hnf hrd (λq hq=>?_) (λval γ' w' hc hF=>?_)
  · rw[<-hA] at hq
    obtain⟨p,hp,rfl⟩:=List.mem_map.1 hq
    intro vs γ w γ' w' v hc
    show jV L p.slot vs γ w v->jV L p.slot vs γ' w' v
    rw[(jl hnd p hp).2];exact hst.mem p hp vs γ w γ' w' v hc
  · rw[<-hA] at hq
    obtain⟨p,hp,rfl⟩:=List.mem_map.1 hq
    obtain⟨a,o,b,c,d,e⟩:=hop.mem p hp
    show qs.contains p.op=false/\∃o,l[p.op]? =some o/\o.dst=some p.slot/\jP n o=true/\∀(f':Fr) (val:Nat->Value),(∀t,(A.map Prod.snd).contains t=false->f' t=f t)->(∀t∈gn L p.slot,f' t=val t)->cU l o f'=true/\∀γ w,(∀t∈gn L p.slot,jV L t ((gn L t).map val) γ w (val t))->fA P o f' w λv w'=>∃γ',bp no γ w γ' w'/\jV L p.slot ((gn L p.slot).map val) γ' w' v
    rw[(jl hnd p hp).1,(jl hnd p hp).2]
    exact⟨a,o,b,c,d,e⟩
  · have h1:=(hk γ' w' hc).use (val:=val) (λt ht=>absurd ht List.not_mem_nil) htp (λp hp=>by
      have:=hF (p.op,p.slot) (by rw[<-hA];exact List.mem_map.2 ⟨p,hp,rfl⟩)
      have h2:jV L p.slot ((gn L p.slot).map val) γ' w' (val p.slot):=this
      rw[(jl hnd p hp).1,(jl hnd p hp).2] at h2;exact h2)
    rw[e1];exact h1
theorem n7{o:Oper}{v:Value}{N:Value->World->Prop}(h:(execOp (ev f) o).run P w= .ok (.value v) w)(hk:N v w):fA P o f w N:=by unfold fA;rw[h];exact hk
end
theorem e8{t:Nat}{l:List Nat}(h:l.contains t=true):t∈l:=List.contains_iff_mem.1 h
theorem ig{f:Fr}{i:Nat}{x:Operand}{xs:List (Nat×Operand)}{v:Value}{vs:List (Nat×Value)}(h:ev f x=v)(h2:xs.map (λx=>(x.1,ev f x.2))=vs):((i,x)::xs).map (λx=>(x.1,ev f x.2))=(i,v)::vs:=by subst h h2;rfl
end TL
/-
  TlPost: what is owed behind a law that returns true and writes nothing of the caller's.
  By an AI agent.
-/
namespace TL
open Go Go.Proofs Go.ChangeShapes Go.WideShapes Go.RowKit
def oF(P:Program)(ts:List TypeId):Bool:=ts.all λt=>P.readableRec t&&decide (t<P.types.size)
theorem lg{H:Type}{enc:TypeId×Value->H}{P:Program}(hl:laidOutB P=true){W W':World}(hb:Below W.heap.size W W')(sp:Nat->Bool):
   ∀{ts:List TypeId} {vs:List Value} {ds:List (DataW H)} {ps:List MemPlace},oF P ts=true->DataW.TrodAll enc P W 0 (λ_=>true) true ts vs ds ps->(∀p∈ps,p.block<W.heap.size)->(∀p∈ps,sp p.block=true)->DataW.TrodAll enc P W' 0 sp true ts vs ds ps
 |[],[],[],_,_,h,_,_=>h
 |[],[],_::_,_,_,h,_,_=>h.elim
 |[],_::_,_,_,_,h,_,_=>by cases‹List (DataW H)›<;>exact h.elim
 |_::_,[],_,_,_,h,_,_=>by cases‹List (DataW H)›<;>exact h.elim
 |_::_,_::_,[],_,_,h,_,_=>h.elim
 |t::ts,v::vs,d::ds,ps,hr,h,hlt,hsp=>by
   obtain⟨p,q,h1,h2,rfl⟩:=h
   simp only[oF,List.all_cons,Bool.and_eq_true,decide_eq_true_eq] at hr
   exact⟨p,q,WideElems.Trod_stays hl hr.1.1 hr.1.2 h1 (λx hx=>hb.same (hlt x (by simp[hx]))) (λx hx=>hsp x (by simp[hx])),
     lg hl hb sp hr.2 h2 (λx hx=>hlt x (by simp[hx])) (λx hx=>hsp x (by simp[hx])),rfl⟩
theorem qL{H:Type}{enc:TypeId×Value->H}{P:Program}{f:Func}{s:ChangeSpec}{W W':World}{args:Array Value}{ds gs:List (DataW H)}{before:List MemPlace}{tb:TypeId}
   (hl:laidOutB P=true)(hr:oF P f.params.toList=true)(hv:s.vars=[])(hrt:f.resultTypes= #[tb])(htb:P.underlying tb=some .bool)
   (hW:DataW.Whole enc P f.params.toList s.vars false W args.toList ds gs before)(hfn:s.fn H (ds++gs)={results:=[.lit (.bool true)],args:=ds})(hB:Below W.heap.size W W'):
   s.post enc P f false true false false W args (.bool true) W':=by
 have hlt:=hW.lt
 have hW0:=hW
 obtain⟨p,q,hA,hV,rfl,hfz,_⟩:=hW
 rw[hv] at hV
 obtain⟨rfl,rfl⟩:=trodVars_none hV
 simp only[List.append_nil] at hlt hfz hW0 hfn
 have hres:∀(b:Nat) (sp:Nat->Bool) (hd:Bool),DataW.TrodAll enc P W' b sp hd f.resultTypes.toList ((Value.bool true).resultList f.resultTypes.size) (s.fn H (ds++[])).results []:=λb sp hd=>by
   rw[hrt,List.append_nil,hfn]
   exact trodAll_cons_mk (shut_bool htb true) trodAll_mk0
 have hargs:∀sp:Nat->Bool,(∀x∈p,sp x.block=true)->DataW.TrodAll enc P W' 0 sp true f.params.toList args.toList (s.fn H (ds++[])).args p:=λsp hsp=>by
   rw[List.append_nil,hfn]
   exact lg hl hB sp hr hA hlt hsp
 have hvars:∀sp:Nat->Bool,DataW.TrodVars enc P W' sp s.vars (s.fn H (ds++[])).vars []:=λsp=>by
   rw[List.append_nil,hfn,hv]
   rfl
 refine⟨ds,[],p,[],p,[],hW0,hres _ _ _,hargs _ (λx hx=>by simpa using hlt x hx),hvars _,World.keptBut_mono (λx hx=>⟨hx,Or.inr (by simpa using hx)⟩) (hB.frame _),λ_=>?_⟩
 refine⟨?_,_,_,([]++p)++[],⟨[]++p,[],trodAll_append (hargs _ (λ_ _=>rfl)) (hres _ _ _),hvars _,rfl,?_,?_⟩,?_⟩
 · exact ok_one hrt rfl (okWide_bool_mk htb true)
 · intro b off hp
   have hp':MemPlace.cell b off∈p:=by simpa using hp
   rw[hB.frozen (p:=⟨b,off,none⟩) (hlt _ hp')]
   exact hfz b off hp'
 · intro ha;cases ha
 · intro x hx _
   simpa using hx
end TL
/-
  TlOpenN: an argument that is a net, with the bound of its edges.
  By an AI agent.
-/
set_option linter.all false
namespace TL
open Go Go.Proofs Go.ChangeShapes Go.WideShapes Go.Joins Go.Deep
theorem uf{α:Type}[Rp α]{P:Program}{t:TypeId}(h:ti α P t):uz α (λ_=>True) P t:=by
 intro H enc w fuel cs x hx
 obtain⟨y,hy⟩:=h enc w fuel cs x hx
 exact⟨y,hy,trivial⟩
theorem rx{α:Type}[Rp α][Inhabited α]{P:Program}{t t0 t1 e:TypeId}{f0 f1:Field}(hs:P.underlying t=some (.struct #[f0,f1]))(hone:oneCellFields P #[f0,f1]=true)(hC:P.cellsOf t=2)(hts:P.cellTypes P.depth t=some [t0,t1])
   (h0:f0.type=t0)(h1:f1.type=t1)(hi:P.underlying t0=some (.int .i64))(ht:P.underlying t1=some (.slice e))(hc:P.cellsOf e=Rp.sz α)(hz:0<Rp.sz α)(he:ti α P e)
   {H:Type}{enc:TypeId×Value->H}{w:World}{f:DataW H->Nat}(hf:o9 f){base:Nat}{v:Value}{d:DataW H}{p:List MemPlace}
   (hval:Value.okWide P w .any base t v)(h:DataW.Trod enc P w 0 (λ_=>true) true t v d p)(hb:f d<=1048576):∃(n:Int) (u:Value) (xs:List α),v= .agg #[.int .i64 n,u]/\Ro w u xs/\(xs.length:Int)<=1048576:=by
 obtain⟨v0,v1,y0,y1,n,rfl,rfl,rfl,r0,r1⟩:=open_agg2 hs hone hC hval h
 subst h0 h1
 obtain⟨k,hk,_,_⟩:=DataW.trod_int hi r0
 obtain rfl:v0= .int .i64 k:=by simpa using hk
 have hcell:Cell.okWide P w .any base f1.type v1:=by
   simp only[Value.okWide,hs] at hval
   obtain⟨cs,hcs,_,ts,h3,_,h4⟩:=hval
   rw[hts] at h3
   obtain rfl:=Option.some.inj h3
   obtain rfl: #[Value.int .i64 k,v1]=cs:=by simpa using hcs
   obtain⟨u,hu,hk⟩:=h4 1 v1 rfl
   simp at hu
   subst hu
   exact hk
 obtain⟨xs,hx,_,hl⟩:=q9 (α:=α) ht hc hz (uf he) hf (lS ht hcell) (x:=y1) r1 (Nat.le_trans (hf.part _ _ (by simp)) hb)
 exact⟨k,v1,xs,rfl,hx,by omega⟩
end TL
