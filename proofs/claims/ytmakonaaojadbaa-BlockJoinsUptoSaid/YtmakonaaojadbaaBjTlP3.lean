/- Plain texts of this claim, part 3. By an AI agent. -/
import Derived.Test.YtmakonaaojadbaaBjTlP2
import Derived.RowKit
/-
  TlCls8: what the blocks of a net are: edges are in one block just if a chain of edges joins them, each two at a node whose other ends are joined without it.
  By an AI agent.
-/
set_option linter.all false
namespace TL
variable{g:bF}{s:Bs}{fr:Fm}{path:List Int}{u v w e f b h x:Int}
theorem kp(hx:gI s.place x≠0)(hs:dm g s path)(x0:0<=x)(hm:ba g)(hp:path≠[])(hu:u=gI path ((path.length:Int)-1)):gI (cK g s path u).1.place x≠0:=by
 unfold cK
 split
 · rw[gZ];exact hx
 · rename_i hn
   simp only
   unfold da
   split
   · exact hx
   · split
     · exact hx
     · split
       · rename_i c
         have hup:=hs.pr u (by rw[hu,fL hp];simp[gI])
         obtain⟨n0,n1⟩:=hs.nx u hup.1.1 hup.1.2
         have n1':gI s.next u<=((gI (aT g) u).length:Int):=n1
         obtain⟨hh,_⟩:=gg hup.1.1 hup.1.2 n0 (by omega)
         obtain⟨w0,w1⟩:=fb hm hh
         have hl:=hs.l1
         have hf:=hs.f0
         show gI (s.place.set _ (s.found+1)) x≠0
         rw[bM w0 (by omega) x0]
         split
         · omega
         · exact hx
       · exact hx
theorem qy(hm:ba g):∀(n:Nat) (s:Bs) (fr:Fm),eD g s fr->iV g s (fr.map Prod.fst)->bo g s (fr.map Prod.fst)<=n->
   eD g (mA g n s (fr.map Prod.fst)) []/\iV g (mA g n s (fr.map Prod.fst)) []/\∀x,0<=x->gI s.place x≠0->gI (mA g n s (fr.map Prod.fst)).place x≠0
 |0,s,fr,hd,hu,hl=>by
   have:fr.map Prod.fst=[]:=List.length_eq_zero_iff.1 (by unfold bo at hl;omega)
   have:fr=[]:=List.map_eq_nil_iff.1 this
   subst this
   exact⟨hd,hu,λx _ h=>h⟩
 |n+1,s,fr,hd,hu,hl=>by
   by_cases c:fr=[]
   · subst c
     unfold mA
     exact⟨hd,hu,λx _ h=>h⟩
   · have hp:fr.map Prod.fst≠[]:=λk=>c (List.map_eq_nil_iff.1 k)
     obtain⟨fr',h1,h2,h3⟩:=pN hm hd hu c rfl
     have hless:=gJ hd.se hp rfl
     unfold mA
     rw[if_neg hp,<-h1]
     rw[<-h1] at h3 hless
     obtain⟨a1,a2,a3⟩:=qy hm n _ fr' h2 h3 (by omega)
     exact⟨a1,a2,λx x0 hx=>a3 x x0 (kp hx hd.se x0 hm hp rfl)⟩
theorem iV.begin_(hu:iV g s [])(hse:dm g s [])(v0:0<=v)(v1:v<g.1):iV g (eg s v) [v]:=by
 have hl:=hse.l1
 refine⟨hu.use,λx x0 x1 hx hxp=>?_⟩
 have hx:gI (s.place.set v.toNat (s.found+1)) x≠0:=hx
 have hne:x≠v:=λk=>hxp (by rw[k];simp)
 rw[bM v0 (by omega) x0,if_neg hne] at hx
 exact hu.exh x x0 x1 hx (by simp)
theorem lO(hm:ba g):∀k:Nat,(k:Int)<=g.1->eD g (cq g k) []/\iV g (cq g k) []/\∀v:Int,0<=v->v<k->gI (cq g k).place v≠0
 |0,hk=>by
   have h0:=hm.1
   have r0:∀{x:Int} {v:Int},0<=v->v<g.1->gI (List.replicate g.1.toNat x) v=x:=λa b=>jD a (by omega)
   have rb:∀{v:Int},0<=v->v<(g.2.length:Int)->gI (List.replicate g.2.length false) v=false:=λ {v} a b=>by
     obtain⟨k,rfl⟩:∃k:Nat,v=(k:Int):=⟨v.toNat,by omega⟩
     have:k<g.2.length:=by omega
     simp[gI,this]
   have hse:dm g (eN g) []:=dm.start hm
   refine⟨⟨hse,rfl,λx y x0 x1 y0 y1 hx _=>absurd (r0 x0 x1) hx,λk hk hl=>?_,λA v S B he=>?_,λe he=>?_,λb b0 b1=>?_⟩,⟨λx x0 x1 j j0 j1=>?_,λx x0 x1 hx _=>absurd (r0 x0 x1) hx⟩,λv v0 v1=>by omega⟩
   · have hl:gI (List.replicate g.2.length false) (k/2)=true:=hl
     rw[rb (j5 hk) (hU hk)] at hl;cases hl
   · simp at he
   · have hl:gI (List.replicate g.2.length false) e=true:=he.2.1
     rw[rb he.1.1 he.1.2] at hl;cases hl
   · have b1:b<0:=b1
     omega
   · have j1:j<gI (List.replicate g.1.toNat (0:Int)) x:=j1
     rw[r0 x0 x1] at j1;omega
 |k+1,hk=>by
   obtain⟨h1,h2,h3⟩:=lO hm k (by omega)
   rw[fB]
   by_cases c:gI (cq g k).place (k:Int)=0
   · rw[if_pos c]
     have hse:=h1.se.first (v:=(k:Int)) (by omega) (by omega) c
     have hd:=h1.begin_ hm h2 (by omega) (by omega) c hse
     have hu:=h2.begin_ (v:=(k:Int)) h1.se (by omega) (by omega)
     obtain⟨a1,a2,a3⟩:=qy hm _ (eg (cq g k) k) [((k:Int),[])] hd hu (Nat.le_refl _)
     refine⟨a1,a2,λv v0 v1=>a3 v v0 ?_⟩
     have hl:=h1.se.l1
     have hf:=h1.se.f0
     show gI ((cq g k).place.set _ ((cq g k).found+1)) v≠0
     rw[bM (by omega) (by omega) v0]
     split
     · omega
     · exact h3 v v0 (by omega)
   · rw[if_neg c]
     refine⟨h1,h2,λv v0 v1=>?_⟩
     by_cases d:v=(k:Int)
     · rw[d];exact c
     · exact h3 v v0 (by omega)
theorem jj(hm:ba g)(e0:0<=e)(e1:e<(g.2.length:Int)):gX g (cq g g.1.toNat).laid (cq g g.1.toNat).edges e:=by
  have h0:=hm.1
  obtain⟨h1,h2,h3⟩:=lO hm g.1.toNat (by omega)
  have hed:(cq g g.1.toNat).edges=[]:=h1.stk
  refine⟨⟨e0,e1⟩,?_,by rw[hed];simp⟩
  have hh:hf g (2*e):=⟨by omega,by omega⟩
  obtain⟨f0,f1⟩:=cP hm hh
  have:=h2.all hm hh (h3 _ f0 (by omega)) (by simp)
  rwa[show 2*e/2=e by omega] at this
def il(g:bF)(e:Int):Int:=gI (cq g g.1.toNat).block e
theorem mr{k:Int}(hk:hf g k)(he:k/2=e)(hl:(gI g.2 e).1=(gI g.2 e).2):bA g k=au g k:=by
 unfold bA au
 rw[he]
 have h2:k%2=0\/k%2=1:=by omega
 rcases h2 with q|q
 · rw[q];exact hl.symm
 · rw[q];exact hl
theorem mE(hm:ba g)(hr:iH g e f):il g f<=il g e:=by
 have h0:=hm.1
 obtain⟨h,k,hh,hk,he,hkf,hx,hne,hnk,hw⟩:=hr
 obtain⟨h1,h2,h3⟩:=lO hm g.1.toNat (by omega)
 have hce:=jj hm (e:=e) (by rw[<-he];exact j5 hh) (by rw[<-he];exact hU hh)
 obtain⟨c0,c1⟩:=h1.clr e hce
 rcases h1.clb _ c0 c1 with⟨e0,l1,l2⟩|⟨T,u,t1,t2,t3,t4⟩
 · have:=l2 e hce rfl
   rw[<-this] at l1
   exact absurd (mr hh he l1) hne
 · obtain⟨h',q1,q2,q3⟩:=t3 e hce rfl
   by_cases c:T (au g h)
   · have:=(t2 k hk (by rw[<-hx];exact c)).2.2
     rw[hkf] at this;exact this
   · obtain⟨a1,a2,a3,a4⟩:=du (g:=g) hh
     have hq:h'=di h:=by
       rcases fk q1.1 hh.1 (by rw[q2,he]) with r|r
       · rw[r] at q3;exact absurd q3 c
       · exact r
     rw[hq,a3] at q3
     have hxu:au g h=u:=by
       have:=(t2 (di h) a1 (by rw[a3];exact q3)).1
       rw[a4] at this
       exact this.resolve_left c
     have key:∀y,Wy g (λz=>z≠au g h) (bA g h) y->T y:=by
       intro y hy
       generalize hz:bA g h=z0 at hy q3
       clear hw
       induction hy with
       |refl _=>exact q3
       |step p1 p2 p3 ih=>
         have:=(t2 _ p2 ih).1
         exact this.resolve_right (λr=>p3 (by rw[hxu];exact r))
     obtain⟨b1,b2,b3,b4⟩:=du (g:=g) hk
     have:=(t2 (di k) b1 (by rw[b3];exact key _ hw)).2.2
     rw[b2,hkf] at this;exact this
theorem iH.symm(hr:iH g e f):iH g f e:=by
 obtain⟨h,k,hh,hk,he,hkf,hx,hne,hnk,hw⟩:=hr
 exact⟨k,h,hk,hh,hkf,he,hx.symm,hnk,hne,by rw[<-hx];exact hw.symm⟩
theorem oG(hm:ba g)(hr:iH g e f):il g e=il g f:=Int.le_antisymm (mE hm hr.symm) (mE hm hr)
theorem pb(hm:ba g)(hr:EqB g e f):il g e=il g f:=by
 induction hr with
 |refl=>rfl
 |rel h=>exact oG hm h
 |symm _ ih=>exact ih.symm
 |trans _ _ i1 i2=>exact i1.trans i2
theorem oP(hm:ba g)(e0:0<=e)(e1:e<(g.2.length:Int))(f0:0<=f)(f1:f<(g.2.length:Int))(h:il g e=il g f):EqB g e f:=by
  have h0:=hm.1
  obtain⟨h1,h2,h3⟩:=lO hm g.1.toNat (by omega)
  have hce:=jj hm e0 e1
  have hcf:=jj hm f0 f1
  obtain⟨c0,c1⟩:=h1.clr e hce
  rcases h1.clb _ c0 c1 with⟨q,_,l2⟩|⟨T,u,t1,t2,t3,t4⟩
  · rw[l2 e hce rfl,l2 f hcf h.symm];exact .refl _
  · exact t4 e f hce hcf rfl h.symm
end TL
/-
  TlJoin: an edge more within a component: what becomes of blocks.
  By an AI agent.
-/
set_option linter.all false
namespace TL
variable{g:bF}{u v w x y z h k e f:Int}{A B:Int->Prop}
def bK(g:bF)(u v:Int):bF:=(g.1,g.2++[(u,v)])
theorem ez:((bK g u v).2.length:Int)=(g.2.length:Int)+1:=by simp[bK]
theorem jA{α:Type}[Inhabited α]{l:List α}{a:α}{i:Int}(h1:i<(l.length:Int))(h0:0<=i):gI (l++[a]) i=gI l i:=by
 have h:i.toNat<l.length:=by omega
 simp[gI,List.getElem?_append_left h]
theorem io{α:Type}[Inhabited α]{l:List α}{a:α}:gI (l++[a]) (l.length:Int)=a:=by simp[gI]
theorem dl(hk:hf g k):hf (bK g u v) k/\au (bK g u v) k=au g k/\bA (bK g u v) k=bA g k:=by
 have h2:=hk.2
 have h1:=hk.1
 have e:gI (bK g u v).2 (k/2)=gI g.2 (k/2):=jA (by omega) (by omega)
 refine⟨⟨h1,by rw[ez];omega⟩,?_,?_⟩
 · unfold au;rw[e]
 · unfold bA;rw[e]
theorem fz:hf (bK g u v) (2*(g.2.length:Int))/\au (bK g u v) (2*(g.2.length:Int))=u/\bA (bK g u v) (2*(g.2.length:Int))=v:=by
 have e:gI (bK g u v).2 (2*(g.2.length:Int)/2)=(u,v):=by
   rw[show 2*(g.2.length:Int)/2=(g.2.length:Int) by omega];exact io
 refine⟨⟨by omega,by rw[ez];omega⟩,?_,?_⟩
 · unfold au;rw[e,show 2*(g.2.length:Int)%2=0 by omega];rfl
 · unfold bA;rw[e,show 2*(g.2.length:Int)%2=0 by omega];rfl
theorem fI:hf (bK g u v) (2*(g.2.length:Int)+1)/\au (bK g u v) (2*(g.2.length:Int)+1)=v/\bA (bK g u v) (2*(g.2.length:Int)+1)=u:=by
 have e:gI (bK g u v).2 ((2*(g.2.length:Int)+1)/2)=(u,v):=by
   rw[show(2*(g.2.length:Int)+1)/2=(g.2.length:Int) by omega];exact io
 refine⟨⟨by omega,by rw[ez];omega⟩,?_,?_⟩
 · unfold au;rw[e,show(2*(g.2.length:Int)+1)%2=1 by omega];rfl
 · unfold bA;rw[e,show(2*(g.2.length:Int)+1)%2=1 by omega];rfl
theorem fg(hk:hf (bK g u v) k):hf g k\/k=2*(g.2.length:Int)\/k=2*(g.2.length:Int)+1:=by
 have h1:=hk.1
 have h2:=hk.2
 rw[ez] at h2
 by_cases c:k<2*(g.2.length:Int)
 · exact .inl ⟨h1,c⟩
 · right;omega
theorem Wy.lift(hw:Wy g A x y):Wy (bK g u v) A x y:=by
 induction hw with
 |refl a=>exact .refl a
 |step p q r ih=>
   rename_i k
   obtain⟨a,b,c⟩:=dl (u:=u) (v:=v) q
   have:=Wy.step (g:=bK g u v) (A:=A) (x:=x) (h:=k) (by rw[b];exact ih) a (by rw[c];exact r)
   rwa[c] at this
theorem Wy.split(hw:Wy (bK g u v) A x y):Wy g A x y\/(A u/\A v/\((Wy g A x u/\Wy g A v y)\/(Wy g A x v/\Wy g A u y))):=by
  induction hw with
  |refl a=>exact .inl (.refl a)
  |step p q r ih=>
    rename_i k
    rcases fg q with c|c|c
    · obtain⟨_,b1,b2⟩:=dl (u:=u) (v:=v) c
      rw[b1] at ih
      rw[b2] at r ⊢
      rcases ih with d|⟨a1,a2,d|d⟩
      · exact .inl (.step d c r)
      · exact .inr ⟨a1,a2,.inl ⟨d.1,.step d.2 c r⟩⟩
      · exact .inr ⟨a1,a2,.inr ⟨d.1,.step d.2 c r⟩⟩
    · obtain⟨_,b1,b2⟩:=fz (g:=g) (u:=u) (v:=v)
      subst c
      rw[b1] at ih
      rw[b2] at r ⊢
      rcases ih with d|⟨a1,a2,d|d⟩
      · exact .inr ⟨d.right,r,.inl ⟨d,.refl r⟩⟩
      · exact .inl (d.1.trans d.2.symm)
      · exact .inl d.1
    · obtain⟨_,b1,b2⟩:=fI (g:=g) (u:=u) (v:=v)
      subst c
      rw[b1] at ih
      rw[b2] at r ⊢
      rcases ih with d|⟨a1,a2,d|d⟩
      · exact .inr ⟨r,d.right,.inr ⟨d,.refl r⟩⟩
      · exact .inl d.1
      · exact .inl (d.1.trans d.2.symm)
theorem iH.lift(hr:iH g e f):iH (bK g u v) e f:=by
 obtain⟨h,k,hh,hk,he,hkf,hx,hne,hnk,hw⟩:=hr
 obtain⟨a1,a2,a3⟩:=dl (u:=u) (v:=v) hh
 obtain⟨b1,b2,b3⟩:=dl (u:=u) (v:=v) hk
 exact⟨h,k,a1,b1,he,hkf,by rw[a2,b2];exact hx,by rw[a2,a3];exact hne,by rw[b2,b3];exact hnk,by rw[a2,a3,b3];exact hw.lift⟩
theorem EqB.lift(hr:EqB g e f):EqB (bK g u v) e f:=by
 induction hr with
 |refl=>exact .refl _
 |rel h=>exact .rel h.lift
 |symm _ ih=>exact ih.symm
 |trans _ _ i1 i2=>exact i1.trans i2
structure pW(g:bF)(u v:Int)(On:Int->Prop):Prop where
  atu:∃k,hf g k/\au g k=u/\On (k/2)/\bA g k≠u/\Wy g (λz=>z≠u) (bA g k) v
  atv:∃k,hf g k/\au g k=v/\On (k/2)/\bA g k≠v/\Wy g (λz=>z≠v) (bA g k) u
  mid:∀x,x≠u->x≠v->Wy g (λz=>z≠x) u v\/∃k1 k2,hf g k1/\hf g k2/\au g k1=x/\au g k2=x/\On (k1/2)/\On (k2/2)/\bA g k1≠x/\bA g k2≠x/\Wy g (λz=>z≠x) (bA g k1) u/\Wy g (λz=>z≠x) (bA g k2) v
  all:∀e,On e->EqB (bK g u v) e (g.2.length:Int)
def pU(g:bF)(On:Int->Prop)(e:Int):Prop:=e=(g.2.length:Int)\/∃p,On p/\EqB g e p
theorem n8{On:Int->Prop}(hj:pW g u v On)(huv:u≠v)(hr:iH (bK g u v) e f):(pU g On e/\pU g On f)\/(¬e=(g.2.length:Int)/\¬f=(g.2.length:Int)/\EqB g e f):=by
 obtain⟨h,k,hh,hk,he,hkf,hx,hne,hnk,hw⟩:=hr
 -- an old half-edge at the end of the new one
 have one:∀{k a b:Int},(a=u/\b=v)\/(a=v/\b=u)->hf g k->au g k=a->bA g k≠a->Wy (bK g u v) (λz=>z≠a) b (bA g k)->pU g On (k/2):=by
   intro k' a b hab hk1 hka hkt hw1
   have hw':Wy g (λz=>z≠a) b (bA g k'):=by
     rcases hw1.split with c|⟨c1,c2,_⟩
     · exact c
     · rcases hab with⟨d1,d2⟩|⟨d1,d2⟩
       · exact absurd d1.symm c1
       · exact absurd d1.symm c2
   rcases hab with⟨d1,d2⟩|⟨d1,d2⟩
   · subst d1 d2
     obtain⟨q,q1,q2,q3,q4,q5⟩:=hj.atu
     exact .inr ⟨q/2,q3,.rel ⟨k',q,hk1,q1,rfl,rfl,by rw[hka,q2],by rw[hka];exact hkt,by rw[q2];exact q4,by rw[hka];exact(q5.trans hw').symm⟩⟩
   · subst d1 d2
     obtain⟨q,q1,q2,q3,q4,q5⟩:=hj.atv
     exact .inr ⟨q/2,q3,.rel ⟨k',q,hk1,q1,rfl,rfl,by rw[hka,q2],by rw[hka];exact hkt,by rw[q2];exact q4,by rw[hka];exact(q5.trans hw').symm⟩⟩
 have new:∀{k},k=2*(g.2.length:Int)\/k=2*(g.2.length:Int)+1->k/2=(g.2.length:Int)/\((au (bK g u v) k=u/\bA (bK g u v) k=v)\/(au (bK g u v) k=v/\bA (bK g u v) k=u)):=by
   intro k hk
   rcases hk with c|c
   · subst c;exact⟨by omega,.inl ⟨fz.2.1,fz.2.2⟩⟩
   · subst c;exact⟨by omega,.inr ⟨fI.2.1,fI.2.2⟩⟩
 rcases fg hh with c|c
 · obtain⟨_,a2,a3⟩:=dl (u:=u) (v:=v) c
   rcases fg hk with d|d
   · -- both old
     obtain⟨_,b2,b3⟩:=dl (u:=u) (v:=v) d
     rw[a2,b2] at hx
     rw[a2,a3] at hne
     rw[b2,b3] at hnk
     rw[a2,a3,b3] at hw
     have hem:¬e=(g.2.length:Int):=by have:=hU c;omega
     have hfm:¬f=(g.2.length:Int):=by have:=hU d;omega
     have rel:∀{p q:Int},hf g p->hf g q->au g p=au g h->au g q=au g h->bA g p≠au g h->bA g q≠au g h->Wy g (λz=>z≠au g h) (bA g p) (bA g q)->EqB g (p/2) (q/2):=λ {p q} p1 q1 p2 q2 p3 q3 w=>.rel ⟨p,q,p1,q1,rfl,rfl,by rw[p2,q2],by rw[p2];exact p3,by rw[q2];exact q3,by rw[p2];exact w⟩
     rcases hw.split with r|⟨r1,r2,r⟩
     · exact .inr ⟨hem,hfm,.rel ⟨h,k,c,d,he,hkf,hx,hne,hnk,r⟩⟩
     · rcases hj.mid (au g h) (λq=>r1 q.symm) (λq=>r2 q.symm) with m|⟨k1,k2,m1,m2,m3,m4,m5,m6,m7,m8,m9,m10⟩
       · have:Wy g (λz=>z≠au g h) (bA g h) (bA g k):=by
           rcases r with⟨r3,r4⟩|⟨r3,r4⟩
           · exact(r3.trans m).trans r4
           · exact(r3.trans m.symm).trans r4
         exact .inr ⟨hem,hfm,.rel ⟨h,k,c,d,he,hkf,hx,hne,hnk,this⟩⟩
       · left
         rcases r with⟨r3,r4⟩|⟨r3,r4⟩
         · exact⟨.inr ⟨k1/2,m5,by rw[<-he];exact rel c m1 rfl m3 hne m7 (r3.trans m9.symm)⟩,.inr ⟨k2/2,m6,by rw[<-hkf];exact rel d m2 hx.symm m4 (by rw[hx];exact hnk) m8 (r4.symm.trans m10.symm)⟩⟩
         · exact⟨.inr ⟨k2/2,m6,by rw[<-he];exact rel c m2 rfl m4 hne m8 (r3.trans m10.symm)⟩,.inr ⟨k1/2,m5,by rw[<-hkf];exact rel d m1 hx.symm m3 (by rw[hx];exact hnk) m7 (r4.symm.trans m9.symm)⟩⟩
   · obtain⟨d1,d2⟩:=new d
     obtain⟨_,a2,a3⟩:=dl (u:=u) (v:=v) c
     refine .inl ⟨by rw[<-he];exact one (b:=bA (bK g u v) k) (a:=au g h) (by rw[<-a2,hx];exact d2) c rfl (by rw[<-a2,<-a3];exact hne) (by rw[<-a2,<-a3];exact hw.symm),.inl (by rw[<-hkf];exact d1)⟩
 · obtain⟨c1,c2⟩:=new c
   rcases fg hk with d|d
   · obtain⟨_,b2,b3⟩:=dl (u:=u) (v:=v) d
     refine .inl ⟨.inl (by rw[<-he];exact c1),by rw[<-hkf];exact one (b:=bA (bK g u v) h) (a:=au g k) (by rw[<-b2,<-hx];exact c2) d rfl (by rw[<-b2,<-b3];exact hnk) (by rw[<-b2,<-hx,<-b3];exact hw)⟩
   · obtain⟨d1,_⟩:=new d
     exact .inl ⟨.inl (by rw[<-he];exact c1),.inl (by rw[<-hkf];exact d1)⟩
theorem ll{On:Int->Prop}(he:EqB g e f)(hfm:¬f=(g.2.length:Int))(h:pU g On f)(hem:¬e=(g.2.length:Int)):pU g On e:=by
 rcases h with h|⟨p,h1,h2⟩
 · exact absurd h hfm
 · exact .inr ⟨p,h1,he.trans h2⟩
theorem jG{On:Int->Prop}(hj:pW g u v On)(huv:u≠v)(hr:EqB (bK g u v) e f):e=f\/(pU g On e/\pU g On f)\/(¬e=(g.2.length:Int)/\¬f=(g.2.length:Int)/\EqB g e f):=by
  induction hr with
  |refl=>exact .inl rfl
  |rel h=>exact .inr (n8 hj huv h)
  |symm _ ih=>
    rcases ih with a|⟨a,b⟩|⟨a,b,c⟩
    · exact .inl a.symm
    · exact .inr (.inl ⟨b,a⟩)
    · exact .inr (.inr ⟨b,a,c.symm⟩)
  |trans _ _ i1 i2=>
    rcases i1 with a|⟨a,b⟩|⟨a,b,c⟩
    · rw[a];exact i2
    · rcases i2 with d|⟨d,e⟩|⟨d,e,q⟩
      · rw[<-d];exact .inr (.inl ⟨a,b⟩)
      · exact .inr (.inl ⟨a,e⟩)
      · exact .inr (.inl ⟨a,ll q.symm d b e⟩)
    · rcases i2 with d|⟨d,e⟩|⟨d,e,q⟩
      · rw[<-d];exact .inr (.inr ⟨a,b,c⟩)
      · exact .inr (.inl ⟨ll c b d a,e⟩)
      · exact .inr (.inr ⟨a,e,c.trans q⟩)
end TL
/-
  TlJoin2: the way that a walk breadth first tells, and blocks with an edge more between its ends.
  By an AI agent.
-/
set_option linter.all false
namespace TL
structure iD(g:bF)(s:Int)(by_ far:List Int)(O:Int->Prop):Prop where
  s0:gI far s=0
  sm:O s
  nn:∀v,O v->0<=gI far v
  tr:∀v,O v->v≠s->hf g (gI by_ v)/\bA g (gI by_ v)=v/\O (au g (gI by_ v))/\gI far v=gI far (au g (gI by_ v))+1
inductive ChJ (g:bF) (by_:List Int) (s v:Int):Int->Prop
  |base:ChJ g by_ s v v
  |step {w:Int}:ChJ g by_ s v w->w≠s->ChJ g by_ s v (au g (gI by_ w))
variable{g:bF}{u v w s x e:Int}{by_ far:List Int}{O:Int->Prop}
def rj(g:bF)(by_:List Int)(s v:Int)(e:Int):Prop:=∃w,ChJ g by_ s v w/\w≠s/\e=gI by_ w/2
theorem iD.ch(h:iD g s by_ far O)(hv:O v)(hc:ChJ g by_ s v w):O w:=by
 induction hc with
 |base=>exact hv
 |step p q ih=>exact(h.tr _ ih q).2.2.1
theorem iD.up(h:iD g s by_ far O):∀(n:Nat) (w:Int),O w->gI far w=(n:Int)->Wy g (λz=>z=w\/gI far z<gI far w) s w
 |0,w,hw,hn=>by
   have:w=s:=by
     by_cases c:w=s
     · exact c
     · have h1:=h.tr w hw c
       have:=h.nn _ h1.2.2.1
       have:=h1.2.2.2
       omega
   rw[this];exact .refl (.inl rfl)
 |n+1,w,hw,hn=>by
   have hne:w≠s:=λk=>by rw[k,h.s0] at hn;omega
   obtain⟨t1,t2,t3,t4⟩:=h.tr w hw hne
   have ih:=h.up n _ t3 (by omega)
   have h1:=ih.mono (B:=λz=>z=w\/gI far z<gI far w) (λz hz=>by
     rcases hz with k|k
     · exact .inr (by rw[k];omega)
     · exact .inr (by omega))
   have:=Wy.step h1 t1 (by rw[t2];exact .inl rfl)
   rwa[t2] at this
theorem iD.down(h:iD g s by_ far O)(hv:O v)(hc:ChJ g by_ s v w):Wy g (λz=>ChJ g by_ s v z/\(z=w\/gI far w<gI far z)) w v:=by
 induction hc with
 |base=>exact .refl ⟨.base,.inl rfl⟩
 |step p q ih=>
   rename_i w'
   obtain⟨t1,t2,t3,t4⟩:=h.tr w' (h.ch hv p) q
   have h1:=ih.mono (B:=λz=>ChJ g by_ s v z/\(z=au g (gI by_ w')\/gI far (au g (gI by_ w'))<gI far z)) (λz hz=>⟨hz.1,by
     rcases hz.2 with k|k
     · exact .inr (by rw[k];omega)
     · exact .inr (by omega)⟩)
   have h2:=Wy.one (g:=g) (A:=λz=>ChJ g by_ s v z/\(z=au g (gI by_ w')\/gI far (au g (gI by_ w'))<gI far z)) t1 ⟨.step p q,.inl rfl⟩ (by rw[t2];exact h1.left)
   rw[t2] at h2
   exact h2.trans h1
theorem iD.reach(h:iD g s by_ far O)(hv:O v):∀(n:Nat) (w:Int),ChJ g by_ s v w->gI far w=(n:Int)->ChJ g by_ s v s
 |0,w,hc,hn=>by
   have hw:=h.ch hv hc
   have:w=s:=by
     by_cases c:w=s
     · exact c
     · have h1:=h.tr w hw c
       have:=h.nn _ h1.2.2.1
       have:=h1.2.2.2
       omega
   rw[<-this];rwa[this] at hc ⊢
 |n+1,w,hc,hn=>by
   have hne:w≠s:=λk=>by rw[k,h.s0] at hn;omega
   obtain⟨t1,t2,t3,t4⟩:=h.tr w (h.ch hv hc) hne
   exact h.reach hv n _ (.step hc hne) (by omega)
theorem iD.way(h:iD g s by_ far O)(hv:O v)(hsv:s≠v):pW g s v (rj g by_ s v):=by
 have hup:∀w,O w->Wy g (λz=>z=w\/gI far z<gI far w) s w:=λw hw=>h.up (gI far w).toNat w hw (by have:=h.nn w hw;omega)
 have hcs:ChJ g by_ s v s:=h.reach hv (gI far v).toNat v .base (by have:=h.nn v hv;omega)
 -- from a node of the chain, but s, back to s and forth to v
 have back:∀w,ChJ g by_ s v w->w≠s->∃k,hf g k/\au g k=w/\k/2=gI by_ w/2/\bA g k≠w/\Wy g (λz=>z≠w) (bA g k) s:=λw hc hne=>by
   obtain⟨t1,t2,t3,t4⟩:=h.tr w (h.ch hv hc) hne
   obtain⟨a1,a2,a3,a4⟩:=du (g:=g) t1
   refine⟨di (gI by_ w),a1,by rw[a3,t2],a2,?_,?_⟩
   · rw[a4];intro k;have:=congrArg (gI far) k;omega
   · rw[a4]
     exact(hup _ t3).symm.mono (λz hz k=>by
       rcases hz with j|j
       · have:=congrArg (gI far) (k.symm.trans j);omega
       · rw[k] at j;omega)
 have forth:∀y,ChJ g by_ s v y->y≠s->hf g (gI by_ y)/\bA g (gI by_ y)=y/\y≠au g (gI by_ y)/\Wy g (λz=>z≠au g (gI by_ y)) y v:=λy hc hne=>by
   obtain⟨t1,t2,t3,t4⟩:=h.tr y (h.ch hv hc) hne
   refine⟨t1,t2,λk=>by have:=congrArg (gI far) k;omega,(h.down hv hc).mono (λz hz k=>?_)⟩
   rcases hz.2 with j|j
   · have:=congrArg (gI far) (j.symm.trans k);omega
   · rw[k] at j;omega
 refine⟨?_,?_,λx hxs hxv=>?_,λe he=>?_⟩
 · generalize hz:s=z at hcs
   cases hcs with
   |base=>exact absurd hz hsv
   |step p q=>
     rename_i y
     obtain⟨f1,f2,f3,f4⟩:=forth y (by rw[hz];exact p) (by rw[hz];exact q)
     rw[<-hz] at p q ⊢
     exact⟨gI by_ y,f1,hz.symm▸rfl,⟨y,p,q,rfl⟩,by rw[f2];exact q,by rw[f2];rw[<-hz] at f4;exact f4⟩
 · obtain⟨k,k1,k2,k3,k4,k5⟩:=back v .base (λk=>hsv k.symm)
   exact⟨k,k1,k2,⟨v,.base,λk=>hsv k.symm,k3⟩,k4,k5⟩
 · by_cases c:ChJ g by_ s v x
   · right
     obtain⟨k,k1,k2,k3,k4,k5⟩:=back x c hxs
     have c2:=c
     cases c2 with
     |base=>exact absurd rfl hxv
     |step p q=>
       rename_i y
       obtain⟨f1,f2,f3,f4⟩:=forth y p q
       exact⟨k,gI by_ y,k1,f1,k2,rfl,⟨_,c,hxs,k3⟩,⟨y,p,q,rfl⟩,k4,by rw[f2];exact f3,k5,by rw[f2];exact f4⟩
   · left
     exact(h.down hv hcs).mono (λz hz k=>c (by rw[<-k];exact hz.1))
 · obtain⟨w,hc,hne,rfl⟩:=he
   induction hc with
   |base=>
     obtain⟨k,k1,k2,k3,k4,k5⟩:=back v .base hne
     obtain⟨a1,a2,a3⟩:=dl (u:=s) (v:=v) k1
     obtain⟨b1,b2,b3⟩:=fI (g:=g) (u:=s) (v:=v)
     refine .rel ⟨k,2*(g.2.length:Int)+1,a1,b1,k3,by omega,by rw[a2,b2,k2],by rw[a2,a3,k2];exact k4,by rw[b2,b3];exact hsv,?_⟩
     rw[a2,a3,b3,k2];exact k5.lift
   |step p q ih=>
     rename_i y
     have ih:=ih q
     obtain⟨k,k1,k2,k3,k4,k5⟩:=back _ (.step p q) hne
     obtain⟨f1,f2,f3,f4⟩:=forth y p q
     obtain⟨a1,a2,a3⟩:=dl (u:=s) (v:=v) k1
     obtain⟨b1,b2,b3⟩:=dl (u:=s) (v:=v) f1
     obtain⟨c1,c2,c3⟩:=fz (g:=g) (u:=s) (v:=v)
     refine EqB.trans (.rel ⟨k,gI by_ y,a1,b1,k3,rfl,by rw[a2,b2,k2],by rw[a2,a3,k2];exact k4,by rw[b2,b3,f2];exact f3,?_⟩) ih
     rw[a2,a3,b3,k2,f2]
     have w1:=(k5.lift (u:=s) (v:=v))
     have w2:=Wy.one (g:=bK g s v) (A:=λz=>z≠au g (gI by_ y)) c1 (by rw[c2];exact hne.symm) (by rw[c3];exact f4.right)
     rw[c2,c3] at w2
     exact(w1.trans w2).trans f4.symm.lift
end TL
/-
  TlJoin3: numbers of blocks; the law on an edge more.
  By an AI agent.
-/
set_option linter.all false
namespace TL
variable{g:bF}{u v w s x e f i k:Int}{by_ far:List Int}{O:Int->Prop}
theorem jf(l:List Int):∀n (i:Nat),i<n->gI (ax l n).2 (i:Int)=((ax l n).1.idxOf (gI l (i:Int)):Int)/\gI l (i:Int)∈(ax l n).1
 |0,i,h=>by omega
 |n+1,i,h=>by
   have hl:=(gh l n).1
   unfold ax
   simp only
   by_cases c:i=n
   · subst c
     refine⟨?_,?_⟩
     · have:gI ((ax l i).2++[((List.idxOf (gI l (i:Int)) (if gI l (i:Int)∈(ax l i).1 then(ax l i).1 else(ax l i).1++[gI l (i:Int)]):Nat):Int)]) (i:Int)=((List.idxOf (gI l (i:Int)) (if gI l (i:Int)∈(ax l i).1 then(ax l i).1 else(ax l i).1++[gI l (i:Int)]):Nat):Int):=by
         have h2:=io (l:=(ax l i).2) (a:=((List.idxOf (gI l (i:Int)) (if gI l (i:Int)∈(ax l i).1 then(ax l i).1 else(ax l i).1++[gI l (i:Int)]):Nat):Int))
         rwa[hl] at h2
       exact this
     · split
       · assumption
       · simp
   · obtain⟨h1,h2⟩:=jf l n i (by omega)
     have h3:gI ((ax l n).2++[((List.idxOf (gI l (n:Int)) (if gI l (n:Int)∈(ax l n).1 then(ax l n).1 else(ax l n).1++[gI l (n:Int)]):Nat):Int)]) (i:Int)=gI (ax l n).2 (i:Int):=jA (by omega) (by omega)
     rw[h3,h1]
     split
     · exact⟨rfl,h2⟩
     · refine⟨?_,List.mem_append_left _ h2⟩
       rw[List.idxOf_append,if_pos h2]
theorem nU(e0:0<=e)(e1:e<(g.2.length:Int))(f0:0<=f)(f1:f<(g.2.length:Int)):gI (dD g) e=gI (dD g) f↔il g e=il g f:=by
  obtain⟨a,rfl⟩:∃a:Nat,e=(a:Int):=⟨e.toNat,by omega⟩
  obtain⟨b,rfl⟩:∃b:Nat,f=(b:Int):=⟨f.toNat,by omega⟩
  obtain⟨h1,h2⟩:=jf (cq g g.1.toNat).block g.2.length a (by omega)
  obtain⟨h3,h4⟩:=jf (cq g g.1.toNat).block g.2.length b (by omega)
  unfold dD il
  rw[h1,h3]
  constructor
  · intro h
    have h:List.idxOf (gI (cq g g.1.toNat).block (a:Int)) (ax (cq g g.1.toNat).block g.2.length).1=List.idxOf (gI (cq g g.1.toNat).block (b:Int)) (ax (cq g g.1.toNat).block g.2.length).1:=by omega
    have k1:=List.getElem_idxOf (List.idxOf_lt_length_of_mem h2)
    have k2:=List.getElem_idxOf (List.idxOf_lt_length_of_mem h4)
    rw[<-k1,<-k2]
    simp only[h]
  · intro h;rw[h]
theorem gD(hm:ba g)(e0:0<=e)(e1:e<(g.2.length:Int))(f0:0<=f)(f1:f<(g.2.length:Int)):gI (dD g) e=gI (dD g) f↔EqB g e f:=by
  rw[nU e0 e1 f0 f1]
  exact⟨oP hm e0 e1 f0 f1,pb hm⟩
def qV(g:bF)(by_:List Int)(s v:Int)(b:Int):Prop:=∃w,ChJ g by_ s v w/\w≠s/\b=gI (dD g) (gI by_ w/2)
theorem iD.rng(h:iD g s by_ far O)(hv:O v)(hc:ChJ g by_ s v w)(hne:w≠s):0<=gI by_ w/2/\gI by_ w/2<(g.2.length:Int):=⟨j5 (h.tr w (h.ch hv hc) hne).1,hU (h.tr w (h.ch hv hc) hne).1⟩
theorem mc(hm:ba g)(hm2:ba (bK g s v))(h:iD g s by_ far O)(hv:O v)(hsv:s≠v)(i0:0<=i)(i1:i<(g.2.length:Int)):qV g by_ s v (gI (dD g) i)↔gI (dD (bK g s v)) i=gI (dD (bK g s v)) (g.2.length:Int):=by
 have hj:=h.way hv hsv
 have hl:=ez (g:=g) (u:=s) (v:=v)
 rw[gD hm2 i0 (by omega) (by omega) (by omega)]
 constructor
 · rintro⟨w,h1,h2,h3⟩
   obtain⟨r0,r1⟩:=h.rng hv h1 h2
   exact((gD hm i0 i1 r0 r1).1 h3).lift.trans (hj.all _ ⟨w,h1,h2,rfl⟩)
 · intro he
   rcases jG hj hsv he with c|⟨c,_⟩|⟨_,c,_⟩
   · omega
   · rcases c with c|⟨p,⟨w,h1,h2,rfl⟩,h3⟩
     · omega
     · obtain⟨r0,r1⟩:=h.rng hv h1 h2
       exact⟨w,h1,h2,(gD hm i0 i1 r0 r1).2 h3⟩
   · exact absurd rfl c
theorem ml(hm:ba g)(hm2:ba (bK g s v))(h:iD g s by_ far O)(hv:O v)(hsv:s≠v)(i0:0<=i)(i1:i<(g.2.length:Int))(k0:0<=k)(k1:k<(g.2.length:Int))(hi:¬qV g by_ s v (gI (dD g) i)):gI (dD g) i=gI (dD g) k↔gI (dD (bK g s v)) i=gI (dD (bK g s v)) k:=by
 have hj:=h.way hv hsv
 have hl:=ez (g:=g) (u:=s) (v:=v)
 rw[gD hm2 i0 (by omega) k0 (by omega),gD hm i0 i1 k0 k1]
 constructor
 · exact λhe=>he.lift
 · intro he
   rcases jG hj hsv he with c|⟨c,_⟩|⟨_,_,c⟩
   · rw[c];exact .refl _
   · exfalso
     rcases c with c|⟨p,⟨w,h1,h2,rfl⟩,h3⟩
     · omega
     · obtain⟨r0,r1⟩:=h.rng hv h1 h2
       exact hi ⟨w,h1,h2,(gD hm i0 i1 r0 r1).2 h3⟩
   · exact c
theorem iD.le(h:iD g s by_ far O)(hv:O v){a:Int}(ha:ChJ g by_ s v a):gI far a<=gI far v:=by
 induction ha with
 |base=>exact Int.le_refl _
 |step p q ih=>have:=(h.tr _ (h.ch hv p) q).2.2.2;omega
theorem iD.uniq(h:iD g s by_ far O)(hv:O v){a b:Int}(ha:ChJ g by_ s v a)(hb:ChJ g by_ s v b)(he:gI far a=gI far b):a=b:=by
  have le:∀{a},ChJ g by_ s v a->gI far a<=gI far v:=λ {a} ha=>by
    induction ha with
    |base=>exact Int.le_refl _
    |step p q ih=>have:=(h.tr _ (h.ch hv p) q).2.2.2;omega
  induction ha generalizing b with
  |base=>
    cases hb with
    |base=>rfl
    |step p q=>
      have:=(h.tr _ (h.ch hv p) q).2.2.2
      have:=le p
      omega
  |step p q ih=>
    have h1:=(h.tr _ (h.ch hv p) q).2.2.2
    cases hb with
    |base=>have:=le p;omega
    |step p2 q2=>
      have h2:=(h.tr _ (h.ch hv p2) q2).2.2.2
      have:=ih p2 (by omega)
      rw[this]
structure kh(g:bF)(by_ far:List Int)(O:Int->Prop)(s v:Int)(on:List Bool)(w:Int):Prop where
  ch:ChJ g by_ s v w
  len:(on.length:Int)=dd g
  on:∀b,0<=b->b<dd g->(gI on b=true↔∃y,ChJ g by_ s v y/\y≠s/\gI far w<gI far y/\b=gI (dD g) (gI by_ y/2))
theorem kh.start(h:iD g s by_ far O)(hv:O v):kh g by_ far O s v (List.replicate (Int.toNat (dd g)) false) v:=by
 have hc:=(fv g).1
 refine⟨.base,by simp;omega,λb b0 b1=>?_⟩
 have e:gI (List.replicate (Int.toNat (dd g)) false) b=false:=by
   obtain⟨k,rfl⟩:∃k:Nat,b=(k:Int):=⟨b.toNat,by omega⟩
   have:k<(dd g).toNat:=by omega
   simp[gI,this]
 rw[e]
 refine⟨λk=>absurd k (by decide),?_⟩
 rintro⟨y,h1,h2,h3,_⟩
 have:=h.le hv h1
 omega
theorem kh.next(h:iD g s by_ far O)(hv:O v){on:List Bool}(hi:kh g by_ far O s v on w)(hne:¬w=s){p b:Int}(hp:au g (gI by_ w)=p)(hb:gI (dD g) (gI by_ w/2)=b):kh g by_ far O s v (on.set (Int.toNat b) true) p/\gI far p<gI far w/\0<=gI far p:=by
 subst hp hb
 obtain⟨t1,t2,t3,t4⟩:=h.tr w (h.ch hv hi.ch) hne
 obtain⟨r0,r1⟩:=h.rng hv hi.ch hne
 obtain⟨c0,c1⟩:=fy g r0 r1
 have hl:=hi.len
 refine⟨⟨.step hi.ch hne,by rw[List.length_set];exact hl,λb b0 b1=>?_⟩,by omega,h.nn _ t3⟩
 rw[d6 c0 (by omega) b0]
 by_cases c:b=gI (dD g) (gI by_ w/2)
 · rw[if_pos c]
   exact⟨λ_=>⟨w,hi.ch,hne,by omega,c⟩,λ_=>rfl⟩
 · rw[if_neg c,hi.on b b0 b1]
   constructor
   · rintro⟨y,h1,h2,h3,h4⟩
     exact⟨y,h1,h2,by omega,h4⟩
   · rintro⟨y,h1,h2,h3,h4⟩
     by_cases d:gI far w<gI far y
     · exact⟨y,h1,h2,d,h4⟩
     · exfalso
       have:y=w:=h.uniq hv h1 hi.ch (by omega)
       exact c (by rw[h4,this])
theorem kh.done(h:iD g s by_ far O)(hv:O v){on:List Bool}(hi:kh g by_ far O s v on w)(hw:w=s){b:Int}(b0:0<=b)(b1:b<dd g):gI on b=true↔qV g by_ s v b:=by
 rw[hi.on b b0 b1]
 constructor
 · rintro⟨y,h1,h2,_,h4⟩;exact⟨y,h1,h2,h4⟩
 · rintro⟨y,h1,h2,h4⟩
   have t:=h.tr y (h.ch hv h1) h2
   have:=h.nn _ t.2.2.1
   have:=h.s0
   exact⟨y,h1,h2,by rw[hw];omega,h4⟩
end TL
/-
  TlBlk5: bridges, and whether a net is biconnected, as the program does it.
  By an AI agent.
-/
set_option linter.all false
namespace TL
variable{g:bF}{of:List Int}{n k:Nat}
theorem nW(l:List Int)(i:Nat)(x b:Int):gI (l.set i x) b=if b.toNat=i/\i<l.length then x else gI l b:=by
 unfold gI
 rw[List.getD_eq_getElem?_getD,List.getD_eq_getElem?_getD,List.getElem?_set]
 by_cases h1:i=b.toNat
 · rw[if_pos h1]
   by_cases h2:i<l.length
   · rw[if_pos h2,if_pos ⟨h1.symm,h2⟩];rfl
   · rw[if_neg h2,if_neg (λh=>h2 h.2),List.getElem?_eq_none (by omega)]
 · rw[if_neg h1,if_neg (λh=>h1 h.1.symm)]
theorem ld(of:List Int)(n:Nat):∀k:Nat,(k:Int)<=of.length->∀b:Int,0<=gI (dI of n k) b/\gI (dI of n k) b<=k
 |0,_,b=>by
   have:gI (dI of n 0) b=0:=by
     show gI (List.replicate n (0:Int)) b=0
     by_cases c:b.toNat<n
     · simp[gI,c]
     · simp[gI,c]
   omega
 |k+1,hk,b=>by
   have ih:=ld of n k (by omega)
   rw[iK (by omega),nW]
   have h1:=ih (gI of (k:Int))
   have h2:=ih b
   split<;>omega
theorem jz{l:List Int}(h:l=cB g k):(l.length:Int)<=k:=by
 have h1:=List.length_filter_le (λe=>decide (gI (dI (dD g) (dd g).toNat g.2.length) (gI (dD g) e)=1)&& !decide ((gI g.2 e).1=(gI g.2 e).2)) (cz k)
 have h2:(cz k).length=k:=by simp[cz]
 rw[h]
 show(((cz k).filter _).length:Int)<=k
 omega
theorem nm{l size:List Int}{j:Nat}(hs:size=dI (a5 g).1 (Int.toNat (a5 g).2.2) k)(hk:(k:Int)=g.2.length)(hl:l=cB g j)(q:gI size (gI (a5 g).1 (j:Int))=1)(p:¬(gI g.2 (j:Int)).1=(gI g.2 (j:Int)).2):l++[(j:Int)]=cB g (j+1):=by
 have e:k=g.2.length:=by omega
 subst e
 rw[kf (decide_eq_true (by rw[hs] at q;exact q)) p,hl]
theorem lH{l size:List Int}{j:Nat}(hs:size=dI (a5 g).1 (Int.toNat (a5 g).2.2) k)(hk:(k:Int)=g.2.length)(hl:l=cB g j)(q:¬gI size (gI (a5 g).1 (j:Int))=1\/(gI g.2 (j:Int)).1=(gI g.2 (j:Int)).2):l=cB g (j+1):=by
 have e:k=g.2.length:=by omega
 subst e
 rw[ky (q.imp_left λh=>by rw[hs] at h;exact h),hl]
def kN(g:bF)(k:Nat):List Bool:=(g.2.take k).foldl (λb e=>(b.set e.1.toNat true).set e.2.toNat true) (List.replicate g.1.toNat false)
structure iI(g:bF)(at_:List Bool)(k:Nat):Prop where
 eq:at_=kN g k
 lo:(at_.length:Int)=g.1
 no:∀j:Int,0<=j->j<k->¬(gI g.2 j).1=(gI g.2 j).2
theorem iI.start(h0:0<=g.1):iI g (List.replicate (Int.toNat g.1) false) 0:=⟨rfl,by simp;omega,λj a b=>by omega⟩
theorem iI.next{at_:List Bool}(h:iI g at_ k)(hk:(k:Int)<g.2.length)(hn:¬(gI g.2 (k:Int)).1=(gI g.2 (k:Int)).2):iI g ((at_.set (Int.toNat (gI g.2 (k:Int)).1) true).set (Int.toNat (gI g.2 (k:Int)).2) true) (k+1):=by
 have hk':k<g.2.length:=by omega
 refine⟨?_,by simp only[List.length_set];exact h.lo,λj a b=>?_⟩
 · unfold kN
   rw[List.take_succ_eq_append_getElem hk',List.foldl_append]
   have e:gI g.2 (k:Int)=g.2[k]:=by simp[gI,hk']
   rw[e,h.eq];rfl
 · by_cases c:j=(k:Int)
   · rw[c];exact hn
   · exact h.no j a (by omega)
def ci(g:bF):Bool:=decide (2<=g.1/\(∀e∈g.2,¬e.1=e.2)/\¬false∈kN g g.2.length/\dd g=1)
theorem jY(h:g.1<2):false=ci g:=by
 unfold ci;rw[decide_eq_false];rintro⟨a,_⟩;omega
theorem kw(hk:(k:Int)<g.2.length)(h:(gI g.2 (k:Int)).1=(gI g.2 (k:Int)).2):false=ci g:=by
 unfold ci;rw[decide_eq_false];rintro⟨_,a,_⟩
 exact a _ (bO (xs:=g.2) (i:=(k:Int)) (by omega) hk) h
theorem mg{at_:List Bool}(h:iI g at_ k)(hk:k=g.2.length)(hf:false∈at_):false=ci g:=by
 subst hk
 unfold ci;rw[decide_eq_false];rintro⟨_,_,a,_⟩
 rw[h.eq] at hf;exact a hf
theorem nE{at_:List Bool}(h:iI g at_ k)(hk:k=g.2.length)(h2:¬g.1<2)(hf:¬false∈at_):decide ((a5 g).2.2=1)=ci g:=by
 subst hk
 unfold ci
 rw[decide_eq_decide]
 refine⟨λhc=>⟨by omega,λe he=>?_,by rw[<-h.eq];exact hf,hc⟩,λhc=>hc.2.2.2⟩
 obtain⟨i,hi,rfl⟩:=List.mem_iff_getElem.1 he
 have:=h.no (i:Int) (by omega) (by omega)
 have e:gI g.2 (i:Int)=g.2[i]:=by simp[gI,hi]
 rwa[e] at this
def cm(g:bF):Bool×Int:=if ba g then(ci g,0) else(false,1)
def fZ(s:List Bool)(v:Bool):Int:=if v∈s then(s.idxOf v:Int) else-1
theorem mG{s:List Bool}{v:Bool}{i:Nat}(h:∀j:Nat,j<i->¬v=gI s (j:Int))(hi:(i:Int)<s.length)(he:v=gI s (i:Int)):(i:Int)=fZ s v:=by
 have hlt:i<s.length:=by omega
 have e:gI s (i:Int)=s[i]:=by simp[gI,hlt]
 have hm:v∈s:=by rw[he];exact bO (by omega) hi
 unfold fZ
 rw[if_pos hm]
 have hlt2:=List.idxOf_lt_length_iff.2 hm
 have h1:¬s.idxOf v<i:=λhlt'=>h _ hlt' (by simp[gI,hlt2])
 have h2:¬i<s.idxOf v:=λhlt'=>by
   have:=List.not_of_lt_findIdx (xs:=s) (p:=(· ==v)) (i:=i) hlt'
   simp at this
   exact this (by rw[<-e,<-he])
 omega
theorem nK{s:List Bool}{v:Bool}{i:Nat}(h:∀j:Nat,j<i->¬v=gI s (j:Int))(hi:¬(i:Int)<s.length): -1=fZ s v:=by
 unfold fZ
 rw[if_neg]
 intro hm
 obtain⟨j,hj,e⟩:=List.mem_iff_getElem.1 hm
 apply h j (by omega)
 rw[<-e];simp[gI,hj]
theorem mh{l:List Bool}{x:Bool}:decide (0<=fZ l x)=decide (x∈l):=by
 unfold fZ
 by_cases h:x∈l
 · rw[if_pos h,decide_eq_true h,decide_eq_true (by omega)]
 · rw[if_neg h,decide_eq_false h];rfl
end TL
/-
  TlBlk6: ears, as the program makes them.
  By an AI agent.
-/
set_option linter.all false
namespace TL
variable{g:bF}{pl by_:List Int}{R ears:List (List Int)}{rest:List (Int×Int)}{u:List Bool}{w v h:Int}{ear:List Int}
def mY(g:bF)(by_:List Int):Nat->List Bool->Int->List Int->Option (List Bool×List Int)
 |0,u,w,ear=>if gI u w=true then some (u,ear) else none
 |n+1,u,w,ear=>if gI u w=true then some (u,ear) else if gI by_ w<0 then none else mY g by_ n (u.set w.toNat true) (bA g (di (gI by_ w))) (ear++[di (gI by_ w)])
def ft(g:bF)(pl by_:List Int):List (Int×Int)->List Bool->List (List Int)->Option (List (List Int))
 |[],_,ears=>some ears
 |(v,h)::r,u,ears=>
   if gI by_ (bA g h)=h\/gI pl (bA g h)<gI pl v then ft g pl by_ r u ears
   else match mY g by_ g.1.toNat (u.set v.toNat true) (bA g h) [h] with
     |none=>none
     |some p=>ft g pl by_ r p.1 (ears++[p.2])
def dL(O:List (List Int))(l:List Int):List (Int×Int):=l.flatMap λv=>(gI O v).map λh=>(v,h)
def iz(pl:List Int)(n k:Nat):List Int:=(cz k).foldl (λo v=>o.set (gI pl v-1).toNat v) (List.replicate n 0)
def eZ(g:bF):Option (List (List Int)):=ft g (cq g g.1.toNat).place (cq g g.1.toNat).by_ (dL (aT g) (iz (cq g g.1.toNat).place g.1.toNat g.1.toNat)) (List.replicate g.1.toNat false) []
def mF(g:bF):Prop:=ba g->ci g=true->2<=g.2.length->(∀v∈cz g.1.toNat,1<=gI (cq g g.1.toNat).place v/\gI (cq g g.1.toNat).place v<=g.1)/\(dL (aT g) (iz (cq g g.1.toNat).place g.1.toNat g.1.toNat)).length<=100000/\(eZ g).isSome=true
def dp(g:bF):List (List Int)×Int:=if ba g then if ci g=true then if 2<=g.2.length then((eZ g).getD [],0) else([],9) else([],7) else([],1)
structure j9(pl:List Int)(n:Int)(o:List Int)(k:Nat):Prop where
 eq:o=iz pl (Int.toNat n) k
 lo:(o.length:Int)=n
 rg:∀x∈o,0<=x/\x<n
theorem j9.start{n:Int}(h0:0<n):j9 pl n (List.replicate (Int.toNat n) 0) 0:=⟨rfl,by simp;omega,λx hx=>by rw[(List.mem_replicate.1 hx).2];omega⟩
theorem j9.next{n:Int}{o:List Int}{k:Nat}(h:j9 pl n o k)(hk:(k:Int)<n):j9 pl n (o.set (Int.toNat (gI pl (k:Int)-1)) (k:Int)) (k+1):=by
 refine⟨?_,by rw[List.length_set];exact h.lo,λx hx=>?_⟩
 · unfold iz
   rw[db,List.foldl_append,h.eq];rfl
 · rcases List.mem_or_eq_of_mem_set hx with c|c
   · exact h.rg x c
   · rw[c];omega
structure i8(g:bF)(pl by_:List Int)(R:List (List Int))(rest:List (Int×Int))(u:List Bool)(ears:List (List Int)):Prop where
 len:(u.length:Int)=g.1
 run:ft g pl by_ rest u ears=some R
 few:(ears.length:Int)+rest.length<=100000
structure nJ(g:bF)(pl by_:List Int)(R:List (List Int))(rest:List (Int×Int))(ears:List (List Int))(u:List Bool)(w:Int)(ear:List Int):Prop where
 len:(u.length:Int)=g.1
 w0:0<=w
 w1:w<g.1
 run:∃f u2 e2,mY g by_ f u w ear=some (u2,e2)/\ft g pl by_ rest u2 (ears++[e2])=some R
 few:(ears.length:Int)+1+rest.length<=100000
 sh:(ear.length:Int)+(u.count false:Int)<=g.1+1
theorem i8.skip(hi:i8 g pl by_ R ((v,h)::rest) u ears)(hw:bA g h=w)(hc:gI by_ w=h\/gI pl w<gI pl v):i8 g pl by_ R rest u ears:=by
 subst hw
 have h1:=hi.run
 have h2:=hi.few
 rw[List.length_cons] at h2
 unfold ft at h1
 rw[if_pos hc] at h1
 exact⟨hi.len,h1,by omega⟩
theorem i8.up(hi:i8 g pl by_ R ((v,h)::rest) u ears)(hw:bA g h=w)(hc:¬(gI by_ w=h\/gI pl w<gI pl v))(w0:0<=w)(w1:w<g.1):nJ g pl by_ R rest ears (u.set (Int.toNat v) true) w [h]:=by
 subst hw
 have h1:=hi.run
 have h2:=hi.few
 rw[List.length_cons] at h2
 unfold ft at h1
 rw[if_neg hc] at h1
 have hl:=hi.len
 refine⟨by rw[List.length_set];exact hi.len,w0,w1,?_,by omega,?_⟩
 · cases e:mY g by_ g.1.toNat (u.set v.toNat true) (bA g h) [h] with
   |none=>rw[e] at h1;cases h1
   |some p=>rw[e] at h1;exact⟨_,p.1,p.2,e,h1⟩
 · have:(u.set (Int.toNat v) true).count false<=(u.set (Int.toNat v) true).length:=List.count_le_length
   rw[List.length_set] at this
   simp only[List.length_cons,List.length_nil];omega
theorem nJ.byp(hi:nJ g pl by_ R rest ears u w ear)(hu:¬gI u w=true):0<=gI by_ w:=by
 obtain⟨f,u2,e2,h1,_⟩:=hi.run
 cases f with
 |zero=>unfold mY at h1;rw[if_neg hu] at h1;cases h1
 |succ f=>
   unfold mY at h1
   rw[if_neg hu] at h1
   by_cases c:gI by_ w<0
   · rw[if_pos c] at h1;cases h1
   · omega
theorem hX{u:List Bool}{w:Int}(w0:0<=w)(w1:w<u.length)(hu:¬gI u w=true):(u.set (Int.toNat w) true).count false+1=u.count false:=by
 have hlt:w.toNat<u.length:=by omega
 have e:u[w.toNat]=false:=by
   have:gI u w=u[w.toNat]:=by simp[gI,hlt]
   rw[this] at hu;simpa using hu
 have hp:0<u.count false:=List.count_pos_iff.2 (e▸List.getElem_mem hlt)
 rw[List.count_set hlt,e]
 simp;omega
theorem nJ.next(hi:nJ g pl by_ R rest ears u w ear)(hu:¬gI u w=true){x y:Int}(hx:di (gI by_ w)=x)(hy:bA g x=y)(y0:0<=y)(y1:y<g.1):nJ g pl by_ R rest ears (u.set (Int.toNat w) true) y (ear++[x])/\(u.set (Int.toNat w) true).count false<u.count false:=by
 subst hx hy
 have hl:=hi.len
 have w0:=hi.w0
 have w1:=hi.w1
 have hb:=hi.byp hu
 have hc:=hX w0 (by omega) hu
 have hs:=hi.sh
 refine⟨⟨by rw[List.length_set];exact hl,y0,y1,?_,hi.few,by rw[List.length_append,List.length_singleton];omega⟩,by omega⟩
 obtain⟨f,u2,e2,h1,h2⟩:=hi.run
 cases f with
 |zero=>unfold mY at h1;rw[if_neg hu] at h1;cases h1
 |succ f=>
   unfold mY at h1
   rw[if_neg hu,if_neg (by omega)] at h1
   exact⟨f,u2,e2,h1,h2⟩
theorem nJ.done(hi:nJ g pl by_ R rest ears u w ear)(hu:gI u w=true):i8 g pl by_ R rest u (ears++[ear]):=by
 obtain⟨f,u2,e2,h1,h2⟩:=hi.run
 have e:mY g by_ f u w ear=some (u,ear):=by
   cases f with
   |zero=>unfold mY;rw[if_pos hu]
   |succ f=>unfold mY;rw[if_pos hu]
 rw[e] at h1
 obtain⟨rfl,rfl⟩:u=u2/\ear=e2:=by simpa using h1
 exact⟨hi.len,h2,by have:=hi.few;rw[List.length_append,List.length_singleton];omega⟩
def dU(O:List (List Int))(o:List Int)(k i:Nat):List (Int×Int):=((gI O (gI o (k:Int))).drop i).map (λh=>(gI o (k:Int),h))++dL O (o.drop (k+1))
theorem i8.row{O:List (List Int)}{o:List Int}{k:Nat}(hi:i8 g pl by_ R (dL O (o.drop k)) u ears)(hk:(k:Int)<o.length):i8 g pl by_ R (dU O o k 0) u ears:=by
 have hk':k<o.length:=by omega
 have e:dL O (o.drop k)=dU O o k 0:=by
   rw[List.drop_eq_getElem_cons hk']
   have e2:gI o (k:Int)=o[k]:=by simp[gI,hk']
   unfold dU dL
   rw[List.flatMap_cons,e2];rfl
 rwa[e] at hi
theorem i8.one{O:List (List Int)}{o:List Int}{k i:Nat}(hi:i8 g pl by_ R (dU O o k i) u ears)(hk:(i:Int)<((gI O (gI o (k:Int))).length:Int)):i8 g pl by_ R ((gI o (k:Int),gI (gI O (gI o (k:Int))) (i:Int))::dU O o k (i+1)) u ears:=by
 have hk':i<(gI O (gI o (k:Int))).length:=by omega
 have e:dU O o k i=(gI o (k:Int),gI (gI O (gI o (k:Int))) (i:Int))::dU O o k (i+1):=by
   unfold dU
   rw[List.drop_eq_getElem_cons hk']
   have e3:∀(L:List Int) (hL:i<L.length),gI L (i:Int)=L[i]:=λL hL=>by simp[gI,hL]
   have e2:=e3 (gI O (gI o (k:Int))) hk'
   rw[List.map_cons,e2];rfl
 rwa[e] at hi
theorem i8.rowdone{O:List (List Int)}{o:List Int}{k i:Nat}(hi:i8 g pl by_ R (dU O o k i) u ears)(hk:¬(i:Int)<((gI O (gI o (k:Int))).length:Int)):i8 g pl by_ R (dL O (o.drop (k+1))) u ears:=by
 have e:dU O o k i=dL O (o.drop (k+1)):=by
   unfold dU
   rw[List.drop_eq_nil_of_le (by omega)];rfl
 rwa[e] at hi
theorem i8.done{O:List (List Int)}{o:List Int}{k:Nat}(hi:i8 g pl by_ R (dL O (o.drop k)) u ears)(hk:¬(k:Int)<(o.length:Int)):ears=R:=by
 have h1:=hi.run
 rw[List.drop_eq_nil_of_le (by omega)] at h1
 unfold dL ft at h1
 simpa using h1
theorem nB{o:List Int}(hm:ba g)(hok:mF g)(hb:ci g=true)(h2:2<=g.2.length)(hp:pl=(cq g g.1.toNat).place)(hy:by_=(cq g g.1.toNat).by_){O:List (List Int)}(hO:O=aT g){k:Nat}(ho:j9 pl g.1 o k)(hk:(k:Int)=g.1):i8 g pl by_ ((eZ g).getD []) (dL O (o.drop 0)) (List.replicate (Int.toNat g.1) false) []:=by
 obtain⟨_,h3,h4⟩:=hok hm hb h2
 have e:k=g.1.toNat:=by omega
 subst hO
 have eo:o=iz (cq g g.1.toNat).place g.1.toNat g.1.toNat:=by rw[ho.eq,e,hp]
 have hm0:=hm.1
 refine⟨by simp;omega,?_,?_⟩
 · rw[List.drop_zero,eo,hp,hy]
   show eZ g=_
   cases h5:eZ g with
   |none=>rw[h5] at h4;cases h4
   |some r=>rfl
 · rw[List.drop_zero,eo]
   simp only[List.length_nil];omega
theorem lU(h:ci g=true):2<=g.1:=(of_decide_eq_true h).1
theorem n9{O:List (List Int)}{i:Int}(hO:O=aT g)(v0:0<=v)(v1:v<g.1)(i0:0<=i)(i1:i<((gI O v).length:Int)):0<=gI (gI O v) i/\gI (gI O v) i<2*(g.2.length:Int):=by
 subst hO
 have hin:gI (gI (aT g) v) i∈gI (aT g) v:=bO i0 i1
 rw[dM v0 v1] at hin
 have ho:=(eF hin).1
 rw[<-dM v0 v1] at ho
 exact ho
end TL
/-
  TlArr2: a variable that holds two numbers, as a list; lengths of small numbers in bits.
  By an AI agent.
-/
set_option linter.all false
namespace TL
open Go
section
variable{P:Program}{f:Fr}{w:World}{dst:Option Tmp}{ty:TypeId}{pos:String}{after:Array Edge}{g:Option (Nat×Bool)}{t e:TypeId}{x y:Operand}
theorem ij{b:Nat}(ht:P.underlying t=some (.array 2 e))(hs:(P.info? e).map (·.size)=some 1)(hx:ev f x= .pointer (some ⟨b,0,none⟩)):
   (execOp (ev f) ⟨dst,.slice t x none none none,ty,pos,after,g⟩).run P w= .ok (.value (.slice (some ⟨b,0,none⟩) 2 2)) w:=by
 cases hq:P.info? e with
 |none=>simp[hq] at hs
 |some q=>
   have hsub:execOp (ev f) ⟨dst,.slice t x none none none,ty,pos,after,g⟩=(do pure (.value (<-Instr.sliceAt t (.pointer (some ⟨b,0,none⟩)) none none none))):=by
     simp[execOp,hx]
   rw[hsub]
   have ha:(⟨b,0,none⟩:Addr).add 0=⟨b,0,none⟩:=rfl
   simp[Instr.sliceAt,Instr.sureAddr,Instr.sliceBounds,aG ht,c7 hq,ha]
end
theorem pB{γ:aC}{S:bX->Prop}{w:World}{b:Nat}{x y:Int}(h:Bx γ S w b [.int .i64 x,.int .i64 y]):Sl (α:=Int) γ S w (.slice (some ⟨b,0,none⟩) 2 2) [x,y]:=by
 obtain⟨h1,e,h2⟩:=h
 refine .inr ⟨b,0,2,rfl,⟨by simp,by simp⟩,λi z hi=>⟨cE h2,h1,[.int .i64 z],λj hj=>?_,rfl⟩⟩
 have hj0:j=0:=by have:j<1:=hj;omega
 subst hj0
 have hl:=(List.getElem?_eq_some_iff.1 hi).1
 have hi2:i=0\/i=1:=by simp at hl;omega
 have hs:Rp.sz Int=1:=rfl
 rcases hi2 with rfl|rfl
 · simp at hi
   simp[World.cell?,h2,hs,hi]
 · simp at hi
   simp[World.cell?,h2,hs,hi]
theorem mK{x:Int}(h0:0<=x)(h1:x<=4611686018427387904):IntKind.u64.wrap x=x:=by
 have:IntKind.u64.wrap x=x%18446744073709551616:=by simp[IntKind.wrap,IntKind.bits,IntKind.signed]
 rw[this];omega
theorem oC{x:Int}(h0:0<=x)(h1:x<=255):IntKind.u8.wrap x=x:=by
 have:IntKind.u8.wrap x=x%256:=by simp[IntKind.wrap,IntKind.bits,IntKind.signed]
 rw[this];omega
def eL(i:Int):Int:=gI [0,1,2,2,3,3,3,3,4,4,4,4,4] i
theorem kd{i:Int}(h0:0<=i)(h1:i<=12):i=0\/i=1\/i=2\/i=3\/i=4\/i=5\/i=6\/i=7\/i=8\/i=9\/i=10\/i=11\/i=12:=by omega
theorem oq{i:Int}(h0:0<=i)(h1:i<=12):0<=eL i/\eL i<=4:=by
 rcases kd h0 h1 with rfl|rfl|rfl|rfl|rfl|rfl|rfl|rfl|rfl|rfl|rfl|rfl|rfl<;>decide
theorem nb{i:Int}(h0:0<=i)(h1:i<=12){str:ByteArray}(h:(List.range 13).all (λk=>decide (str[k]? =some (UInt8.ofNat (eL (k:Int)).toNat)))=true):str[i.toNat]? =some (UInt8.ofNat (eL i).toNat):=by
 obtain⟨k,rfl⟩:∃k:Nat,i=k:=⟨i.toNat,by omega⟩
 exact of_decide_eq_true (List.all_eq_true.1 h k (List.mem_range.2 (by omega)))
theorem mM{i:Int}(h0:0<=i)(h1:i<=12):((UInt8.ofNat (eL i).toNat).toNat:Int)=eL i:=by
 rcases kd h0 h1 with rfl|rfl|rfl|rfl|rfl|rfl|rfl|rfl|rfl|rfl|rfl|rfl|rfl<;>decide
end TL
/-
  TlBlk7: the tree of blocks, as the program makes it, with the library's sort of few elements.
  By an AI agent.
-/
set_option linter.all false
namespace TL
def dk:List Int->List Int->Int
  |[],[]=>0
  |[],_::_=> -1
  |_::_,[]=>1
  |a::l,b::m=>if dJ a b=0 then dk l m else dJ a b
section
variable{s t:List Int}{k:Nat}
theorem eR{l:List Int}(h:(k:Int)<l.length):l.drop k=gI l (k:Int)::l.drop (k+1):=by
 have h':k<l.length:=by omega
 rw[List.drop_eq_getElem_cons h']
 have e:gI l (k:Int)=l[k]:=by simp[gI,h']
 rw[e]
theorem mQ(hi:dk (s.drop k) (t.drop k)=dk s t)(h1:(k:Int)<s.length)(h2:(k:Int)<t.length)(h:dJ (gI s (k:Int)) (gI t (k:Int))=0):dk (s.drop (k+1)) (t.drop (k+1))=dk s t:=by
 rw[<-hi,eR h1,eR h2]
 show _=if dJ _ _=0 then _ else _
 rw[if_pos h]
theorem qj(hi:dk (s.drop k) (t.drop k)=dk s t)(h1:(k:Int)<s.length)(h2:(k:Int)<t.length)(h:¬dJ (gI s (k:Int)) (gI t (k:Int))=0):dJ (gI s (k:Int)) (gI t (k:Int))=dk s t:=by
 rw[<-hi,eR h1,eR h2]
 show _=if dJ _ _=0 then _ else _
 rw[if_neg h]
theorem na(hi:dk (s.drop k) (t.drop k)=dk s t)(h1:(k:Int)<s.length)(h2:(t.length:Int)<=k):1=dk s t:=by
 have e:t.drop k=[]:=List.drop_eq_nil_of_le (by omega)
 rw[<-hi,eR h1,e];rfl
theorem nD(hi:dk (s.drop k) (t.drop k)=dk s t)(h1:¬(k:Int)<s.length)(hk:(k:Int)<=s.length)(h2:(s.length:Int)<t.length): -1=dk s t:=by
 rw[<-hi,List.drop_eq_nil_of_le (by omega),eR (by omega)];rfl
theorem n3(hi:dk (s.drop k) (t.drop k)=dk s t)(h1:¬(k:Int)<s.length)(hk:(k:Int)<=s.length)(h2:¬(s.length:Int)<t.length):0=dk s t:=by
 rw[<-hi,List.drop_eq_nil_of_le (by omega),List.drop_eq_nil_of_le (by omega)];rfl
end
def oX(x y:Int×Int):Int:=dk [x.1,x.2] [y.1,y.2]
def mT(xs:List (Int×Int))(j:Nat):List (Int×Int):=(xs.set j (gI xs ((j:Int)-1))).set (j-1) (gI xs (j:Int))
def jO(xs:List (Int×Int)):Nat->List (Int×Int)
 |0=>xs
 |j+1=>if oX (gI xs ((j:Int)+1)) (gI xs (j:Int))<0 then jO (mT xs (j+1)) j else xs
def pv(xs:List (Int×Int)):Nat->List (Int×Int)
 |0=>xs
 |k+1=>jO (pv xs k) (k+1)
def kH(xs:List (Int×Int)):List (Int×Int):=pv xs (xs.length-1)
structure iq(x0 xs:List (Int×Int))(i:Int):Prop where
 len:xs.length=x0.length
 lo:1<=i
 hi:i=1\/i<=x0.length
 eq:xs=pv x0 (i.toNat-1)
structure jC(x0 xs:List (Int×Int))(i j:Int):Prop where
 len:xs.length=x0.length
 lo:0<=j
 hi:j<=i
 li:i<x0.length
 l1:1<=i
 run:jO xs j.toNat=pv x0 i.toNat
section
variable{x0 xs:List (Int×Int)}{i j:Int}
theorem iq.start:iq x0 x0 1:=⟨rfl,by omega,.inl rfl,rfl⟩
theorem iq.inner(h:iq x0 xs i)(hi:i<(xs.length:Int)):jC x0 xs i i:=by
 have h1:=h.lo
 have h2:=h.len
 refine⟨h.len,by omega,by omega,by omega,h1,?_⟩
 obtain⟨k,hk⟩:∃k:Nat,i.toNat=k+1:=⟨i.toNat-1,by omega⟩
 have h3:=h.eq
 rw[hk] at h3 ⊢
 rw[h3];rfl
theorem jC.next(h:jC x0 xs i j)(hj:0<j)(hc:oX (gI xs j) (gI xs (j-1))<0){ys:List (Int×Int)}(he:ys=(xs.set (Int.toNat j) (gI xs (j-1))).set (Int.toNat (j-1)) (gI xs j)):jC x0 ys i (j-1):=by
 have h1:=h.hi
 refine⟨by rw[he];simp only[List.length_set];exact h.len,by omega,by omega,h.li,h.l1,?_⟩
 have h2:=h.run
 obtain⟨q,hq⟩:∃q:Nat,j.toNat=q+1:=⟨j.toNat-1,by omega⟩
 have e1:((q:Int)+1)=j:=by omega
 have e2:(q:Int)=j-1:=by omega
 rw[hq] at h2
 unfold jO at h2
 rw[e1,e2,if_pos hc] at h2
 have e3:mT xs (q+1)=ys:=by
   rw[he]
   unfold mT
   have e4:((q+1:Nat):Int)=j:=by omega
   have e5:(j-1).toNat=q:=by omega
   rw[e4,hq,e5];rfl
 rw[e3] at h2
 have e6:(j-1).toNat=q:=by omega
 rw[e6];exact h2
theorem jC.done(h:jC x0 xs i j)(hc:¬0<j\/¬oX (gI xs j) (gI xs (j-1))<0):iq x0 xs (i+1):=by
 have h1:=h.l1
 have h2:=h.li
 refine⟨h.len,by omega,.inr (by omega),?_⟩
 have h3:=h.run
 have e0:(i+1).toNat-1=i.toNat:=by omega
 rw[e0,<-h3]
 have hlo:=h.lo
 by_cases c:j=0
 · subst c;rfl
 · obtain⟨q,hq⟩:∃q:Nat,j.toNat=q+1:=⟨j.toNat-1,by omega⟩
   have e1:((q:Int)+1)=j:=by omega
   have e2:(q:Int)=j-1:=by omega
   have hc2:¬oX (gI xs j) (gI xs (j-1))<0:=hc.resolve_left (by omega)
   rw[hq]
   unfold jO
   rw[e1,e2,if_neg hc2]
theorem iq.done(h:iq x0 xs i)(hi:¬i<(xs.length:Int)):xs=kH x0:=by
 have h1:=h.lo
 have h2:=h.len
 have h3:=h.hi
 rw[h.eq]
 unfold kH
 congr 1
 rcases h3 with c|c<;>omega
end
section
variable{g:bF}
def kv(g:bF)(k:Nat):Int->Int:=(cz k).foldl (λF j=>λq=>if q=gI (a5 g).2.1 j then(a5 g).2.2+j else F q) (λ_=>0)
theorem mw{F:Int->Int}{k:Nat}(h:F=kv g k):(λq=>if q=gI (a5 g).2.1 (k:Int) then(a5 g).2.2+(k:Int) else F q)=kv g (k+1):=by
 unfold kv
 rw[db,List.foldl_append,h];rfl
def qu(g:bF)(F:Int->Int)(s:List (Int×Int)×(Int×Int->Int))(h:Int):List (Int×Int)×(Int×Int->Int):=
 (if 0<F (au g h)/\s.2 (gI (a5 g).1 (h/2),F (au g h))=0 then s.1++[(gI (a5 g).1 (h/2),F (au g h))] else s.1,λq=>if q=(gI (a5 g).1 (h/2),F (au g h)) then s.2 (gI (a5 g).1 (h/2),F (au g h))+1 else s.2 q)
def oa(g:bF)(F:Int->Int)(n:Nat):List (Int×Int)×(Int×Int->Int):=(cz n).foldl (qu g F) ([],λ_=>0)
def nc(g:bF):List (Int×Int):=(oa g (kv g (a5 g).2.1.length) (2*g.2.length)).1
def kL(g:bF):bF:=((a5 g).2.2+((a5 g).2.1.length:Int),kH (nc g))
def cI(g:bF):bF×Int:=if ba g then if ba (kL g) then(kL g,0) else((0,[]),3) else((0,[]),1)
def mU(g:bF):Prop:=ba g->(nc g).length<=12
structure eV(g:bF)(F:Int->Int)(ed:List (Int×Int))(sn:Int×Int->Int)(n:Nat):Prop where
 eq:(ed,sn)=oa g F n
 le:(ed.length:Int)<=n
 s0:∀q,0<=sn q/\sn q<=n
theorem eV.start{F:Int->Int}:eV g F [] (λ_=>0) 0:=⟨rfl,by simp,λq=>⟨by omega,by omega⟩⟩
theorem eV.next{F:Int->Int}{ed ed':List (Int×Int)}{sn sn':Int×Int->Int}{n:Nat}(h:eV g F ed sn n){v e:Int}{K:Int×Int}(hv:au g (n:Int)=v)(he:(n:Int)/2=e)(hK:K=(gI (a5 g).1 e,F v))(hs:sn'=λq=>if q=K then sn K+1 else sn q)(hd:ed'=if 0<F v/\sn K=0 then ed++[K] else ed):eV g F ed' sn' (n+1):=by
 subst hv he hK hs hd
 have h1:=h.le
 refine⟨?_,?_,λq=>?_⟩
 · unfold oa
   rw[db,List.foldl_append]
   show _=qu g F (oa g F n) (n:Int)
   rw[<-h.eq];rfl
 · split
   · rw[List.length_append,List.length_singleton];omega
   · omega
 · have h2:=h.s0 q
   have h3:=h.s0 (gI (a5 g).1 ((n:Int)/2),F (au g (n:Int)))
   by_cases c:q=(gI (a5 g).1 ((n:Int)/2),F (au g (n:Int)))
   · simp only[if_pos c];omega
   · simp only[if_neg c];omega
theorem eV.two{F:Int->Int}{ed ed1 ed2:List (Int×Int)}{sn sn1 sn2:Int×Int->Int}{k:Nat}(h:eV g F ed sn (2*k)){v v2:Int}{K K2:Int×Int}(hv:(gI g.2 (k:Int)).1=v)(hv2:(gI g.2 (k:Int)).2=v2)(hK:K=(gI (a5 g).1 (k:Int),F v))(hK2:K2=(gI (a5 g).1 (k:Int),F v2))
   (hs:sn1=λq=>if q=K then sn K+1 else sn q)(hs2:sn2=λq=>if q=K2 then sn1 K2+1 else sn1 q)(hd:ed1=if 0<F v/\sn K=0 then ed++[K] else ed)(hd2:ed2=if 0<F v2/\sn1 K2=0 then ed1++[K2] else ed1):eV g F ed2 sn2 (2*(k+1)):=by
 have e1:((2*k:Nat):Int)/2=(k:Int):=by omega
 have e2:((2*k+1:Nat):Int)/2=(k:Int):=by omega
 have f1:au g ((2*k:Nat):Int)=v:=by
   rw[<-hv];unfold au;rw[e1,show((2*k:Nat):Int)%2=0 by omega];rfl
 have f2:au g ((2*k+1:Nat):Int)=v2:=by
   rw[<-hv2];unfold au;rw[e2,show((2*k+1:Nat):Int)%2=1 by omega];rfl
 exact(h.next f1 e1 hK hs hd).next f2 e2 hK2 hs2 hd2
theorem iR{a b:Int}{x y:List (Int×Int)}(h:0<a)(h2:b=0):y=if 0<a/\b=0 then y else x:=(if_pos ⟨h,h2⟩).symm
theorem gQ{a b:Int}{x y:List (Int×Int)}(h:¬0<a):x=if 0<a/\b=0 then y else x:=(if_neg λk=>h k.1).symm
theorem gK{a b:Int}{x y:List (Int×Int)}(h:¬b=0):x=if 0<a/\b=0 then y else x:=(if_neg λk=>h k.2).symm
theorem mV{F:Int->Int}{ed:List (Int×Int)}{sn:Int×Int->Int}{e k:Nat}(h:eV g F ed sn (2*e))(hF:F=kv g k)(hk:(k:Int)=((a5 g).2.1.length:Int))(he:(e:Int)=(g.2.length:Int)):ed=nc g:=by
 have e1:k=(a5 g).2.1.length:=by omega
 have e2:e=g.2.length:=by omega
 have h1:=h.eq
 rw[hF,e1,e2] at h1
 unfold nc
 rw[<-h1]
theorem ms(h0:0<=g.1):((a5 g).2.1.length:Int)<=g.1:=by
 have:=jy (a:=ln g) (l:=(lT (dD g) g (2*g.2.length)).2) (k:=g.1.toNat) rfl
 show((ln g).length:Int)<=g.1
 omega
end
end TL
/-
  TlBlk8: what the statements on blocks ask of samples.
  By an AI agent.
-/
set_option linter.all false
namespace TL
def aO:bF:=(4,[(0,1),(1,2),(2,0),(2,3),(3,3)])
theorem nI:mU aO:=by
 intro _;decide+kernel
theorem oQ:mF (2,[(0,1),(0,1)]):=by
 intro _ _ _
 refine⟨?_,?_,?_⟩<;>decide+kernel
theorem cy{g:bF}(hm:ba g):(ao g).1=a5 g:=by unfold ao;rw[if_pos hm];rfl
theorem mN{g:bF}(h:cd g=true)(h2:g.1<=40):decide ((g.2.length:Int)<=60)=decide (¬ba g\/(g.1<=40/\g.2.length<=60)):=by
 have hm:ba g:=of_decide_eq_true h
 rw[decide_eq_decide]
 exact⟨λa=>.inr ⟨h2,by omega⟩,λa=>by have:=(a.resolve_left (λk=>k hm)).2;omega⟩
theorem mO{g:bF}(h:cd g=true)(h2:¬g.1<=40):false=decide (¬ba g\/(g.1<=40/\g.2.length<=60)):=by
 have hm:ba g:=of_decide_eq_true h
 rw[decide_eq_false]
 exact λa=>h2 (a.resolve_left (λk=>k hm)).1
theorem n7{g:bF}(h:¬cd g=true):true=decide (¬ba g\/(g.1<=40/\g.2.length<=60)):=by
 rw[decide_eq_true]
 exact .inl λk=>h (decide_eq_true k)
section
variable{g:bF}{br:List Bool}{many:List Int}{j k:Nat}{e:Int}
end
end TL
/-
  TlOrb: going round by a permutation; two places changed; what that does to the numbers of rounds.
  By an AI agent.
-/
set_option linter.all false
namespace TL
def tr(a b x:Int):Int:=if x=a then b else if x=b then a else x
end TL
/-
  TlDual: faces as nodes: the dual, corners' faces, edges laid, taken and split, ways over faces, as plain functions.
  By an AI agent.
-/
set_option linter.all false
namespace TL
def pF(g:bF)(r:iu)(c:Int×Int):Prop:=(0<=c.1/\c.1<g.1)/\if((gI r c.1).length:Int)=0 then c.2= -1 else c.2∈gI r c.1
instance (g:bF)(r:iu)(c:Int×Int):Decidable (pF g r c):=by unfold pF;infer_instance
end TL
namespace TL
end TL
namespace TL
end TL
namespace TL
section
variable{g:bF}{r:iu}{a b:Int×Int}
end
end TL
/-
  TlKru: edges of the least weight that join all that is joined (package path's Least): Kruskal's way by labels, and a forest of parents that agrees with the labels.
  By an AI agent.
-/
set_option linter.all false
namespace TL
def qC(ws:List Nat)(i:Int):Pl:=(zf (gI ws i),i)
def r8(ws:List Nat)(i k:Int):Prop:=qO (qC ws i) (qC ws k)
instance (ws:List Nat)(i k:Int):Decidable (r8 ws i k):=by unfold r8;infer_instance
-- by labels
variable{n:Int}{of0 of c:List Int}{rho:Int->Nat}{v v0:Int}
end TL
namespace TL
variable{g:bF}{ws:List Nat}{of l:List Int}{k:Nat}
end TL
namespace TL
end TL
namespace TL
end TL
/-
  TlOnes: ways of weights 1, 0 and of none: as a walk breadth first goes.
  By an AI agent.
-/
set_option linter.all false
namespace TL
variable{g g1 g2:bF}{ws w1 w2:List Nat}{s v:Int}{f1 f2 far:List Nat}{b1 b2 by_:List Int}{r1 r2 rk:Int->Nat}{C:Nat}
def aM(g:bF)(s:Int):(List Int×List Int×List Int×List Int)×Int:=
 if ba g then(if 0<=s/\s<g.1 then(((b7 g s).order,(b7 g s).by_,(b7 g s).far,[]),0) else(([],[],[],[]),2)) else(([],[],[],[]),1)
theorem nz(h:¬ba g):aM g s=(([],[],[],[]),1):=by unfold aM;rw[if_neg h]
theorem lf(h:ba g)(h2:¬(0<=s/\s<g.1)):aM g s=(([],[],[],[]),2):=by unfold aM;rw[if_pos h,if_neg h2]
theorem jR(h:ba g)(h2:0<=s/\s<g.1):aM g s=(((b7 g s).order,(b7 g s).by_,(b7 g s).far,[]),0):=by unfold aM;rw[if_pos h,if_pos h2]
theorem qo(h:(aM g s).2=0):ba g/\nd g s/\(aM g s).1.2.2.1=(b7 g s).far:=by
 by_cases c:ba g
 · by_cases d:0<=s/\s<g.1
   · rw[jR c d];exact⟨c,d,rfl⟩
   · rw[lf c d] at h;exact absurd h (by decide)
 · rw[nz c] at h;exact absurd h (by decide)
end TL
namespace TL
variable{g:bF}{s:Int}
theorem pY(h:¬(aM g s).2=0):(aM g s).1=([],[],[],[]):=by
 by_cases c:ba g
 · by_cases d:0<=s/\s<g.1
   · rw[jR c d] at h;exact absurd rfl h
   · rw[lf c d]
 · rw[nz c]
end TL
namespace TL
open Go
theorem jo{P:Program}{f:Fr}{w:World}{dst:Option Tmp}{ty:TypeId}{pos:String}{after:Array Edge}{g:Option (Nat×Bool)}{t t':TypeId}{x y:Operand}{op:BinOp}{k:IntKind}{m n r:Int}(hx:ev f x= .int k m)(hy:ev f y= .int k n)(h:binOp op t (.int k m) (.int k n)=pure (.int k r)):(execOp (ev f) ⟨dst,.binOp op t x y t',ty,pos,after,g⟩).run P w= .ok (.value (.int k r)) w:=
 c8 op x y hx hy (by rw[h];rfl)
end TL
namespace TL
variable{g:bF}{s v:Int}{on ze so:List Nat}{op:List Int}{i:Nat}
end TL
/-
  TlJoin4: what the program looks at, an edge more.
  By an AI agent.
-/
set_option linter.all false
namespace TL
variable{g:bF}{u v w i k:Int}{on:List Bool}
structure kj(g:bF)(u v:Int):Prop where
  hm:ba g
  hm2:ba (bK g u v)
  tr:iD g u (b7 g u).by_ (b7 g u).far (λx=>x∈(b7 g u).order)
  hv:v∈(b7 g u).order
  ne:u≠v
  bl:((b7 g u).by_.length:Int)=g.1
  rg:∀x∈(b7 g u).order,0<=x/\x<g.1
theorem pK(hm:ba g)(u0:0<=u)(u1:u<g.1):((b7 g u).far.length:Int)=g.1:=by
 obtain⟨dh,c,h,_⟩:=ip (s:=u) hm ⟨u0,u1⟩
 exact h.ok.far
theorem pM(hm:ba g)(h59:g.2.length<=59)(u0:0<=u)(u1:u<g.1)(v0:0<=v)(v1:v<g.1):ba (bK g u v):=by
 refine⟨hm.1,hm.2.1,by simp[bK];omega,λe he=>?_⟩
 rcases List.mem_append.1 he with c|c
 · exact hm.2.2.2 e c
 · rw[List.mem_singleton.1 c];exact⟨⟨u0,u1⟩,v0,v1⟩
theorem kj.of(hm:ba g)(h59:g.2.length<=59)(u0:0<=u)(u1:u<g.1)(v0:0<=v)(v1:v<g.1)(hne:¬u=v)(hf:¬gI (b7 g u).far v<0):kj g u v:=by
 obtain⟨dh,c,h,_⟩:=ip (s:=u) hm ⟨u0,u1⟩
 have hin:∀x,x∈(b7 g u).order->0<=gI (b7 g u).far x:=λx hx=>by
   obtain⟨a,b⟩:=h.ok.rng x hx
   by_cases k:gI (b7 g u).far x<0
   · exact absurd hx ((h.ok.iff x a b).1 k)
   · omega
 have hvo:v∈(b7 g u).order:=by
   by_cases k:v∈(b7 g u).order
   · exact k
   · exact absurd ((h.ok.iff v v0 v1).2 k) hf
 exact⟨hm,pM hm h59 u0 u1 v0 v1,⟨h.s0,h.sm,hin,λx hx hne=>h.tr x hx hne⟩,hvo,hne,h.ok.by_,h.ok.rng⟩
structure mS(g:bF)(u v:Int)(on:List Bool)(w:Int):Prop where
 o:kh g (b7 g u).by_ (b7 g u).far (λx=>x∈(b7 g u).order) u v on w
theorem kj.start(h:kj g u v):mS g u v (List.replicate (Int.toNat (ao g).1.2.2) false) v:=by
 rw[cy h.hm];exact⟨.start h.tr h.hv⟩
theorem kj.rng(h:kj g u v)(hi:mS g u v on w):(0<=w/\w<g.1)/\0<=gI (b7 g u).far w:=⟨h.rg w (h.tr.ch h.hv hi.o.ch),h.tr.nn w (h.tr.ch h.hv hi.o.ch)⟩
theorem kj.by_(h:kj g u v)(hi:mS g u v on w)(hne:¬w=u):(0<=gI (b7 g u).by_ w/\gI (b7 g u).by_ w<2*(g.2.length:Int))/\(0<=gI (ao g).1.1 (gI (b7 g u).by_ w/2)/\gI (ao g).1.1 (gI (b7 g u).by_ w/2)<(ao g).1.2.2):=by
 obtain⟨t1,_⟩:=h.tr.tr w (h.tr.ch h.hv hi.o.ch) hne
 rw[cy h.hm]
 exact⟨t1,fy g (j5 t1) (hU t1)⟩
theorem kj.next(h:kj g u v)(hi:mS g u v on w)(hne:¬w=u):mS g u v (on.set (Int.toNat (gI (ao g).1.1 (gI (b7 g u).by_ w/2))) true) (au g (gI (b7 g u).by_ w))/\Int.toNat (gI (b7 g u).far (au g (gI (b7 g u).by_ w)))<Int.toNat (gI (b7 g u).far w):=by
 obtain⟨a,b,c⟩:=hi.o.next h.tr h.hv hne (p:=au g (gI (b7 g u).by_ w)) (b:=gI (dD g) (gI (b7 g u).by_ w/2)) rfl rfl
 rw[cy h.hm]
 exact⟨⟨a⟩,by omega⟩
theorem mS.len(hi:mS g u v on w)(hm:ba g):(on.length:Int)=(ao g).1.2.2:=by rw[cy hm];exact hi.o.len
theorem kj.law1(h:kj g u v)(hi:mS g u v on w)(hw:w=u)(i0:0<=i)(i1:i<(g.2.length:Int)):gI on (gI (ao g).1.1 i)=decide (gI (ao (g.1,g.2++[(u,v)])).1.1 i=gI (ao (g.1,g.2++[(u,v)])).1.1 (g.2.length:Int)):=by
 have hl:=mc h.hm h.hm2 h.tr h.hv h.ne i0 i1
 obtain⟨c0,c1⟩:=fy g i0 i1
 have ho:=hi.o.done h.tr h.hv hw c0 c1
 rw[cy h.hm,show(g.1,g.2++[(u,v)])=bK g u v from rfl,cy h.hm2]
 show gI on (gI (dD g) i)=decide (gI (dD (bK g u v)) i=gI (dD (bK g u v)) (g.2.length:Int))
 rw[Bool.eq_iff_iff,ho,hl,decide_eq_true_iff]
theorem kj.law2(h:kj g u v)(hi:mS g u v on w)(hw:w=u)(i0:0<=i)(i1:i<(g.2.length:Int))(k0:0<=k)(k1:k<(g.2.length:Int))(hn:¬gI on (gI (ao g).1.1 i)=true):decide (gI (ao g).1.1 i=gI (ao g).1.1 k)=decide (gI (ao (g.1,g.2++[(u,v)])).1.1 i=gI (ao (g.1,g.2++[(u,v)])).1.1 k):=by
 obtain⟨c0,c1⟩:=fy g i0 i1
 have ho:=hi.o.done h.tr h.hv hw c0 c1
 rw[cy h.hm] at hn
 have hl:=ml h.hm h.hm2 h.tr h.hv h.ne i0 i1 k0 k1 (λk=>hn (ho.2 k))
 rw[cy h.hm,show(g.1,g.2++[(u,v)])=bK g u v from rfl,cy h.hm2]
 show decide (gI (dD g) i=gI (dD g) k)=decide (gI (dD (bK g u v)) i=gI (dD (bK g u v)) k)
 rw[decide_eq_decide];exact hl
theorem pJ(hm2:ba (bK g u v)):(ao (g.1,g.2++[(u,v)])).2=0:=by
 rw[show(g.1,g.2++[(u,v)])=bK g u v from rfl]
 unfold ao;rw[if_pos hm2]
theorem ql(hm2:ba (bK g u v)):((ao (g.1,g.2++[(u,v)])).1.1.length:Int)=(g.2.length:Int)+1:=by
 rw[show(g.1,g.2++[(u,v)])=bK g u v from rfl,cy hm2]
 have:=fJ (bK g u v)
 have:=ez (g:=g) (u:=u) (v:=v)
 show((dD (bK g u v)).length:Int)=_
 omega
theorem l8(hm:ba g)(i0:0<=i)(i1:i<(g.2.length:Int)):0<=gI (ao g).1.1 i/\gI (ao g).1.1 i<(ao g).1.2.2:=by rw[cy hm];exact fy g i0 i1
theorem pP(hm:ba g):(0<=(ao g).1.2.2/\(ao g).1.2.2<=(g.2.length:Int))/\((ao g).1.1.length:Int)=(g.2.length:Int):=by
 rw[cy hm]
 have:=fJ g
 exact⟨fv g,by show((dD g).length:Int)=_;omega⟩
end TL
/-
  TlNil: a list that is none, compared.
  By an AI agent.
-/
set_option linter.all false
namespace TL
open Go
section
variable{P:Program}{w:World}{t t':TypeId}{f:Fr}{x y:Operand}{dst:Option Tmp}{ty:TypeId}{pos:String}{after:Array Edge}{g:Option (Nat×Bool)}
end
theorem eO{α:Type}[Rp α]{γ:aC}{J S:bX->Prop}{w:World}{v:Value}{xs:List α}{hi:Nat}(h:Ow γ J S w v xs)(h2:hi<=xs.length):Ow γ J S w (bU v (Rp.sz α) 0 hi) (xs.take hi):=by
  rcases h with⟨rfl,rfl⟩|⟨b,cap,c,e,rfl,hc,hm,hJ,hb,hcs,hx⟩
  · simp only[List.length_nil] at h2
    have:hi=0:=by omega
    subst this
    exact .inl ⟨rfl,rfl⟩
  · have hl:(xs.take hi).length=hi:=by simp;omega
    refine .inr ⟨b,cap,c,e,?_,⟨by omega,by omega⟩,hm,hJ,hb,hcs,λi x hi'=>hx i x ?_⟩
    · rw[mf]
      simp only[hl]
    · rw[List.getElem?_take] at hi'
      split at hi'
      · exact hi'
      · cases hi'
end TL
/-
  TlPerm: several new objects that are made in whatever order is drawn: all orders end alike.
  By an AI agent.
-/
set_option linter.all false
namespace TL
open Go
def iE(f:Fr)(val:Nat->Value)(S:List Nat):Fr:=λt=>bif S.contains t then val t else f t
theorem lV{f:Fr}{val:Nat->Value}{S S':List Nat}(h:∀t,t∈S↔t∈S'):iE f val S=iE f val S':=by
 funext t
 unfold iE
 have:S.contains t=S'.contains t:=by
   rw[Bool.eq_iff_iff]
   simp only[List.contains_iff_mem];exact h t
 rw[this]
theorem oI{f:Fr}{val:Nat->Value}{S:List Nat}{d:Nat}{v:Value}(hd:d∉S):ea (iE f val S) (some d) v=iE f (λt=>if t=d then v else val t) (d::S):=by
 funext t
 unfold ea iE
 simp only
 by_cases c:t=d
 · subst c
   have e1:(t::S).contains t=true:=by simp
   rw[e1,Nat.beq_refl];simp
 · have e1:Nat.beq t d=false:=by
     cases h:Nat.beq t d with
     |false=>rfl
     |true=>exact absurd (Nat.eq_of_beq_eq_true h) c
   have e2:(d::S).contains t=S.contains t:=by
     rw[Bool.eq_iff_iff]
     simp[c]
   rw[e1,e2,if_neg c];rfl
def jV{α:Type}:List α->List (List α)
 |[]=>[[]]
 |a::l=>jV l++(jV l).map (a:: ·)
theorem hE{α:Type}(p:α->Bool):∀l:List α,l.filter p∈jV l
 |[]=>List.mem_singleton.2 rfl
 |a::l=>by
   have ih:=hE p l
   unfold jV
   rw[List.filter_cons]
   split
   · exact List.mem_append_right _ (List.mem_map.2 ⟨_,ih,rfl⟩)
   · exact List.mem_append_left _ ih
theorem fU:∀(D A:List (Nat×Nat)),D.Nodup->(∀p∈D,p∈A)->D.length<=A.length
 |[],A,_,_=>Nat.zero_le _
 |a::D,A,hn,hs=>by
   have hn':=List.nodup_cons.1 hn
   have ha:=hs a (List.mem_cons_self ..)
   have h3:=fU D (A.erase a) hn'.2 (λx hx=>by
     have hne:x≠a:=λe=>hn'.1 (by rw[<-e];exact hx)
     exact(List.mem_erase_of_ne hne).2 (hs x (List.mem_cons_of_mem _ hx)))
   have h4:=List.length_erase_of_mem ha
   have h5:=List.length_pos_of_mem ha
   rw[List.length_cons];omega
theorem iv:∀{A:List (Nat×Nat)},(A.map Prod.fst).Nodup->A.Nodup
 |[],_=>List.nodup_nil
 |a::A,h=>by
   rw[List.map_cons,List.nodup_cons] at h
   exact List.nodup_cons.2 ⟨λk=>h.1 (List.mem_map.2 ⟨a,k,rfl⟩),iv h.2⟩
theorem iG{A:List (Nat×Nat)}(h:(A.map Prod.snd).Nodup){p q:Nat×Nat}(hp:p∈A)(hq:q∈A)(e:p.2=q.2):p=q:=by
 induction A with
 |nil=>exact absurd hp List.not_mem_nil
 |cons a A ih=>
   rw[List.map_cons,List.nodup_cons] at h
   rcases List.mem_cons.1 hp with e1|e1
   · rcases List.mem_cons.1 hq with e2|e2
     · rw[e1,e2]
     · exact absurd (List.mem_map.2 ⟨q,e2,by rw[<-e,e1]⟩) h.1
   · rcases List.mem_cons.1 hq with e2|e2
     · exact absurd (List.mem_map.2 ⟨p,e1,by rw[e,e2]⟩) h.1
     · exact ih h.2 e1 e2
section
variable{P:Program}{n:Nat}{l:List Oper}{qs:List Nat}{K:Fr->World->Prop}{f:Fr}{w:World}{done:List Nat}{fuel:Nat}
theorem im{n:Nat}{d d':List Nat}(h:∀t,t∈d↔t∈d'):bJ n d=bJ n d':=by
 unfold bJ
 congr 1
 apply List.map_congr_left
 intro t _
 rw[decide_eq_decide];exact h t
theorem mx{done':List Nat}(h:∀t,t∈done↔t∈done')(hw:fQ P n l qs K fuel done f w):fQ P n l qs K fuel done' f w:=by
 unfold fQ at*
 rw[<-im h];exact hw
def nf(dep:Nat->List Nat)(D:List (Nat×Nat)):Bool:=D.all λp=>(dep p.2).all λt=>(D.map Prod.snd).contains t
def jE(dep:Nat->List Nat)(A D:List (Nat×Nat)):List (Nat×Nat):=A.filter λp=> !(D.map Prod.fst).contains p.1&&(dep p.2).all λt=>(D.map Prod.snd).contains t
def ra(l:List Oper)(done:List Nat)(dep:Nat->List Nat)(A:List (Nat×Nat)):Bool:=(jV A).all λD=>decide (D.length=A.length)||(nf dep D).not||(decide (Region.ready .any l.toArray (bJ l.length (D.map Prod.fst++done))=(jE dep A D).map Prod.fst)&& !(jE dep A D).isEmpty)
theorem qf(A:List (Nat×Nat))(dep:Nat->List Nat)(Φ:Nat->List Value->aC->World->Value->Prop)(γ:aC)
    (hst:∀p∈A,∀vs γ w γ' w' v,aU no γ w γ' w'->Φ p.2 vs γ w v->Φ p.2 vs γ' w' v)
    (hnd:(A.map Prod.snd).Nodup)(hnf:(A.map Prod.fst).Nodup)
    (hrd:ra l done dep A=true)
    (hop:∀p∈A,qs.contains p.1=false/\∃o,l[p.1]? =some o/\o.dst=some p.2/\gW n o=true/\∀(f':Fr) (val:Nat->Value),(∀t,(A.map Prod.snd).contains t=false->f' t=f t)->(∀t∈dep p.2,f' t=val t)->c9 l o f'=true/\∀γ w,(∀t∈dep p.2,Φ t ((dep t).map val) γ w (val t))->e7 P o f' w λv w'=>∃γ',aU no γ w γ' w'/\Φ p.2 ((dep p.2).map val) γ' w' v)
    (hk:∀val γ' w',aU no γ w γ' w'->(∀p∈A,Φ p.2 ((dep p.2).map val) γ' w' (val p.2))->fQ P n l qs K fuel (A.map Prod.fst++done) (iE f val (A.map Prod.snd)) w'):fQ P n l qs K (fuel+A.length) done f w:=by
  have main:∀(m:Nat) (D:List (Nat×Nat)) (val:Nat->Value) (γ':aC) (w':World),D.Nodup->(∀p∈D,p∈A)->(∀p∈D,∀t∈dep p.2,t∈D.map Prod.snd)->D.length+m=A.length->aU no γ w γ' w'->(∀p∈D,Φ p.2 ((dep p.2).map val) γ' w' (val p.2))->fQ P n l qs K (fuel+m) (D.map Prod.fst++done) (iE f val (D.map Prod.snd)) w':=by
    have hAn:A.Nodup:=iv hnf
    intro m
    induction m with
    |zero=>
      intro D val γ' w' hD hsub hcl hl hc hF
      have hmem:∀p,p∈A↔p∈D:=by
        intro p
        refine⟨λhp=>?_,hsub p⟩
        by_cases c:p∈D
        · exact c
        · exfalso
          have:=fU (p::D) A (List.nodup_cons.2 ⟨c,hD⟩) (λq hq=>(List.mem_cons.1 hq).elim (λe=>by rw[e];exact hp) (hsub q))
          rw[List.length_cons] at this;omega
      have h1:=hk val γ' w' hc (λp hp=>hF p ((hmem p).1 hp))
      have e1:∀t,t∈A.map Prod.fst++done↔t∈D.map Prod.fst++done:=λt=>by
        simp only[List.mem_append,List.mem_map]
        constructor
        · rintro(⟨p,hp,rfl⟩|h)
          · exact .inl ⟨p,(hmem p).1 hp,rfl⟩
          · exact .inr h
        · rintro(⟨p,hp,rfl⟩|h)
          · exact .inl ⟨p,(hmem p).2 hp,rfl⟩
          · exact .inr h
      have e2:iE f val (A.map Prod.snd)=iE f val (D.map Prod.snd):=lV λt=>by
        simp only[List.mem_map]
        constructor
        · rintro⟨p,hp,rfl⟩;exact⟨p,(hmem p).1 hp,rfl⟩
        · rintro⟨p,hp,rfl⟩;exact⟨p,(hmem p).2 hp,rfl⟩
      rw[e2] at h1
      exact mx e1 h1
    |succ m ih=>
      intro D val γ' w' hD hsub hcl hl hc hF
      let D':=A.filter λp=>decide (p∈D)
      have hD':∀p,p∈D'↔p∈D:=λp=>by
        show p∈A.filter _↔_
        rw[List.mem_filter,decide_eq_true_iff]
        exact⟨λh=>h.2,λh=>⟨hsub p h,h⟩⟩
      have hD1:∀t,t∈D'.map Prod.fst↔t∈D.map Prod.fst:=λt=>by
        simp only[List.mem_map]
        exact⟨λ⟨p,hp,e⟩=>⟨p,(hD' p).1 hp,e⟩,λ⟨p,hp,e⟩=>⟨p,(hD' p).2 hp,e⟩⟩
      have hD2:∀t,t∈D'.map Prod.snd↔t∈D.map Prod.snd:=λt=>by
        simp only[List.mem_map]
        exact⟨λ⟨p,hp,e⟩=>⟨p,(hD' p).1 hp,e⟩,λ⟨p,hp,e⟩=>⟨p,(hD' p).2 hp,e⟩⟩
      have hlD:D'.length≠A.length:=by
        have h1:=fU D' D (hAn.filter _) (λp hp=>(hD' p).1 hp)
        omega
      have hcD:nf dep D'=true:=by
        unfold nf
        simp only[List.all_eq_true,List.contains_iff_mem]
        exact λp hp t ht=>(hD2 t).2 (hcl p ((hD' p).1 hp) t ht)
      have hr0:=List.all_eq_true.1 hrd D' (hE _ A)
      rw[decide_eq_false hlD,hcD] at hr0
      simp only[Bool.not_true,Bool.or_false,Bool.false_or,Bool.and_eq_true] at hr0
      obtain⟨hr1,hne⟩:=hr0
      have hr:=of_decide_eq_true hr1
      have em:bJ l.length (D'.map Prod.fst++done)=bJ l.length (D.map Prod.fst++done):=im λt=>by
        simp only[List.mem_append];rw[hD1 t]
      rw[em] at hr
      have hnx:∀p,p∈jE dep A D'->p∈A/\p∉D/\∀t∈dep p.2,t∈D.map Prod.snd:=λp hp=>by
        unfold jE at hp
        rw[List.mem_filter,Bool.and_eq_true,List.all_eq_true] at hp
        obtain⟨h1,h2,h3⟩:=hp
        refine⟨h1,λk=>?_,λt ht=>(hD2 t).1 (List.contains_iff_mem.1 (h3 t ht))⟩
        have:p.1∈D'.map Prod.fst:=List.mem_map.2 ⟨p,(hD' p).2 k,rfl⟩
        simp[this] at h2
      intro a ha
      refine⟨λh0=>?_,λk hk2=>?_⟩
      · rw[hr] at h0
        have h5:jE dep A D'=[]:=List.map_eq_nil_iff.1 h0
        rw[h5] at hne;cases hne
      · rw[hr] at hk2
        obtain⟨p,hp0,rfl⟩:=List.mem_map.1 hk2
        obtain⟨hp,hpD,hdp⟩:=hnx p hp0
        obtain⟨hq,o,hi,hdst,hdk,ho⟩:=hop p hp
        have hlt:p.1<l.length:=(List.getElem?_eq_some_iff.1 hi).1
        have hq':decide (p.1∈qs)=false:=by simpa using hq
        have hd2:p.2∉D.map Prod.snd:=by
          intro k
          obtain⟨q,hq2,e⟩:=List.mem_map.1 k
          have:q=p:=iG hnd (hsub q hq2) hp e
          rw[this] at hq2;exact hpD hq2
        obtain⟨hw1,hw2⟩:=ho (iE f val (D.map Prod.snd)) val (λt ht=>by
          unfold iE
          have:(D.map Prod.snd).contains t=false:=by
            cases hc2:(D.map Prod.snd).contains t with
            |false=>rfl
            |true=>
              obtain⟨q,hq2,e⟩:=List.mem_map.1 (List.contains_iff_mem.1 hc2)
              have:(A.map Prod.snd).contains t=true:=List.contains_iff_mem.2 (List.mem_map.2 ⟨q,hsub q hq2,e⟩)
              rw[this] at ht;cases ht
          rw[this];rfl) (λt ht=>by
          unfold iE
          rw[List.contains_iff_mem.2 (hdp t ht)];rfl)
        simp only[hq',Bool.false_eq_true,if_false]
        refine dN ha hi hw1 (hw2 γ' w' (λt ht=>?_)) λv w2 ⟨γ2,c2,h2⟩=>?_
        · obtain⟨q,hq2,e⟩:=List.mem_map.1 (hdp t ht)
          rw[<-e];exact hF q hq2
        rw[ck _ hlt]
        have hc2:aU no γ w γ2 w2:=hc.trans c2 (λ_ _ h=>h.elim id id)
        have hval:∀q:Nat×Nat,(∀t∈dep q.2,t∈D.map Prod.snd)->(dep q.2).map (λt=>if t=p.2 then v else val t)=(dep q.2).map val:=λq hq2=>List.map_congr_left λt ht=>by
          rw[if_neg]
          intro e
          exact hd2 (by rw[<-e];exact hq2 t ht)
        have hnext:=ih (p::D) (λt=>if t=p.2 then v else val t) γ2 w2 (List.nodup_cons.2 ⟨hpD,hD⟩) (λq hq2=>(List.mem_cons.1 hq2).elim (λe=>by rw[e];exact hp) (hsub q)) (λq hq2 t ht=>by
          rw[List.map_cons]
          rcases List.mem_cons.1 hq2 with e|e
          · rw[e] at ht;exact List.mem_cons_of_mem _ (hdp t ht)
          · exact List.mem_cons_of_mem _ (hcl q e t ht)) (by rw[List.length_cons];omega) hc2 (λq hq2=>by
          rcases List.mem_cons.1 hq2 with e|e
          · rw[e,if_pos rfl,hval p hdp];exact h2
          · have hne:q.2≠p.2:=λk=>hd2 (by rw[<-k];exact List.mem_map.2 ⟨q,e,rfl⟩)
            rw[if_neg hne,hval q (hcl q e)]
            exact hst q (hsub q e) _ _ _ _ _ _ c2 (hF q e))
        have ef:ea (iE f val (D.map Prod.snd)) o.dst v=iE f (λt=>if t=p.2 then v else val t) ((p::D).map Prod.snd):=by
          rw[hdst,oI hd2];rfl
        have:=hnext (a.put o.dst v) (by rw[<-ef];exact ha.put hdk v)
        exact this
  have h0:=main A.length [] (λ_=>undef) γ w List.nodup_nil (λp hp=>absurd hp List.not_mem_nil) (λp hp=>absurd hp List.not_mem_nil) (by simp) (aU.refl _ _ _) (λp hp=>absurd hp List.not_mem_nil)
  have e0:iE f (λ_=>undef) (([]:List (Nat×Nat)).map Prod.snd)=f:=by
    funext t;rfl
  rw[e0] at h0
  exact h0
end
end TL
namespace TL
open Go
structure Mk where
  op:Nat
  slot:Nat
  dep:List Nat
  ok:List Value->aC->World->Value->Prop
def oc:List Mk->Prop
 |[]=>True
 |p::r=>(∀vs γ w γ' w' v,aU no γ w γ' w'->p.ok vs γ w v->p.ok vs γ' w' v)/\oc r
def eS:List Mk->Nat->List Nat
 |[],_=>[]
 |p::r,t=>bif Nat.beq t p.slot then p.dep else eS r t
def hZ:List Mk->Nat->List Value->aC->World->Value->Prop
 |[],_=>λ_ _ _ _=>False
 |p::r,t=>bif Nat.beq t p.slot then p.ok else hZ r t
def o6(P:Program)(n:Nat)(l:List Oper)(qs:List Nat)(f:Fr)(L:List Mk)(S:List Nat):List Mk->Prop
  |[]=>True
  |p::r=>(qs.contains p.op=false/\∃o,l[p.op]? =some o/\o.dst=some p.slot/\gW n o=true/\∀(f':Fr) (val:Nat->Value),(∀t,S.contains t=false->f' t=f t)->(∀t∈p.dep,f' t=val t)->c9 l o f'=true/\∀γ w,(∀t∈p.dep,hZ L t ((eS L t).map val) γ w (val t))->e7 P o f' w λv w'=>∃γ',aU no γ w γ' w'/\p.ok (p.dep.map val) γ' w' v)/\o6 P n l qs f L S r
theorem oc.mem{L:List Mk}(h:oc L):∀p∈L,∀vs γ w γ' w' v,aU no γ w γ' w'->p.ok vs γ w v->p.ok vs γ' w' v:=by
 induction L with
 |nil=>intro p hp;exact absurd hp List.not_mem_nil
 |cons a L ih=>
   intro p hp
   rcases List.mem_cons.1 hp with e|e
   · rw[e];exact h.1
   · exact ih h.2 p e
theorem iT{a b:Nat}(h:a≠b):Nat.beq a b=false:=by
 cases k:Nat.beq a b with
 |false=>rfl
 |true=>exact absurd (Nat.eq_of_beq_eq_true k) h
theorem gS:∀{L:List Mk},(L.map Mk.slot).Nodup->∀p∈L,eS L p.slot=p.dep/\hZ L p.slot=p.ok
 |[],_,p,hp=>absurd hp List.not_mem_nil
 |a::L,h,p,hp=>by
   rw[List.map_cons,List.nodup_cons] at h
   rcases List.mem_cons.1 hp with e|e
   · rw[e];unfold eS hZ;rw[Nat.beq_refl];exact⟨rfl,rfl⟩
   · have hne:p.slot≠a.slot:=λk=>h.1 (by rw[<-k];exact List.mem_map.2 ⟨p,e,rfl⟩)
     unfold eS hZ
     rw[iT hne];exact gS h.2 p e
def kD(K:Fr->Prop)(γ:aC)(w:World):List Mk->List (Nat×Value)->Fr->Prop
  |[],_,f=>K f
  |p::r,env,f=>∀v,p.ok (p.dep.map λt=>(env.lookup t).getD undef) γ w v->kD K γ w r ((p.slot,v)::env) (ea f (some p.slot) v)
def kZ:List Mk->List Nat->Bool
 |[],_=>true
 |p::r,S=>(p.dep.all λt=>S.contains t)&&kZ r (p.slot::S)
theorem nl{f:Fr}{val:Nat->Value}{d:Nat}{S:List Nat}:iE (ea f (some d) (val d)) val S=iE f val (d::S):=by
 funext t
 unfold iE ea
 simp only
 by_cases c:t=d
 · subst c
   have e1:(t::S).contains t=true:=by simp
   rw[e1,Nat.beq_refl];cases S.contains t<;>rfl
 · have e1:Nat.beq t d=false:=iT c
   have e2:(d::S).contains t=S.contains t:=by
     rw[Bool.eq_iff_iff]
     simp[c]
   rw[e1,e2];rfl
theorem kD.use{K:Fr->Prop}{γ:aC}{w:World}{val:Nat->Value}:∀{L:List Mk} {env:List (Nat×Value)} {f:Fr},kD K γ w L env f->(∀t∈env.map Prod.fst,(env.lookup t).getD undef=val t)->kZ L (env.map Prod.fst)=true->(∀p∈L,p.ok (p.dep.map val) γ w (val p.slot))->K (iE f val (L.map Mk.slot))
 |[],_,f,h,_,_,_=>by
   have:iE f val (([]:List Mk).map Mk.slot)=f:=by funext t;rfl
   rw[this];exact h
 |p::L,env,f,h,he,ht,hF=>by
   unfold kZ at ht
   rw[Bool.and_eq_true,List.all_eq_true] at ht
   have e1:p.dep.map (λt=>(env.lookup t).getD undef)=p.dep.map val:=List.map_congr_left λt h1=>he t (List.contains_iff_mem.1 (ht.1 t h1))
   have h2:=h (val p.slot) (by rw[e1];exact hF p (List.mem_cons_self ..))
   have:=kD.use h2 (λt h3=>by
     rw[List.lookup_cons]
     by_cases c:t=p.slot
     · rw[c];simp
     · have:(t==p.slot)=false:=by simpa using c
       rw[this]
       exact he t ((List.mem_cons.1 h3).resolve_left c)) ht.2 (λq hq=>hF q (List.mem_cons_of_mem _ hq))
   rw[nl] at this;exact this
section
variable{P:Program}{n:Nat}{l:List Oper}{qs:List Nat}{K:Fr->World->Prop}{f:Fr}{w:World}{done:List Nat}{fuel:Nat}{S:List Nat}
theorem o6.mem{L M:List Mk}(h:o6 P n l qs f M S L):∀p∈L,qs.contains p.op=false/\∃o,l[p.op]? =some o/\o.dst=some p.slot/\gW n o=true/\∀(f':Fr) (val:Nat->Value),(∀t,S.contains t=false->f' t=f t)->(∀t∈p.dep,f' t=val t)->c9 l o f'=true/\∀γ w,(∀t∈p.dep,hZ M t ((eS M t).map val) γ w (val t))->e7 P o f' w λv w'=>∃γ',aU no γ w γ' w'/\p.ok (p.dep.map val) γ' w' v:=by
 induction L with
 |nil=>intro p hp;exact absurd hp List.not_mem_nil
 |cons a L ih=>
   intro p hp
   rcases List.mem_cons.1 hp with e|e
   · rw[e];exact h.1
   · exact ih h.2 p e
theorem e7.mono{o:Oper}{N N':Value->World->Prop}(h:e7 P o f w N)(hN:∀v w,N v w->N' v w):e7 P o f w N':=by
 unfold e7 at*
 generalize(execOp (ev f) o).run P w=r at*
 cases r with
 |halt x w'=>exact h.elim
 |ok nx w'=>
   cases nx<;>simp only[lA] at h ⊢
   case value v=>exact hN _ _ h
   case skip=>exact hN _ _ h
   case enter g args=>
     refine h.mono λe w'' he=>?_
     cases e with
     |returned v=>exact hN _ _ he
     |panicked c=>exact he.elim
     |outgrown=>exact he.elim
theorem ly(γ:aC)(L:List Mk)(A:List (Nat×Nat))(fu:Nat)(hA:L.map (λp=>(p.op,p.slot))=A)(hst:oc L)(hnd0:(A.map Prod.snd).Nodup)(hnf:(A.map Prod.fst).Nodup)
    (hrd:ra l done (eS L) A=true)(htp:kZ L []=true)
    (hfu:fu=fuel+A.length)(hop:o6 P n l qs f L (A.map Prod.snd) L)
    (hk:∀γ' w',aU no γ w γ' w'->kD (λf'=>fQ P n l qs K fuel (A.map Prod.fst++done) f' w') γ' w' L [] f):fQ P n l qs K fu done f w:=by
  subst hfu
  have e1:A.map Prod.snd=L.map Mk.slot:=by rw[<-hA,List.map_map];rfl
  have hnd:(L.map Mk.slot).Nodup:=by rw[<-e1];exact hnd0
  refine qf A (eS L) (hZ L) γ (λq hq=>?_) hnd0 hnf hrd (λq hq=>?_) (λval γ' w' hc hF=>?_)
  · rw[<-hA] at hq
    obtain⟨p,hp,rfl⟩:=List.mem_map.1 hq
    intro vs γ w γ' w' v hc
    show hZ L p.slot vs γ w v->hZ L p.slot vs γ' w' v
    rw[(gS hnd p hp).2];exact hst.mem p hp vs γ w γ' w' v hc
  · rw[<-hA] at hq
    obtain⟨p,hp,rfl⟩:=List.mem_map.1 hq
    obtain⟨a,o,b,c,d,e⟩:=hop.mem p hp
    show qs.contains p.op=false/\∃o,l[p.op]? =some o/\o.dst=some p.slot/\gW n o=true/\∀(f':Fr) (val:Nat->Value),(∀t,(A.map Prod.snd).contains t=false->f' t=f t)->(∀t∈eS L p.slot,f' t=val t)->c9 l o f'=true/\∀γ w,(∀t∈eS L p.slot,hZ L t ((eS L t).map val) γ w (val t))->e7 P o f' w λv w'=>∃γ',aU no γ w γ' w'/\hZ L p.slot ((eS L p.slot).map val) γ' w' v
    rw[(gS hnd p hp).1,(gS hnd p hp).2]
    exact⟨a,o,b,c,d,e⟩
  · have h1:=(hk γ' w' hc).use (val:=val) (λt ht=>absurd ht List.not_mem_nil) htp (λp hp=>by
      have:=hF (p.op,p.slot) (by rw[<-hA];exact List.mem_map.2 ⟨p,hp,rfl⟩)
      have h2:hZ L p.slot ((eS L p.slot).map val) γ' w' (val p.slot):=this
      rw[(gS hnd p hp).1,(gS hnd p hp).2] at h2;exact h2)
    rw[e1];exact h1
theorem jS{o:Oper}{v:Value}{N:Value->World->Prop}(h:(execOp (ev f) o).run P w= .ok (.value v) w)(hk:N v w):e7 P o f w N:=by unfold e7;rw[h];exact hk
end
theorem dv{t:Nat}{l:List Nat}(h:l.contains t=true):t∈l:=List.contains_iff_mem.1 h
theorem fM{f:Fr}{i:Nat}{x:Operand}{xs:List (Nat×Operand)}{v:Value}{vs:List (Nat×Value)}(h:ev f x=v)(h2:xs.map (λx=>(x.1,ev f x.2))=vs):((i,x)::xs).map (λx=>(x.1,ev f x.2))=(i,v)::vs:=by subst h h2;rfl
end TL
/-
  TlPost: what is owed behind a law that returns true and writes nothing of the caller's.
  By an AI agent.
-/
namespace TL
open Go Go.Proofs Go.ChangeShapes Go.WideShapes Go.RowKit
def lb(P:Program)(ts:List TypeId):Bool:=ts.all λt=>P.readableRec t&&decide (t<P.types.size)
theorem iN{H:Type}{enc:TypeId×Value->H}{P:Program}(hl:laidOutB P=true){W W':World}(hb:Below W.heap.size W W')(sp:Nat->Bool):
   ∀{ts:List TypeId} {vs:List Value} {ds:List (DataW H)} {ps:List MemPlace},lb P ts=true->DataW.TrodAll enc P W 0 (λ_=>true) true ts vs ds ps->(∀p∈ps,p.block<W.heap.size)->(∀p∈ps,sp p.block=true)->DataW.TrodAll enc P W' 0 sp true ts vs ds ps
 |[],[],[],_,_,h,_,_=>h
 |[],[],_::_,_,_,h,_,_=>h.elim
 |[],_::_,_,_,_,h,_,_=>by cases‹List (DataW H)›<;>exact h.elim
 |_::_,[],_,_,_,h,_,_=>by cases‹List (DataW H)›<;>exact h.elim
 |_::_,_::_,[],_,_,h,_,_=>h.elim
 |t::ts,v::vs,d::ds,ps,hr,h,hlt,hsp=>by
   obtain⟨p,q,h1,h2,rfl⟩:=h
   simp only[lb,List.all_cons,Bool.and_eq_true,decide_eq_true_eq] at hr
   exact⟨p,q,WideElems.Trod_stays hl hr.1.1 hr.1.2 h1 (λx hx=>hb.same (hlt x (by simp[hx]))) (λx hx=>hsp x (by simp[hx])),
     iN hl hb sp hr.2 h2 (λx hx=>hlt x (by simp[hx])) (λx hx=>hsp x (by simp[hx])),rfl⟩
theorem ng{H:Type}{enc:TypeId×Value->H}{P:Program}{f:Func}{s:ChangeSpec}{W W':World}{args:Array Value}{ds gs:List (DataW H)}{before:List MemPlace}{tb:TypeId}
   (hl:laidOutB P=true)(hr:lb P f.params.toList=true)(hv:s.vars=[])(hrt:f.resultTypes= #[tb])(htb:P.underlying tb=some .bool)
   (hW:DataW.Whole enc P f.params.toList s.vars false W args.toList ds gs before)(hfn:s.fn H (ds++gs)={results:=[.lit (.bool true)],args:=ds})(hB:Below W.heap.size W W'):
   s.post enc P f false true false false W args (.bool true) W':=by
 have hlt:=hW.lt
 have hW0:=hW
 obtain⟨p,q,hA,hV,rfl,hfz,_⟩:=hW
 rw[hv] at hV
 obtain⟨rfl,rfl⟩:=trodVars_none hV
 simp only[List.append_nil] at hlt hfz hW0 hfn
 have hres:∀(b:Nat) (sp:Nat->Bool) (hd:Bool),DataW.TrodAll enc P W' b sp hd f.resultTypes.toList ((Value.bool true).resultList f.resultTypes.size) (s.fn H (ds++[])).results []:=λb sp hd=>by
   rw[hrt,List.append_nil,hfn]
   exact trodAll_cons_mk (shut_bool htb true) trodAll_mk0
 have hargs:∀sp:Nat->Bool,(∀x∈p,sp x.block=true)->DataW.TrodAll enc P W' 0 sp true f.params.toList args.toList (s.fn H (ds++[])).args p:=λsp hsp=>by
   rw[List.append_nil,hfn]
   exact iN hl hB sp hr hA hlt hsp
 have hvars:∀sp:Nat->Bool,DataW.TrodVars enc P W' sp s.vars (s.fn H (ds++[])).vars []:=λsp=>by
   rw[List.append_nil,hfn,hv]
   rfl
 refine⟨ds,[],p,[],p,[],hW0,hres _ _ _,hargs _ (λx hx=>by simpa using hlt x hx),hvars _,World.keptBut_mono (λx hx=>⟨hx,Or.inr (by simpa using hx)⟩) (hB.frame _),λ_=>?_⟩
 refine⟨?_,_,_,([]++p)++[],⟨[]++p,[],trodAll_append (hargs _ (λ_ _=>rfl)) (hres _ _ _),hvars _,rfl,?_,?_⟩,?_⟩
 · exact ok_one hrt rfl (okWide_bool_mk htb true)
 · intro b off hp
   have hp':MemPlace.cell b off∈p:=by simpa using hp
   rw[hB.frozen (p:=⟨b,off,none⟩) (hlt _ hp')]
   exact hfz b off hp'
 · intro ha;cases ha
 · intro x hx _
   simpa using hx
end TL
