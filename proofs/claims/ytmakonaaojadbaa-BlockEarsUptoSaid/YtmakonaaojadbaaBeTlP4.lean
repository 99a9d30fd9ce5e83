/- Plain texts of this claim, part 4. By an AI agent. -/
import Derived.Test.YtmakonaaojadbaaBeTlP3
import Derived.RowKit
/-
  TlEar4: the ears that the program makes are ears of the net.
  By an AI agent.
-/
set_option linter.all false
namespace TL
variable{g:bB}{pl by_:List Int}{a b c x y z w v h k e f r:Int}{u u0 u2:List Bool}{ws l:List Int}{E A:List (List Int)}{dn rest:List (Int×Int)}
theorem kq.fst_(ht:fv g pl by_ r)(hi:kq g pl by_ r dn u E)(hn:nH g pl by_ h)(hd:∀h',hf g h'->gI pl (ak g h')<gI pl (ak g h)->(ak g h',h')∈dn):gI (u.set (ak g h).toNat true) r=true:=by
 obtain⟨v0,v1⟩:=bz ht.hm hn.1
 have hlen:=hi.len
 rw[cr v0 (by omega) ht.r0]
 by_cases c:r=ak g h
 · rw[if_pos c]
 · rw[if_neg c]
   obtain⟨k,k1,k2⟩:=ht.rootP
   have hlt:gI pl (ak g k)<gI pl (ak g h):=by
     rw[k2]
     exact ht.lt (ht.one _ v0 v1) v0 v1 c
   have hu:=hi.mem _ (hd k k1.1 hlt) k1
   obtain⟨w0,w1⟩:=cm ht.hm k1.1
   exact hi.anc ht (ht.one _ w0 w1) w0 w1 hu
theorem lH(ht:fv g pl by_ r):∀(rest dn:List (Int×Int)) (u:List Bool) (E:List (List Int)),k5 g pl=dn++rest->kq g pl by_ r dn u E->∃R u',eT g pl by_ rest u E=some R/\kq g pl by_ r (k5 g pl) u' R
 |[],dn,u,E,he,hi=>⟨E,u,rfl,by rw[he,List.append_nil];exact hi⟩
 |(v,h)::rest,dn,u,E,he,hi=>by
   have hin:=ht.prs_in (p:=(v,h)) (by rw[he];simp)
   obtain⟨hh,hv⟩:hf g h/\ak g h=v:=hin
   have he':k5 g pl=(dn++[(v,h)])++rest:=by rw[he];simp
   unfold eT
   by_cases c:gI by_ (aL g h)=h\/gI pl (aL g h)<gI pl v
   · rw[if_pos c]
     refine lH ht rest (dn++[(v,h)]) u E he' (hi.skip ht λq=>?_)
     rcases c with c|c
     · exact q.2.1 c
     · rw[<-hv] at c;exact q.2.2 c
   · rw[if_neg c]
     subst hv
     have hn:nH g pl by_ h:=⟨hh,λq=>c (.inl q),λq=>c (.inr q)⟩
     have hasc:=ht.prs_asc
     rw[he,List.pairwise_append] at hasc
     have hd:∀h',hf g h'->gI pl (ak g h')<gI pl (ak g h)->(ak g h',h')∈dn:=λh' hh' hlt=>by
       have:=ht.prs_all hh'
       rw[he] at this
       rcases List.mem_append.1 this with q|q
       · exact q
       · rcases List.mem_cons.1 q with q|q
         · have:ak g h'=ak g h:=by rw[show h'=h from congrArg Prod.snd q]
           rw[this] at hlt;omega
         · have:gI pl (ak g h)<=gI pl (ak g h'):=((List.pairwise_cons.1 hasc.2.1).1 _ q).1
           omega
     have hw:∀p∈dn,p.2≠h:=λp hp=>(hasc.2.2 p hp _ (List.mem_cons_self ..)).2
     obtain⟨w0,w1⟩:=cm ht.hm hh
     have hpos:=ht.pos _ w0 w1
     have hlen:=hi.len
     obtain⟨ws,b,u2,q1,q2,q3,q4⟩:=ht.up_run (u0:=u.set (ak g h).toNat true) (hi.fst_ ht hn hd) g.1.toNat (aL g h) (u.set (ak g h).toNat true) [h] w0 w1 (by omega) (by rw[List.length_set];exact hlen) (λx _ _ _=>rfl)
     rw[q1]
     exact lH ht rest _ u2 _ he' (hi.ear ht hn hd hw q2 q3 q4)
structure eW(g:bB)(R:List (List Int)):Prop where
 goo:∀A l B,R=A++l::B->vI g A l
 all:∀e,0<=e->e<(g.2.length:Int)->pV R e
theorem kq.fin(ht:fv g pl by_ r)(hi:kq g pl by_ r (k5 g pl) u E):eW g E:=by
 refine⟨hi.goo,λe e0 e1=>?_⟩
 obtain⟨k,k1,k2⟩:=ht.rootP
 have hE:E≠[]:=hi.beg.2 ⟨_,ht.prs_all k1.1,k1⟩
 have hu:∀x,0<=x->x<g.1->0<=gI by_ x->gI u x=true:=λx x0 x1 hx=>hi.used ht hE (v:=ak g (gI by_ x)) (λh hh _=>ht.prs_all hh) x0 x1 hx rfl
 -- of an edge's two half-edges the one that leads down
 have main:∀h,hf g h->h/2=e->¬gI pl (aL g h)<gI pl (ak g h)->pV E e:=λh hh he hlt=>by
   obtain⟨w0,w1⟩:=cm ht.hm hh
   rw[hi.eds e]
   by_cases c:gI by_ (aL g h)=h
   · have hb:0<=gI by_ (aL g h):=by rw[c];exact hh.1
     exact .inr ⟨aL g h,⟨w0,w1⟩,hu _ w0 w1 hb,hb,by rw[c,he]⟩
   · exact .inl ⟨(ak g h,h),ht.prs_all hh,⟨hh,c,hlt⟩,he⟩
 have hh:hf g (2*e):=⟨by omega,by omega⟩
 by_cases c:gI pl (aL g (2*e))<gI pl (ak g (2*e))
 · obtain⟨t1,t2,t3,t4⟩:=cz (g:=g) hh
   exact main _ t1 (by rw[t2];omega) (by rw[t3,t4];omega)
 · exact main _ hh (by omega) c
theorem lC(hm:bf g)(hb:bL g=true)(h2:2<=g.2.length):∃R,fV g=some R/\eW g R:=by
 obtain⟨r,ht⟩:=rz hm hb h2
 obtain⟨R,u',q1,q2⟩:=lH ht (k5 g (bW g g.1.toNat).place) [] (List.replicate g.1.toNat false) [] rfl (kq.start ht)
 exact⟨R,q1,q2.fin ht⟩
theorem qj(g:bB):nW g:=λhm hb h2=>by
 obtain⟨r,ht⟩:=rz hm hb h2
 obtain⟨R,q1,_⟩:=lC hm hb h2
 refine⟨λv hv=>?_,ht.prs_len,by rw[q1];rfl⟩
 obtain⟨a,b⟩:=dK.1 hv
 exact ht.pos v a (by have:=hm.1;omega)
theorem sS(hm:bf g)(hb:bL g=true)(h2:2<=g.2.length):eW g (bI g).1/\(bI g).2=0:=by
 obtain⟨R,q1,q2⟩:=lC hm hb h2
 unfold bI
 rw[if_pos hm,if_pos hb,if_pos h2,q1]
 exact⟨q2,rfl⟩
end TL
/-
  TlDocD: biconnected, as the document has it; ears, as its check goes over them.
  By an AI agent.
-/
set_option linter.all false
namespace TL
variable{g:bB}{of cu l:List Int}{E:List (List Int)}{eb nb eb1 nb1:List Bool}{a b v w h i j x y e:Int}{k m q:Nat}{round_:Bool}
theorem u5(hm:bf g){pl by_:List Int}{r:Int}(ht:uQ g pl by_)(hp:∀x,0<=x->x<g.1->gI pl x≠0)(h:AncB g by_ a x)(x0:0<=x)(x1:x<g.1):Cn (dC g [] []) a x:=by
 have hP:=iV (gone:=[]) (cut:=[]) hm
 induction h with
 |refl=>exact(Cn.eqv _).rfl _ ⟨x0,x1⟩
 |step p q ih=>
   obtain⟨t1,t2,t3,t4⟩:=ht.up _ x0 x1 (hp _ x0 x1) q
   obtain⟨f0,f1⟩:=bz hm t1
   obtain⟨⟨a0,a1⟩,_⟩:=p.le hm ht ⟨f0,f1⟩ (hp _ f0 f1)
   have:=hP.one _ t1 ⟨by simp[gI],by simp[gI],by simp[gI]⟩
   rw[t2] at this
   exact(Cn.eqv (dC g [] [])).trans _ _ _ ⟨a0,a1⟩ ⟨f0,f1⟩ ⟨x0,x1⟩ (ih f0 f1) this
theorem rE(hm:bf g)(hn:1<=g.1):(bq g [] []).2=1↔∀x y,gD g x->gD g y->Cn (dC g [] []) x y:=by
 obtain⟨l,hi⟩:=jb (gone:=[]) (cut:=[]) hm
 have hq:=Cn.eqv (dC g [] [])
 have hall:∀x,gD g x->∃y∈l,Cn (dC g [] []) x y:=λx hx=>by
   have h0:=hx.1
   have h1:=hx.2
   have:=hi.all x.toNat (by omega) (by omega) (by simp[gI])
   rwa[show((x.toNat:Nat):Int)=x by omega] at this
 rw[hi.num]
 constructor
 · intro h x y hx hy
   match l,h,hall,hi with
   |[z],_,hall,hi=>
     obtain⟨u,u1,u2⟩:=hall x hx
     obtain⟨w,w1,w2⟩:=hall y hy
     rw[List.mem_singleton.1 u1] at u2
     rw[List.mem_singleton.1 w1] at w2
     have hz:=(hi.dom z (by simp)).1
     exact hq.trans _ _ _ hx hz hy u2 (hq.symm _ _ hy hz w2)
   |[],h,_,_=>simp at h
   |_::_::_,h,_,_=>simp at h;omega
 · intro h
   have h1:l≠[]:=λe=>by
     obtain⟨y,y1,_⟩:=hall 0 ⟨Int.le_refl _,by omega⟩
     rw[e] at y1;cases y1
   match l,h1,hi with
   |[z],_,_=>rfl
   |a::b::t,_,hi=>
     have:=hi.one a (by simp) b (by simp) (h a b (hi.dom a (by simp)).1 (hi.dom b (by simp)).1)
     have hn:=hi.nd
     rw[this] at hn
     simp at hn
theorem mn(hm:bf g)(hh:hf g h):∀k:Nat,k<=g.2.length->h/2<(k:Int)->gI (dP g k) (ak g h)=true
 |0,_,hk=>by have:=hh.1;omega
 |k+1,hk,hlt=>by
   have hl:=(iK hm (bz hm hh).1 (bz hm hh).2 k (by omega)).1
   have hkl:k<g.2.length:=by omega
   have e:dP g (k+1)=((dP g k).set (g.2[k]).1.toNat true).set (g.2[k]).2.toNat true:=by
     unfold dP
     rw[List.take_succ_eq_append_getElem hkl,List.foldl_append];rfl
   have eg:gI g.2 (k:Int)=g.2[k]:=by simp[gI,hkl]
   obtain⟨⟨a0,a1⟩,b0,b1⟩:=hm.2.2.2 _ (List.getElem_mem hkl)
   obtain⟨f0,f1⟩:=bz hm hh
   rw[e,cr b0 (by rw[List.length_set,hl];omega) f0,cr a0 (by rw[hl];omega) f0]
   by_cases c:h/2=(k:Int)
   · rcases jY (g:=g) hh.1 with⟨p,_⟩|⟨p,_⟩
     · rw[c,eg] at p
       rw[if_pos p];split<;>rfl
     · rw[c,eg] at p
       rw[if_pos p]
   · have:=mn hm hh k (by omega) (by omega)
     split
     · rfl
     · split
       · rfl
       · exact this
theorem jQ(hm:bf g):bL g=true↔2<=g.1/\(bq g [] []).2=1/\(∀e∈g.2,¬e.1=e.2)/\gV g=[]:=by
 have hq:=Cn.eqv (dC g [] [])
 have hP:=iV (gone:=[]) (cut:=[]) hm
 constructor
 · intro hb
   obtain⟨h1,h2,h3,h4⟩:=of_decide_eq_true hb
   have h0:=hm.1
   have ht:=kQ hm g.1.toNat (by omega)
   obtain⟨hd,hu,hp⟩:=ik hm g.1.toNat (by omega)
   have hpp:∀x,0<=x->x<g.1->gI (bW g g.1.toNat).place x≠0:=λx a b=>hp x a (by omega)
   obtain⟨r,r1,r3⟩:=ky hm ht.tb (λx a b=>⟨(hd.se.pl x a b).1,hpp x a b⟩) _ 0 (Int.le_refl _) (by omega) (Nat.le_refl _)
   obtain⟨⟨r4,r5⟩,_⟩:=r1.le hm ht.tb ⟨Int.le_refl _,by omega⟩ (hpp 0 (by omega) (by omega))
   have hrx:∀x,gD g x->Cn (dC g [] []) r x:=λx hx=>u5 (r:=r) hm ht.tb hpp (kZ hm hb r4 r5 hx.1 hx.2 r3) hx.1 hx.2
   refine⟨h1,(rE hm (by omega)).2 λx y hx hy=>hq.trans _ _ _ hx ⟨r4,r5⟩ hy (hq.symm _ _ ⟨r4,r5⟩ hx (hrx x hx)) (hrx y hy),h2,?_⟩
   unfold gV
   rw[List.filter_eq_nil_iff]
   intro v hv
   obtain⟨v0,v1⟩:=dK.1 hv
   refine qL hm v0 (by omega) λj j1 j2=>?_
   have a1:=(ck (bD (xs:=bA g v) (i:=j) (by omega) j2)).1
   have a2:=(ck (bD (xs:=bA g v) (i:=0) (by omega) (by omega))).1
   have b1:=fa g (i:=gI (bA g v) j/2) (by have:=a1.1;omega) (by have:=a1.2;omega)
   have b2:=fa g (i:=gI (bA g v) 0/2) (by have:=a2.1;omega) (by have:=a2.2;omega)
   omega
 · rintro⟨h1,h2,h3,h4⟩
   have hc:=(rE hm (by omega)).1 h2
   have htch:∀v,gD g v->∃h,hf g h/\ak g h=v:=λv hv=>Classical.byContradiction λhn=>by
     obtain⟨w,hw,hne⟩:∃w,gD g w/\w≠v:=by
       by_cases c:v=0
       · exact⟨1,⟨by omega,by omega⟩,by omega⟩
       · exact⟨0,⟨by omega,by omega⟩,λj=>c j.symm⟩
     exact hne (hP.cl (λz=>z=v) (λh hh _ e=>absurd ⟨h,hh,e⟩ hn) v w (hc v w hv hw) rfl)
   have hrow:∀x y,hf g x->hf g y->ak g x=ak g y->gI (eF g) (x/2)=gI (eF g) (y/2):=λx y hx hy e=>Classical.byContradiction λhn=>by
     obtain⟨f0,f1⟩:=bz hm hx
     have:ak g x∈gV g:=by
       unfold gV
       rw[List.mem_filter]
       exact⟨dK.2 ⟨f0,by omega⟩,(jm hm f0 f1).2 ⟨x,eP hx,y,by rw[e];exact eP hy,hn⟩⟩
     rw[h4] at this;cases this
   obtain⟨x0,hx0,_⟩:=htch 0 ⟨Int.le_refl _,by omega⟩
   have hsame:∀y,hf g y->gI (eF g) (y/2)=gI (eF g) (x0/2):=λy hy=>by
     have hS:=hP.cl (λz=>∀k,hf g k->ak g k=z->gI (eF g) (k/2)=gI (eF g) (x0/2)) (λh hh _ hs k hk e=>by
       obtain⟨t1,t2,t3,t4⟩:=cz (g:=g) hh
       rw[hrow k (dB h) hk t1 (by rw[e,t3]),t2]
       exact hs h hh rfl) _ _ (hc (ak g x0) (ak g y) (bz hm hx0) (bz hm hy)) (λk hk e=>hrow k x0 hk hx0 e)
     exact hS y hy rfl
   have hcnt:dS g=1:=by
     obtain⟨a,b⟩:=(nF g).top
     have r0:=fa g (i:=x0/2) (fE hx0) (ea hx0)
     obtain⟨i,i1,i2⟩:=b (by omega)
     have e1:=hsame (2*(i:Int)) ⟨by omega,by omega⟩
     rw[show 2*(i:Int)/2=(i:Int) by omega] at e1
     have h6:=(i8 (bW g g.1.toNat).block g.2.length 0 (by omega)).1
     have e2:=hsame 0 ⟨Int.le_refl _,by omega⟩
     -- the first edge's number is 0
     have hfirst:gI (eF g) 0=0:=by
       have hfn:=nF g
       have key:∀(L:List Int) (k:Nat) (n:Int),Fn L k n->0<k->gI L 0=0:=by
         intro L k n h
         induction h with
         |zero=>intro q;omega
         | @old k n j p1 p2 p3 ih=>
           intro _
           exact ih (by omega)
         | @new k n p1 p2 p3 ih=>
           intro _
           by_cases c:k=0
           · subst c
             cases p1
             exact p3
           · exact ih (by omega)
       exact key _ _ _ hfn (by omega)
     rw[show(0:Int)/2=0 by omega] at e2
     omega
   refine decide_eq_true ⟨h1,h3,λhf=>?_,hcnt⟩
   obtain⟨i,hi,e⟩:=List.mem_iff_getElem.1 hf
   have hl:=(iK hm (v:=0) (Int.le_refl _) (by omega) g.2.length (Nat.le_refl _)).1
   obtain⟨h,hh,e2⟩:=htch (i:Int) ⟨by omega,by omega⟩
   have:=mn hm hh g.2.length (Nat.le_refl _) (ea hh)
   rw[e2] at this
   have e3:gI (dP g g.2.length) (i:Int)=(dP g g.2.length)[i]:=by
     unfold gI
     rw[List.getD_eq_getElem?_getD,List.getElem?_eq_getElem (by simpa using hi)];rfl
   rw[e3,e] at this;cases this
theorem vw(hm:bf g)(h:¬2<=g.1):false=bL g:=(Bool.eq_false_iff.2 λc=>h ((jQ hm).1 c).1).symm
theorem uY(hm:bf g)(h:¬(bq g [] []).2=1):false=bL g:=(Bool.eq_false_iff.2 λc=>h ((jQ hm).1 c).2.1).symm
theorem uX(hm:bf g)(h:¬∀e∈g.2,¬e.1=e.2):false=bL g:=(Bool.eq_false_iff.2 λc=>h ((jQ hm).1 c).2.2.1).symm
theorem uT(hm:bf g)(h1:2<=g.1)(h2:(bq g [] []).2=1)(h3:∀e∈g.2,¬e.1=e.2):decide (((a9 g).2.1.length:Int)=0)=bL g:=by
 have:(((a9 g).2.1.length:Int)=0)↔bL g=true:=by
   rw[jQ hm]
   constructor
   · intro h
     exact⟨h1,h2,h3,List.eq_nil_of_length_eq_zero (by have:((gV g).length:Int)=0:=h;omega)⟩
   · rintro⟨_,_,_,h⟩
     show((gV g).length:Int)=0
     rw[h];rfl
 rw[Bool.eq_iff_iff,decide_eq_true_iff]
 exact this
theorem qZ(hk:(k:Int)<g.2.length)(h:(gI g.2 (k:Int)).1=(gI g.2 (k:Int)).2):false=decide (∀e∈g.2,¬e.1=e.2):=(decide_eq_false λq=>q _ (bD (by omega) hk) h).symm
theorem tk(hk:¬(k:Int)<g.2.length)(h:∀j:Nat,j<k->¬(gI g.2 (j:Int)).1=(gI g.2 (j:Int)).2):true=decide (∀e∈g.2,¬e.1=e.2):=(decide_eq_true λe he=>by
 obtain⟨i,hi,rfl⟩:=List.mem_iff_getElem.1 he
 have:=h i (by omega)
 have e3:gI g.2 (i:Int)=g.2[i]:=by simp[gI,hi]
 rwa[e3] at this).symm
theorem pF(h:∀j:Nat,j<k->¬(gI g.2 (j:Int)).1=(gI g.2 (j:Int)).2)(hk:¬(gI g.2 (k:Int)).1=(gI g.2 (k:Int)).2):∀j:Nat,j<k+1->¬(gI g.2 (j:Int)).1=(gI g.2 (j:Int)).2:=λj hj=>by
 by_cases c:j=k
 · subst c;exact hk
 · exact h j (by omega)
theorem eW.at_(hE:eW g E)(hk:(k:Int)<E.length):vI g (E.take k) (gI E (k:Int)):=by
 have hk':k<E.length:=by omega
 refine hE.goo (E.take k) (gI E (k:Int)) (E.drop (k+1)) ?_
 have e3:gI E (k:Int)=E[k]:=by simp[gI,hk']
 rw[e3,<-List.drop_eq_getElem_cons hk',List.take_append_drop]
theorem jM:∀(l:List Int) (a b:Int),u7 g a l b->∀x∈l,hf g x
 |[],a,b,_,x,hx=>by cases hx
 |h::t,a,b,hc,x,hx=>by
   obtain⟨h1,h2,h3⟩:=hc
   rcases List.mem_cons.1 hx with q|q
   · rw[q];exact h1
   · exact jM t _ _ h3 x q
theorem mI:∀(l:List Int) (a b:Int),u7 g a l b->∀j:Nat,j+1<l.length->aL g (gI l (j:Int))=ak g (gI l ((j:Int)+1))
 |[],a,b,_,j,hj=>by simp at hj
 |[h],a,b,_,j,hj=>by simp at hj
 |h::h2::t,a,b,hc,j,hj=>by
   obtain⟨_,_,q3⟩:=hc
   obtain⟨_,p2,_⟩:=id q3
   cases j with
   |zero=>
     show aL g h=ak g h2
     exact p2.symm
   |succ j=>
     have:=mI (h2::t) _ b q3 j (by simpa using hj)
     have e1:gI (h::h2::t) ((j+1:Nat):Int)=gI (h2::t) (j:Int):=by
       rw[jk,jk];rfl
     have e2:gI (h::h2::t) (((j+1:Nat):Int)+1)=gI (h2::t) ((j:Int)+1):=by
       rw[show((j+1:Nat):Int)+1=((j+2:Nat):Int) by omega,show(j:Int)+1=((j+1:Nat):Int) by omega,jk,jk];rfl
     rw[e1,e2];exact this
theorem kI(hc:u7 g a l b)(hl:0<l.length):ak g (gI l 0)=a:=by
 cases l with
 |nil=>simp at hl
 |cons h t=>exact hc.2.1
theorem kh:∀(l:List Int) (a b:Int),u7 g a l b->0<l.length->aL g (gI l ((l.length:Int)-1))=b
 |[],a,b,_,hl=>by simp at hl
 |[h],a,b,hc,_=>hc.2.2
 |h::h2::t,a,b,hc,_=>by
   have:=kh (h2::t) _ b hc.2.2 (by simp)
   have e2:gI (h::h2::t) (((h::h2::t).length:Int)-1)=gI (h2::t) (((h2::t).length:Int)-1):=by
     rw[show(((h::h2::t).length:Nat):Int)-1=((t.length+1:Nat):Int) by simp,show(((h2::t).length:Nat):Int)-1=((t.length:Nat):Int) by simp,jk,jk];rfl
   rw[e2];exact this
structure vq(g:bB)(l:List Int)(round_:Bool):Prop where
  rg:∀j:Nat,(j:Int)<l.length->0<=gI l (j:Int)/\gI l (j:Int)<2*(g.2.length:Int)
  nx:∀j:Nat,(j:Int)+1<l.length->aL g (gI l (j:Int))=ak g (gI l ((j:Int)+1))
  rd:round_=true->0<l.length->aL g (gI l ((l.length:Int)-1))=ak g (gI l 0)
structure vX(g:bB)(l:List Int):Prop where
 rg:∀j:Nat,(j:Int)<l.length->0<=gI l (j:Int)/\gI l (j:Int)<2*(g.2.length:Int)
 ne:∀j i:Nat,j<i->(i:Int)<l.length->gI l (j:Int)/2≠gI l (i:Int)/2/\ak g (gI l (j:Int))≠ak g (gI l (i:Int))
theorem sD(h:vq g l round_)(hr:round_=true)(hk:(k:Int)+1=l.length):aL g (gI l (k:Int))=ak g (gI l 0):=by
 have:=h.rd hr (by omega)
 rwa[show(l.length:Int)-1=(k:Int) by omega] at this
theorem u9(h:vq g l round_)(hk:(k:Int)+1<l.length):0<=gI l ((k:Int)+1)/\gI l ((k:Int)+1)<2*(g.2.length:Int):=h.rg (k+1) (by omega)
theorem ru(h:vq g l round_)(hk:(0:Int)<l.length):0<=gI l 0/\gI l 0<2*(g.2.length:Int):=h.rg 0 (by omega)
theorem eW.wk(hE:eW g E)(hk:(k:Int)<E.length):vq g (gI E (k:Int)) (decide ((k:Int)=0)):=by
 obtain⟨hne,⟨a,b,hc,h1,h2⟩,_⟩:=hE.at_ hk
 refine⟨λj hj=>jM _ _ _ hc _ (bD (by omega) hj),λj hj=>mI _ _ _ hc j (by omega),λhr hl=>?_⟩
 have h0:k=0:=by have:=of_decide_eq_true hr;omega
 rw[kI hc hl,kh _ _ _ hc hl]
 exact(h1 (by rw[h0];rfl)).symm
theorem eW.on(hE:eW g E)(hk:(k:Int)<E.length):vX g (gI E (k:Int)):=by
 obtain⟨hne,⟨a,b,hc,h1,h2⟩,h3,_⟩:=hE.at_ hk
 refine⟨λj hj=>jM _ _ _ hc _ (bD (by omega) hj),λj i hji hi=>?_⟩
 have e3:∀(L:List Int) (j:Nat) (hj:j<L.length),gI L (j:Int)=L[j]:=λL j hj=>by simp[gI,hj]
 rw[e3 _ j (by omega),e3 _ i (by omega)]
 exact(List.pairwise_iff_getElem.1 h3) j i (by omega) (by omega) hji
theorem eW.ne(hE:eW g E)(hk:(k:Int)<E.length):0<(gI E (k:Int)).length:=List.length_pos_iff.2 (hE.at_ hk).ne
theorem eW.lst(hE:eW g E)(hk:(k:Int)<E.length):0<=gI (gI E (k:Int)) (((gI E (k:Int)).length:Int)-1)/\gI (gI E (k:Int)) (((gI E (k:Int)).length:Int)-1)<2*(g.2.length:Int):=by
 have hl:=hE.ne hk
 have:=(hE.on hk).rg ((gI E (k:Int)).length-1) (by omega)
 rwa[show(((gI E (k:Int)).length-1:Nat):Int)=((gI E (k:Int)).length:Int)-1 by omega] at this
structure kJ(g:bB)(E:List (List Int))(eb nb:List Bool)(k:Nat):Prop where
  el:(eb.length:Int)=g.2.length
  nl:(nb.length:Int)=g.1
  ed:∀e,0<=e->e<(g.2.length:Int)->(gI eb e=true↔pV (E.take k) e)
  nd:∀x,0<=x->x<g.1->(gI nb x=true↔pW g (E.take k) x)
theorem kJ.start(hm:bf g):kJ g E (List.replicate (Int.toNat (g.2.length:Int)) false) (List.replicate (Int.toNat g.1) false) 0:=by
 have h0:=hm.1
 refine⟨by simp,by simp;omega,λe e0 e1=>?_,λx x0 x1=>?_⟩
 · rw[fA e0 (by omega)]
   exact⟨λq=>absurd q (by decide),λ⟨l,q,_⟩=>(by simp at q)⟩
 · rw[fA x0 (by omega)]
   exact⟨λq=>absurd q (by decide),λ⟨l,q,_⟩=>(by simp at q)⟩
structure pX(g:bB)(E:List (List Int))(k:Nat)(eb:List Bool)(m:Nat):Prop where
  el:(eb.length:Int)=g.2.length
  ed:∀e,0<=e->e<(g.2.length:Int)->(gI eb e=true↔pV (E.take k) e\/∃x∈(gI E (k:Int)).take m,x/2=e)
structure rX(g:bB)(E:List (List Int))(k:Nat)(nb:List Bool)(m:Nat):Prop where
 nl:(nb.length:Int)=g.1
 nd:∀x,0<=x->x<g.1->(gI nb x=true↔pW g (E.take k) x\/∃y∈(gI E (k:Int)).take m,ak g y=x\/aL g y=x)
theorem kJ.em(h:kJ g E eb nb k):pX g E k eb 0:=⟨h.el,λe a b=>by rw[h.ed e a b];simp⟩
theorem kJ.nm(h:kJ g E eb nb k):rX g E k nb 0:=⟨h.nl,λe a b=>by rw[h.nd e a b];simp⟩
theorem pX.no(hE:eW g E)(hk:(k:Int)<E.length)(h:pX g E k eb m)(hj:(m:Int)<(gI E (k:Int)).length):¬gI eb (gI (gI E (k:Int)) (m:Int)/2)=true:=λq=>by
 obtain⟨r0,r1⟩:=(hE.on hk).rg m hj
 rcases(h.ed _ (by omega) (by omega)).1 q with q|⟨x,x1,x2⟩
 · exact(hE.at_ hk).new _ (bD (by omega) hj) q
 · obtain⟨i,hi,e⟩:=List.mem_iff_getElem.1 x1
   have hi2:i<m:=by rw[List.length_take] at hi;omega
   have hil:i<(gI E (k:Int)).length:=by omega
   have e4:∀(L:List Int) (j:Nat) (hj:j<L.length),gI L (j:Int)=L[j]:=λL j hj=>by simp[gI,hj]
   have e3:gI (gI E (k:Int)) (i:Int)=x:=by
     rw[<-e,List.getElem_take];exact e4 _ i hil
   exact((hE.on hk).ne i m hi2 hj).1 (by rw[e3,x2])
theorem pX.next(h:pX g E k eb m)(hj:(m:Int)<(gI E (k:Int)).length)(r0:0<=gI (gI E (k:Int)) (m:Int))(r1:gI (gI E (k:Int)) (m:Int)<2*(g.2.length:Int)):pX g E k (eb.set (Int.toNat (gI (gI E (k:Int)) (m:Int)/2)) true) (m+1):=by
 have hl:=h.el
 refine⟨by rw[List.length_set];exact hl,λe a b=>?_⟩
 rw[cr (by omega) (by omega) a,cj hj]
 by_cases c:e=gI (gI E (k:Int)) (m:Int)/2
 · rw[if_pos c]
   exact⟨λ_=>.inr ⟨_,List.mem_append_right _ (by simp),c.symm⟩,λ_=>rfl⟩
 · rw[if_neg c,h.ed e a b]
   constructor
   · rintro(q|⟨x,x1,x2⟩)
     · exact .inl q
     · exact .inr ⟨x,List.mem_append_left _ x1,x2⟩
   · rintro(q|⟨x,x1,x2⟩)
     · exact .inl q
     · rcases List.mem_append.1 x1 with p|p
       · exact .inr ⟨x,p,x2⟩
       · rw[List.mem_singleton.1 p] at x2;exact absurd x2.symm c
theorem rX.next(h:rX g E k nb m)(hj:(m:Int)<(gI E (k:Int)).length)(f0:0<=ak g (gI (gI E (k:Int)) (m:Int)))(f1:ak g (gI (gI E (k:Int)) (m:Int))<g.1)(t0:0<=aL g (gI (gI E (k:Int)) (m:Int)))(t1:aL g (gI (gI E (k:Int)) (m:Int))<g.1):rX g E k ((nb.set (Int.toNat (ak g (gI (gI E (k:Int)) (m:Int)))) true).set (Int.toNat (aL g (gI (gI E (k:Int)) (m:Int)))) true) (m+1):=by
 have hl:=h.nl
 refine⟨by simp only[List.length_set];exact hl,λx a b=>?_⟩
 rw[cr t0 (by rw[List.length_set];omega) a,cr f0 (by omega) a,cj hj]
 by_cases c:x=aL g (gI (gI E (k:Int)) (m:Int))
 · rw[if_pos c]
   exact⟨λ_=>.inr ⟨_,List.mem_append_right _ (by simp),.inr c.symm⟩,λ_=>rfl⟩
 · rw[if_neg c]
   by_cases d:x=ak g (gI (gI E (k:Int)) (m:Int))
   · rw[if_pos d]
     exact⟨λ_=>.inr ⟨_,List.mem_append_right _ (by simp),.inl d.symm⟩,λ_=>rfl⟩
   · rw[if_neg d,h.nd x a b]
     constructor
     · rintro(q|⟨y,y1,y2⟩)
       · exact .inl q
       · exact .inr ⟨y,List.mem_append_left _ y1,y2⟩
     · rintro(q|⟨y,y1,y2⟩)
       · exact .inl q
       · rcases List.mem_append.1 y1 with p|p
         · exact .inr ⟨y,p,y2⟩
         · rw[List.mem_singleton.1 p] at y2
           rcases y2 with y2|y2
           · exact absurd y2.symm d
           · exact absurd y2.symm c
theorem kJ.next(h1:pX g E k eb m)(h2:rX g E k nb q)(hk:(k:Int)<E.length)(hm:¬(m:Int)<(gI E (k:Int)).length)(hq:¬(q:Int)<(gI E (k:Int)).length):kJ g E eb nb (k+1):=by
 have e1:=h1.ed
 have e2:=h2.nd
 rw[List.take_of_length_le (l:=gI E (k:Int)) (by omega)] at e1
 rw[List.take_of_length_le (l:=gI E (k:Int)) (by omega)] at e2
 refine⟨h1.el,h2.nl,λe a b=>?_,λx a b=>?_⟩
 · rw[e1 e a b,cj hk,pV.app]
 · rw[e2 x a b,cj hk,pW.app]
theorem kJ.ab(hE:eW g E)(h:kJ g E eb nb k)(hm:bf g)(hk:(k:Int)<E.length)(h0:0<(k:Int)):¬ak g (gI (gI E (k:Int)) 0)=aL g (gI (gI E (k:Int)) (((gI E (k:Int)).length:Int)-1))/\gI nb (ak g (gI (gI E (k:Int)) 0))=true/\gI nb (aL g (gI (gI E (k:Int)) (((gI E (k:Int)).length:Int)-1)))=true:=by
 obtain⟨hne,⟨a,b,hc,h1,h2⟩,_⟩:=hE.at_ hk
 have hl:=hE.ne hk
 have hA:E.take k≠[]:=λq=>by
   have:(E.take k).length=0:=by rw[q];rfl
   rw[List.length_take] at this;omega
 obtain⟨p1,p2,p3⟩:=h2 hA
 have hal:=jM _ _ _ hc
 have i0:=hal _ (bD (xs:=gI E (k:Int)) (i:=0) (Int.le_refl _) (by omega))
 have i1:=hal _ (bD (xs:=gI E (k:Int)) (i:=((gI E (k:Int)).length:Int)-1) (by omega) (by omega))
 have f:=bz hm i0
 have t:=cm hm i1
 rw[kI hc hl] at f ⊢
 rw[kh _ _ _ hc hl] at t ⊢
 exact⟨p1,(h.nd a f.1 f.2).2 p2,(h.nd b t.1 t.2).2 p3⟩
theorem kJ.inn(hE:eW g E)(h:kJ g E eb nb k)(hm:bf g)(hk:(k:Int)<E.length)(h0:0<(k:Int))(hj:(m:Int)<(gI E (k:Int)).length)(hm0:0<(m:Int)):¬gI nb (ak g (gI (gI E (k:Int)) (m:Int)))=true:=λq=>by
 have hA:E.take k≠[]:=λq=>by
   have:(E.take k).length=0:=by rw[q];rfl
   rw[List.length_take] at this;omega
 obtain⟨r0,r1⟩:=(hE.on hk).rg m hj
 obtain⟨f0,f1⟩:=bz hm (h:=gI (gI E (k:Int)) (m:Int)) ⟨r0,r1⟩
 refine(hE.at_ hk).inn hA _ ?_ ((h.nd _ f0 f1).1 q)
 have e3:gI (gI E (k:Int)) (m:Int)=(gI E (k:Int)).tail[m-1]'(by rw[List.length_tail];omega):=by
   rw[List.getElem_tail]
   have:m-1+1=m:=by omega
   simp only[this]
   have e4:∀(L:List Int) (j:Nat) (hj:j<L.length),gI L (j:Int)=L[j]:=λL j hj=>by simp[gI,hj]
   exact e4 _ m (by omega)
 rw[e3]
 exact List.getElem_mem _
theorem kJ.fin(hE:eW g E)(h:kJ g E eb nb k)(hk:¬(k:Int)<E.length)(e0:0<=e)(e1:e<(eb.length:Int)):gI eb e=true:=by
 have hl:=h.el
 rw[h.ed e e0 (by omega),List.take_of_length_le (by omega)]
 exact hE.all e e0 (by omega)
theorem ir{pl by_:List Int}:∀(rest:List (Int×Int)) (u:List Bool) (E R:List (List Int)),eT g pl by_ rest u E=some R->R.length<=E.length+rest.length
 |[],u,E,R,h=>by
   unfold eT at h
   obtain rfl:E=R:=by simpa using h
   simp
 |(v,h')::rest,u,E,R,h=>by
   unfold eT at h
   split at h
   · have:=ir rest u E R h
     rw[List.length_cons];omega
   · split at h
     · cases h
     · have:=ir rest _ _ R h
       rw[List.length_append,List.length_singleton] at this
       rw[List.length_cons];omega
theorem ql(g:bB):(bI g).1.length<=100000:=by
 unfold bI
 split
 · rename_i hm
   split
   · rename_i hb
     split
     · rename_i h2
       obtain⟨r,ht⟩:=rz hm hb h2
       obtain⟨R,q1,_⟩:=lC hm hb h2
       have h3:=ir _ _ _ _ (show eT g _ _ _ _ _=some R from q1)
       have h4:=ht.prs_len
       have h5:(eE (aq g) (f5 (bW g g.1.toNat).place g.1.toNat g.1.toNat)).length<=100000:=h4
       rw[q1]
       simp at h3
       show R.length<=100000
       omega
     · simp
   · simp
 · simp
theorem uI(h:¬bf g):(bI g).2=1/\((bI g).1.length:Int)=0:=by
 unfold bI;rw[if_neg h];exact⟨rfl,rfl⟩
theorem uK(hm:bf g)(h:¬bL g=true):(bI g).2=7/\((bI g).1.length:Int)=0:=by
 unfold bI;rw[if_pos hm,if_neg h];exact⟨rfl,rfl⟩
theorem uk(hm:bf g)(hb:bL g=true)(h:¬2<=g.2.length):(bI g).2=9/\((bI g).1.length:Int)=0:=by
 unfold bI;rw[if_pos hm,if_pos hb,if_neg h];exact⟨rfl,rfl⟩
end TL
/-
  TlArr2: a variable that holds two numbers, as a list; lengths of small numbers in bits.
  By an AI agent.
-/
set_option linter.all false
namespace TL
open Go
section
variable{P:Program}{f:Fr}{w:World}{dst:Option Tmp}{ty:TypeId}{pos:String}{after:Array Edge}{g:Option (Nat×Bool)}{t e:TypeId}{x y:Operand}
theorem kg{b:Nat}(ht:P.underlying t=some (.array 2 e))(hs:(P.info? e).map (·.size)=some 1)(hx:ev f x= .pointer (some ⟨b,0,none⟩)):
   (execOp (ev f) ⟨dst,.slice t x none none none,ty,pos,after,g⟩).run P w= .ok (.value (.slice (some ⟨b,0,none⟩) 2 2)) w:=by
 cases hq:P.info? e with
 |none=>simp[hq] at hs
 |some q=>
   have hsub:execOp (ev f) ⟨dst,.slice t x none none none,ty,pos,after,g⟩=(do pure (.value (<-Instr.sliceAt t (.pointer (some ⟨b,0,none⟩)) none none none))):=by
     simp[execOp,hx]
   rw[hsub]
   have ha:(⟨b,0,none⟩:Addr).add 0=⟨b,0,none⟩:=rfl
   simp[Instr.sliceAt,Instr.sureAddr,Instr.sliceBounds,aO ht,cP hq,ha]
end
theorem tV{γ:aF}{S:cx->Prop}{w:World}{b:Nat}{x y:Int}(h:Bx γ S w b [.int .i64 x,.int .i64 y]):Sl (α:=Int) γ S w (.slice (some ⟨b,0,none⟩) 2 2) [x,y]:=by
 obtain⟨h1,e,h2⟩:=h
 refine .inr ⟨b,0,2,rfl,⟨by simp,by simp⟩,λi z hi=>⟨cZ h2,h1,[.int .i64 z],λj hj=>?_,rfl⟩⟩
 have hj0:j=0:=by have:j<1:=hj;omega
 subst hj0
 have hl:=(List.getElem?_eq_some_iff.1 hi).1
 have hi2:i=0\/i=1:=by simp at hl;omega
 have hs:Rp.sz Int=1:=rfl
 rcases hi2 with rfl|rfl
 · simp at hi
   simp[World.cell?,h2,hs,hi]
 · simp at hi
   simp[World.cell?,h2,hs,hi]
theorem qA{x:Int}(h0:0<=x)(h1:x<=4611686018427387904):IntKind.u64.wrap x=x:=by
 have:IntKind.u64.wrap x=x%18446744073709551616:=by simp[IntKind.wrap,IntKind.bits,IntKind.signed]
 rw[this];omega
theorem tO{x:Int}(h0:0<=x)(h1:x<=255):IntKind.u8.wrap x=x:=by
 have:IntKind.u8.wrap x=x%256:=by simp[IntKind.wrap,IntKind.bits,IntKind.signed]
 rw[this];omega
def gg(i:Int):Int:=gI [0,1,2,2,3,3,3,3,4,4,4,4,4] i
theorem mK{i:Int}(h0:0<=i)(h1:i<=12):i=0\/i=1\/i=2\/i=3\/i=4\/i=5\/i=6\/i=7\/i=8\/i=9\/i=10\/i=11\/i=12:=by omega
theorem sr{i:Int}(h0:0<=i)(h1:i<=12):0<=gg i/\gg i<=4:=by
 rcases mK h0 h1 with rfl|rfl|rfl|rfl|rfl|rfl|rfl|rfl|rfl|rfl|rfl|rfl|rfl<;>decide
theorem rC{i:Int}(h0:0<=i)(h1:i<=12){str:ByteArray}(h:(List.range 13).all (λk=>decide (str[k]? =some (UInt8.ofNat (gg (k:Int)).toNat)))=true):str[i.toNat]? =some (UInt8.ofNat (gg i).toNat):=by
 obtain⟨k,rfl⟩:∃k:Nat,i=k:=⟨i.toNat,by omega⟩
 exact of_decide_eq_true (List.all_eq_true.1 h k (List.mem_range.2 (by omega)))
theorem qF{i:Int}(h0:0<=i)(h1:i<=12):((UInt8.ofNat (gg i).toNat).toNat:Int)=gg i:=by
 rcases mK h0 h1 with rfl|rfl|rfl|rfl|rfl|rfl|rfl|rfl|rfl|rfl|rfl|rfl|rfl<;>decide
end TL
/-
  TlBlk7: the tree of blocks, as the program makes it, with the library's sort of few elements.
  By an AI agent.
-/
set_option linter.all false
namespace TL
def e8:List Int->List Int->Int
  |[],[]=>0
  |[],_::_=> -1
  |_::_,[]=>1
  |a::l,b::m=>if fc a b=0 then e8 l m else fc a b
section
variable{s t:List Int}{k:Nat}
theorem gu{l:List Int}(h:(k:Int)<l.length):l.drop k=gI l (k:Int)::l.drop (k+1):=by
 have h':k<l.length:=by omega
 rw[List.drop_eq_getElem_cons h']
 have e:gI l (k:Int)=l[k]:=by simp[gI,h']
 rw[e]
theorem rJ(hi:e8 (s.drop k) (t.drop k)=e8 s t)(h1:(k:Int)<s.length)(h2:(k:Int)<t.length)(h:fc (gI s (k:Int)) (gI t (k:Int))=0):e8 (s.drop (k+1)) (t.drop (k+1))=e8 s t:=by
 rw[<-hi,gu h1,gu h2]
 show _=if fc _ _=0 then _ else _
 rw[if_pos h]
theorem uF(hi:e8 (s.drop k) (t.drop k)=e8 s t)(h1:(k:Int)<s.length)(h2:(k:Int)<t.length)(h:¬fc (gI s (k:Int)) (gI t (k:Int))=0):fc (gI s (k:Int)) (gI t (k:Int))=e8 s t:=by
 rw[<-hi,gu h1,gu h2]
 show _=if fc _ _=0 then _ else _
 rw[if_neg h]
theorem rh(hi:e8 (s.drop k) (t.drop k)=e8 s t)(h1:(k:Int)<s.length)(h2:(t.length:Int)<=k):1=e8 s t:=by
 have e:t.drop k=[]:=List.drop_eq_nil_of_le (by omega)
 rw[<-hi,gu h1,e];rfl
theorem qc(hi:e8 (s.drop k) (t.drop k)=e8 s t)(h1:¬(k:Int)<s.length)(hk:(k:Int)<=s.length)(h2:(s.length:Int)<t.length): -1=e8 s t:=by
 rw[<-hi,List.drop_eq_nil_of_le (by omega),gu (by omega)];rfl
theorem rA(hi:e8 (s.drop k) (t.drop k)=e8 s t)(h1:¬(k:Int)<s.length)(hk:(k:Int)<=s.length)(h2:¬(s.length:Int)<t.length):0=e8 s t:=by
 rw[<-hi,List.drop_eq_nil_of_le (by omega),List.drop_eq_nil_of_le (by omega)];rfl
end
def sH(x y:Int×Int):Int:=e8 [x.1,x.2] [y.1,y.2]
def qE(xs:List (Int×Int))(j:Nat):List (Int×Int):=(xs.set j (gI xs ((j:Int)-1))).set (j-1) (gI xs (j:Int))
def mm(xs:List (Int×Int)):Nat->List (Int×Int)
 |0=>xs
 |j+1=>if sH (gI xs ((j:Int)+1)) (gI xs (j:Int))<0 then mm (qE xs (j+1)) j else xs
def t9(xs:List (Int×Int)):Nat->List (Int×Int)
 |0=>xs
 |k+1=>mm (t9 xs k) (k+1)
def nN(xs:List (Int×Int)):List (Int×Int):=t9 xs (xs.length-1)
structure kb(x0 xs:List (Int×Int))(i:Int):Prop where
 len:xs.length=x0.length
 lo:1<=i
 hi:i=1\/i<=x0.length
 eq:xs=t9 x0 (i.toNat-1)
structure mZ(x0 xs:List (Int×Int))(i j:Int):Prop where
 len:xs.length=x0.length
 lo:0<=j
 hi:j<=i
 li:i<x0.length
 l1:1<=i
 run:mm xs j.toNat=t9 x0 i.toNat
section
variable{x0 xs:List (Int×Int)}{i j:Int}
theorem kb.start:kb x0 x0 1:=⟨rfl,by omega,.inl rfl,rfl⟩
theorem kb.inner(h:kb x0 xs i)(hi:i<(xs.length:Int)):mZ x0 xs i i:=by
 have h1:=h.lo
 have h2:=h.len
 refine⟨h.len,by omega,by omega,by omega,h1,?_⟩
 obtain⟨k,hk⟩:∃k:Nat,i.toNat=k+1:=⟨i.toNat-1,by omega⟩
 have h3:=h.eq
 rw[hk] at h3 ⊢
 rw[h3];rfl
theorem mZ.next(h:mZ x0 xs i j)(hj:0<j)(hc:sH (gI xs j) (gI xs (j-1))<0){ys:List (Int×Int)}(he:ys=(xs.set (Int.toNat j) (gI xs (j-1))).set (Int.toNat (j-1)) (gI xs j)):mZ x0 ys i (j-1):=by
 have h1:=h.hi
 refine⟨by rw[he];simp only[List.length_set];exact h.len,by omega,by omega,h.li,h.l1,?_⟩
 have h2:=h.run
 obtain⟨q,hq⟩:∃q:Nat,j.toNat=q+1:=⟨j.toNat-1,by omega⟩
 have e1:((q:Int)+1)=j:=by omega
 have e2:(q:Int)=j-1:=by omega
 rw[hq] at h2
 unfold mm at h2
 rw[e1,e2,if_pos hc] at h2
 have e3:qE xs (q+1)=ys:=by
   rw[he]
   unfold qE
   have e4:((q+1:Nat):Int)=j:=by omega
   have e5:(j-1).toNat=q:=by omega
   rw[e4,hq,e5];rfl
 rw[e3] at h2
 have e6:(j-1).toNat=q:=by omega
 rw[e6];exact h2
theorem mZ.done(h:mZ x0 xs i j)(hc:¬0<j\/¬sH (gI xs j) (gI xs (j-1))<0):kb x0 xs (i+1):=by
 have h1:=h.l1
 have h2:=h.li
 refine⟨h.len,by omega,.inr (by omega),?_⟩
 have h3:=h.run
 have e0:(i+1).toNat-1=i.toNat:=by omega
 rw[e0,<-h3]
 have hlo:=h.lo
 by_cases c:j=0
 · subst c;rfl
 · obtain⟨q,hq⟩:∃q:Nat,j.toNat=q+1:=⟨j.toNat-1,by omega⟩
   have e1:((q:Int)+1)=j:=by omega
   have e2:(q:Int)=j-1:=by omega
   have hc2:¬sH (gI xs j) (gI xs (j-1))<0:=hc.resolve_left (by omega)
   rw[hq]
   unfold mm
   rw[e1,e2,if_neg hc2]
theorem kb.done(h:kb x0 xs i)(hi:¬i<(xs.length:Int)):xs=nN x0:=by
 have h1:=h.lo
 have h2:=h.len
 have h3:=h.hi
 rw[h.eq]
 unfold nN
 congr 1
 rcases h3 with c|c<;>omega
end
section
variable{g:bB}
def nP(g:bB)(k:Nat):Int->Int:=(bK k).foldl (λF j=>λq=>if q=gI (a9 g).2.1 j then(a9 g).2.2+j else F q) (λ_=>0)
theorem pp{F:Int->Int}{k:Nat}(h:F=nP g k):(λq=>if q=gI (a9 g).2.1 (k:Int) then(a9 g).2.2+(k:Int) else F q)=nP g (k+1):=by
 unfold nP
 rw[cU,List.foldl_append,h];rfl
def vh(g:bB)(F:Int->Int)(s:List (Int×Int)×(Int×Int->Int))(h:Int):List (Int×Int)×(Int×Int->Int):=
 (if 0<F (ak g h)/\s.2 (gI (a9 g).1 (h/2),F (ak g h))=0 then s.1++[(gI (a9 g).1 (h/2),F (ak g h))] else s.1,λq=>if q=(gI (a9 g).1 (h/2),F (ak g h)) then s.2 (gI (a9 g).1 (h/2),F (ak g h))+1 else s.2 q)
def sT(g:bB)(F:Int->Int)(n:Nat):List (Int×Int)×(Int×Int->Int):=(bK n).foldl (vh g F) ([],λ_=>0)
def qH(g:bB):List (Int×Int):=(sT g (nP g (a9 g).2.1.length) (2*g.2.length)).1
def ns(g:bB):bB:=((a9 g).2.2+((a9 g).2.1.length:Int),nN (qH g))
def dg(g:bB):bB×Int:=if bf g then if bf (ns g) then(ns g,0) else((0,[]),3) else((0,[]),1)
def qN(g:bB):Prop:=bf g->(qH g).length<=12
structure gz(g:bB)(F:Int->Int)(ed:List (Int×Int))(sn:Int×Int->Int)(n:Nat):Prop where
 eq:(ed,sn)=sT g F n
 le:(ed.length:Int)<=n
 s0:∀q,0<=sn q/\sn q<=n
theorem gz.start{F:Int->Int}:gz g F [] (λ_=>0) 0:=⟨rfl,by simp,λq=>⟨by omega,by omega⟩⟩
theorem gz.next{F:Int->Int}{ed ed':List (Int×Int)}{sn sn':Int×Int->Int}{n:Nat}(h:gz g F ed sn n){v e:Int}{K:Int×Int}(hv:ak g (n:Int)=v)(he:(n:Int)/2=e)(hK:K=(gI (a9 g).1 e,F v))(hs:sn'=λq=>if q=K then sn K+1 else sn q)(hd:ed'=if 0<F v/\sn K=0 then ed++[K] else ed):gz g F ed' sn' (n+1):=by
 subst hv he hK hs hd
 have h1:=h.le
 refine⟨?_,?_,λq=>?_⟩
 · unfold sT
   rw[cU,List.foldl_append]
   show _=vh g F (sT g F n) (n:Int)
   rw[<-h.eq];rfl
 · split
   · rw[List.length_append,List.length_singleton];omega
   · omega
 · have h2:=h.s0 q
   have h3:=h.s0 (gI (a9 g).1 ((n:Int)/2),F (ak g (n:Int)))
   by_cases c:q=(gI (a9 g).1 ((n:Int)/2),F (ak g (n:Int)))
   · simp only[if_pos c];omega
   · simp only[if_neg c];omega
theorem gz.two{F:Int->Int}{ed ed1 ed2:List (Int×Int)}{sn sn1 sn2:Int×Int->Int}{k:Nat}(h:gz g F ed sn (2*k)){v v2:Int}{K K2:Int×Int}(hv:(gI g.2 (k:Int)).1=v)(hv2:(gI g.2 (k:Int)).2=v2)(hK:K=(gI (a9 g).1 (k:Int),F v))(hK2:K2=(gI (a9 g).1 (k:Int),F v2))
   (hs:sn1=λq=>if q=K then sn K+1 else sn q)(hs2:sn2=λq=>if q=K2 then sn1 K2+1 else sn1 q)(hd:ed1=if 0<F v/\sn K=0 then ed++[K] else ed)(hd2:ed2=if 0<F v2/\sn1 K2=0 then ed1++[K2] else ed1):gz g F ed2 sn2 (2*(k+1)):=by
 have e1:((2*k:Nat):Int)/2=(k:Int):=by omega
 have e2:((2*k+1:Nat):Int)/2=(k:Int):=by omega
 have f1:ak g ((2*k:Nat):Int)=v:=by
   rw[<-hv];unfold ak;rw[e1,show((2*k:Nat):Int)%2=0 by omega];rfl
 have f2:ak g ((2*k+1:Nat):Int)=v2:=by
   rw[<-hv2];unfold ak;rw[e2,show((2*k+1:Nat):Int)%2=1 by omega];rfl
 exact(h.next f1 e1 hK hs hd).next f2 e2 hK2 hs2 hd2
theorem ld{a b:Int}{x y:List (Int×Int)}(h:0<a)(h2:b=0):y=if 0<a/\b=0 then y else x:=(if_pos ⟨h,h2⟩).symm
theorem j6{a b:Int}{x y:List (Int×Int)}(h:¬0<a):x=if 0<a/\b=0 then y else x:=(if_neg λk=>h k.1).symm
theorem jf{a b:Int}{x y:List (Int×Int)}(h:¬b=0):x=if 0<a/\b=0 then y else x:=(if_neg λk=>h k.2).symm
theorem rG{F:Int->Int}{ed:List (Int×Int)}{sn:Int×Int->Int}{e k:Nat}(h:gz g F ed sn (2*e))(hF:F=nP g k)(hk:(k:Int)=((a9 g).2.1.length:Int))(he:(e:Int)=(g.2.length:Int)):ed=qH g:=by
 have e1:k=(a9 g).2.1.length:=by omega
 have e2:e=g.2.length:=by omega
 have h1:=h.eq
 rw[hF,e1,e2] at h1
 unfold qH
 rw[<-h1]
theorem pd(h0:0<=g.1):((a9 g).2.1.length:Int)<=g.1:=by
 have:=k8 (a:=gV g) (l:=(eU (eF g) g (2*g.2.length)).2) (k:=g.1.toNat) rfl
 show((gV g).length:Int)<=g.1
 omega
end
end TL
/-
  TlBlk8: what the statements on blocks ask of samples.
  By an AI agent.
-/
set_option linter.all false
namespace TL
def b9:bB:=(4,[(0,1),(1,2),(2,0),(2,3),(3,3)])
theorem qu:qN b9:=by
 intro _;decide+kernel
theorem rW:nW (2,[(0,1),(0,1)]):=by
 intro _ _ _
 refine⟨?_,?_,?_⟩<;>decide+kernel
theorem rB{g:bB}(h:da g=true)(h2:g.1<=40):decide ((g.2.length:Int)<=60)=decide (¬bf g\/(g.1<=40/\g.2.length<=60)):=by
 have hm:bf g:=of_decide_eq_true h
 rw[decide_eq_decide]
 exact⟨λa=>.inr ⟨h2,by omega⟩,λa=>by have:=(a.resolve_left (λk=>k hm)).2;omega⟩
theorem rn{g:bB}(h:da g=true)(h2:¬g.1<=40):false=decide (¬bf g\/(g.1<=40/\g.2.length<=60)):=by
 have hm:bf g:=of_decide_eq_true h
 rw[decide_eq_false]
 exact λa=>h2 (a.resolve_left (λk=>k hm)).1
theorem rM{g:bB}(h:¬da g=true):true=decide (¬bf g\/(g.1<=40/\g.2.length<=60)):=by
 rw[decide_eq_true]
 exact .inl λk=>h (decide_eq_true k)
section
variable{g:bB}{br:List Bool}{many:List Int}{j k:Nat}{e:Int}
end
end TL
/-
  TlLess2: a rotation's part: its half-edges among the whole's, and its genus.
  By an AI agent.
-/
set_option linter.all false
namespace TL
section
variable{g:bB}{r:fN}{keep:List Int}
def gone(m:Nat)(keep:List Int):List Int:=(bK (2*m)).filter λh=>decide (h/2∉keep)
end
end TL
/-
  TlDual: faces as nodes: the dual, corners' faces, edges laid, taken and split, ways over faces, as plain functions.
  By an AI agent.
-/
set_option linter.all false
namespace TL
def tQ(g:bB)(r:fN)(c:Int×Int):Prop:=(0<=c.1/\c.1<g.1)/\if((gI r c.1).length:Int)=0 then c.2= -1 else c.2∈gI r c.1
instance (g:bB)(r:fN)(c:Int×Int):Decidable (tQ g r c):=by unfold tQ;infer_instance
end TL
namespace TL
end TL
namespace TL
end TL
namespace TL
section
variable{g:bB}{r:fN}{a b:Int×Int}
end
end TL
/-
  TlKru: edges of the least weight that join all that is joined (package path's Least): Kruskal's way by labels, and a forest of parents that agrees with the labels.
  By an AI agent.
-/
set_option linter.all false
namespace TL
def ul(ws:List Nat)(i:Int):Pl:=(zf (gI ws i),i)
def rO(ws:List Nat)(i k:Int):Prop:=rP (ul ws i) (ul ws k)
instance (ws:List Nat)(i k:Int):Decidable (rO ws i k):=by unfold rO;infer_instance
theorem uj{ws:List Nat}{i j k:Int}(h:rO ws i j)(h2:rO ws j k):rO ws i k:=by unfold rO rP ul at*;omega
theorem uf{ws:List Nat}{i j:Int}(h:rO ws i j):¬rO ws j i:=uv h
def lz(ws:List Nat)(x:Int):List Int->List Int
 |[]=>[x]
 |y::l=>if rO ws x y then x::y::l else y::lz ws x l
def uJ(ws:List Nat):List Int:=(bK ws.length).foldr (lz ws) []
def qD(ws:List Nat)(l:List Int):Prop:=l.Pairwise λx y=>¬rO ws y x
theorem jn(ws:List Nat)(x:Int):∀l,(lz ws x l).Perm (x::l)
 |[]=>List.Perm.refl _
 |y::l=>by
   unfold lz;split
   · exact List.Perm.refl _
   · exact((jn ws x l).cons y).trans (List.Perm.swap x y l)
theorem mB{ws:List Nat}{x:Int}:∀{l},qD ws l->qD ws (lz ws x l)
 |[],_=>by unfold lz qD;simp
 |y::l,h=>by
   unfold qD at h ⊢
   obtain⟨h1,h2⟩:=List.pairwise_cons.1 h
   unfold lz;split
   · rename_i c
     refine List.pairwise_cons.2 ⟨λz hz=>?_,h⟩
     rcases List.mem_cons.1 hz with e|e
     · rw[e];exact uf c
     · intro k;exact h1 z e (uj k c)
   · rename_i c
     refine List.pairwise_cons.2 ⟨λz hz=>?_,mB h2⟩
     rcases List.mem_cons.1 ((jn ws x l).mem_iff.1 hz) with e|e
     · rw[e];exact c
     · exact h1 z e
theorem lD(ws:List Nat):∀l:List Int,(l.foldr (lz ws) []).Perm l/\qD ws (l.foldr (lz ws) [])
 |[]=>⟨List.Perm.refl _,List.Pairwise.nil⟩
 |x::l=>⟨(jn ws x _).trans ((lD ws l).1.cons x),mB (lD ws l).2⟩
theorem mS(ws:List Nat):(uJ ws).Perm (bK ws.length):=(lD ws _).1
theorem ord_len(ws:List Nat):(uJ ws).length=ws.length:=by rw[(mS ws).length_eq,qX]
theorem ord_mem{ws:List Nat}{i:Int}:i∈uJ ws↔0<=i/\i<(ws.length:Int):=by rw[(mS ws).mem_iff,dK]
-- by labels
variable{n:Int}{of0 of c:List Int}{rho:Int->Nat}{v v0:Int}
end TL
namespace TL
variable{g:bB}{ws:List Nat}{of l:List Int}{k:Nat}
end TL
namespace TL
end TL
namespace TL
end TL
/-
  TlOnes: ways of weights 1, 0 and of none: as a walk breadth first goes.
  By an AI agent.
-/
set_option linter.all false
namespace TL
variable{g g1 g2:bB}{ws w1 w2:List Nat}{s v:Int}{f1 f2 far:List Nat}{b1 b2 by_:List Int}{r1 r2 rk:Int->Nat}{C:Nat}
end TL
namespace TL
variable{g:bB}{s:Int}
end TL
namespace TL
open Go
theorem lm{P:Program}{f:Fr}{w:World}{dst:Option Tmp}{ty:TypeId}{pos:String}{after:Array Edge}{g:Option (Nat×Bool)}{t t':TypeId}{x y:Operand}{op:BinOp}{k:IntKind}{m n r:Int}(hx:ev f x= .int k m)(hy:ev f y= .int k n)(h:binOp op t (.int k m) (.int k n)=pure (.int k r)):(execOp (ev f) ⟨dst,.binOp op t x y t',ty,pos,after,g⟩).run P w= .ok (.value (.int k r)) w:=
 cR op x y hx hy (by rw[h];rfl)
end TL
namespace TL
variable{g:bB}{s v:Int}{on ze so:List Nat}{op:List Int}{i:Nat}
end TL
/-
  TlPerm: several new objects that are made in whatever order is drawn: all orders end alike.
  By an AI agent.
-/
set_option linter.all false
namespace TL
open Go
def kH(f:Fr)(val:Nat->Value)(S:List Nat):Fr:=λt=>bif S.contains t then val t else f t
theorem pK{f:Fr}{val:Nat->Value}{S S':List Nat}(h:∀t,t∈S↔t∈S'):kH f val S=kH f val S':=by
 funext t
 unfold kH
 have:S.contains t=S'.contains t:=by
   rw[Bool.eq_iff_iff]
   simp only[List.contains_iff_mem];exact h t
 rw[this]
theorem tn{f:Fr}{val:Nat->Value}{S:List Nat}{d:Nat}{v:Value}(hd:d∉S):fF (kH f val S) (some d) v=kH f (λt=>if t=d then v else val t) (d::S):=by
 funext t
 unfold fF kH
 simp only
 by_cases c:t=d
 · subst c
   have e1:(t::S).contains t=true:=by simp
   rw[e1,Nat.beq_refl];simp
 · have e1:Nat.beq t d=false:=by
     cases h:Nat.beq t d with
     |false=>rfl
     |true=>exact absurd (Nat.eq_of_beq_eq_true h) c
   have e2:(d::S).contains t=S.contains t:=by
     rw[Bool.eq_iff_iff]
     simp[c]
   rw[e1,e2,if_neg c];rfl
def mM{α:Type}:List α->List (List α)
 |[]=>[[]]
 |a::l=>mM l++(mM l).map (a:: ·)
theorem jB{α:Type}(p:α->Bool):∀l:List α,l.filter p∈mM l
 |[]=>List.mem_singleton.2 rfl
 |a::l=>by
   have ih:=jB p l
   unfold mM
   rw[List.filter_cons]
   split
   · exact List.mem_append_right _ (List.mem_map.2 ⟨_,ih,rfl⟩)
   · exact List.mem_append_left _ ih
theorem io:∀(D A:List (Nat×Nat)),D.Nodup->(∀p∈D,p∈A)->D.length<=A.length
 |[],A,_,_=>Nat.zero_le _
 |a::D,A,hn,hs=>by
   have hn':=List.nodup_cons.1 hn
   have ha:=hs a (List.mem_cons_self ..)
   have h3:=io D (A.erase a) hn'.2 (λx hx=>by
     have hne:x≠a:=λe=>hn'.1 (by rw[<-e];exact hx)
     exact(List.mem_erase_of_ne hne).2 (hs x (List.mem_cons_of_mem _ hx)))
   have h4:=List.length_erase_of_mem ha
   have h5:=List.length_pos_of_mem ha
   rw[List.length_cons];omega
theorem kf:∀{A:List (Nat×Nat)},(A.map Prod.fst).Nodup->A.Nodup
 |[],_=>List.nodup_nil
 |a::A,h=>by
   rw[List.map_cons,List.nodup_cons] at h
   exact List.nodup_cons.2 ⟨λk=>h.1 (List.mem_map.2 ⟨a,k,rfl⟩),kf h.2⟩
theorem kG{A:List (Nat×Nat)}(h:(A.map Prod.snd).Nodup){p q:Nat×Nat}(hp:p∈A)(hq:q∈A)(e:p.2=q.2):p=q:=by
 induction A with
 |nil=>exact absurd hp List.not_mem_nil
 |cons a A ih=>
   rw[List.map_cons,List.nodup_cons] at h
   rcases List.mem_cons.1 hp with e1|e1
   · rcases List.mem_cons.1 hq with e2|e2
     · rw[e1,e2]
     · exact absurd (List.mem_map.2 ⟨q,e2,by rw[<-e,e1]⟩) h.1
   · rcases List.mem_cons.1 hq with e2|e2
     · exact absurd (List.mem_map.2 ⟨p,e1,by rw[e,e2]⟩) h.1
     · exact ih h.2 e1 e2
section
variable{P:Program}{n:Nat}{l:List Oper}{qs:List Nat}{K:Fr->World->Prop}{f:Fr}{w:World}{done:List Nat}{fuel:Nat}
theorem jT{n:Nat}{d d':List Nat}(h:∀t,t∈d↔t∈d'):ci n d=ci n d':=by
 unfold ci
 congr 1
 apply List.map_congr_left
 intro t _
 rw[decide_eq_decide];exact h t
theorem pN{done':List Nat}(h:∀t,t∈done↔t∈done')(hw:ij P n l qs K fuel done f w):ij P n l qs K fuel done' f w:=by
 unfold ij at*
 rw[<-jT h];exact hw
def qw(dep:Nat->List Nat)(D:List (Nat×Nat)):Bool:=D.all λp=>(dep p.2).all λt=>(D.map Prod.snd).contains t
def m8(dep:Nat->List Nat)(A D:List (Nat×Nat)):List (Nat×Nat):=A.filter λp=> !(D.map Prod.fst).contains p.1&&(dep p.2).all λt=>(D.map Prod.snd).contains t
def vV(l:List Oper)(done:List Nat)(dep:Nat->List Nat)(A:List (Nat×Nat)):Bool:=(mM A).all λD=>decide (D.length=A.length)||(qw dep D).not||(decide (Region.ready .any l.toArray (ci l.length (D.map Prod.fst++done))=(m8 dep A D).map Prod.fst)&& !(m8 dep A D).isEmpty)
theorem um(A:List (Nat×Nat))(dep:Nat->List Nat)(Φ:Nat->List Value->aF->World->Value->Prop)(γ:aF)
    (hst:∀p∈A,∀vs γ w γ' w' v,bg no γ w γ' w'->Φ p.2 vs γ w v->Φ p.2 vs γ' w' v)
    (hnd:(A.map Prod.snd).Nodup)(hnf:(A.map Prod.fst).Nodup)
    (hrd:vV l done dep A=true)
    (hop:∀p∈A,qs.contains p.1=false/\∃o,l[p.1]? =some o/\o.dst=some p.2/\j8 n o=true/\∀(f':Fr) (val:Nat->Value),(∀t,(A.map Prod.snd).contains t=false->f' t=f t)->(∀t∈dep p.2,f' t=val t)->cQ l o f'=true/\∀γ w,(∀t∈dep p.2,Φ t ((dep t).map val) γ w (val t))->fC P o f' w λv w'=>∃γ',bg no γ w γ' w'/\Φ p.2 ((dep p.2).map val) γ' w' v)
    (hk:∀val γ' w',bg no γ w γ' w'->(∀p∈A,Φ p.2 ((dep p.2).map val) γ' w' (val p.2))->ij P n l qs K fuel (A.map Prod.fst++done) (kH f val (A.map Prod.snd)) w'):ij P n l qs K (fuel+A.length) done f w:=by
  have main:∀(m:Nat) (D:List (Nat×Nat)) (val:Nat->Value) (γ':aF) (w':World),D.Nodup->(∀p∈D,p∈A)->(∀p∈D,∀t∈dep p.2,t∈D.map Prod.snd)->D.length+m=A.length->bg no γ w γ' w'->(∀p∈D,Φ p.2 ((dep p.2).map val) γ' w' (val p.2))->ij P n l qs K (fuel+m) (D.map Prod.fst++done) (kH f val (D.map Prod.snd)) w':=by
    have hAn:A.Nodup:=kf hnf
    intro m
    induction m with
    |zero=>
      intro D val γ' w' hD hsub hcl hl hc hF
      have hmem:∀p,p∈A↔p∈D:=by
        intro p
        refine⟨λhp=>?_,hsub p⟩
        by_cases c:p∈D
        · exact c
        · exfalso
          have:=io (p::D) A (List.nodup_cons.2 ⟨c,hD⟩) (λq hq=>(List.mem_cons.1 hq).elim (λe=>by rw[e];exact hp) (hsub q))
          rw[List.length_cons] at this;omega
      have h1:=hk val γ' w' hc (λp hp=>hF p ((hmem p).1 hp))
      have e1:∀t,t∈A.map Prod.fst++done↔t∈D.map Prod.fst++done:=λt=>by
        simp only[List.mem_append,List.mem_map]
        constructor
        · rintro(⟨p,hp,rfl⟩|h)
          · exact .inl ⟨p,(hmem p).1 hp,rfl⟩
          · exact .inr h
        · rintro(⟨p,hp,rfl⟩|h)
          · exact .inl ⟨p,(hmem p).2 hp,rfl⟩
          · exact .inr h
      have e2:kH f val (A.map Prod.snd)=kH f val (D.map Prod.snd):=pK λt=>by
        simp only[List.mem_map]
        constructor
        · rintro⟨p,hp,rfl⟩;exact⟨p,(hmem p).1 hp,rfl⟩
        · rintro⟨p,hp,rfl⟩;exact⟨p,(hmem p).2 hp,rfl⟩
      rw[e2] at h1
      exact pN e1 h1
    |succ m ih=>
      intro D val γ' w' hD hsub hcl hl hc hF
      let D':=A.filter λp=>decide (p∈D)
      have hD':∀p,p∈D'↔p∈D:=λp=>by
        show p∈A.filter _↔_
        rw[List.mem_filter,decide_eq_true_iff]
        exact⟨λh=>h.2,λh=>⟨hsub p h,h⟩⟩
      have hD1:∀t,t∈D'.map Prod.fst↔t∈D.map Prod.fst:=λt=>by
        simp only[List.mem_map]
        exact⟨λ⟨p,hp,e⟩=>⟨p,(hD' p).1 hp,e⟩,λ⟨p,hp,e⟩=>⟨p,(hD' p).2 hp,e⟩⟩
      have hD2:∀t,t∈D'.map Prod.snd↔t∈D.map Prod.snd:=λt=>by
        simp only[List.mem_map]
        exact⟨λ⟨p,hp,e⟩=>⟨p,(hD' p).1 hp,e⟩,λ⟨p,hp,e⟩=>⟨p,(hD' p).2 hp,e⟩⟩
      have hlD:D'.length≠A.length:=by
        have h1:=io D' D (hAn.filter _) (λp hp=>(hD' p).1 hp)
        omega
      have hcD:qw dep D'=true:=by
        unfold qw
        simp only[List.all_eq_true,List.contains_iff_mem]
        exact λp hp t ht=>(hD2 t).2 (hcl p ((hD' p).1 hp) t ht)
      have hr0:=List.all_eq_true.1 hrd D' (jB _ A)
      rw[decide_eq_false hlD,hcD] at hr0
      simp only[Bool.not_true,Bool.or_false,Bool.false_or,Bool.and_eq_true] at hr0
      obtain⟨hr1,hne⟩:=hr0
      have hr:=of_decide_eq_true hr1
      have em:ci l.length (D'.map Prod.fst++done)=ci l.length (D.map Prod.fst++done):=jT λt=>by
        simp only[List.mem_append];rw[hD1 t]
      rw[em] at hr
      have hnx:∀p,p∈m8 dep A D'->p∈A/\p∉D/\∀t∈dep p.2,t∈D.map Prod.snd:=λp hp=>by
        unfold m8 at hp
        rw[List.mem_filter,Bool.and_eq_true,List.all_eq_true] at hp
        obtain⟨h1,h2,h3⟩:=hp
        refine⟨h1,λk=>?_,λt ht=>(hD2 t).1 (List.contains_iff_mem.1 (h3 t ht))⟩
        have:p.1∈D'.map Prod.fst:=List.mem_map.2 ⟨p,(hD' p).2 k,rfl⟩
        simp[this] at h2
      intro a ha
      refine⟨λh0=>?_,λk hk2=>?_⟩
      · rw[hr] at h0
        have h5:m8 dep A D'=[]:=List.map_eq_nil_iff.1 h0
        rw[h5] at hne;cases hne
      · rw[hr] at hk2
        obtain⟨p,hp0,rfl⟩:=List.mem_map.1 hk2
        obtain⟨hp,hpD,hdp⟩:=hnx p hp0
        obtain⟨hq,o,hi,hdst,hdk,ho⟩:=hop p hp
        have hlt:p.1<l.length:=(List.getElem?_eq_some_iff.1 hi).1
        have hq':decide (p.1∈qs)=false:=by simpa using hq
        have hd2:p.2∉D.map Prod.snd:=by
          intro k
          obtain⟨q,hq2,e⟩:=List.mem_map.1 k
          have:q=p:=kG hnd (hsub q hq2) hp e
          rw[this] at hq2;exact hpD hq2
        obtain⟨hw1,hw2⟩:=ho (kH f val (D.map Prod.snd)) val (λt ht=>by
          unfold kH
          have:(D.map Prod.snd).contains t=false:=by
            cases hc2:(D.map Prod.snd).contains t with
            |false=>rfl
            |true=>
              obtain⟨q,hq2,e⟩:=List.mem_map.1 (List.contains_iff_mem.1 hc2)
              have:(A.map Prod.snd).contains t=true:=List.contains_iff_mem.2 (List.mem_map.2 ⟨q,hsub q hq2,e⟩)
              rw[this] at ht;cases ht
          rw[this];rfl) (λt ht=>by
          unfold kH
          rw[List.contains_iff_mem.2 (hdp t ht)];rfl)
        simp only[hq',Bool.false_eq_true,if_false]
        refine fh ha hi hw1 (hw2 γ' w' (λt ht=>?_)) λv w2 ⟨γ2,c2,h2⟩=>?_
        · obtain⟨q,hq2,e⟩:=List.mem_map.1 (hdp t ht)
          rw[<-e];exact hF q hq2
        rw[cY _ hlt]
        have hc2:bg no γ w γ2 w2:=hc.trans c2 (λ_ _ h=>h.elim id id)
        have hval:∀q:Nat×Nat,(∀t∈dep q.2,t∈D.map Prod.snd)->(dep q.2).map (λt=>if t=p.2 then v else val t)=(dep q.2).map val:=λq hq2=>List.map_congr_left λt ht=>by
          rw[if_neg]
          intro e
          exact hd2 (by rw[<-e];exact hq2 t ht)
        have hnext:=ih (p::D) (λt=>if t=p.2 then v else val t) γ2 w2 (List.nodup_cons.2 ⟨hpD,hD⟩) (λq hq2=>(List.mem_cons.1 hq2).elim (λe=>by rw[e];exact hp) (hsub q)) (λq hq2 t ht=>by
          rw[List.map_cons]
          rcases List.mem_cons.1 hq2 with e|e
          · rw[e] at ht;exact List.mem_cons_of_mem _ (hdp t ht)
          · exact List.mem_cons_of_mem _ (hcl q e t ht)) (by rw[List.length_cons];omega) hc2 (λq hq2=>by
          rcases List.mem_cons.1 hq2 with e|e
          · rw[e,if_pos rfl,hval p hdp];exact h2
          · have hne:q.2≠p.2:=λk=>hd2 (by rw[<-k];exact List.mem_map.2 ⟨q,e,rfl⟩)
            rw[if_neg hne,hval q (hcl q e)]
            exact hst q (hsub q e) _ _ _ _ _ _ c2 (hF q e))
        have ef:fF (kH f val (D.map Prod.snd)) o.dst v=kH f (λt=>if t=p.2 then v else val t) ((p::D).map Prod.snd):=by
          rw[hdst,tn hd2];rfl
        have:=hnext (a.put o.dst v) (by rw[<-ef];exact ha.put hdk v)
        exact this
  have h0:=main A.length [] (λ_=>undef) γ w List.nodup_nil (λp hp=>absurd hp List.not_mem_nil) (λp hp=>absurd hp List.not_mem_nil) (by simp) (bg.refl _ _ _) (λp hp=>absurd hp List.not_mem_nil)
  have e0:kH f (λ_=>undef) (([]:List (Nat×Nat)).map Prod.snd)=f:=by
    funext t;rfl
  rw[e0] at h0
  exact h0
end
end TL
namespace TL
open Go
structure Mk where
  op:Nat
  slot:Nat
  dep:List Nat
  ok:List Value->aF->World->Value->Prop
def sk:List Mk->Prop
 |[]=>True
 |p::r=>(∀vs γ w γ' w' v,bg no γ w γ' w'->p.ok vs γ w v->p.ok vs γ' w' v)/\sk r
def gj:List Mk->Nat->List Nat
 |[],_=>[]
 |p::r,t=>bif Nat.beq t p.slot then p.dep else gj r t
def jF:List Mk->Nat->List Value->aF->World->Value->Prop
 |[],_=>λ_ _ _ _=>False
 |p::r,t=>bif Nat.beq t p.slot then p.ok else jF r t
def tm(P:Program)(n:Nat)(l:List Oper)(qs:List Nat)(f:Fr)(L:List Mk)(S:List Nat):List Mk->Prop
  |[]=>True
  |p::r=>(qs.contains p.op=false/\∃o,l[p.op]? =some o/\o.dst=some p.slot/\j8 n o=true/\∀(f':Fr) (val:Nat->Value),(∀t,S.contains t=false->f' t=f t)->(∀t∈p.dep,f' t=val t)->cQ l o f'=true/\∀γ w,(∀t∈p.dep,jF L t ((gj L t).map val) γ w (val t))->fC P o f' w λv w'=>∃γ',bg no γ w γ' w'/\p.ok (p.dep.map val) γ' w' v)/\tm P n l qs f L S r
theorem sk.mem{L:List Mk}(h:sk L):∀p∈L,∀vs γ w γ' w' v,bg no γ w γ' w'->p.ok vs γ w v->p.ok vs γ' w' v:=by
 induction L with
 |nil=>intro p hp;exact absurd hp List.not_mem_nil
 |cons a L ih=>
   intro p hp
   rcases List.mem_cons.1 hp with e|e
   · rw[e];exact h.1
   · exact ih h.2 p e
theorem kL{a b:Nat}(h:a≠b):Nat.beq a b=false:=by
 cases k:Nat.beq a b with
 |false=>rfl
 |true=>exact absurd (Nat.eq_of_beq_eq_true k) h
theorem iZ:∀{L:List Mk},(L.map Mk.slot).Nodup->∀p∈L,gj L p.slot=p.dep/\jF L p.slot=p.ok
 |[],_,p,hp=>absurd hp List.not_mem_nil
 |a::L,h,p,hp=>by
   rw[List.map_cons,List.nodup_cons] at h
   rcases List.mem_cons.1 hp with e|e
   · rw[e];unfold gj jF;rw[Nat.beq_refl];exact⟨rfl,rfl⟩
   · have hne:p.slot≠a.slot:=λk=>h.1 (by rw[<-k];exact List.mem_map.2 ⟨p,e,rfl⟩)
     unfold gj jF
     rw[kL hne];exact iZ h.2 p e
def kD(K:Fr->Prop)(γ:aF)(w:World):List Mk->List (Nat×Value)->Fr->Prop
  |[],_,f=>K f
  |p::r,env,f=>∀v,p.ok (p.dep.map λt=>(env.lookup t).getD undef) γ w v->kD K γ w r ((p.slot,v)::env) (fF f (some p.slot) v)
def oM:List Mk->List Nat->Bool
 |[],_=>true
 |p::r,S=>(p.dep.all λt=>S.contains t)&&oM r (p.slot::S)
theorem rF{f:Fr}{val:Nat->Value}{d:Nat}{S:List Nat}:kH (fF f (some d) (val d)) val S=kH f val (d::S):=by
 funext t
 unfold kH fF
 simp only
 by_cases c:t=d
 · subst c
   have e1:(t::S).contains t=true:=by simp
   rw[e1,Nat.beq_refl];cases S.contains t<;>rfl
 · have e1:Nat.beq t d=false:=kL c
   have e2:(d::S).contains t=S.contains t:=by
     rw[Bool.eq_iff_iff]
     simp[c]
   rw[e1,e2];rfl
theorem kD.use{K:Fr->Prop}{γ:aF}{w:World}{val:Nat->Value}:∀{L:List Mk} {env:List (Nat×Value)} {f:Fr},kD K γ w L env f->(∀t∈env.map Prod.fst,(env.lookup t).getD undef=val t)->oM L (env.map Prod.fst)=true->(∀p∈L,p.ok (p.dep.map val) γ w (val p.slot))->K (kH f val (L.map Mk.slot))
 |[],_,f,h,_,_,_=>by
   have:kH f val (([]:List Mk).map Mk.slot)=f:=by funext t;rfl
   rw[this];exact h
 |p::L,env,f,h,he,ht,hF=>by
   unfold oM at ht
   rw[Bool.and_eq_true,List.all_eq_true] at ht
   have e1:p.dep.map (λt=>(env.lookup t).getD undef)=p.dep.map val:=List.map_congr_left λt h1=>he t (List.contains_iff_mem.1 (ht.1 t h1))
   have h2:=h (val p.slot) (by rw[e1];exact hF p (List.mem_cons_self ..))
   have:=kD.use h2 (λt h3=>by
     rw[List.lookup_cons]
     by_cases c:t=p.slot
     · rw[c];simp
     · have:(t==p.slot)=false:=by simpa using c
       rw[this]
       exact he t ((List.mem_cons.1 h3).resolve_left c)) ht.2 (λq hq=>hF q (List.mem_cons_of_mem _ hq))
   rw[rF] at this;exact this
section
variable{P:Program}{n:Nat}{l:List Oper}{qs:List Nat}{K:Fr->World->Prop}{f:Fr}{w:World}{done:List Nat}{fuel:Nat}{S:List Nat}
theorem tm.mem{L M:List Mk}(h:tm P n l qs f M S L):∀p∈L,qs.contains p.op=false/\∃o,l[p.op]? =some o/\o.dst=some p.slot/\j8 n o=true/\∀(f':Fr) (val:Nat->Value),(∀t,S.contains t=false->f' t=f t)->(∀t∈p.dep,f' t=val t)->cQ l o f'=true/\∀γ w,(∀t∈p.dep,jF M t ((gj M t).map val) γ w (val t))->fC P o f' w λv w'=>∃γ',bg no γ w γ' w'/\p.ok (p.dep.map val) γ' w' v:=by
 induction L with
 |nil=>intro p hp;exact absurd hp List.not_mem_nil
 |cons a L ih=>
   intro p hp
   rcases List.mem_cons.1 hp with e|e
   · rw[e];exact h.1
   · exact ih h.2 p e
theorem fC.mono{o:Oper}{N N':Value->World->Prop}(h:fC P o f w N)(hN:∀v w,N v w->N' v w):fC P o f w N':=by
 unfold fC at*
 generalize(execOp (ev f) o).run P w=r at*
 cases r with
 |halt x w'=>exact h.elim
 |ok nx w'=>
   cases nx<;>simp only[nX] at h ⊢
   case value v=>exact hN _ _ h
   case skip=>exact hN _ _ h
   case enter g args=>
     refine h.mono λe w'' he=>?_
     cases e with
     |returned v=>exact hN _ _ he
     |panicked c=>exact he.elim
     |outgrown=>exact he.elim
theorem oT(γ:aF)(L:List Mk)(A:List (Nat×Nat))(fu:Nat)(hA:L.map (λp=>(p.op,p.slot))=A)(hst:sk L)(hnd0:(A.map Prod.snd).Nodup)(hnf:(A.map Prod.fst).Nodup)
    (hrd:vV l done (gj L) A=true)(htp:oM L []=true)
    (hfu:fu=fuel+A.length)(hop:tm P n l qs f L (A.map Prod.snd) L)
    (hk:∀γ' w',bg no γ w γ' w'->kD (λf'=>ij P n l qs K fuel (A.map Prod.fst++done) f' w') γ' w' L [] f):ij P n l qs K fu done f w:=by
  subst hfu
  have e1:A.map Prod.snd=L.map Mk.slot:=by rw[<-hA,List.map_map];rfl
  have hnd:(L.map Mk.slot).Nodup:=by rw[<-e1];exact hnd0
  refine um A (gj L) (jF L) γ (λq hq=>?_) hnd0 hnf hrd (λq hq=>?_) (λval γ' w' hc hF=>?_)
  · rw[<-hA] at hq
    obtain⟨p,hp,rfl⟩:=List.mem_map.1 hq
    intro vs γ w γ' w' v hc
    show jF L p.slot vs γ w v->jF L p.slot vs γ' w' v
    rw[(iZ hnd p hp).2];exact hst.mem p hp vs γ w γ' w' v hc
  · rw[<-hA] at hq
    obtain⟨p,hp,rfl⟩:=List.mem_map.1 hq
    obtain⟨a,o,b,c,d,e⟩:=hop.mem p hp
    show qs.contains p.op=false/\∃o,l[p.op]? =some o/\o.dst=some p.slot/\j8 n o=true/\∀(f':Fr) (val:Nat->Value),(∀t,(A.map Prod.snd).contains t=false->f' t=f t)->(∀t∈gj L p.slot,f' t=val t)->cQ l o f'=true/\∀γ w,(∀t∈gj L p.slot,jF L t ((gj L t).map val) γ w (val t))->fC P o f' w λv w'=>∃γ',bg no γ w γ' w'/\jF L p.slot ((gj L p.slot).map val) γ' w' v
    rw[(iZ hnd p hp).1,(iZ hnd p hp).2]
    exact⟨a,o,b,c,d,e⟩
  · have h1:=(hk γ' w' hc).use (val:=val) (λt ht=>absurd ht List.not_mem_nil) htp (λp hp=>by
      have:=hF (p.op,p.slot) (by rw[<-hA];exact List.mem_map.2 ⟨p,hp,rfl⟩)
      have h2:jF L p.slot ((gj L p.slot).map val) γ' w' (val p.slot):=this
      rw[(iZ hnd p hp).1,(iZ hnd p hp).2] at h2;exact h2)
    rw[e1];exact h1
theorem me{o:Oper}{v:Value}{N:Value->World->Prop}(h:(execOp (ev f) o).run P w= .ok (.value v) w)(hk:N v w):fC P o f w N:=by unfold fC;rw[h];exact hk
end
theorem eI{t:Nat}{l:List Nat}(h:l.contains t=true):t∈l:=List.contains_iff_mem.1 h
theorem ie{f:Fr}{i:Nat}{x:Operand}{xs:List (Nat×Operand)}{v:Value}{vs:List (Nat×Value)}(h:ev f x=v)(h2:xs.map (λx=>(x.1,ev f x.2))=vs):((i,x)::xs).map (λx=>(x.1,ev f x.2))=(i,v)::vs:=by subst h h2;rfl
end TL
/-
  TlPost: what is owed behind a law that returns true and writes nothing of the caller's.
  By an AI agent.
-/
namespace TL
open Go Go.Proofs Go.ChangeShapes Go.WideShapes Go.RowKit
def oa(P:Program)(ts:List TypeId):Bool:=ts.all λt=>P.readableRec t&&decide (t<P.types.size)
theorem kM{H:Type}{enc:TypeId×Value->H}{P:Program}(hl:laidOutB P=true){W W':World}(hb:Below W.heap.size W W')(sp:Nat->Bool):
   ∀{ts:List TypeId} {vs:List Value} {ds:List (DataW H)} {ps:List MemPlace},oa P ts=true->DataW.TrodAll enc P W 0 (λ_=>true) true ts vs ds ps->(∀p∈ps,p.block<W.heap.size)->(∀p∈ps,sp p.block=true)->DataW.TrodAll enc P W' 0 sp true ts vs ds ps
 |[],[],[],_,_,h,_,_=>h
 |[],[],_::_,_,_,h,_,_=>h.elim
 |[],_::_,_,_,_,h,_,_=>by cases‹List (DataW H)›<;>exact h.elim
 |_::_,[],_,_,_,h,_,_=>by cases‹List (DataW H)›<;>exact h.elim
 |_::_,_::_,[],_,_,h,_,_=>h.elim
 |t::ts,v::vs,d::ds,ps,hr,h,hlt,hsp=>by
   obtain⟨p,q,h1,h2,rfl⟩:=h
   simp only[oa,List.all_cons,Bool.and_eq_true,decide_eq_true_eq] at hr
   exact⟨p,q,WideElems.Trod_stays hl hr.1.1 hr.1.2 h1 (λx hx=>hb.same (hlt x (by simp[hx]))) (λx hx=>hsp x (by simp[hx])),
     kM hl hb sp hr.2 h2 (λx hx=>hlt x (by simp[hx])) (λx hx=>hsp x (by simp[hx])),rfl⟩
theorem qG{H:Type}{enc:TypeId×Value->H}{P:Program}{f:Func}{s:ChangeSpec}{W W':World}{args:Array Value}{ds gs:List (DataW H)}{before:List MemPlace}{tb:TypeId}
   (hl:laidOutB P=true)(hr:oa P f.params.toList=true)(hv:s.vars=[])(hrt:f.resultTypes= #[tb])(htb:P.underlying tb=some .bool)
   (hW:DataW.Whole enc P f.params.toList s.vars false W args.toList ds gs before)(hfn:s.fn H (ds++gs)={results:=[.lit (.bool true)],args:=ds})(hB:Below W.heap.size W W'):
   s.post enc P f false true false false W args (.bool true) W':=by
 have hlt:=hW.lt
 have hW0:=hW
 obtain⟨p,q,hA,hV,rfl,hfz,_⟩:=hW
 rw[hv] at hV
 obtain⟨rfl,rfl⟩:=trodVars_none hV
 simp only[List.append_nil] at hlt hfz hW0 hfn
 have hres:∀(b:Nat) (sp:Nat->Bool) (hd:Bool),DataW.TrodAll enc P W' b sp hd f.resultTypes.toList ((Value.bool true).resultList f.resultTypes.size) (s.fn H (ds++[])).results []:=λb sp hd=>by
   rw[hrt,List.append_nil,hfn]
   exact trodAll_cons_mk (shut_bool htb true) trodAll_mk0
 have hargs:∀sp:Nat->Bool,(∀x∈p,sp x.block=true)->DataW.TrodAll enc P W' 0 sp true f.params.toList args.toList (s.fn H (ds++[])).args p:=λsp hsp=>by
   rw[List.append_nil,hfn]
   exact kM hl hB sp hr hA hlt hsp
 have hvars:∀sp:Nat->Bool,DataW.TrodVars enc P W' sp s.vars (s.fn H (ds++[])).vars []:=λsp=>by
   rw[List.append_nil,hfn,hv]
   rfl
 refine⟨ds,[],p,[],p,[],hW0,hres _ _ _,hargs _ (λx hx=>by simpa using hlt x hx),hvars _,World.keptBut_mono (λx hx=>⟨hx,Or.inr (by simpa using hx)⟩) (hB.frame _),λ_=>?_⟩
 refine⟨?_,_,_,([]++p)++[],⟨[]++p,[],trodAll_append (hargs _ (λ_ _=>rfl)) (hres _ _ _),hvars _,rfl,?_,?_⟩,?_⟩
 · exact ok_one hrt rfl (okWide_bool_mk htb true)
 · intro b off hp
   have hp':MemPlace.cell b off∈p:=by simpa using hp
   rw[hB.frozen (p:=⟨b,off,none⟩) (hlt _ hp')]
   exact hfz b off hp'
 · intro ha;cases ha
 · intro x hx _
   simpa using hx
end TL
