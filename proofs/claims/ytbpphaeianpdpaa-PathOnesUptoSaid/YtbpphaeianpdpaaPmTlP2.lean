/- Plain texts of this claim, part 2. By an AI agent. -/
import Derived.Test.YtbpphaeianpdpaaPmTlP1
import Derived.Carry
import Derived.Deep.Slices
import Derived.Lib.SmallJoins
import Derived.RowKit
import Derived.Shelf.SlSortCmp.Whole1
import Derived.Shelf.Sort.Plain
/-
  TlDij: what the document's From comes to: each length is that of the way found; no half-edge of a reached node leads nearer.
  By an AI agent.
-/
set_option linter.all false
namespace TL
abbrev hf(g:aM)(h:Int):Prop:=0<=h/\h<2*(g.2.length:Int)
abbrev nd(g:aM)(v:Int):Prop:=0<=v/\v<g.1
abbrev zw(ws:List Nat)(h:Int):Nat:=zf (gI ws (h/2))
structure kE(g:aM)(ws:List Nat)(s:Int)(far:List Nat)(by_:List Int)(se:List Bool)(rk:Int->Nat)(n:Nat)(p:Int)(done:List Int):Prop where
 lf:(far.length:Int)=g.1
 lb:(by_.length:Int)=g.1
 ls:(se.length:Int)=g.1
 nn:∀v,nd g v->gI far v<=az
 s0:gI far s=0
 sb:gI by_ s= -1
 tr:∀v,nd g v->gI by_ v≠-1->hf g (gI by_ v)/\cA g (gI by_ v)=v/\gI se (aT g (gI by_ v))=true/\gI far v=aU (gI far (aT g (gI by_ v))) (zw ws (gI by_ v))/\gI far v<az
 rt:∀v,nd g v->gI by_ v= -1->v=s\/gI far v=az
 rx:∀h,hf g h->gI se (aT g h)=true->(aT g h=p->h∈done)->zw ws h=az\/gI far (cA g h)<=aU (gI far (aT g h)) (zw ws h)
 sp:∀u v,nd g u->nd g v->gI se u=true->gI se v=false->gI far u<=gI far v
 sf:∀u,nd g u->gI se u=true->gI far u<az
 ro:∀v,nd g v->gI se v=true->gI by_ v≠-1->rk (aT g (gI by_ v))<rk v
 rn:∀v,nd g v->gI se v=true->rk v<n
 cn:n+eJ se=g.1.toNat
variable{g:aM}{ws:List Nat}{s p:Int}{far:List Nat}{by_:List Int}{se:List Bool}{rk:Int->Nat}{n:Nat}{done:List Int}
theorem rF(hw:∀x∈ws,dS x)(hl:ws.length=g.2.length){h:Int}(hh:hf g h):zw ws h<=az:=(gn (pX hw hl hh.1 hh.2)).1
theorem kE.start(hm:aY g)(h0:nd g s):kE g ws s (ci g.1.toNat s).1 (ci g.1.toNat s).2 (List.replicate g.1.toNat false) (λ_=>0) 0 (-1) []:=by
 obtain⟨m1,m2,m3,m4⟩:=hm
 obtain⟨s0,s1⟩:=h0
 have hf':∀v:Int,nd g v->gI (ci g.1.toNat s).1 v=if v=s then 0 else az:=by
   intro v hv
   unfold ci
   rw[bx s0 (by simp;omega) hv.1]
   by_cases e:v=s
   · rw[if_pos e,if_pos e]
   · rw[if_neg e,if_neg e,dC hv.1 (by have:=hv.2;omega)]
 have hb:∀v:Int,nd g v->gI (ci g.1.toNat s).2 v= -1:=λv hv=>dC hv.1 (by have:=hv.2;omega)
 have hs:∀v:Int,nd g v->gI (List.replicate g.1.toNat false) v=false:=λv hv=>dC hv.1 (by have:=hv.2;omega)
 refine⟨by simp[ci];omega,by simp[ci];omega,by simp;omega,λv hv=>?_,by rw[hf' s ⟨s0,s1⟩,if_pos rfl],hb s ⟨s0,s1⟩,λv hv k=>absurd (hb v hv) k,λv hv _=>?_,λh hh k=>?_,λu v hu _ k=>?_,λu hu k=>?_,λv hv k=>?_,λv hv k=>?_,?_⟩
 · rw[hf' v hv];split
   · exact Nat.zero_le _
   · exact Nat.le_refl _
 · by_cases e:v=s
   · exact .inl e
   · right;rw[hf' v hv,if_neg e]
 · rw[hs _ (bS ⟨m1,m2,m3,m4⟩ hh.1 hh.2)] at k;cases k
 · rw[hs _ hu] at k;cases k
 · rw[hs _ hu] at k;cases k
 · rw[hs _ hv] at k;cases k
 · rw[hs _ hv] at k;cases k
 · unfold eJ;rw[List.count_replicate];simp
theorem kE.relax(hm:aY g)(hw:∀x∈ws,dS x)(hl:ws.length=g.2.length){d:Nat}{hh:Int}(h:kE g ws s far by_ se rk n p done)(hp:nd g p)(hps:gI se p=true)(hd:gI far p=d)(mx:∀u,nd g u->gI se u=true->gI far u<=d)
    (h0:hf g hh)(hf':aT g hh=p):kE g ws s (ch g ws d (far,by_) hh).1 (ch g ws d (far,by_) hh).2 se rk n p (hh::done)/\∀u,nd g u->gI se u=true->gI (ch g ws d (far,by_) hh).1 u=gI far u:=by
  have hz:=rF hw hl h0
  have ht:=fN hm h0.1 h0.2
  by_cases c1:zf (gI ws (hh/2))=az
  · have e:ch g ws d (far,by_) hh=(far,by_):=by unfold ch;rw[if_pos c1]
    rw[e]
    refine⟨{h with rx:=λx hx k1 k2=>?_},λ_ _ _=>rfl⟩
    by_cases c:x=hh
    · subst c;exact .inl c1
    · exact h.rx x hx k1 (λk=>(List.mem_cons.1 (k2 k)).resolve_left c)
  by_cases c2:aU d (zf (gI ws (hh/2)))<gI far (cA g hh)
  · have e:ch g ws d (far,by_) hh=(far.set (cA g hh).toNat (aU d (zf (gI ws (hh/2)))),by_.set (cA g hh).toNat hh):=by unfold ch;rw[if_neg c1,if_pos c2]
    rw[e]
    show kE g ws s (far.set (cA g hh).toNat (aU d (zw ws hh))) (by_.set (cA g hh).toNat hh) se rk n p (hh::done)/\∀u,nd g u->gI se u=true->gI (far.set (cA g hh).toNat (aU d (zw ws hh))) u=gI far u
    have hdle:d<=az:=by rw[<-hd];exact h.nn p hp
    have hge:d<=aU d (zw ws hh):=qu hdle hz
    have hlt:aU d (zw ws hh)<az:=Nat.lt_of_lt_of_le c2 (h.nn _ ht)
    obtain⟨t,et⟩:∃t,t=cA g hh:=⟨_,rfl⟩
    obtain⟨x,ex⟩:∃x,x=aU d (zw ws hh):=⟨_,rfl⟩
    rw[<-et] at c2 ht ⊢
    change aU d (zw ws hh)<gI far t at c2
    rw[<-ex] at c2 hge hlt ⊢
    have hts:gI se t=false:=by
      cases hc:gI se t with
      |false=>rfl
      |true=>have:=mx t ht hc;omega
    have gf:∀v,0<=v->gI (far.set t.toNat x) v=if v=t then x else gI far v:=λv v0=>bx ht.1 (by have:=h.lf;have:=ht.2;omega) v0
    have gb:∀v,0<=v->gI (by_.set t.toNat hh) v=if v=t then hh else gI by_ v:=λv v0=>bx ht.1 (by have:=h.lb;have:=ht.2;omega) v0
    have keep:∀u,nd g u->gI se u=true->gI (far.set t.toNat x) u=gI far u:=by
      intro u hu k
      rw[gf u hu.1,if_neg]
      intro c;rw[c,hts] at k;cases k
    have hsne:0<=s->¬s=t:=by
      intro s0 c
      have:=h.s0
      rw[c] at this;omega
    refine⟨⟨by rw[List.length_set];exact h.lf,by rw[List.length_set];exact h.lb,h.ls,λv hv=>?_,?_,?_,λv hv k=>?_,λv hv k=>?_,λy hy k1 k2=>?_,λu v hu hv k1 k2=>?_,λu hu k=>?_,λv hv k1 k2=>?_,h.rn,h.cn⟩,keep⟩
    · rw[gf v hv.1];split
      · omega
      · exact h.nn v hv
    · rcases Int.lt_or_le s 0 with c|c
      · have e1:s.toNat=0:=by omega
        have:gI (far.set t.toNat x) s=gI (far.set t.toNat x) 0:=by unfold gI;rw[e1];rfl
        have e3:gI far s=gI far 0:=by unfold gI;rw[e1];rfl
        have e4:¬(0:Int)=t:=by
          intro c0
          have:=h.s0
          rw[e3,c0] at this;omega
        rw[this,gf 0 (Int.le_refl _),if_neg e4,<-e3];exact h.s0
      · rw[gf s c,if_neg (hsne c)];exact h.s0
    · rcases Int.lt_or_le s 0 with c|c
      · have e1:s.toNat=0:=by omega
        have:gI (by_.set t.toNat hh) s=gI (by_.set t.toNat hh) 0:=by unfold gI;rw[e1];rfl
        have e3:gI far s=gI far 0:=by unfold gI;rw[e1];rfl
        have e5:gI by_ s=gI by_ 0:=by unfold gI;rw[e1];rfl
        have e4:¬(0:Int)=t:=by
          intro c0
          have:=h.s0
          rw[e3,c0] at this;omega
        rw[this,gb 0 (Int.le_refl _),if_neg e4,<-e5];exact h.sb
      · rw[gb s c,if_neg (hsne c)];exact h.sb
    · rw[gb v hv.1] at k ⊢
      rw[gf v hv.1]
      by_cases c:v=t
      · rw[if_pos c,if_pos c]
        refine⟨h0,by rw[c,et],by rw[hf'];exact hps,?_,hlt⟩
        rw[hf',keep p hp hps,hd];exact ex
      · rw[if_neg c] at k ⊢
        rw[if_neg c]
        obtain⟨a1,a2,a3,a4,a5⟩:=h.tr v hv k
        refine⟨a1,a2,a3,?_,a5⟩
        rw[keep _ (bS hm a1.1 a1.2) a3];exact a4
    · rw[gb v hv.1] at k
      rw[gf v hv.1]
      by_cases c:v=t
      · rw[if_pos c] at k;have:=h0.1;omega
      · rw[if_neg c] at k ⊢;exact h.rt v hv k
    · have hfy:=bS hm hy.1 hy.2
      have hty:=fN hm hy.1 hy.2
      rw[keep _ hfy k1,gf _ hty.1]
      by_cases c:y=hh
      · subst c
        right
        rw[if_pos et.symm,hf',hd,ex];exact Nat.le_refl _
      · rcases h.rx y hy k1 (λk=>(List.mem_cons.1 (k2 k)).resolve_left c) with a|a
        · exact .inl a
        · right
          split
          · rename_i e2;rw[e2] at a;omega
          · exact a
    · rw[keep u hu k1,gf v hv.1]
      split
      · have:=mx u hu k1;omega
      · exact h.sp u v hu hv k1 k2
    · rw[keep u hu k];exact h.sf u hu k
    · have c:¬v=t:=by intro c;rw[c,hts] at k1;cases k1
      rw[gb v hv.1,if_neg c] at k2 ⊢
      exact h.ro v hv k1 k2
  · have e:ch g ws d (far,by_) hh=(far,by_):=by unfold ch;rw[if_neg c1,if_neg c2]
    rw[e]
    refine⟨{h with rx:=λx hx k1 k2=>?_},λ_ _ _=>rfl⟩
    by_cases c:x=hh
    · subst c
      right
      rw[hf',hd];exact Nat.le_of_not_lt c2
    · exact h.rx x hx k1 (λk=>(List.mem_cons.1 (k2 k)).resolve_left c)
theorem ia(hm:aY g)(hw:∀x∈ws,dS x)(hl:ws.length=g.2.length){d:Nat}(hp:nd g p)(hps:gI se p=true):∀(hs:List Int) (far:List Nat) (by_:List Int) (done:List Int),(∀x∈hs,hf g x/\aT g x=p)->gI far p=d->(∀u,nd g u->gI se u=true->gI far u<=d)->
   kE g ws s far by_ se rk n p done->∃done',kE g ws s (dV g ws d hs (far,by_)).1 (dV g ws d hs (far,by_)).2 se rk n p done'/\(∀x∈hs,x∈done')/\∀x∈done,x∈done'
 |[],far,by_,done,_,_,_,h=>⟨done,h,λx hx=>absurd hx List.not_mem_nil,λ_ hx=>hx⟩
 |y::hs,far,by_,done,hx,hd,mx,h=>by
   obtain⟨h1,k1⟩:=h.relax hm hw hl hp hps hd mx (hx y (List.mem_cons_self ..)).1 (hx y (List.mem_cons_self ..)).2
   have e:dV g ws d (y::hs) (far,by_)=dV g ws d hs ((ch g ws d (far,by_) y).1,(ch g ws d (far,by_) y).2):=rfl
   rw[e]
   obtain⟨done',a,b,c⟩:=ia hm hw hl hp hps hs _ _ (y::done) (λx k=>hx x (List.mem_cons_of_mem _ k)) ((k1 p hp hps).trans hd) (λu hu k=>by rw[k1 u hu k];exact mx u hu k) h1
   exact⟨done',a,λx k=>(List.mem_cons.1 k).elim (λk=>by rw[k];exact c _ (List.mem_cons_self ..)) (b x),λx k=>c x (List.mem_cons_of_mem _ k)⟩
theorem gU{far:List Nat}{se:List Bool}:∀k:Nat,¬bz far se k<0->dz far se (bz far se k)/\∀v:Nat,v<k->dz far se v->gI far (bz far se k)<=gI far v
  |0,h=>absurd (show(-1:Int)<0 by decide) h
  |k+1,h=>by
    unfold bz at h ⊢
    by_cases c:gI se (k:Int)=false/\gI far (k:Int)<az/\(bz far se k<0\/gI far (k:Int)<gI far (bz far se k))
    · rw[if_pos c]
      refine⟨⟨c.1,c.2.1⟩,λv hv w=>?_⟩
      by_cases e:v=k
      · rw[e];exact Nat.le_refl _
      by_cases c3:bz far se k<0
      · exfalso
        have h1:∀k:Nat,bz far se k<0->∀v:Nat,v<k->¬dz far se v:=by
          intro k
          induction k with
          |zero=>intro _ v hv;omega
          |succ k ih=>
            intro h v hv w
            unfold bz at h
            split at h
            · omega
            · rename_i d
              by_cases e:v=k
              · subst e;exact d ⟨w.1,w.2,.inl h⟩
              · exact ih h v (by omega) w
        exact h1 k c3 v (by omega) w
      · obtain⟨_,i2⟩:=gU k c3
        have:=i2 v (by omega) w
        have:=c.2.2.resolve_left c3
        omega
    · rw[if_neg c] at h ⊢
      obtain⟨i1,i2⟩:=gU k h
      refine⟨i1,λv hv w=>?_⟩
      by_cases e:v=k
      · subst e
        rcases Nat.lt_or_ge (gI far (v:Int)) (gI far (bz far se v)) with d|d
        · exact absurd ⟨w.1,w.2,.inr d⟩ c
        · exact d
      · exact i2 v (by omega) w
theorem jS{far:List Nat}{se:List Bool}:∀k:Nat,bz far se k<0->∀v:Nat,v<k->¬dz far se v
 |0,_,v,hv=>by omega
 |k+1,h,v,hv=>by
   intro w
   unfold bz at h
   split at h
   · omega
   · rename_i d
     by_cases e:v=k
     · subst e;exact d ⟨w.1,w.2,.inl h⟩
     · exact jS k h v (by omega) w
theorem kE.settle(hm:aY g)(h:kE g ws s far by_ se rk n (-1) [])(hp:nd g p)(hpw:dz far se p)(mn:∀v,nd g v->dz far se v->gI far p<=gI far v):kE g ws s far by_ (se.set p.toNat true) (λv=>if v=p then n else rk v) (n+1) p []/\gI (se.set p.toNat true) p=true/\∀u,nd g u->gI (se.set p.toNat true) u=true->gI far u<=gI far p:=by
 have gs:∀v,0<=v->gI (se.set p.toNat true) v=if v=p then true else gI se v:=λv v0=>bx hp.1 (by have:=h.ls;have:=hp.2;omega) v0
 have hps:gI se p=false:=hpw.1
 refine⟨⟨h.lf,h.lb,by rw[List.length_set];exact h.ls,h.nn,h.s0,h.sb,λv hv k=>?_,h.rt,λy hy k1 k2=>?_,λu v hu hv k1 k2=>?_,λu hu k=>?_,λv hv k1 k2=>?_,λv hv k=>?_,?_⟩,by rw[gs p hp.1,if_pos rfl],λu hu k=>?_⟩
 · obtain⟨a1,a2,a3,a4,a5⟩:=h.tr v hv k
   refine⟨a1,a2,?_,a4,a5⟩
   rw[gs _ (bS hm a1.1 a1.2).1];split
   · rfl
   · exact a3
 · have hfy:=bS hm hy.1 hy.2
   by_cases c:aT g y=p
   · exact absurd (k2 c) (by simp)
   · rw[gs _ hfy.1,if_neg c] at k1
     exact h.rx y hy k1 (λk=>by have:=hfy.1;omega)
 · rw[gs u hu.1] at k1
   rw[gs v hv.1] at k2
   have c2:¬v=p:=by intro c;rw[if_pos c] at k2;cases k2
   rw[if_neg c2] at k2
   by_cases c:u=p
   · rw[c]
     rcases Nat.lt_or_ge (gI far v) az with d|d
     · exact mn v hv ⟨k2,d⟩
     · exact Nat.le_trans (h.nn p hp) d
   · rw[if_neg c] at k1
     exact h.sp u v hu hv k1 k2
 · rw[gs u hu.1] at k
   by_cases c:u=p
   · rw[c];exact hpw.2
   · rw[if_neg c] at k;exact h.sf u hu k
 · obtain⟨a1,a2,a3,a4,a5⟩:=h.tr v hv k2
   have hfv:=bS hm a1.1 a1.2
   have c1:¬aT g (gI by_ v)=p:=by intro c;rw[c,hps] at a3;cases a3
   show(if aT g (gI by_ v)=p then n else rk (aT g (gI by_ v)))<if v=p then n else rk v
   rw[if_neg c1]
   by_cases c:v=p
   · rw[if_pos c];exact h.rn _ hfv a3
   · rw[if_neg c]
     rw[gs v hv.1,if_neg c] at k1
     exact h.ro v hv k1 k2
 · show(if v=p then n else rk v)<n+1
   split
   · omega
   · rename_i c
     rw[gs v hv.1,if_neg c] at k
     have:=h.rn v hv k;omega
 · have:=g5 (se:=se) (u:=p.toNat) (by have:=h.ls;have:=hp.2;have:=hp.1;omega) (by rw[Int.toNat_of_nonneg hp.1];exact hps)
   have:=h.cn
   omega
 · rw[gs u hu.1] at k
   by_cases c:u=p
   · rw[c];exact Nat.le_refl _
   · rw[if_neg c] at k
     exact h.sp u p hu hp k hps
structure i6(g:aM)(ws:List Nat)(s:Int)(far:List Nat)(by_:List Int)(rk:Int->Nat):Prop where
  lf:(far.length:Int)=g.1
  lb:(by_.length:Int)=g.1
  nn:∀v,nd g v->gI far v<=az
  s0:gI far s=0
  sb:gI by_ s= -1
  tr:∀v,nd g v->gI by_ v≠-1->hf g (gI by_ v)/\cA g (gI by_ v)=v/\gI far (aT g (gI by_ v))<az/\gI far v=aU (gI far (aT g (gI by_ v))) (zw ws (gI by_ v))/\gI far v<az/\rk (aT g (gI by_ v))<rk v
  rt:∀v,nd g v->gI by_ v= -1->v=s\/gI far v=az
  rx:∀h,hf g h->gI far (aT g h)<az->zw ws h=az\/gI far (cA g h)<=aU (gI far (aT g h)) (zw ws h)
  rn:∀v,nd g v->gI far v<az->rk v<=g.1.toNat
theorem qC(hm:aY g)(hw:∀x∈ws,dS x)(hl:ws.length=g.2.length):∀(f:Nat) (far:List Nat) (by_:List Int) (se:List Bool) (rk:Int->Nat) (n:Nat),eJ se<=f->kE g ws s far by_ se rk n (-1) []->∃rk',i6 g ws s (hZ g ws f (far,by_) se).1 (hZ g ws f (far,by_) se).2 rk':=by
 have fin:∀(far:List Nat) (by_:List Int) (se:List Bool) (rk:Int->Nat) (n:Nat),kE g ws s far by_ se rk n (-1) []->(∀v:Nat,v<g.1.toNat->¬dz far se v)->i6 g ws s far by_ rk:=by
   intro far by_ se rk n h nw
   have st:∀v,nd g v->gI far v<az->gI se v=true:=by
     intro v hv k
     cases hc:gI se v with
     |true=>rfl
     |false=>
       obtain⟨u,hu⟩:∃u:Nat,v=u:=⟨v.toNat,by have:=hv.1;omega⟩
       exact absurd (show dz far se u from⟨by rw[<-hu];exact hc,by rw[<-hu];exact k⟩) (nw u (by have:=hv.2;omega))
   refine⟨h.lf,h.lb,h.nn,h.s0,h.sb,λv hv k=>?_,h.rt,λy hy k=>?_,λv hv k=>?_⟩
   · obtain⟨a1,a2,a3,a4,a5⟩:=h.tr v hv k
     exact⟨a1,a2,h.sf _ (bS hm a1.1 a1.2) a3,a4,a5,h.ro v hv (st v hv a5) k⟩
   · have hfy:=bS hm hy.1 hy.2
     exact h.rx y hy (st _ hfy k) (λk=>by have:=hfy.1;omega)
   · have:=h.rn v hv (st v hv k)
     have:=h.cn;omega
 intro f
 induction f with
 |zero=>
   intro far by_ se rk n hu h
   refine⟨rk,fin far by_ se rk n h (λv hv w=>?_)⟩
   have:=h.ls
   have:=g5 (by omega) w.1
   omega
 |succ f ih=>
   intro far by_ se rk n hu h
   unfold hZ
   by_cases c:bz (far,by_).1 se g.1.toNat<0
   · rw[if_pos c]
     exact⟨rk,fin far by_ se rk n h (jS _ c)⟩
   · rw[if_neg c]
     show∃rk',i6 g ws s (hZ g ws f (dV g ws (gI far (bz far se g.1.toNat)) (gI (af g) (bz far se g.1.toNat)) (far,by_)) (se.set (bz far se g.1.toNat).toNat true)).1 _ rk'
     change¬bz far se g.1.toNat<0 at c
     obtain⟨w,mn⟩:=gU _ c
     have hlt:=jb far se g.1.toNat
     obtain⟨p,ep⟩:∃p,p=bz far se g.1.toNat:=⟨_,rfl⟩
     rw[<-ep] at c w mn hlt ⊢
     have hp:nd g p:=⟨by omega,by have:=hm.1;omega⟩
     obtain⟨h1,h2,h3⟩:=h.settle hm hp w (λv hv k=>by
       have:=mn v.toNat (by have:=hv.1;have:=hv.2;omega)
       rw[Int.toNat_of_nonneg hv.1] at this
       exact this k)
     obtain⟨done',a,b,_⟩:=ia hm hw hl (d:=gI far p) hp h2 (gI (af g) p) far by_ [] (λx hx=>by
       obtain⟨k,hk,e⟩:=List.mem_iff_getElem.1 hx
       have:=ju hm hp.1 hp.2 (k:=k) (by omega)
       have e2:gI (gI (af g) p) (k:Int)=x:=by
         rw[<-e]
         generalize gI (af g) p=L at hk
         simp[gI,hk]
       rw[e2] at this
       exact⟨⟨this.1,this.2.1⟩,this.2.2⟩) rfl h3 h1
     refine ih _ _ _ (λv=>if v=p then n else rk v) (n+1) ?_ {a with rx:=λy hy k1 _=>a.rx y hy k1 (λk=>b y ?_)}
     · have:=g5 (se:=se) (u:=p.toNat) (by have:=h.ls;have:=hp.2;omega) (by rw[Int.toNat_of_nonneg hp.1];exact w.1)
       omega
     · rw[gZ hp.1 hp.2]
       unfold cS dN
       refine List.mem_filter.2 ⟨List.mem_map.2 ⟨y.toNat,List.mem_range.2 (by have:=hy.1;have:=hy.2;omega),Int.toNat_of_nonneg hy.1⟩,decide_eq_true k⟩
theorem pr(hm:aY g)(hw:∀x∈ws,dS x)(hl:ws.length=g.2.length)(hs:nd g s):∃rk,i6 g ws s (fV g ws s).1 (fV g ws s).2 rk:=by
 unfold fV
 exact qC hm hw hl g.1.toNat (ci g.1.toNat s).1 (ci g.1.toNat s).2 _ _ 0 (by unfold eJ;rw[List.count_replicate];simp) (kE.start hm hs)
end TL
/-
  TlDij2: the ways that lead back: their halves follow one another, and their weights come to the length that is told; no half-edge leads nearer.
  By an AI agent.
-/
set_option linter.all false
namespace TL
variable{g:aM}{ws:List Nat}{s:Int}{far:List Nat}{by_:List Int}{rk:Int->Nat}
theorem iu{g:aM}{ws:List Nat}{s:Int}(h:(av g ws s).2=0):aY g/\ws.length=g.2.length/\(∀x∈ws,dS x)/\nd g s/\∃rk,i6 g ws s (av g ws s).1.1 (av g ws s).1.2 rk:=by
  by_cases c:dd g ws=0
  · by_cases c2:0<=s/\s<g.1
    · obtain⟨m,l,w⟩:=qh c
      rw[jg c c2] at h ⊢
      exact⟨m,l,w,c2,pr m w l c2⟩
    · rw[gM c c2] at h;exact absurd h (by decide)
  · rw[kw c] at h;exact absurd h c
end TL
namespace TL
variable{g:aM}{ws:List Nat}{s:Int}{far:List Nat}{by_:List Int}{rk:Int->Nat}
theorem q4{x:Nat}(h:x<=az):ck x 9218868437227405311=decide (x=az):=by rw[k8 (kT h),pN h]
end TL
namespace TL
variable{g:aM}{ws:List Nat}{s:Int}{rk:Int->Nat}{x:FS}
end TL
/-
  TlOpen: arguments opened: what a law's reader says of a slice is what a walk wants of it.
  By an AI agent.
-/
namespace TL
open Go Go.Proofs Go.ChangeShapes Go.WideShapes Go.Joins Go.Deep
structure j8{H:Type}(f:DataW H->Nat):Prop where
 slice:∀l s:List (DataW H),l.length<=f (.slice l s)
 elem:∀l s:List (DataW H),∀d∈l,f d<=f (.slice l s)
 part:∀l:List (DataW H),∀d∈l,f d<=f (.agg l)
def lF(α:Type)[Rp α](P:Program)(t:TypeId):Prop:=
  ∀{H:Type} (enc:TypeId×Value->H) (w:World) (fuel:Nat) (cs:List Value) (x:DataW H×List MemPlace),DataW.trod enc P w 0 (λ_=>true) true fuel t cs=some x->∃y:α,Rp.rep c0 any w cs y
theorem kR{P:Program}{t:TypeId}(ht:P.underlying t=some (.int .i64)):lF Int P t:=by
 intro H enc w fuel cs x h
 obtain⟨n,rfl,_,_⟩:=DataW.trod_int ht h
 exact⟨n,rfl⟩
theorem jI{H:Type}{enc:TypeId×Value->H}{P:Program}{w:World}{base:Nat}{spare:Nat->Bool}{held:Bool}{t e:TypeId}{fuel:Nat}{cs:List Value}{x:DataW H×List MemPlace}(ht:P.underlying t=some (.array 2 e))(hce:P.cellsOf e=1)(hct:P.cellsOf t=2)
   (h:DataW.trod enc P w base spare held fuel t cs=some x):
   ∃v0 v1 y0 y1 n,cs=[v0,v1]/\x=(.agg [y0.1,y1.1],y0.2++y1.2)/\DataW.trod enc P w base spare held n e [v0]=some y0/\DataW.trod enc P w base spare held n e [v1]=some y1:=by
 cases fuel with
 |zero=>simp[DataW.trod] at h
 |succ n=>
   unfold DataW.trod at h
   rw[ht] at h
   have r2:List.range 2=[0,1]:=rfl
   simp only[hct] at h
   by_cases hl:cs.length=2
   · rw[if_pos hl] at h
     match cs,hl with
     |[v0,v1],_=>
       simp[r2,hce] at h
       cases h0:DataW.trod enc P w base spare held n e [v0] with
       |none=>simp[h0] at h
       |some y0=>
         cases h1:DataW.trod enc P w base spare held n e [v1] with
         |none=>simp[h0,h1] at h
         |some y1=>
           simp[h0,h1] at h
           exact⟨v0,v1,y0,y1,n,rfl,h.symm,h0,h1⟩
   · rw[if_neg hl] at h;cases h
theorem nG{P:Program}{t e:TypeId}(ht:P.underlying t=some (.array 2 e))(he:P.underlying e=some (.int .i64))(hce:P.cellsOf e=1)(hct:P.cellsOf t=2):lF (Int×Int) P t:=by
 intro H enc w fuel cs x h
 obtain⟨v0,v1,y0,y1,n,rfl,_,h0,h1⟩:=jI ht hce hct h
 obtain⟨a,ha⟩:=kR he enc w n [v0] y0 h0
 obtain⟨b,hb⟩:=kR he enc w n [v1] y1 h1
 exact⟨(a,b),[v0],[v1],rfl,ha,hb⟩
theorem im{α:Type}[Rp α][Inhabited α]{P:Program}{t e:TypeId}(ht:P.underlying t=some (.slice e))(hc:P.cellsOf e=Rp.sz α)(hz:0<Rp.sz α)(he:lF α P e)
    {H:Type}{enc:TypeId×Value->H}{w:World}{f:DataW H->Nat}(hf:j8 f){fuel:Nat}{v:Value}{x:DataW H×List MemPlace}
    (hs:∀a len cap,v= .slice (some a) len cap->a.spot=none)(h:DataW.trod enc P w 0 (λ_=>true) true fuel t [v]=some x)(hb:f x.1<=1048576):∃xs:List α,Ro w v xs:=by
  rcases Deep.open_slice ht h with⟨h0,_⟩|⟨a,len,cap,m,n,D,Pl,h0,_,hlc,_,hm,rfl,hx⟩
  · obtain rfl:v= .slice none 0 0:=by simpa using h0
    exact⟨[],.inl ⟨⟨_,rfl⟩,rfl⟩⟩
  · obtain rfl:v= .slice (some a) len cap:=by simpa using h0
    have hsp:=hs a len cap rfl
    obtain⟨b,off,spot⟩:=a
    obtain rfl:spot=none:=hsp
    simp only[if_true] at hm
    subst hm
    obtain⟨Y,hY⟩:=Deep.choose_lt (α:=α) (n:=len) (p:=λi y=>∃cs,(∀j,j<Rp.sz α->w.cell? ⟨b,off+i*Rp.sz α+j,none⟩=cs[j]?)/\Rp.rep c0 any w cs y) (λi hi=>by
      obtain⟨cs',h1,h2⟩:=hx i (by omega)
      obtain⟨y,hy⟩:=he enc w n cs' _ h2
      refine⟨y,cs',λj hj=>?_,hy⟩
      obtain⟨_,hl,hcell⟩:=World.cells?_some h1
      have:=hcell j (by omega)
      rw[Deep.add_add,hc] at this
      rw[<-this]
      unfold Addr.add
      by_cases hij:i*Rp.sz α+j=0
      · rw[if_pos hij,Nat.add_assoc,hij];rfl
      · rw[if_neg hij,Nat.add_assoc])
    have hlen:((List.range len).map Y).length=len:=by simp
    have hbound:=Nat.le_trans (hf.slice _ _) hb
    refine⟨(List.range len).map Y,.inr ⟨b,off,m,by rw[hlen],⟨by omega,by simp at hbound;omega⟩,λi y hi=>?_⟩⟩
    have hil:i<len:=by
      have:=(List.getElem?_eq_some_iff.1 hi).1
      omega
    obtain rfl:Y i=y:=by simpa[hil] using hi
    obtain⟨cs,h1,h2⟩:=hY i hil
    refine⟨?_,trivial,cs,h1,h2⟩
    have h3:=h1 0 hz
    have h4:=Rp.len h2
    have h5:0<cs.length:=by omega
    rw[List.getElem?_eq_getElem h5] at h3
    by_cases hbl:b<w.heap.size
    · exact hbl
    · have:w.heap[b]? =none:=Array.getElem?_eq_none (by omega)
      simp[World.cell?,this] at h3
theorem fk{P:Program}{w:World}{base:Nat}{t e:TypeId}{v:Value}(ht:P.underlying t=some (.slice e))(h:Cell.okWide P w .any base t v):∀a len cap,v= .slice (some a) len cap->a.spot=none:=by
 rintro a len cap rfl
 simp only[Cell.okWide,Cell.ok,ht] at h
 exact h.2.2.2.1
theorem lz{α:Type}[Rp α][Inhabited α]{P:Program}{t e:TypeId}(ht:P.underlying t=some (.slice e))(hc:P.cellsOf e=Rp.sz α)(hz:0<Rp.sz α)(he:lF α P e)
    {H:Type}{enc:TypeId×Value->H}{w:World}{f:DataW H->Nat}(hf:j8 f){base:Nat}{v:Value}{d:DataW H}{p:List MemPlace}
    (hval:Value.okWide P w .any base t v)(h:DataW.Trod enc P w 0 (λ_=>true) true t v d p)(hb:f d<=1048576):∃xs:List α,Ro w v xs:=by
  obtain⟨a,len,cap,rfl⟩:=okWide_slice ht hval
  obtain⟨fuel,hfu⟩:=h
  refine im ht hc hz he hf (fk (w:=w) (base:=base) ht ?_) (x:=(d,p)) hfu hb
  simpa[Value.okWide,ht] using hval
theorem nW{α:Type}[Rp α][Inhabited α]{P:Program}{t t0 t1 e:TypeId}{f0 f1:Field}(hs:P.underlying t=some (.struct #[f0,f1]))(hone:oneCellFields P #[f0,f1]=true)(hC:P.cellsOf t=2)(hts:P.cellTypes P.depth t=some [t0,t1])
    (h0:f0.type=t0)(h1:f1.type=t1)(hi:P.underlying t0=some (.int .i64))(ht:P.underlying t1=some (.slice e))(hc:P.cellsOf e=Rp.sz α)(hz:0<Rp.sz α)(he:lF α P e)
    {H:Type}{enc:TypeId×Value->H}{w:World}{f:DataW H->Nat}(hf:j8 f){base:Nat}{v:Value}{d:DataW H}{p:List MemPlace}
    (hval:Value.okWide P w .any base t v)(h:DataW.Trod enc P w 0 (λ_=>true) true t v d p)(hb:f d<=1048576):∃(n:Int) (u:Value) (xs:List α),v= .agg #[.int .i64 n,u]/\Ro w u xs:=by
  obtain⟨v0,v1,y0,y1,n,rfl,rfl,rfl,r0,r1⟩:=open_agg2 hs hone hC hval h
  subst h0 h1
  obtain⟨k,hk,_,_⟩:=DataW.trod_int hi r0
  obtain rfl:v0= .int .i64 k:=by simpa using hk
  have hcell:Cell.okWide P w .any base f1.type v1:=by
    simp only[Value.okWide,hs] at hval
    obtain⟨cs,hcs,_,ts,h3,_,h4⟩:=hval
    rw[hts] at h3
    obtain rfl:=Option.some.inj h3
    obtain rfl: #[Value.int .i64 k,v1]=cs:=by simpa using hcs
    obtain⟨u,hu,hk⟩:=h4 1 v1 rfl
    simp at hu
    subst hu
    exact hk
  obtain⟨xs,hx⟩:=im ht hc hz he hf (fk ht hcell) (x:=y1) r1 (Nat.le_trans (hf.part _ _ (by simp)) hb)
  exact⟨k,v1,xs,rfl,hx⟩
end TL
/-
  TlCyc: lists gone round: what stands behind what; rotations turned, and moved.
  By an AI agent.
-/
set_option linter.all false
namespace TL
def sn(l:List Int)(h:Int):Int:=gI l ((((l.idxOf h:Nat):Int)+1)%(l.length:Int))
section
variable{g:aM}{r:kg}{to:List Int}
end
end TL
/-
  TlJudge4: directions around a point; a plot turned by a quarter; the example's rotation.
  By an AI agent.
-/
set_option linter.all false
namespace TL
section
variable{u v w:Pt}
end
section
variable{p:hF}{o:Pt}{l:List Int}
end
section
variable{u v:Pt}{i k:Int}
def rz(u:Pt):Prop:=0<=u.1/\0<u.2
instance (u:Pt):Decidable (rz u):=by unfold rz;infer_instance
end
section
variable{o:Pt}{ps:List Pt}
end
end TL
/-
  TlJTr: plots moved as a whole: their flaws.
  By an AI agent.
-/
set_option linter.all false
namespace TL
section
variable{T:Pt->Pt}{D:Pt->Prop}{g:aM}{p:hF}{l a b but:List Pt}{q:Pt}{i k:Nat}
end
section
variable{g:aM}{p:hF}
end
def r8(p:hF):Nat->Int
 |0=>(p.1.length:Int)
 |k+1=>r8 p k+((gI p.2 (k:Int)).length:Int)+1
def mB(g:aM)(p:hF):Prop:=r8 p p.2.length<=400/\(¬aY g\/g.1<=30/\(g.2.length:Int)<=40)
instance (g:aM)(p:hF):Decidable (mB g p):=by unfold mB;infer_instance
end TL
namespace TL
section
variable{g:aM}{p:hF}{l r:List Pt}{L:List (List Pt)}{k e:Nat}
end
end TL
namespace TL
section
variable{α:Type}[Inhabited α][DecidableEq α]{a b:List α}{k:Nat}
end
section
variable{g:aM}{p:hF}{n:Int}{e:Nat}
end
end TL
/-
  TlWord: words and bytes in memory (a list of uint64, a list of uint8), and how a statement's argument of them is opened.
  By an AI agent.
-/
set_option linter.all false
namespace TL
open Go Go.Proofs Go.ChangeShapes Go.WideShapes Go.Joins Go.Deep
structure Wd where
  n:Nat
  lt:n<18446744073709551616
instance:Inhabited Wd:=⟨⟨0,by decide⟩⟩
instance:Rp Wd where
 sz:=1
 rep _ _ _ cs x:=cs=[.int .u64 (x.n:Int)]
 len h:=by subst h;rfl
 one h:=by subst h;simp[Value.oneCell']
 tr _ _ h:=h
instance:Fl Wd where
 cells x:=[.int .u64 (x.n:Int)]
 rep_iff:=Iff.rfl
structure Bt where
  n:Nat
  lt:n<256
instance:Inhabited Bt:=⟨⟨0,by decide⟩⟩
instance:Rp Bt where
 sz:=1
 rep _ _ _ cs x:=cs=[.int .u8 (x.n:Int)]
 len h:=by subst h;rfl
 one h:=by subst h;simp[Value.oneCell']
 tr _ _ h:=h
instance:Fl Bt where
 cells x:=[.int .u8 (x.n:Int)]
 rep_iff:=Iff.rfl
end TL
namespace TL
open Go Go.Proofs Go.ChangeShapes Go.WideShapes Go.Joins Go.Deep
theorem ns{P:Program}{t:TypeId}(ht:P.underlying t=some .bool):lF Bool P t:=by
 intro H enc w fuel cs x h
 obtain⟨n,rfl,_⟩:=DataW.trod_bool ht h
 exact⟨n,rfl⟩
end TL
namespace TL
open Go
end TL
/-
  TlDij3: lengths of small whole weights: one way and another compared.
  By an AI agent.
-/
set_option linter.all false
namespace TL
theorem lS{x:Nat}(hx:x<=az):aU x az=az:=by
 rcases Nat.lt_or_ge x az with c|c
 · unfold aU Ieee.Format.add
   rw[cm c,cZ]
   rfl
 · obtain rfl:x=az:=Nat.le_antisymm hx c
   decide
def nz(C:Nat)(g:aM)(ws:List Nat):Prop:=∀h,hf g h->zw ws h=az\/∃c,c<=C/\zw ws h=c8 c
variable{g g1 g2:aM}{ws w1 w2:List Nat}{s s1 s2:Int}{far f1 f2:List Nat}{by_ b1 b2:List Int}{rk r1 r2:Int->Nat}{C:Nat}
theorem i6.wfin(E:i6 g ws s far by_ rk)(hw:nz C g ws){v:Int}(hv:nd g v)(hb:gI by_ v≠-1):∃c,c<=C/\zw ws (gI by_ v)=c8 c:=by
 obtain⟨a1,a2,a3,a4,a5,a6⟩:=E.tr v hv hb
 rcases hw _ a1 with k|k
 · rw[k,lS (Nat.le_of_lt a3)] at a4;omega
 · exact k
theorem i6.whole(hm:aY g)(E:i6 g ws s far by_ rk)(hw:nz C g ws)(hC:C<=255):∀(f:Nat) (v:Int),nd g v->gI far v<az->rk v<=f->∃n,n<=C*rk v/\gI far v=c8 n:=by
  intro f
  induction f with
  |zero=>
    intro v hv hlt hr
    by_cases hb:gI by_ v= -1
    · have e:=(E.rt v hv hb).resolve_right (by omega)
      exact⟨0,Nat.zero_le _,by rw[e,E.s0,ct]⟩
    · obtain⟨a1,a2,a3,a4,a5,a6⟩:=E.tr v hv hb
      omega
  |succ f ih=>
    intro v hv hlt hr
    by_cases hb:gI by_ v= -1
    · have e:=(E.rt v hv hb).resolve_right (by omega)
      exact⟨0,Nat.zero_le _,by rw[e,E.s0,ct]⟩
    · obtain⟨c,c1,c2⟩:=E.wfin hw hv hb
      obtain⟨a1,a2,a3,a4,a5,a6⟩:=E.tr v hv hb
      have hu:=bS hm a1.1 a1.2
      obtain⟨n,n1,n2⟩:=ih (aT g (gI by_ v)) hu a3 (by omega)
      have hrn:=E.rn _ hu a3
      have hN:=hm.2.1
      have hb1:C*rk (aT g (gI by_ v))+C<=C*rk v:=by
        have:C*(rk (aT g (gI by_ v))+1)<=C*rk v:=Nat.mul_le_mul_left _ a6
        rw[Nat.mul_add,Nat.mul_one] at this;exact this
      have hb2:C*rk (aT g (gI by_ v))<=255*1024:=Nat.mul_le_mul hC (by omega)
      refine⟨n+c,by omega,?_⟩
      rw[a4,n2,c2,dP (by omega)]
theorem i6.wh(hm:aY g)(E:i6 g ws s far by_ rk)(hw:nz C g ws)(hC:C<=255){v:Int}(hv:nd g v)(hlt:gI far v<az):∃n,n<=C*rk v/\n<=261120/\gI far v=c8 n:=by
 obtain⟨n,h1,h2⟩:=E.whole hm hw hC (rk v) v hv hlt (Nat.le_refl _)
 have:=E.rn v hv hlt
 have:=hm.2.1
 have h3:C*rk v<=255*1024:=Nat.mul_le_mul hC (by omega)
 exact⟨n,h1,by omega,h2⟩
theorem jG{x n:Nat}(h:x<=c8 n)(hn:n<9007199254740992):x<az:=Nat.lt_of_le_of_lt h (cN hn)
theorem ry(m1:aY g1)(m2:aY g2)(E1:i6 g1 w1 s1 f1 b1 r1)(E2:i6 g2 w2 s2 f2 b2 r2)(hN:g1.1=g2.1)(t1:nz C g1 w1)(t2:nz C g2 w2)(hC:C<=255)
    (hmap:∀h,hf g1 h->zw w1 h<az->∃h',hf g2 h'/\aT g2 h'=aT g1 h/\cA g2 h'=cA g1 h/\zw w2 h'=zw w1 h){n:Nat}(hn:n<=261120)(h0:gI f2 s1=c8 n):
    ∀(f:Nat) (v:Int) (m:Nat),nd g1 v->gI f1 v=c8 m->m<=261120->r1 v<=f->gI f2 v<=c8 (n+m):=by
  intro f
  induction f with
  |zero=>
    intro v m hv hm' hm1 hr
    by_cases hb:gI b1 v= -1
    · have e:=(E1.rt v hv hb).resolve_right (λk=>by have:=cN (n:=m) (by omega);omega)
      rw[e,h0]
      exact gu (by omega) (by omega)
    · obtain⟨a1,a2,a3,a4,a5,a6⟩:=E1.tr v hv hb
      omega
  |succ f ih=>
    intro v m hv hm' hm1 hr
    by_cases hb:gI b1 v= -1
    · have e:=(E1.rt v hv hb).resolve_right (λk=>by have:=cN (n:=m) (by omega);omega)
      rw[e,h0]
      exact gu (by omega) (by omega)
    · obtain⟨c,c1,c2⟩:=E1.wfin t1 hv hb
      obtain⟨a1,a2,a3,a4,a5,a6⟩:=E1.tr v hv hb
      have hu:=bS m1 a1.1 a1.2
      obtain⟨k,k1,k2,k3⟩:=E1.wh m1 t1 hC hu a3
      have i1:=ih _ k hu k3 k2 (by omega)
      rw[k3,c2,dP (by omega),hm'] at a4
      have e:=mP (by omega) (by omega) a4
      obtain⟨h',p1,p2,p3,p4⟩:=hmap _ a1 (by rw[c2];exact cN (by omega))
      have hlt:=jG i1 (by omega)
      have hu2:nd g2 (aT g1 (gI b1 v)):=by rw[<-p2];exact bS m2 p1.1 p1.2
      obtain⟨q,q1,q2,q3⟩:=E2.wh m2 t2 hC hu2 hlt
      rw[q3] at i1
      have hq:q<=n+k:=by
        rcases Nat.lt_or_ge (n+k) q with d|d
        · have:=gv (by omega) d;omega
        · exact d
      have r:=E2.rx h' p1 (by rw[p2];exact hlt)
      rw[p2,p3,p4,a2,c2,q3,dP (by omega)] at r
      have r:=r.resolve_left (λk=>by have:=cN (n:=c) (by omega);omega)
      exact Nat.le_trans r (gu (by omega) (by omega))
end TL
namespace TL
end TL
/-
  TlBfs: a walk breadth first tells the numbers of edges: it is as ways of weights 1.
  By an AI agent.
-/
set_option linter.all false
namespace TL
theorem nL{l:List Int}{i:Nat}(h:i<l.length):gI l (i:Int)=l[i]:=by simp[gI,h]
structure jn(g:aM)(s:Int)(st:Bf)(dh:Int->Prop)(c:Int):Prop where
 ok:fF g st
 s0:gI st.far s=0
 sb:gI st.by_ s= -1
 sm:s∈st.order
 tr:∀v∈st.order,v≠s->hf g (gI st.by_ v)/\cA g (gI st.by_ v)=v/\aT g (gI st.by_ v)∈st.order/\gI st.far v=gI st.far (aT g (gI st.by_ v))+1
 un:∀v,nd g v->v∉st.order->gI st.by_ v= -1
 mono:st.order.Pairwise λx y=>gI st.far x<=gI st.far y
 top:∀x∈st.order,gI st.far x<=c+1
 rx:∀h,dh h->hf g h/\aT g h∈st.order/\cA g h∈st.order/\gI st.far (cA g h)<=gI st.far (aT g h)+1
variable{g:aM}{s v c hh:Int}{st:Bf}{dh:Int->Prop}
theorem jn.start(hm:aY g)(hs:nd g s):jn g s (cj g s) (λ_=>False) 0:=by
 have hb:∀x,nd g x->gI (cj g s).by_ x= -1:=λx hx=>dC hx.1 (by have:=hx.2;omega)
 have hf0:gI (cj g s).far s=0:=by
   show gI ((List.replicate g.1.toNat (-1)).set s.toNat 0) s=0
   rw[bx hs.1 (by simp;have:=hs.2;omega) hs.1,if_pos rfl]
 refine⟨fF.start hs.1 hs.2,hf0,hb s hs,List.mem_singleton.2 rfl,λv hv hn=>absurd (List.mem_singleton.1 hv) hn,λv hv _=>hb v hv,List.pairwise_singleton _ _,λx hx=>?_,λh k=>k.elim⟩
 rw[List.mem_singleton.1 hx,hf0];decide
theorem jn.one(hm:aY g)(h:jn g s st dh c)(hv:v∈st.order)(hc:gI st.far v=c)(h0:hf g hh)(hf':aT g hh=v):
   jn g s (cF g v st hh) (λx=>dh x\/x=hh) c/\(∃t,(cF g v st hh).order=st.order++t)/\∀x∈st.order,gI (cF g v st hh).far x=gI st.far x:=by
 have ht:=fN hm h0.1 h0.2
 have hvr:=h.ok.rng v hv
 have hok:=h.ok.one (v:=v) (h:=hh) hv ht.1 ht.2
 by_cases c1:gI st.far (cA g hh)<0
 · have e:cF g v st hh=⟨st.order++[cA g hh],st.by_.set (cA g hh).toNat hh,st.far.set (cA g hh).toNat (gI st.far v+1)⟩:=by unfold cF;rw[if_pos c1]
   rw[e] at hok ⊢
   have hw:cA g hh∉st.order:=(h.ok.iff _ ht.1 ht.2).1 c1
   obtain⟨w,ew⟩:∃w,w=cA g hh:=⟨_,rfl⟩
   rw[<-ew] at hok hw ht ⊢
   have hlf:=h.ok.far
   have hlb:=h.ok.by_
   have gf:∀x,0<=x->gI (st.far.set w.toNat (gI st.far v+1)) x=if x=w then gI st.far v+1 else gI st.far x:=λx x0=>bx ht.1 (by have:=ht.2;omega) x0
   have gb:∀x,0<=x->gI (st.by_.set w.toNat hh) x=if x=w then hh else gI st.by_ x:=λx x0=>bx ht.1 (by have:=ht.2;omega) x0
   have keep:∀x∈st.order,gI (st.far.set w.toNat (gI st.far v+1)) x=gI st.far x:=λx hx=>by
     rw[gf x (h.ok.rng x hx).1,if_neg (λk=>hw (by rw[<-k];exact hx))]
   have hsr:=h.ok.rng s h.sm
   refine⟨⟨hok,?_,?_,List.mem_append_left _ h.sm,λx hx hn=>?_,λx hx hn=>?_,?_,λx hx=>?_,λy hy=>?_⟩,⟨_,rfl⟩,keep⟩
   · show gI (st.far.set w.toNat (gI st.far v+1)) s=0
     rw[keep s h.sm];exact h.s0
   · show gI (st.by_.set w.toNat hh) s= -1
     rw[gb s hsr.1,if_neg (λk=>hw (by rw[<-k];exact h.sm))];exact h.sb
   · show hf g (gI (st.by_.set w.toNat hh) x)/\cA g (gI (st.by_.set w.toNat hh) x)=x/\aT g (gI (st.by_.set w.toNat hh) x)∈st.order++[w]/\gI (st.far.set w.toNat (gI st.far v+1)) x=gI (st.far.set w.toNat (gI st.far v+1)) (aT g (gI (st.by_.set w.toNat hh) x))+1
     by_cases c2:x=w
     · rw[gb x (by rw[c2];exact ht.1),if_pos c2]
       refine⟨h0,by rw[c2,ew],by rw[hf'];exact List.mem_append_left _ hv,?_⟩
       rw[hf',keep v hv,gf x (by rw[c2];exact ht.1),if_pos c2]
     · have hx':x∈st.order:=(List.mem_append.1 hx).resolve_right (λk=>c2 (List.mem_singleton.1 k))
       rw[gb x (h.ok.rng x hx').1,if_neg c2]
       obtain⟨a1,a2,a3,a4⟩:=h.tr x hx' hn
       exact⟨a1,a2,List.mem_append_left _ a3,by rw[keep x hx',keep _ a3];exact a4⟩
   · show gI (st.by_.set w.toNat hh) x= -1
     have c2:¬x=w:=λk=>hn (List.mem_append_right _ (List.mem_singleton.2 k))
     rw[gb x hx.1,if_neg c2]
     exact h.un x hx (λk=>hn (List.mem_append_left _ k))
   · show(st.order++[w]).Pairwise λx y=>gI (st.far.set w.toNat (gI st.far v+1)) x<=gI (st.far.set w.toNat (gI st.far v+1)) y
     rw[List.pairwise_append]
     refine⟨h.mono.imp_of_mem (λ {x y} hx hy k=>by rw[keep x hx,keep y hy];exact k),List.pairwise_singleton _ _,λx hx y hy=>?_⟩
     rw[List.mem_singleton.1 hy,keep x hx,gf w ht.1,if_pos rfl,hc]
     exact h.top x hx
   · show gI (st.far.set w.toNat (gI st.far v+1)) x<=c+1
     rcases List.mem_append.1 hx with k|k
     · rw[keep x k];exact h.top x k
     · rw[List.mem_singleton.1 k,gf w ht.1,if_pos rfl,hc];exact Int.le_refl _
   · show hf g y/\aT g y∈st.order++[w]/\cA g y∈st.order++[w]/\gI (st.far.set w.toNat (gI st.far v+1)) (cA g y)<=gI (st.far.set w.toNat (gI st.far v+1)) (aT g y)+1
     rcases hy with hy|hy
     · obtain⟨a1,a2,a3,a4⟩:=h.rx y hy
       exact⟨a1,List.mem_append_left _ a2,List.mem_append_left _ a3,by rw[keep _ a2,keep _ a3];exact a4⟩
     · subst hy
       refine⟨h0,by rw[hf'];exact List.mem_append_left _ hv,by rw[<-ew];exact List.mem_append_right _ (List.mem_singleton.2 rfl),?_⟩
       rw[hf',keep v hv,<-ew,gf w ht.1,if_pos rfl];exact Int.le_refl _
 · have e:cF g v st hh=st:=by unfold cF;rw[if_neg c1]
   rw[e]
   refine⟨{h with rx:=λy hy=>?_},⟨[],by simp⟩,λ_ _=>rfl⟩
   rcases hy with hy|hy
   · exact h.rx y hy
   · subst hy
     have hto:cA g y∈st.order:=by
       by_cases k:cA g y∈st.order
       · exact k
       · exact absurd ((h.ok.iff _ ht.1 ht.2).2 k) c1
     refine⟨h0,by rw[hf'];exact hv,hto,?_⟩
     rw[hf',hc];exact h.top _ hto
theorem jn.row(hm:aY g):∀(hs:List Int) (st:Bf) (dh:Int->Prop),(∀x∈hs,hf g x/\aT g x=v)->v∈st.order->gI st.far v=c->jn g s st dh c->
   ∃dh',jn g s (hs.foldl (cF g v) st) dh' c/\(∀x,dh x->dh' x)/\(∀x∈hs,dh' x)/\(∃t,(hs.foldl (cF g v) st).order=st.order++t)/\∀x∈st.order,gI (hs.foldl (cF g v) st).far x=gI st.far x
 |[],st,dh,_,_,_,h=>⟨dh,h,λ_ k=>k,λx hx=>absurd hx List.not_mem_nil,⟨[],by simp⟩,λ_ _=>rfl⟩
 |y::hs,st,dh,hx,hv,hc,h=>by
   obtain⟨a,⟨t,ht⟩,k⟩:=h.one hm hv hc (hx y (List.mem_cons_self ..)).1 (hx y (List.mem_cons_self ..)).2
   have hv':v∈(cF g v st y).order:=by rw[ht];exact List.mem_append_left _ hv
   obtain⟨dh',b1,b2,b3,⟨t',ht'⟩,b5⟩:=jn.row hm hs (cF g v st y) _ (λx k=>hx x (List.mem_cons_of_mem _ k)) hv' ((k v hv).trans hc) a
   refine⟨dh',b1,λx kx=>b2 x (.inl kx),λx kx=>?_,⟨t++t',by rw[List.foldl_cons,ht',ht,List.append_assoc]⟩,λx kx=>?_⟩
   · rcases List.mem_cons.1 kx with e|e
     · exact b2 x (.inr e)
     · exact b3 x e
   · rw[List.foldl_cons,b5 x (by rw[ht];exact List.mem_append_left _ kx)];exact k x kx
theorem nc{x:Int}(hx:hf g x):x∈cS g (aT g x):=by
 unfold cS dN
 exact List.mem_filter.2 ⟨List.mem_map.2 ⟨x.toNat,List.mem_range.2 (by have:=hx.1;have:=hx.2;omega),Int.toNat_of_nonneg hx.1⟩,decide_eq_true rfl⟩
theorem pR(hm:aY g):∀(n i:Nat) (st:Bf) (dh:Int->Prop) (c:Int),jn g s st dh c->(∀h,hf g h->aT g h∈st.order.take i->dh h)->(i<st.order.length->c<=gI st.far (gI st.order (i:Int)))->g.1.toNat<=n+i->
   ∃dh' c',jn g s (je g n i st) dh' c'/\∀h,hf g h->aT g h∈(je g n i st).order->dh' h
 |0,i,st,dh,c,h,hd,hc,hn=>by
   refine⟨dh,c,h,λx hx k=>hd x hx ?_⟩
   have:=h.ok.len hm.1
   unfold je at k
   rw[List.take_of_length_le (by omega)];exact k
 |n+1,i,st,dh,c,h,hd,hc,hn=>by
   unfold je
   by_cases hi:i<st.order.length
   · rw[if_pos hi]
     have hvm:gI st.order (i:Int)∈st.order:=bh (by omega) (by omega)
     have hev:gI st.order (i:Int)=st.order[i]:=by simp[gI,hi]
     obtain⟨v,ev⟩:∃v,v=gI st.order (i:Int):=⟨_,rfl⟩
     have hc':=hc hi
     rw[<-ev] at hvm hc' hev ⊢
     have h':jn g s st dh (gI st.far v):={h with top:=λx hx=>by have:=h.top x hx;omega}
     obtain⟨dh',b1,b2,b3,⟨t,ht⟩,b5⟩:=jn.row hm (cS g v) st dh (λx hx=>⟨(gj hx).1,(gj hx).2⟩) hvm rfl h'
     change jn g s (dY g v st) dh' (gI st.far v) at b1
     change (dY g v st).order=st.order++t at ht
     change∀x∈st.order,gI (dY g v st).far x=gI st.far x at b5
     have htk:(dY g v st).order.take (i+1)=st.order.take i++[v]:=by
       rw[ht,List.take_append_of_le_length (by omega),List.take_succ_eq_append_getElem hi,hev]
     refine pR hm n (i+1) (dY g v st) dh' (gI st.far v) b1 (λx hx k=>?_) (λhi2=>?_) (by omega)
     · rw[htk] at k
       rcases List.mem_append.1 k with k|k
       · exact b2 x (hd x hx k)
       · refine b3 x ?_
         rw[<-List.mem_singleton.1 k];exact nc hx
     · have hm2:=b1.mono
       rw[List.pairwise_iff_getElem] at hm2
       have hi3:i<(dY g v st).order.length:=by omega
       have:=hm2 i (i+1) hi3 hi2 (by omega)
       have e1:(dY g v st).order[i]=v:=by
         have:(dY g v st).order[i]=st.order[i]:=by simp only[ht,List.getElem_append_left hi]
         rw[this,hev]
       have e2:gI (dY g v st).order ((i+1:Nat):Int)=(dY g v st).order[i+1]:=nL hi2
       rw[e1,b5 v hvm] at this
       rw[e2];exact this
   · rw[if_neg hi]
     refine⟨dh,c,h,λx hx k=>hd x hx ?_⟩
     rw[List.take_of_length_le (by omega)];exact k
theorem gN(hm:aY g)(hs:nd g s):∃dh c,jn g s (aK g s) dh c/\∀h,hf g h->aT g h∈(aK g s).order->dh h:=by
 unfold aK
 refine pR hm g.1.toNat 0 (cj g s) _ 0 (jn.start hm hs) (λh _ k=>by simp at k) (λ_=>?_) (by omega)
 have:gI (cj g s).order ((0:Nat):Int)=s:=rfl
 rw[this,(jn.start hm hs).s0];exact Int.le_refl _
def jc(l:List Int):List Nat:=l.map λx=>if x<0 then az else c8 x.toNat
theorem iV{l:List Int}{i:Int}(h0:0<=i)(h1:i<l.length):gI (jc l) i=if gI l i<0 then az else c8 (gI l i).toNat:=iC _ h0 h1
theorem mf(hm:aY g)(hs:nd g s){ws:List Nat}(hw:∀h,hf g h->zw ws h=c8 1):∃rk,i6 g ws s (jc (aK g s).far) (aK g s).by_ rk:=by
 obtain⟨dh,c,h,hd⟩:=gN hm hs
 have hlf:=h.ok.far
 have hN:=hm.2.1
 have hle:∀v,nd g v->gI (aK g s).far v<=1024:=λv hv=>by have:=h.ok.le v hv.1 hv.2;have:=h.ok.len hm.1;omega
 have hgi:∀v,nd g v->gI (jc (aK g s).far) v=if gI (aK g s).far v<0 then az else c8 (gI (aK g s).far v).toNat:=λv hv=>iV hv.1 (by have:=hv.2;omega)
 have hin:∀v,nd g v->(gI (jc (aK g s).far) v<az↔v∈(aK g s).order):=λv hv=>by
   rw[hgi v hv]
   by_cases k:gI (aK g s).far v<0
   · rw[if_pos k]
     exact⟨λx=>absurd x (Nat.lt_irrefl _),λx=>absurd x ((h.ok.iff v hv.1 hv.2).1 k)⟩
   · rw[if_neg k]
     refine⟨λ_=>?_,λ_=>cN (by have:=hle v hv;omega)⟩
     by_cases j:v∈(aK g s).order
     · exact j
     · exact absurd ((h.ok.iff v hv.1 hv.2).2 j) k
 have hpos:∀v∈(aK g s).order,¬gI (aK g s).far v<0:=λv hv k=>(h.ok.iff v (h.ok.rng v hv).1 (h.ok.rng v hv).2).1 k hv
 have hval:∀v∈(aK g s).order,gI (jc (aK g s).far) v=c8 (gI (aK g s).far v).toNat:=λv hv=>by rw[hgi v (h.ok.rng v hv),if_neg (hpos v hv)]
 refine⟨λv=>(gI (aK g s).far v).toNat,⟨by unfold jc;rw[List.length_map];exact hlf,h.ok.by_,λv hv=>?_,?_,h.sb,λv hv k=>?_,λv hv k=>?_,λy hy k=>?_,λv hv k=>?_⟩⟩
 · rw[hgi v hv];split
   · exact Nat.le_refl _
   · exact Nat.le_of_lt (cN (by have:=hle v hv;omega))
 · rw[hval s h.sm,h.s0];exact ct
 · have hvo:v∈(aK g s).order:=by
     by_cases j:v∈(aK g s).order
     · exact j
     · exact absurd (h.un v hv j) k
   have hns:v≠s:=λj=>k (by rw[j];exact h.sb)
   obtain⟨a1,a2,a3,a4⟩:=h.tr v hvo hns
   have p1:=hpos _ a3
   have l1:=hle v hv
   refine⟨a1,a2,(hin _ (h.ok.rng _ a3)).2 a3,?_,(hin v hv).2 hvo,by show _<_;omega⟩
   rw[hval v hvo,hval _ a3,hw _ a1,dP (by omega)]
   congr 1;omega
 · by_cases j:v∈(aK g s).order
   · left
     by_cases hns:v=s
     · exact hns
     · have:=(h.tr v j hns).1.1;omega
   · right
     have:=(h.ok.iff v hv.1 hv.2).2 j
     rw[hgi v hv,if_pos this]
 · right
   have hfy:=bS hm hy.1 hy.2
   have hfo:=(hin _ hfy).1 k
   obtain⟨_,_,a3,a4⟩:=h.rx y (hd y hy hfo)
   have p1:=hpos _ hfo
   have p2:=hpos _ a3
   have l1:=hle _ hfy
   rw[hval _ a3,hval _ hfo,hw y hy,dP (by omega)]
   exact gu (by omega) (by omega)
 · have hvo:=(hin v hv).1 k
   have:=h.ok.le v hv.1 hv.2
   have:=h.ok.len hm.1
   show(gI (aK g s).far v).toNat<=g.1.toNat
   omega
end TL
/-
  TlOrb: going round by a permutation; two places changed; what that does to the numbers of rounds.
  By an AI agent.
-/
set_option linter.all false
namespace TL
def tr(a b x:Int):Int:=if x=a then b else if x=b then a else x
end TL
/-
  TlEul: Euler's count of a rotation.
  By an AI agent.
-/
set_option linter.all false
namespace TL
def cy(r:kg)(x:Int):Int:=match r.find? (λl=>decide (x∈l)) with
  |some l=>sn l x
  |none=>x
end TL
/-
  TlFaces: faces: each half-edge on one, the least ahead, each right behind the twin of the one ahead; and the mirror's faces.
  By an AI agent.
-/
set_option linter.all false
namespace TL
theorem jA(n:Nat):(bF n).Pairwise (· < ·):=by
 unfold bF
 rw[List.pairwise_map]
 exact List.pairwise_lt_range.imp (λh=>by omega)
section
variable{g:aM}{r:kg}
end
end TL
/-
  TlDual: faces as nodes: the dual, corners' faces, edges laid, taken and split, ways over faces, as plain functions.
  By an AI agent.
-/
set_option linter.all false
namespace TL
def pW(g:aM)(r:kg)(c:Int×Int):Prop:=(0<=c.1/\c.1<g.1)/\if((gI r c.1).length:Int)=0 then c.2= -1 else c.2∈gI r c.1
instance (g:aM)(r:kg)(c:Int×Int):Decidable (pW g r c):=by unfold pW;infer_instance
def iz(F:Int)(to:List Int):List Int:=to.foldl (λl f=>l.set f.toNat 0) (List.replicate F.toNat (-1))
end TL
namespace TL
end TL
namespace TL
end TL
namespace TL
section
variable{g:aM}{r:kg}{a b:Int×Int}
end
end TL
/-
  TlKru: edges of the least weight that join all that is joined (package path's Least): Kruskal's way by labels, and a forest of parents that agrees with the labels.
  By an AI agent.
-/
set_option linter.all false
namespace TL
def lB(ws:List Nat)(i:Int):Pl:=(zf (gI ws i),i)
def gY(ws:List Nat)(i k:Int):Prop:=cv (lB ws i) (lB ws k)
instance (ws:List Nat)(i k:Int):Decidable (gY ws i k):=by unfold gY;infer_instance
def m5(ws:List Nat)(i k:Int):Int:=if gY ws i k then-1 else if gY ws k i then 1 else 0
theorem jZ(ws:List Nat)(i:Int):¬gY ws i i:=dU _
theorem nl{ws:List Nat}{i j k:Int}(h:gY ws i j)(h2:gY ws j k):gY ws i k:=by unfold gY cv lB at*;omega
theorem ov{ws:List Nat}{i j:Int}(h:¬gY ws i j)(h2:¬gY ws j i):i=j:=by
 have:=po h h2
 exact congrArg Prod.snd this
theorem qG{ws:List Nat}{i j:Int}(h:gY ws i j):¬gY ws j i:=gJ h
def j6(ws:List Nat)(x:Int):List Int->List Int
 |[]=>[x]
 |y::l=>if gY ws x y then x::y::l else y::j6 ws x l
def aV(ws:List Nat):List Int:=(bF ws.length).foldr (j6 ws) []
def jY(ws:List Nat)(l:List Int):Prop:=l.Pairwise λx y=>¬gY ws y x
theorem fR(ws:List Nat)(x:Int):∀l,(j6 ws x l).Perm (x::l)
 |[]=>List.Perm.refl _
 |y::l=>by
   unfold j6;split
   · exact List.Perm.refl _
   · exact((fR ws x l).cons y).trans (List.Perm.swap x y l)
theorem jE{ws:List Nat}{x:Int}:∀{l},jY ws l->jY ws (j6 ws x l)
 |[],_=>by unfold j6 jY;simp
 |y::l,h=>by
   unfold jY at h ⊢
   obtain⟨h1,h2⟩:=List.pairwise_cons.1 h
   unfold j6;split
   · rename_i c
     refine List.pairwise_cons.2 ⟨λz hz=>?_,h⟩
     rcases List.mem_cons.1 hz with e|e
     · rw[e];exact qG c
     · intro k;exact h1 z e (nl k c)
   · rename_i c
     refine List.pairwise_cons.2 ⟨λz hz=>?_,jE h2⟩
     rcases List.mem_cons.1 ((fR ws x l).mem_iff.1 hz) with e|e
     · rw[e];exact c
     · exact h1 z e
theorem gg(ws:List Nat):∀l:List Int,(l.foldr (j6 ws) []).Perm l/\jY ws (l.foldr (j6 ws) [])
 |[]=>⟨List.Perm.refl _,List.Pairwise.nil⟩
 |x::l=>⟨(fR ws x _).trans ((gg ws l).1.cons x),jE (gg ws l).2⟩
theorem ft(ws:List Nat):(aV ws).Perm (bF ws.length):=(gg ws _).1
theorem nR(ws:List Nat):jY ws (aV ws):=(gg ws _).2
theorem nX{ws:List Nat}{l:List Int}(hp:l.Perm (bF ws.length))(hs:jY ws l):l=aV ws:=
 (hp.trans (ft ws).symm).eq_of_pairwise (λa b _ _ h1 h2=>ov h2 h1) hs (nR ws)
theorem kC(ws:List Nat):(aV ws).length=ws.length:=by rw[(ft ws).length_eq,dL]
theorem kO{ws:List Nat}{i:Int}:i∈aV ws↔0<=i/\i<(ws.length:Int):=by rw[(ft ws).mem_iff,fD]
theorem lT(ws:List Nat):(aV ws).Nodup:=(ft ws).nodup_iff.2 (gQ _)
-- by labels
def ij(c:List Int)(a b:Int):List Int:=c.map λx=>if x=b then a else x
def mV(g:aM)(s:List Int×List Int)(i:Int):List Int×List Int:=
 if gI s.1 (gI g.2 i).1=gI s.1 (gI g.2 i).2 then s else(ij s.1 (gI s.1 (gI g.2 i).1) (gI s.1 (gI g.2 i).2),s.2++[i])
def fh(g:aM)(l:List Int):List Int×List Int:=l.foldl (mV g) (bF g.1.toNat,[])
def bs(g:aM)(ws:List Nat):List Int:=(bF g.2.length).filter λi=>decide (i∈(fh g (aV ws)).2)
def jd(ws:List Nat)(l:List Int):Nat:=l.foldl (λs i=>aU s (zf (gI ws i))) 0
def bd(g:aM)(ws:List Nat):List Int×Nat×Int:=if dd g ws=0 then(bs g ws,jd ws (bs g ws),0) else([],0,dd g ws)
theorem gz(g:aM)(l:List Int)(i:Int):fh g (l++[i])=mV g (fh g l) i:=by unfold fh;rw[List.foldl_append];rfl
theorem iA(g:aM):∀(n:Nat) (l:List Int),l.length=n->(fh g l).2.Sublist l
 |0,l,h=>by rw[List.length_eq_zero_iff.1 h];exact List.Sublist.refl _
 |n+1,l,h=>by
   obtain⟨t,i,rfl⟩:∃t i,l=t++[i]:=⟨l.dropLast,l.getLast (by intro e;rw[e] at h;cases h),(List.dropLast_concat_getLast _).symm⟩
   have ih:=iA g n t (by simpa using h)
   rw[gz]
   unfold mV;split
   · exact ih.trans (List.sublist_append_left ..)
   · exact ih.append (List.Sublist.refl _)
theorem ny{c:List Int}{a b v:Int}(v0:0<=v)(v1:v<(c.length:Int)):gI (ij c a b) v=if gI c v=b then a else gI c v:=iC _ v0 v1
structure UF(n:Int)(of c:List Int)(rho:Int->Nat):Prop where
  lo:(of.length:Int)=n
  lc:(c.length:Int)=n
  rg:∀v,0<=v->v<n->0<=gI of v/\gI of v<n
  dn:∀v,0<=v->v<n->gI of v≠v->rho (gI of v)<rho v
  lb:∀v,0<=v->v<n->gI c (gI of v)=gI c v
  uq:∀r s,0<=r->r<n->0<=s->s<n->gI of r=r->gI of s=s->gI c r=gI c s->r=s
def pK(n:Int)(of c:List Int):Prop:=∃rho,UF n of c rho
theorem UF.start{n:Int}(h:0<=n):UF n (bF n.toNat) (bF n.toNat) (λ_=>0):=by
 have e:∀v,0<=v->v<n->gI (bF n.toNat) v=v:=λv h0 h1=>oK h0 (by omega)
 refine⟨by rw[dL];omega,by rw[dL];omega,λv h0 h1=>by rw[e v h0 h1];exact⟨h0,h1⟩,λv h0 h1 h2=>absurd (e v h0 h1) h2,λv h0 h1=>by rw[e v h0 h1,e v h0 h1],λr s r0 r1 s0 s1 _ _ k=>?_⟩
 rw[e r r0 r1,e s s0 s1] at k;exact k
structure m0(n:Int)(of0 of c:List Int)(rho:Int->Nat)(v0 v:Int):Prop where
 kp:∀r,0<=r->r<n->gI of0 r=r->gI of r=r
 u:UF n of c rho
 lo:0<=v
 hi:v<n
 eq:gI c v=gI c v0
structure jt(n:Int)(of0 of c:List Int)(v0 r:Int):Prop where
 kp:∀r,0<=r->r<n->gI of0 r=r->gI of r=r
 u:pK n of c
 lo:0<=r
 hi:r<n
 rt:gI of r=r
 eq:gI c r=gI c v0
variable{n:Int}{of0 of c:List Int}{rho:Int->Nat}{v v0:Int}
theorem m0.start(h:UF n of c rho)(h0:0<=v)(h1:v<n):m0 n of of c rho v v:=⟨λ_ _ _ h=>h,h,h0,h1,rfl⟩
theorem m0.fin(h:m0 n of0 of c rho v0 v)(e:gI of v=v):jt n of0 of c v0 v:=⟨h.kp,⟨rho,h.u⟩,h.lo,h.hi,e,h.eq⟩
theorem m0.rg(h:m0 n of0 of c rho v0 v):(0<=gI of v/\gI of v<n)/\0<=gI of (gI of v)/\gI of (gI of v)<n:=by
 obtain⟨a,b⟩:=h.u.rg v h.lo h.hi
 exact⟨⟨a,b⟩,h.u.rg _ a b⟩
theorem m0.next(h:m0 n of0 of c rho v0 v)(hv:¬gI of v=v):m0 n of0 (of.set v.toNat (gI of (gI of v))) c rho v0 (gI (of.set v.toNat (gI of (gI of v))) v)/\rho (gI (of.set v.toNat (gI of (gI of v))) v)<rho v:=by
 have lo:=h.lo
 have hi:=h.hi
 have ll:=h.u.lo
 obtain⟨⟨a,b⟩,a2,b2⟩:=h.rg
 have d1:=h.u.dn v lo hi hv
 have d2:gI of (gI of v)≠v:=by
   intro e
   by_cases k:gI of (gI of v)=gI of v
   · exact hv (k.symm.trans e)
   · have:=h.u.dn _ a b k
     rw[e] at this;omega
 have d3:rho (gI of (gI of v))<rho v:=by
   by_cases k:gI of (gI of v)=gI of v
   · rw[k];exact d1
   · have:=h.u.dn _ a b k;omega
 have gs:∀u,0<=u->gI (of.set v.toNat (gI of (gI of v))) u=if u=v then gI of (gI of v) else gI of u:=λu u0=>bx lo (by omega) u0
 have e0:gI (of.set v.toNat (gI of (gI of v))) v=gI of (gI of v):=by rw[gs v lo,if_pos rfl]
 have l1:gI c (gI of (gI of v))=gI c v:=by rw[h.u.lb _ a b,h.u.lb v lo hi]
 rw[e0]
 refine⟨⟨λr r0 r1 hr=>?_,⟨by rw[List.length_set];exact ll,h.u.lc,λu u0 u1=>?_,λu u0 u1 hu=>?_,λu u0 u1=>?_,λr s r0 r1 s0 s1 hr hs k=>?_⟩,a2,b2,by rw[l1];exact h.eq⟩,d3⟩
 · have:=h.kp r r0 r1 hr
   rw[gs r r0,if_neg (λe=>hv (by rw[<-e];exact this))]
   exact this
 · rw[gs u u0];split
   · exact⟨a2,b2⟩
   · exact h.u.rg u u0 u1
 · rw[gs u u0] at hu ⊢
   split
   · rename_i e;rw[e];exact d3
   · rename_i e;rw[if_neg e] at hu;exact h.u.dn u u0 u1 hu
 · rw[gs u u0];split
   · rename_i e;rw[e];exact l1
   · exact h.u.lb u u0 u1
 · rw[gs r r0] at hr
   rw[gs s s0] at hs
   have r':gI of r=r:=by
     split at hr
     · rename_i e;rw[e] at hr;exact absurd hr d2
     · exact hr
   have s':gI of s=s:=by
     split at hs
     · rename_i e;rw[e] at hs;exact absurd hs d2
     · exact hs
   exact h.u.uq r s r0 r1 s0 s1 r' s' k
theorem pK.join{a b:Int}(h:pK n of c)(a0:0<=a)(a1:a<n)(b0:0<=b)(b1:b<n)(ha:gI of a=a)(hb:gI of b=b)(hab:¬a=b):pK n (of.set a.toNat b) (ij c (gI c a) (gI c b)):=by
  obtain⟨rho,u⟩:=h
  have ll:=u.lo
  have lc:=u.lc
  have gs:∀u,0<=u->gI (of.set a.toNat b) u=if u=a then b else gI of u:=λu u0=>bx a0 (by omega) u0
  have gr:∀v,0<=v->v<n->gI (ij c (gI c a) (gI c b)) v=if gI c v=gI c b then gI c a else gI c v:=λv v0 v1=>ny v0 (by omega)
  have hne:gI c a≠gI c b:=λe=>hab (u.uq a b a0 a1 b0 b1 ha hb e)
  refine⟨λv=>if gI c v=gI c a then rho v+rho b+1 else rho v,⟨by rw[List.length_set];exact ll,by unfold ij;rw[List.length_map];exact lc,λv v0 v1=>?_,λv v0 v1 hv=>?_,λv v0 v1=>?_,λr s r0 r1 s0 s1 hr hs k=>?_⟩⟩
  · rw[gs v v0];split
    · exact⟨b0,b1⟩
    · exact u.rg v v0 v1
  · rw[gs v v0] at hv ⊢
    by_cases e:v=a
    · rw[if_pos e]
      rw[if_neg (λk=>hne k.symm),e,if_pos rfl];omega
    · rw[if_neg e] at hv ⊢
      have:=u.dn v v0 v1 hv
      rw[u.lb v v0 v1]
      split<;>omega
  · rw[gs v v0,gr v v0 v1]
    by_cases e:v=a
    · rw[if_pos e,gr b b0 b1,if_pos rfl,e]
      split<;>rfl
    · rw[if_neg e]
      obtain⟨k0,k1⟩:=u.rg v v0 v1
      rw[gr _ k0 k1,u.lb v v0 v1]
  · rw[gs r r0] at hr
    rw[gs s s0] at hs
    rw[gr r r0 r1,gr s s0 s1] at k
    have ra:¬r=a:=λe=>by rw[if_pos e] at hr;exact hab (e.symm.trans hr.symm)
    have sa:¬s=a:=λe=>by rw[if_pos e] at hs;exact hab (e.symm.trans hs.symm)
    rw[if_neg ra] at hr
    rw[if_neg sa] at hs
    by_cases c1:gI c r=gI c b
    · have e1:=u.uq r b r0 r1 b0 b1 hr hb c1
      by_cases c2:gI c s=gI c b
      · rw[e1,u.uq s b s0 s1 b0 b1 hs hb c2]
      · rw[if_pos c1,if_neg c2] at k
        exact absurd (u.uq s a s0 s1 a0 a1 hs ha k.symm) sa
    · rw[if_neg c1] at k
      by_cases c2:gI c s=gI c b
      · rw[if_pos c2] at k
        exact absurd (u.uq r a r0 r1 a0 a1 hr ha k) ra
      · rw[if_neg c2] at k
        exact u.uq r s r0 r1 s0 s1 hr hs k
end TL
namespace TL
structure jk(g:aM)(ws:List Nat)(of l:List Int)(k:Nat):Prop where
  u:pK g.1 of (fh g ((aV ws).take k)).1
  eq:l=(fh g ((aV ws).take k)).2
variable{g:aM}{ws:List Nat}{of l:List Int}{k:Nat}
theorem jk.start(hm:aY g){f0:List Int}(e:f0=bF g.1.toNat):jk g ws f0 [] 0:=⟨⟨_,by rw[e];exact UF.start hm.1⟩,rfl⟩
theorem jk.lab(h:jk g ws of l k):∃c,c=(fh g ((aV ws).take k)).1/\pK g.1 of c:=⟨_,rfl,h.u⟩
theorem jk.ll(h:jk g ws of l k):l.length<=k:=by
 rw[h.eq]
 have:=(iA g _ ((aV ws).take k) rfl).length_le
 rw[List.length_take] at this
 omega
theorem fM{α:Type}[Inhabited α]{xs:List α}{k:Nat}(h:(k:Int)<xs.length):xs.take (k+1)=xs.take k++[gI xs (k:Int)]:=by
 have hk:k<xs.length:=by omega
 rw[List.take_succ_eq_append_getElem hk]
 simp[gI,hk]
theorem jk.same{of1 of2 c:List Int}{i a b:Int}(h:jk g ws of l k)(hk:(k:Int)<(aV ws).length)(hc:c=(fh g ((aV ws).take k)).1)(hi:gI (aV ws) (k:Int)=i)(h1:jt g.1 of of1 c (gI g.2 i).1 a)(h2:jt g.1 of1 of2 c (gI g.2 i).2 b)(e:a=b):jk g ws of2 l (k+1):=by
 subst e
 have e1:gI c (gI g.2 i).1=gI c (gI g.2 i).2:=h1.eq.symm.trans h2.eq
 have e2:fh g ((aV ws).take (k+1))=fh g ((aV ws).take k):=by
   rw[fM hk,gz,hi]
   unfold mV
   rw[<-hc,if_pos e1]
 refine⟨by rw[e2,<-hc];exact h2.u,by rw[e2];exact h.eq⟩
theorem jk.join{of1 of2 c:List Int}{i a b:Int}(h:jk g ws of l k)(hk:(k:Int)<(aV ws).length)(hc:c=(fh g ((aV ws).take k)).1)(hi:gI (aV ws) (k:Int)=i)(h1:jt g.1 of of1 c (gI g.2 i).1 a)(h2:jt g.1 of1 of2 c (gI g.2 i).2 b)(e:¬a=b):jk g ws (of2.set a.toNat b) (l++[i]) (k+1):=by
 have ra:=h2.kp a h1.lo h1.hi h1.rt
 have e1:¬gI c (gI g.2 i).1=gI c (gI g.2 i).2:=by
   intro k
   obtain⟨rho,u⟩:=h2.u
   exact e (u.uq a b h1.lo h1.hi h2.lo h2.hi ra h2.rt (h1.eq.trans (k.trans h2.eq.symm)))
 have e2:fh g ((aV ws).take (k+1))=(ij c (gI c (gI g.2 i).1) (gI c (gI g.2 i).2),l++[i]):=by
   rw[fM hk,gz,hi]
   unfold mV
   rw[<-hc,if_neg e1,<-h.eq]
 refine⟨?_,by rw[e2]⟩
 rw[e2]
 have:=h2.u.join h1.lo h1.hi h2.lo h2.hi ra h2.rt e
 rw[h1.eq,h2.eq] at this
 exact this
theorem jk.done(h:jk g ws of l k)(hk:¬(k:Int)<(aV ws).length):l=(fh g (aV ws)).2:=by
 have:=h.eq
 rw[List.take_of_length_le (by omega)] at this
 exact this
theorem lE(hw:ws.length=g.2.length)(hl:l=(fh g (aV ws)).2):(l.mergeSort λx y=>decide (x<=y))=bs g ws:=by
 have hsub:=iA g _ (aV ws) rfl
 rw[<-hl] at hsub
 have hnd:l.Nodup:=hsub.nodup (lT ws)
 have htn:(bs g ws).Nodup:=(List.filter_sublist).nodup (gQ _)
 have hp:l.Perm (bs g ws):=by
   rw[List.perm_ext_iff_of_nodup hnd htn]
   intro x
   unfold bs
   rw[List.mem_filter,<-hl]
   constructor
   · intro hx
     have:=kO.1 (hsub.subset hx)
     exact⟨fD.2 (by omega),decide_eq_true hx⟩
   · intro hx;exact of_decide_eq_true hx.2
 have hs:(bs g ws).Pairwise (· <= ·):=by
   unfold bs
   exact(((jA g.2.length).imp (λh=>Int.le_of_lt h)).sublist List.filter_sublist)
 refine List.Perm.eq_of_pairwise (le:=(· <= ·)) (λa b _ _ h1 h2=>Int.le_antisymm h1 h2) ?_ hs ((List.mergeSort_perm _ _).trans hp)
 have:=List.pairwise_mergeSort (le:=λx y:Int=>decide (x<=y)) (λa b c h1 h2=>decide_eq_true (Int.le_trans (of_decide_eq_true h1) (of_decide_eq_true h2))) (λa b=>by
   rcases Int.le_total a b with h|h
   · simp[h]
   · simp[h]) l
 exact this.imp (λh=>of_decide_eq_true h)
theorem kK(hi:(k:Int)<(bs g ws).length):0<=gI (bs g ws) (k:Int)/\gI (bs g ws) (k:Int)<(g.2.length:Int):=by
 have h1:=bh (xs:=bs g ws) (i:=(k:Int)) (by omega) hi
 unfold bs at h1
 have:=fD.1 (List.mem_filter.1 h1).1
 unfold bs;exact this
theorem lQ{l:List Int}{s:Nat}(h:s=jd ws (l.take k))(hk:(k:Int)<l.length):aU s (zf (gI ws (gI l (k:Int))))=jd ws (l.take (k+1)):=by
 rw[fM hk,h];unfold jd;rw[List.foldl_append];rfl
theorem jD{xs:List Int}{n k:Nat}(h:xs=bF k++List.replicate (n-k) 0)(hk:k<n):xs.set (Int.toNat (k:Int)) (k:Int)=bF (k+1)++List.replicate (n-(k+1)) 0:=by
 rw[h,Int.toNat_natCast,i8,List.set_append_right _ _ (by rw[dL];exact Nat.le_refl _),dL,Nat.sub_self]
 rw[show n-k=(n-(k+1))+1 by omega,List.replicate_succ]
 simp
end TL
namespace TL
theorem rT{ws:List Nat}{i k:Int}(h:decide (zf (gI ws i)<zf (gI ws k))=true):m5 ws i k= -1:=by
 unfold m5;rw[if_pos (.inl (of_decide_eq_true h))]
theorem rV{ws:List Nat}{i k:Int}(h:¬decide (zf (gI ws i)<zf (gI ws k))=true)(h2:decide (zf (gI ws k)<zf (gI ws i))=true):m5 ws i k=1:=by
 have h1:=of_decide_eq_true h2
 unfold m5
 rw[if_neg,if_pos (.inl h1)]
 intro c
 unfold gY cv lB at c
 simp only at c
 omega
theorem s4{ws:List Nat}{i k:Int}(h:¬decide (zf (gI ws i)<zf (gI ws k))=true)(h2:¬decide (zf (gI ws k)<zf (gI ws i))=true):m5 ws i k=if i<k then-1 else if k<i then 1 else 0:=by
 have h1:¬zf (gI ws i)<zf (gI ws k):=λc=>h (decide_eq_true c)
 have h3:¬zf (gI ws k)<zf (gI ws i):=λc=>h2 (decide_eq_true c)
 have e1:gY ws i k↔i<k:=by unfold gY cv lB;simp only;omega
 have e2:gY ws k i↔k<i:=by unfold gY cv lB;simp only;omega
 unfold m5
 simp only[e1,e2]
end TL
namespace TL
theorem l4{xs:List Int}{n k:Nat}(h:xs=bF k++List.replicate (n-k) 0)(hk:k<=n):xs.length=n:=by
 rw[h,List.length_append,dL,List.length_replicate];omega
theorem jC{xs:List Int}{n k:Nat}(h:xs=bF k++List.replicate (n-k) 0)(hk:k=n):xs=bF n:=by
 rw[h,hk,Nat.sub_self];simp
theorem kQ{g:aM}{ws:List Nat}{j:Nat}(hw:∀x∈ws,dS x)(hl:ws.length=g.2.length)(hj:(j:Int)<(bs g ws).length):dS (gI ws (gI (bs g ws) (j:Int))):=by
 obtain⟨a,b⟩:=kK (ws:=ws) (g:=g) hj
 exact hw _ (bh a (by omega))
theorem iH{g:aM}{ws:List Nat}(h:¬dd g ws=0):bd g ws=([],0,dd g ws):=by unfold bd;rw[if_neg h]
theorem iJ{g:aM}{ws:List Nat}(h:dd g ws=0):bd g ws=(bs g ws,jd ws (bs g ws),0):=by unfold bd;rw[if_pos h]
theorem mC{ws:List Nat}{l:List Int}{s j:Nat}(h:s=jd ws (l.take j))(hj:¬(j:Int)<l.length):s=jd ws l:=by
 rw[h,List.take_of_length_le (by omega)]
end TL
/-
  TlRef7: the document's own From, step by step: the pick of the nearest, and one node's half-edges.
  By an AI agent.
-/
set_option linter.all false
namespace TL
variable{g:aM}{ws:List Nat}{s:Int}{far far2:List Nat}{by_ by2:List Int}{se:List Bool}{v:Int}{k:Nat}
theorem rq{l:List Nat}(h:∀x∈l,x<=az)(i:Int):gI l i<=az:=by
 unfold gI
 rw[List.getD_eq_getElem?_getD]
 by_cases c:i.toNat<l.length
 · rw[List.getElem?_eq_getElem c];exact h _ (List.getElem_mem c)
 · rw[List.getElem?_eq_none (by omega)];exact Nat.zero_le _
end TL
/-
  TlTree: the least set of edges joins what is joined, without a cycle; no edge left out is lighter than one on its cycle.
  By an AI agent.
-/
set_option linter.all false
namespace TL
def fj(g:aM)(L:List Int):aM:=(g.1,L.map (gI g.2))
variable{g:aM}{ws:List Nat}{L M:List Int}{u v:Int}
def r5(g:aM)(L:List Int):Prop:=∀i∈L,0<=i/\i<(g.2.length:Int)
theorem nO(hm:aY g)(hL:r5 g L)(hl:L.length<=3072):aY (fj g L):=by
 obtain⟨m1,m2,m3,m4⟩:=hm
 refine⟨m1,m2,by unfold fj;rw[List.length_map];exact hl,λe he=>?_⟩
 unfold fj at he
 obtain⟨i,hi,rfl⟩:=List.mem_map.1 he
 exact m4 _ (bh (hL i hi).1 (hL i hi).2)
theorem oQ(hm:aY g)(hL:r5 g L)(hn:L.Nodup):b9 g L=(fj g L,0):=by
 unfold b9
 rw[if_pos hm,if_pos (iR hL hn)];rfl
end TL
/-
  TlOnes: ways of weights 1, 0 and of none: as a walk breadth first goes.
  By an AI agent.
-/
set_option linter.all false
namespace TL
variable{g g1 g2:aM}{ws w1 w2:List Nat}{s v:Int}{f1 f2 far:List Nat}{b1 b2 by_:List Int}{r1 r2 rk:Int->Nat}{C:Nat}
def ag(g:aM)(s:Int):(List Int×List Int×List Int×List Int)×Int:=
 if aY g then(if 0<=s/\s<g.1 then(((aK g s).order,(aK g s).by_,(aK g s).far,[]),0) else(([],[],[],[]),2)) else(([],[],[],[]),1)
theorem n9(h:¬aY g):ag g s=(([],[],[],[]),1):=by unfold ag;rw[if_neg h]
theorem kG(h:aY g)(h2:¬(0<=s/\s<g.1)):ag g s=(([],[],[],[]),2):=by unfold ag;rw[if_pos h,if_neg h2]
theorem jJ(h:aY g)(h2:0<=s/\s<g.1):ag g s=(((aK g s).order,(aK g s).by_,(aK g s).far,[]),0):=by unfold ag;rw[if_pos h,if_pos h2]
theorem kb(h:(ag g s).2=0):aY g/\nd g s/\(ag g s).1.2.2.1=(aK g s).far:=by
 by_cases c:aY g
 · by_cases d:0<=s/\s<g.1
   · rw[jJ c d];exact⟨c,d,rfl⟩
   · rw[kG c d] at h;exact absurd h (by decide)
 · rw[n9 c] at h;exact absurd h (by decide)
theorem iI(m1:aY g1)(m2:aY g2)(E1:i6 g1 w1 s f1 b1 r1)(E2:i6 g2 w2 s f2 b2 r2)(hN:g1.1=g2.1)(t1:nz C g1 w1)(t2:nz C g2 w2)(hC:C<=255)
    (hmap:∀h,hf g1 h->zw w1 h<az->∃h',hf g2 h'/\aT g2 h'=aT g1 h/\cA g2 h'=cA g1 h/\zw w2 h'=zw w1 h)(hv:nd g1 v):gI f2 v<=gI f1 v:=by
  rcases Nat.lt_or_ge (gI f1 v) az with c|c
  · obtain⟨n,n1,n2,n3⟩:=E1.wh m1 t1 hC hv c
    have:=ry m1 m2 E1 E2 hN t1 t2 hC hmap (n:=0) (by omega) (by rw[E2.s0,ct]) (r1 v) v n hv n3 n2 (Nat.le_refl _)
    rw[Nat.zero_add] at this
    rw[n3];exact this
  · exact Nat.le_trans (E2.nn v ⟨hv.1,by have:=hv.2;omega⟩) c
theorem qg{ws:List Nat}{h:Int}(e:gI ws (h/2)=4607182418800017408):zw ws h=c8 1:=by
 show zf (gI ws (h/2))=_
 rw[e];decide
theorem lI(hw:∀h,hf g h->zw ws h=c8 1):nz 1 g ws:=λh hh=>.inr ⟨1,Nat.le_refl _,hw h hh⟩
structure pP(x:Int)(d:Nat):Prop where
  ge: -1<=x\/True
  inf:(x<0)↔d=az
  eq:¬x<0->d=cV x
theorem ni{l:List Int}{d:Nat}(h0:0<=v)(h1:v<l.length)(hle:gI l v<=1024)(e:d=gI (jc l) v):pP (gI l v) d:=by
 rw[iV h0 h1] at e
 refine⟨.inr trivial,?_,λk=>?_⟩
 · by_cases k:gI l v<0
   · rw[if_pos k] at e;exact⟨λ_=>e,λ_=>k⟩
   · rw[if_neg k] at e
     refine⟨λj=>absurd j k,λj=>?_⟩
     have:=cN (n:=(gI l v).toNat) (by omega)
     omega
 · rw[if_neg k] at e
   rw[e,<-jH,Int.toNat_of_nonneg (by omega)]
theorem fC(hm:aY g)(hs:nd g s)(hv:nd g v):gI (aK g s).far v<=1024/\((aK g s).far.length:Int)=g.1:=by
 obtain⟨dh,c,h,_⟩:=gN hm hs
 have:=h.ok.le v hv.1 hv.2
 have:=h.ok.len hm.1
 have:=hm.2.1
 exact⟨by omega,h.ok.far⟩
theorem pg(hm:aY g)(hs:nd g s)(hw:∀h,hf g h->zw ws h=c8 1)(E:i6 g ws s far by_ rk)(hv:nd g v):pP (gI (aK g s).far v) (gI far v):=by
  obtain⟨k,B⟩:=mf hm hs hw
  obtain⟨h1,h2⟩:=fC hm hs hv
  have id:∀h,hf g h->zw ws h<az->∃h',hf g h'/\aT g h'=aT g h/\cA g h'=cA g h/\zw ws h'=zw ws h:=λh hh _=>⟨h,hh,rfl,rfl,rfl⟩
  refine ni hv.1 (by have:=hv.2;omega) h1 (Nat.le_antisymm ?_ ?_)
  · exact iI hm hm B E rfl (lI hw) (lI hw) (by decide) id hv
  · exact iI hm hm E B rfl (lI hw) (lI hw) (by decide) id hv
theorem pm(hm:aY g)(hs:nd g s)(hw:∀h,hf g h->zw w1 h=c8 1)(hz:∀h,hf g h->zw ws h=0)(E:i6 g ws s far by_ rk)(hv:nd g v)(hr:¬gI (aK g s).far v<0):gI far v=0:=by
  obtain⟨k,B⟩:=mf hm hs hw
  have t0:nz 0 g ws:=λh hh=>.inr ⟨0,Nat.le_refl _,by rw[hz h hh,ct]⟩
  have reach:∀(f:Nat) (x:Int),nd g x->gI (jc (aK g s).far) x<az->k x<=f->gI far x<az:=by
    intro f
    induction f with
    |zero=>
      intro x hx hlt hk
      by_cases hb:gI (aK g s).by_ x= -1
      · have e:=(B.rt x hx hb).resolve_right (by omega)
        rw[e,E.s0];decide
      · have:=(B.tr x hx hb).2.2.2.2.2;omega
    |succ f ih=>
      intro x hx hlt hk
      by_cases hb:gI (aK g s).by_ x= -1
      · have e:=(B.rt x hx hb).resolve_right (by omega)
        rw[e,E.s0];decide
      · obtain⟨a1,a2,a3,a4,a5,a6⟩:=B.tr x hx hb
        have hu:=bS hm a1.1 a1.2
        have i1:=ih _ hu a3 (by omega)
        obtain⟨n,n1,n2,n3⟩:=E.wh hm t0 (by decide) hu i1
        have r:=E.rx _ a1 i1
        rw[hz _ a1,a2,n3,<-ct,dP (by omega)] at r
        have r:=r.resolve_left (by rw[ct];decide)
        exact jG r (by omega)
  obtain⟨h1,h2⟩:=fC hm hs hv
  have hlt:gI (jc (aK g s).far) v<az:=by
    rw[iV hv.1 (by have:=hv.2;omega),if_neg hr];exact cN (by omega)
  obtain⟨n,n1,n2,n3⟩:=E.wh hm t0 (by decide) hv (reach (k v) v hv hlt (Nat.le_refl _))
  have:n=0:=by omega
  rw[n3,this,ct]
theorem m9{L:List Int}{h:Int}(hL:r5 g L)(hh:hf (fj g L) h):hf g (2*gI L (h/2)+h%2)/\aT g (2*gI L (h/2)+h%2)=aT (fj g L) h/\cA g (2*gI L (h/2)+h%2)=cA (fj g L) h/\(2*gI L (h/2)+h%2)/2=gI L (h/2):=by
  have h0:=hh.1
  have h1:h<2*(L.length:Int):=by have:=hh.2;unfold fj at this;rw[List.length_map] at this;exact this
  have hl:h/2<(L.length:Int):=by omega
  obtain⟨a,b⟩:=hL _ (bh (xs:=L) (i:=h/2) (by omega) hl)
  have e1:(2*gI L (h/2)+h%2)/2=gI L (h/2):=by omega
  have e2:(2*gI L (h/2)+h%2)%2=h%2:=by omega
  have e3:gI (fj g L).2 (h/2)=gI g.2 (gI L (h/2)):=iC _ (by omega) hl
  refine⟨⟨by omega,by omega⟩,?_,?_,e1⟩
  · unfold aT;rw[e1,e2,e3]
  · unfold cA;rw[e1,e2,e3]
theorem mE{L:List Int}{h:Int}(hh:hf g h)(hm:h/2∈L):∃h',hf (fj g L) h'/\aT (fj g L) h'=aT g h/\cA (fj g L) h'=cA g h:=by
 have h0:=hh.1
 obtain⟨i,hi,e⟩:=List.mem_iff_getElem.1 hm
 have e4:gI L (i:Int)=h/2:=by rw[<-e];simp[gI,hi]
 have e1:(2*(i:Int)+h%2)/2=i:=by omega
 have e2:(2*(i:Int)+h%2)%2=h%2:=by omega
 have e3:gI (fj g L).2 (i:Int)=gI g.2 (gI L (i:Int)):=iC _ (by omega) (by omega)
 refine⟨2*(i:Int)+h%2,⟨by omega,by unfold fj;rw[List.length_map];omega⟩,?_,?_⟩
 · unfold aT;rw[e1,e2,e3,e4]
 · unfold cA;rw[e1,e2,e3,e4]
theorem pv{L:List Int}(hm:aY g)(hs:nd g s)(hL:r5 g L)(hp:aY (fj g L))(ho:∀h,hf g h->h/2∈L->zw ws h=c8 1)(hi:∀h,hf g h->h/2∉L->zw ws h=az)(E:i6 g ws s far by_ rk)(hv:nd g v):pP (gI (aK (fj g L) s).far v) (gI far v):=by
  have hs':nd (fj g L) s:=hs
  have hv':nd (fj g L) v:=hv
  let w1:List Nat:=List.replicate (fj g L).2.length 4607182418800017408
  have hw:∀h,hf (fj g L) h->zw w1 h=c8 1:=λh hh=>qg (dC (by have:=hh.1;omega) (by have:=hh.1;have:=hh.2;omega))
  obtain⟨k,B⟩:=mf hp hs' hw
  obtain⟨h1,h2⟩:=fC hp hs' hv'
  have t2:nz 1 g ws:=λh hh=>by
    by_cases c:h/2∈L
    · exact .inr ⟨1,Nat.le_refl _,ho h hh c⟩
    · exact .inl (hi h hh c)
  refine ni hv.1 (by have:=hv.2;have:(fj g L).1=g.1:=rfl;omega) h1 (Nat.le_antisymm ?_ ?_)
  · refine iI hp hm B E rfl (lI hw) t2 (by decide) (λh hh _=>?_) hv'
    obtain⟨a,b,c,d⟩:=m9 hL hh
    refine⟨_,a,b,c,?_⟩
    rw[hw h hh]
    refine ho _ a ?_
    rw[d]
    exact bh (by have:=hh.1;omega) (by have:=hh.1;have:=hh.2;unfold fj at this;rw[List.length_map] at this;omega)
  · refine iI hm hp E B rfl t2 (lI hw) (by decide) (λh hh hlt=>?_) hv
    have hmem:h/2∈L:=by
      by_cases c:h/2∈L
      · exact c
      · have:=hi h hh c
        rw[this] at hlt;exact absurd hlt (Nat.lt_irrefl _)
    obtain⟨h',a,b,c⟩:=mE hh hmem
    exact⟨h',a,b,c,by rw[hw h' a,ho h hh hmem]⟩
end TL
namespace TL
variable{g:aM}{s:Int}
theorem qQ(h:¬(ag g s).2=0):(ag g s).1=([],[],[],[]):=by
 by_cases c:aY g
 · by_cases d:0<=s/\s<g.1
   · rw[jJ c d] at h;exact absurd rfl h
   · rw[kG c d]
 · rw[n9 c]
end TL
namespace TL
open Go
theorem kd{P:Program}{f:Fr}{w:World}{dst:Option Tmp}{ty:TypeId}{pos:String}{after:Array Edge}{g:Option (Nat×Bool)}{t t':TypeId}{x y:Operand}{op:BinOp}{k:IntKind}{m n r:Int}(hx:ev f x= .int k m)(hy:ev f y= .int k n)(h:binOp op t (.int k m) (.int k n)=pure (.int k r)):(execOp (ev f) ⟨dst,.binOp op t x y t',ty,pos,after,g⟩).run P w= .ok (.value (.int k r)) w:=
 bt op x y hx hy (by rw[h];rfl)
end TL
namespace TL
variable{g:aM}{s v:Int}{on ze so:List Nat}{op:List Int}{i:Nat}
structure gp(g:aM)(on ze so:List Nat)(op:List Int)(i:Nat):Prop where
  l1:(on.length:Int)=g.2.length
  l2:(ze.length:Int)=g.2.length
  l3:(so.length:Int)=g.2.length
  a1:∀k:Int,0<=k->k<i->gI on k=4607182418800017408
  a2:∀x∈ze,x=0\/x=9223372036854775808
  a3:∀k:Int,0<=k->k<i->(k∈op->gI so k=4607182418800017408)/\(k∉op->gI so k=az)
  a4:∀x∈op,0<=x/\x<i
  a5:op.Nodup
  lo:op.length<=i
theorem gp.start:gp g (List.replicate (Int.toNat (g.2.length:Int)) (0:Nat)) (List.replicate (Int.toNat (g.2.length:Int)) (0:Nat)) (List.replicate (Int.toNat (g.2.length:Int)) (0:Nat)) [] 0:=
 ⟨by simp,by simp,by simp,λk h0 h1=>by omega,λx hx=>.inl (List.eq_of_mem_replicate hx),λk h0 h1=>by omega,λx hx=>absurd hx List.not_mem_nil,List.nodup_nil,by simp⟩
theorem gp.ones(h:gp g on ze so op i)(hi:(i:Int)<g.2.length)(k:Int)(k0:0<=k)(k1:k<((i+1:Nat):Int)):gI (on.set (Int.toNat (i:Int)) 4607182418800017408) k=4607182418800017408:=by
 rw[bx (by omega) (by have:=h.l1;omega) k0]
 by_cases e:k=i
 · rw[if_pos e]
 · rw[if_neg e];exact h.a1 k k0 (by omega)
def rK(ze ze':List Nat):Prop:=ze'.length=ze.length/\∀x∈ze',x=0\/x=9223372036854775808
theorem gp.z0(h:gp g on ze so op i):rK ze ze:=⟨rfl,h.a2⟩
theorem gp.z1(h:gp g on ze so op i)(j:Nat):rK ze (ze.set j 9223372036854775808):=⟨by rw[List.length_set],λx hx=>by
 rcases List.mem_or_eq_of_mem_set hx with k|k
 · exact h.a2 x k
 · exact .inr k⟩
theorem gp.open_{ze':List Nat}(h:gp g on ze so op i)(hz:rK ze ze')(hi:(i:Int)<g.2.length):gp g (on.set (Int.toNat (i:Int)) 4607182418800017408) ze' (so.set (Int.toNat (i:Int)) 4607182418800017408) (op++[(i:Int)]) (i+1):=by
 refine⟨by rw[List.length_set];exact h.l1,by rw[hz.1];exact h.l2,by rw[List.length_set];exact h.l3,h.ones hi,hz.2,λk k0 k1=>?_,λx hx=>?_,?_,by rw[List.length_append,List.length_singleton];have:=h.lo;omega⟩
 · rw[bx (by omega) (by have:=h.l3;omega) k0]
   by_cases e:k=i
   · rw[if_pos e]
     exact⟨λ_=>rfl,λn=>absurd (List.mem_append_right _ (List.mem_singleton.2 e)) n⟩
   · rw[if_neg e]
     obtain⟨x,y⟩:=h.a3 k k0 (by omega)
     exact⟨λm=>x ((List.mem_append.1 m).resolve_right (λz=>e (List.mem_singleton.1 z))),λn=>y (λm=>n (List.mem_append_left _ m))⟩
 · rcases List.mem_append.1 hx with k|k
   · have:=h.a4 x k;omega
   · rw[List.mem_singleton.1 k];omega
 · rw[List.nodup_append]
   refine⟨h.a5,by simp,λx hx y hy=>?_⟩
   rw[List.mem_singleton.1 hy]
   have:=h.a4 x hx;omega
theorem gp.shut_{ze':List Nat}(h:gp g on ze so op i)(hz:rK ze ze')(hi:(i:Int)<g.2.length):gp g (on.set (Int.toNat (i:Int)) 4607182418800017408) ze' ((so.set (Int.toNat (i:Int)) 4607182418800017408).set (Int.toNat (i:Int)) az) op (i+1):=by
 refine⟨by rw[List.length_set];exact h.l1,by rw[hz.1];exact h.l2,by rw[List.length_set,List.length_set];exact h.l3,h.ones hi,hz.2,λk k0 k1=>?_,λx hx=>by have:=h.a4 x hx;omega,h.a5,by have:=h.lo;omega⟩
 have hl:(i:Int)<(so.set (Int.toNat (i:Int)) 4607182418800017408).length:=by rw[List.length_set];have:=h.l3;omega
 rw[bx (by omega) hl k0]
 by_cases e:k=i
 · rw[if_pos e]
   exact⟨λm=>by have:=h.a4 k m;omega,λ_=>rfl⟩
 · rw[if_neg e,bx (by omega) (by have:=h.l3;omega) k0,if_neg e]
   exact h.a3 k k0 (by omega)
theorem k7{l:List Nat}{Q:Nat->Prop}(h:∀k:Int,0<=k->k<l.length->Q (gI l k)):∀x∈l,Q x:=by
 intro x hx
 obtain⟨k,hk,e⟩:=List.mem_iff_getElem.1 hx
 have:=h (k:Int) (by omega) (by omega)
 have e2:gI l (k:Int)=l[k]:=by simp[gI,hk]
 rw[e2,e] at this;exact this
theorem mX:dS 4607182418800017408:=kT (by decide)
theorem qj:dS 9223372036854775808:=by decide
theorem ru{ws:List Nat}(hm:aY g)(hl:(ws.length:Int)=g.2.length)(hg:∀x∈ws,dS x):dd g ws=0:=by
 unfold dd;rw[if_pos ⟨hm,by omega⟩,if_pos hg]
structure si(g:aM)(s:Int)(on ze so:List Nat)(op:List Int):Prop where
  may:aY g
  e1:(av g on s).2=0
  e2:(av g ze s).2=0
  e3:(av g so s).2=0
  inn:r5 g op
  sub:b9 g op=(fj g op,0)
  may2:aY (fj g op)
  e4:(ag (fj g op) s).2=0
  n1:∀v,gI (av g on s).1.1 v<=az
  n2:∀v,gI (av g ze s).1.1 v<=az
  n3:∀v,gI (av g so s).1.1 v<=az
  k0:((ag g s).1.2.2.1.length:Int)=g.1
  k1:((av g on s).1.1.length:Int)=g.1
  k2:((av g ze s).1.1.length:Int)=g.1
  k3:((av g so s).1.1.length:Int)=g.1
  k4:((ag (fj g op) s).1.2.2.1.length:Int)=g.1
  v1:∀v,nd g v->pP (gI (ag g s).1.2.2.1 v) (gI (av g on s).1.1 v)
  v2:∀v,nd g v->¬gI (ag g s).1.2.2.1 v<0->gI (av g ze s).1.1 v=0
  v3:∀v,nd g v->pP (gI (ag (fj g op) s).1.2.2.1 v) (gI (av g so s).1.1 v)
theorem km{ws:List Nat}{far:List Nat}{by_:List Int}{rk:Int->Nat}(E:i6 g ws s far by_ rk)(v:Int):gI far v<=az:=by
 refine rq (k7 (λk h0 h1=>E.nn k ⟨h0,by have:=E.lf;omega⟩)) v
theorem gp.done(h:gp g on ze so op i)(hi:¬(i:Int)<g.2.length)(hi2:(i:Int)<=g.2.length)(hb:(ag g s).2=0):si g s on ze so op:=by
 obtain⟨hm,hs,hfar⟩:=kb hb
 have ei:(i:Int)=g.2.length:=by omega
 have h1:=h.l1
 have h2:=h.l2
 have h3:=h.l3
 have g1:∀x∈on,dS x:=k7 λk k0 k1=>by rw[h.a1 k k0 (by omega)];exact mX
 have g2:∀x∈ze,dS x:=λx hx=>by
   rcases h.a2 x hx with e|e
   · rw[e];exact kT (Nat.zero_le _)
   · rw[e];exact qj
 have g3:∀x∈so,dS x:=k7 λk k0 k1=>by
   obtain⟨x,y⟩:=h.a3 k k0 (by omega)
   by_cases c:k∈op
   · rw[x c];exact mX
   · rw[y c];exact kT (Nat.le_refl _)
 have fr:∀{ws:List Nat},(ws.length:Int)=g.2.length->(∀x∈ws,dS x)->(av g ws s).2=0:=λ {ws} hl hg=>by
   rw[jg (ru hm hl hg) hs]
 have e1:=fr h1 g1
 have e2:=fr h2 g2
 have e3:=fr h3 g3
 obtain⟨_,_,_,_,r1,E1⟩:=iu e1
 obtain⟨_,_,_,_,r2,E2⟩:=iu e2
 obtain⟨_,_,_,_,r3,E3⟩:=iu e3
 have hin:r5 g op:=λx hx=>by have:=h.a4 x hx;omega
 have hp:aY (fj g op):=nO hm hin (by have:=h.lo;have:=hm.2.2.1;omega)
 have hs':nd (fj g op) s:=hs
 have e4:(ag (fj g op) s).2=0:=by rw[jJ hp hs']
 obtain⟨_,_,hfar4⟩:=kb e4
 have w1:∀x,hf g x->zw on x=c8 1:=λx hx=>qg (h.a1 _ (by have:=hx.1;omega) (by have:=hx.1;have:=hx.2;omega))
 have w2:∀x,hf g x->zw ze x=0:=λx hx=>by
   show zf (gI ze (x/2))=0
   rcases h.a2 _ (bh (xs:=ze) (i:=x/2) (by have:=hx.1;omega) (by have:=hx.1;have:=hx.2;omega)) with e|e
   · rw[e];decide
   · rw[e];decide
 have w3:∀x,hf g x->x/2∈op->zw so x=c8 1:=λx hx c=>qg ((h.a3 _ (by have:=hx.1;omega) (by have:=hx.1;have:=hx.2;omega)).1 c)
 have w4:∀x,hf g x->x/2∉op->zw so x=az:=λx hx c=>by
   show zf (gI so (x/2))=az
   rw[(h.a3 _ (by have:=hx.1;omega) (by have:=hx.1;have:=hx.2;omega)).2 c]
   exact pN (Nat.le_refl _)
 refine⟨hm,e1,e2,e3,hin,oQ hm hin h.a5,hp,e4,km E1,km E2,km E3,?_,E1.lf,E2.lf,E3.lf,?_,λv hv=>?_,λv hv=>?_,λv hv=>?_⟩
 · rw[hfar];exact(fC hm hs hs).2
 · rw[hfar4];exact(fC hp hs' hs').2
 · rw[hfar];exact pg hm hs w1 E1 hv
 · rw[hfar];exact pm hm hs w1 w2 E2 hv
 · rw[hfar4];exact pv hm hs hin hp w3 w4 E3 hv
theorem pP.iff{x:Int}{d:Nat}(h:pP x d)(hd:d<=az):(decide (x<0))=ck d 9218868437227405311:=by
 rw[q4 hd,decide_eq_decide];exact h.inf
end TL
/-
  TlIface: a method of an interface value that holds a pointer; values in an interface.
  By an AI agent.
-/
set_option linter.all false
namespace TL
open Go
def iB(P:Program)(T:TypeId)(name:String):Option (Nat×Bool×TypeId):=
  match P.info? T,P.underlying T with
  |some i,some (.pointer e)=>
    match i.methods.find? (·.name==name) with
    |some m=>if m.path.isEmpty then m.func.map (λq=>(q.1,q.2,e)) else none
    |none=>none
  |_,_=>none
theorem mJ{P:Program}{T e:TypeId}{name:String}{f:Nat}{b:Bool}(h:iB P T name=some (f,b,e)):∃i m,P.info? T=some i/\P.underlying T=some (.pointer e)/\i.methods.find? (·.name==name)=some m/\m.path= #[]/\m.func=some (f,b):=by
 unfold iB at h
 split at h
 · rename_i i e' hi hu
   split at h
   · rename_i m hm
     split at h
     · rename_i hp
       cases hf:m.func with
       |none=>rw[hf] at h;cases h
       |some q=>
         rw[hf] at h
         simp only[Option.map_some,Option.some.injEq,Prod.mk.injEq] at h
         obtain⟨h1,h2,h3⟩:=h
         refine⟨i,m,hi,h3▸hu,hm,by simpa using hp,?_⟩
         rw[hf,<-h1,<-h2]
     · cases h
   · cases h
 · cases h
section
variable{P:Program}{f:Fr}{w:World}{dst:Option Tmp}{ty:TypeId}{pos:String}{after:Array Edge}{g:Option (Nat×Bool)}{T e:TypeId}{name:String}{fid n:Nat}{a:Addr}{v u:Value}
theorem jM{i:TypeInfo}{t:TypeId}(h:P.info? t=some i):(typeInfo t).run P w= .ok i w:=by simp[typeInfo,h]
theorem fo(h:iB P T name=some (fid,true,e)):(method (n+1) T v name).run P w= .ok (fid,v) w:=by
 obtain⟨i,m,hi,hu,hm,hp,hf⟩:=mJ h
 simp[method,jM hi,hm,hp,hf,follow,receiverAt,aD hu,Place.get]
theorem oW(t:TypeId)(nm:String):(Builtin.ssaWrapNilChk_ #[t] t #[.pointer (some a),strVal "",strVal nm]).run P w= .ok (.pointer (some a)) w:=rfl
theorem bq(h:iB P T name=some (fid,false,e))(hl:(loadVar e a).run P w= .ok u w):(method (n+1) T (.pointer (some a)) name).run P w= .ok (fid,u) w:=by
 obtain⟨i,m,hi,hu,hm,hp,hf⟩:=mJ h
 simp[method,jM hi,hm,hp,hf,follow,receiverAt,aD hu,Place.get,oW,asAddr,hl]
theorem mW:∃n,P.types.size+Made.depth=n+1:=by
 have h:0<Made.depth:=by decide
 exact⟨P.types.size+Made.depth-1,by omega⟩
variable{x:Operand}{args:List Operand}{at_:Array TypeId}{vals:List Value}{fn:Func}
theorem bV(hx:ev f x= .iface T v)(hm:∀n,(method (n+1) T v name).run P w= .ok (fid,u) w)(hf:P.funcs[fid]? =some fn)(hb:fn.body.isNone=false)(hn:(fn.name== "runtime.NumGoroutine")=false)(ha:args.map (ev f)=vals):
   (execOp (ev f) ⟨dst,.call {callee:=.invoke x name,args:=args.toArray,argTypes:=at_},ty,pos,after,g⟩).run P w= .ok (.enter fid (u::vals).toArray) w:=by
 have ha:args.toArray.map (ev f)=vals.toArray:=by rw[<-ha];simp
 obtain⟨n,hn2⟩:=mW (P:=P)
 have hm':=hm n
 rw[<-hn2] at hm'
 have h1:fn.name≠ "runtime.NumGoroutine" :=by simpa using hn
 have h2:fn.body≠none:=λe=>by rw[e] at hb;cases hb
 simp[execOp,resolve,invoke,callMethod,callFunc,hx,ha,hm',hf,h1,h2]
theorem iT{t:TypeId}{us:TypeDesc}(hs:P.underlying t=some us)(hi:(match us with| .interface _=>true|_=>false)=false)(hx:ev f x=v):(execOp (ev f) ⟨dst,.makeInterface t x,ty,pos,after,g⟩).run P w= .ok (.value (.iface t v)) w:=by
 subst hx
 cases us<;>first|(cases hi;done)|simp[execOp,Instr.makeInterface,aD hs]
theorem jP{s t:TypeId}{us:TypeDesc}(hs:P.underlying t=some us)(hi:(match us with| .interface _=>true|_=>false)=false)(hx:ev f x= .iface t v):(execOp (ev f) ⟨dst,.typeAssert x s t false,ty,pos,after,g⟩).run P w= .ok (.value v) w:=by
 cases us<;>first|(cases hi;done)|simp[execOp,Instr.typeAssert,aD hs,hx]
end
end TL
/-
  TlNil: a list that is none, compared.
  By an AI agent.
-/
set_option linter.all false
namespace TL
open Go
section
variable{P:Program}{w:World}{t t':TypeId}{f:Fr}{x y:Operand}{dst:Option Tmp}{ty:TypeId}{pos:String}{after:Array Edge}{g:Option (Nat×Bool)}
end
theorem qe{α:Type}[Rp α]{γ:ay}{J S:bO->Prop}{w:World}{v:Value}{xs:List α}{hi:Nat}(h:Ow γ J S w v xs)(h2:hi<=xs.length):Ow γ J S w (iq v (Rp.sz α) 0 hi) (xs.take hi):=by
  rcases h with⟨rfl,rfl⟩|⟨b,cap,c,e,rfl,hc,hm,hJ,hb,hcs,hx⟩
  · simp only[List.length_nil] at h2
    have:hi=0:=by omega
    subst this
    exact .inl ⟨rfl,rfl⟩
  · have hl:(xs.take hi).length=hi:=by simp;omega
    refine .inr ⟨b,cap,c,e,?_,⟨by omega,by omega⟩,hm,hJ,hb,hcs,λi x hi'=>hx i x ?_⟩
    · rw[lN]
      simp only[hl]
    · rw[List.getElem?_take] at hi'
      split at hi'
      · exact hi'
      · cases hi'
end TL
/-
  TlRoot: a function that changes a list which its caller owns.
  By an AI agent.
-/
set_option linter.all false
namespace TL
open Go
def pJ(γ0:ay)(w0:World)(γ:ay)(w:World):Prop:=bc (is 1) γ0 w0 γ w
class JOk (J:bO->Prop):Prop where
 ok:∀c,J c->is 1 c
instance:JOk no:=⟨λ_ h=>h.elim⟩
instance:JOk (is 1):=⟨λ_ h=>h⟩
instance:JOk (inl []):=⟨λ_ h=>by unfold inl at h;simp at h⟩
instance:JOk (inl [1]):=⟨λc h=>by unfold inl at h;unfold is;simpa using h⟩
theorem pJ.start{γ0:ay}(w0:World):pJ γ0 w0 γ0 w0:=bc.refl _ _ _
theorem pJ.chgC{J:bO->Prop}{γ0 γ γ':ay}{w0 w w':World}[JOk J](h:pJ γ0 w0 γ w)(h':bc J γ w γ' w')(_:∀c,is 0 c->¬J c):pJ γ0 w0 γ' w':=by
 unfold pJ at*
 refine⟨h'.os.trans h.os,h'.tape.trans h.tape,h'.output.trans h.output,Nat.le_trans h.size h'.size,λb hb hn=>?_,λb hb hn=>?_,Nat.le_trans h.drawn h'.drawn⟩
 · have e:=h.col b hb hn
   rw[h'.col b (Nat.lt_of_lt_of_le hb h.size) (λk=>hn (by rw[<-e];exact JOk.ok _ k)),e]
 · have e:=h.col b hb hn
   rw[h'.keep b (Nat.lt_of_lt_of_le hb h.size) (λk=>hn (by rw[<-e];exact JOk.ok _ k)),h.keep b hb hn]
def rcK(γ:ay)(k:Nat):ay:=λb=>if(γ b).1=k then(1,0) else(0,0)
theorem Ow.rcK{γ:ay}{k:Nat}{w:World}{v:Value}{xs:List Int}(h:Ow γ (is k) (is k) w v xs):Ow (rcK γ k) (is 1) (is 1) w v xs:=by
 rcases h with h|⟨b,cap,c,e,h1,h2,h3,h4,h5,h6,h7⟩
 · exact .inl h
 · refine .inr ⟨b,cap,c,e,h1,h2,h3,?_,h5,h6,λi x hi=>h7 i x hi⟩
   have h4:(γ b).1=k:=h4
   unfold TL.rcK is;rw[if_pos h4]
theorem Ow.uncol{γ γ':ay}{k:Nat}{w w':World}{v:Value}{xs ys:List Int}(h:Ow γ (is k) (is k) w v xs)(h':Ow γ' (is 1) (is 1) w' v ys):Ow γ (is k) (is k) w' v ys:=by
 rcases h' with h'|⟨b,cap,c,e,h1,h2,h3,h4,h5,h6,h7⟩
 · exact .inl h'
 · refine .inr ⟨b,cap,c,e,h1,h2,h3,?_,h5,h6,λi x hi=>h7 i x hi⟩
   rcases h with h|⟨b',cap',c',e',g1,g2,g3,g4,_⟩
   · rw[h.1] at h1;cases h1
   · rw[g1] at h1
     have e1:b'=b:=by injection h1 with a _ _;injection a with a;injection a
     rw[<-e1];exact g4
theorem bc.uncol{γ γ':ay}{k:Nat}{w w':World}(h:bc (is 1) (rcK γ k) w γ' w'):bc (is k) γ w γ w':=by
 refine⟨h.os,h.tape,h.output,h.size,λ_ _ _=>rfl,λb hb hn=>h.keep b hb (λc=>hn ?_),h.drawn⟩
 unfold is TL.rcK at c
 by_cases e:(γ b).1=k
 · exact e
 · rw[if_neg e] at c;exact absurd c (by decide)
theorem cJ{P:Program}{fid:Nat}{args:Array Value}{γ:ay}{k:Nat}{w:World}{v:Value}{xs:List Int}{Q:Int->List Int->Prop}(ho:Ow γ (is k) (is k) w v xs)
   (h:Calls P fid args w λe w'=>∃x:Int×List Int,e= .returned ((λx:Int×List Int=>Value.int .i64 x.1) x)/\∃γ',bc (is 1) (rcK γ k) w γ' w'/\Ow γ' (is 1) (is 1) w' v x.2/\Q x.1 x.2):
   Calls P fid args w λe w'=>∃x:Int×List Int,e= .returned ((λx:Int×List Int=>Value.int .i64 x.1) x)/\(λ(x:Int×List Int) (w':World)=>bc (is k) γ w γ w'/\Ow γ (is k) (is k) w' v x.2/\Q x.1 x.2) x w':=
 h.mono λe w' ⟨x,e1,γ',h1,h2,h3⟩=>⟨x,e1,h1.uncol,ho.uncol h2,h3⟩
end TL
/-
  TlSort: the library's sort by a function, met in this frame.
  By an AI agent.
-/
set_option linter.all false
namespace TL
open Go Go.Proofs Go.Shelf Go.Sort Go.Lib
theorem cr.grown{w w':World}(h:cr w.heap.size w w'):∃q os,w'=grow (w.drewN q) os:=by
 obtain⟨h1,h2,h3,h4,h5,h6⟩:=h
 refine⟨w'.drawn-w.drawn,w'.heap.extract w.heap.size w'.heap.size,?_⟩
 have hh:w'.heap=w.heap++w'.heap.extract w.heap.size w'.heap.size:=by
   apply Array.ext_getElem?
   intro k
   rw[Array.getElem?_append]
   by_cases hk:k<w.heap.size
   · rw[if_pos hk];exact h5 k hk
   · rw[if_neg hk,Array.getElem?_extract]
     split
     · rw[show w.heap.size+(k-w.heap.size)=k by omega]
     · exact Array.getElem?_eq_none (by omega)
 have hd:w'.drawn=w.drawn+(w'.drawn-w.drawn):=by omega
 cases w with
 |mk a b c d e=>
   cases w' with
   |mk a' b' c' d' e'=>
     simp only[grow,World.drewN] at*
     subst h1 h2 h3
     simp only[World.mk.injEq,true_and,and_true]
     exact⟨hh,hd⟩
section
variable{α:Type}[Inhabited α]{γ:ay}{w:World}{j b:Nat}
theorem gK(enc:α->Value)(hb:is j (γ b))(m:Nat)(d:Array α)(os:Array Obj):bc (is j) γ w γ (sortWorld enc w b 0 m d os):=by
 refine⟨rfl,rfl,rfl,?_,λ_ _ _=>rfl,λk hk hn=>?_,?_⟩
 · unfold sortWorld;rw[size_grow,Go.Sort.size_putRow];simp only[heap_ahead];omega
 · unfold sortWorld
   rw[heap_grow_old _ _ (by rw[Go.Sort.size_putRow];exact hk)]
   have:b≠k:=λe=>hn (by subst e;exact hb)
   simp[putRow,mapBlock,Array.getElem?_modify,this]
 · show w.drawn<=w.drawn+m
   omega
theorem ii(enc:α->Value){c:Array Value}{e:TypeId}{fr:Nat×Nat}(h:w.heap[b]? =some (.cells c e fr))(m:Nat)(d:Array α)(os:Array Obj):(sortWorld enc w b 0 m d os).heap[b]? =some (.cells (putCells enc 0 d c) e fr):=by
 unfold sortWorld
 rw[heap_grow_old _ _ (by rw[Go.Sort.size_putRow];exact cH h)]
 simp[putRow,mapBlock,Array.getElem?_modify,h,onCells]
theorem fW(enc:α->Value){d:Array α}{c:Array Value}{k:Nat}(h:k<d.size)(hc:k<c.size):(putCells enc 0 d c)[k]? =some (enc d[k]!):=by
 simp[putCells,h,hc]
end
theorem lX{P:Program}{ρ:Ren}(L:SlLaysF.n6 P ρ){α:Type}[Inhabited α](fe:α->Int)(cf:α->α->Int)(hO:SWO (ltOf cf))(g:Nat)(cb:Array Value)(eg:∀args w,(callFunc g args).run P w= .ok (.enter g args) w)
   {γ:ay}{w:World}{j:Nat}{v:Value}{ds:List α}(hne:ds≠[])(hl:Ow γ (is j) (is j) w v (ds.map fe))
   (hc:∀W,bc (is j) γ w γ W->∀x y,Calls P g (#[.int .i64 (fe x),.int .i64 (fe y)]++cb) W λe w'=>e= .returned (.int .i64 (cf x y))/\cr W.heap.size W w'):
   Calls P (ρ.f 6) #[v,.func (.func g) #[] cb] w λe w'=>e= .returned (.tuple #[])/\∃ds':List α,ds'.Perm ds/\ds'.Pairwise (λx y=>ltOf cf y x=false)/\bc (is j) γ w γ w'/\Ow γ (is j) (is j) w' v (ds'.map fe):=by
 rcases hl with⟨_,h⟩|⟨b,cap,c,e,rfl,hcap,hm,hJ,hb,hcs,hx⟩
 · simp at h;exact absurd h hne
 · simp only[List.length_map] at hcap
   have hsz1:Rp.sz Int=1:=rfl
   rw[hsz1,Nat.mul_one] at hcs
   have hbs:=cH hb
   have hlen:(ds.map fe).length=ds.toArray.size:=by simp
   have hget:∀i,i<ds.length->c[i]? =some (Value.int .i64 (fe ds.toArray[i]!)):=λi hi=>by
     obtain⟨cs,h1,h2⟩:=hx i (fe ds[i]) (by simp[hi])
     have h2:cs=[Value.int .i64 (fe ds[i])]:=h2
     have h1:=h1 0 (by decide)
     rw[h2] at h1
     simp only[hsz1,Nat.mul_one,Nat.add_zero] at h1
     rw[h1]
     simp[hi]
   have hH:Holds (λx:α=>Value.int .i64 (fe x)) w b 0 ds.toArray:=λi hi=>by
     have hi:i<ds.length:=by simpa using hi
     constructor
     · have:=hget i hi
       simp only[World.cell?,hb,Nat.zero_add]
       exact this
     · simp[World.frozen?,hb]
   have hcmp:CmpLays1 P g cb (λx:α=>Value.int .i64 (fe x)) cf b 0 ds.toArray.size w:=λm os dk hs x y=>
     (hc _ (gK _ hJ m dk os) x y).mono λe w' ⟨h1,h2⟩=>⟨h1,h2.grown⟩
   have hX:=Any.slices_SortFunc L (λx:α=>Value.int .i64 (fe x)) (λ_=>rfl) cf hO g cb b 0 cap ds.toArray w eg hcmp hH hbs (by simp;omega)
   rw[hlen]
   refine hX.mono λe' w' ⟨h1,d',n,os,hp,hs,hw⟩=>⟨h1,d'.toList,?_,?_,?_,?_⟩
   · obtain⟨q1,_,q3⟩:=hp
     rw[<-q1] at q3
     have e1:(d'.extract 0 d'.size)=d':=by simp
     rw[e1,q1] at q3
     have e2:(ds.toArray.extract 0 ds.toArray.size)=ds.toArray:=Array.extract_size
     rw[e2] at q3
     simpa using q3
   · rw[List.pairwise_iff_getElem]
     intro i k hi hk hik
     have hi:i<d'.size:=by simpa using hi
     have hk:k<d'.size:=by simpa using hk
     have:=hs i k (Nat.zero_le _) hik (by rw[<-hp.1];exact hk)
     rw[getElem!_pos d' k hk,getElem!_pos d' i hi] at this
     simpa using this
   · rw[hw];exact gK _ hJ n d' os
   · have hs':d'.size=ds.length:=by rw[hp.1];simp
     have hd:d'.toList.length=ds.length:=by simpa using hs'
     refine .inr ⟨b,cap,_,e,by rw[List.length_map,hd];simp,by rw[List.length_map,hd];exact hcap,hm,hJ,by rw[hw];exact ii _ hb n d' os,by rw[hsz1,Nat.mul_one];simpa[putCells] using hcs,λi x hi=>?_⟩
     have hi':i<d'.size:=by
       have:=(List.getElem?_eq_some_iff.1 hi).1
       simpa using this
     refine⟨[Value.int .i64 x],λq hq=>?_,rfl⟩
     have:q=0:=by have:q<1:=hq;omega
     subst this
     rw[hsz1,Nat.mul_one,Nat.add_zero,fW _ hi' (by rw[hcs];omega),getElem!_pos d' _ hi']
     simp[hi'] at hi
     simp[hi]
end TL
/-
  TlSort2: the library's sort of numbers, met in this frame.
  By an AI agent.
-/
set_option linter.all false
namespace TL
open Go Go.Proofs Go.Shelf Go.Sort Go.Lib
theorem ko{P:Program}{ρ:Ren}(L:Lays.n189 P ρ)(hN:∀w:World,Calls P (ρ.f 189) #[.slice none 0 0] w λe w'=>e= .returned (.tuple #[])/\cr w.heap.size w w')
   {γ:ay}{w:World}{j:Nat}{v:Value}{zs:List Int}(hl:Ow γ (is j) (is j) w v zs):
   Calls P (ρ.f 189) #[v] w λe w'=>e= .returned (.tuple #[])/\bc (is j) γ w γ w'/\Ow γ (is j) (is j) w' v (zs.mergeSort λx y=>decide (x<=y)):=by
 rcases hl with⟨rfl,rfl⟩|⟨b,cap,c,e,rfl,hcap,hm,hJ,hb,hcs,hx⟩
 · refine(hN w).mono λe w' ⟨h1,h2⟩=>⟨h1,?_,?_⟩
   · exact⟨h2.os,h2.tape,h2.output,h2.size,λ_ _ _=>rfl,λk hk _=>h2.block k hk,h2.drawn⟩
   · rw[show([]:List Int).mergeSort (λx y=>decide (x<=y))=[] from by simp]
     exact .inl ⟨rfl,rfl⟩
 · have hsz1:Rp.sz Int=1:=rfl
   rw[hsz1,Nat.mul_one] at hcs
   have hbs:=cH hb
   have hget:∀i,i<zs.length->c[i]? =some (Value.int .i64 zs.toArray[i]!):=λi hi=>by
     obtain⟨cs,h1,h2⟩:=hx i zs[i] (by simp[hi])
     have h2:cs=[Value.int .i64 zs[i]]:=h2
     have h1:=h1 0 (by decide)
     rw[h2] at h1
     simp only[hsz1,Nat.mul_one,Nat.add_zero] at h1
     rw[h1]
     simp[hi]
   have hH:Holds (Value.int .i64) w b 0 zs.toArray:=λi hi=>by
     have hi:i<zs.length:=by simpa using hi
     constructor
     · have:=hget i hi
       simp only[World.cell?,hb,Nat.zero_add]
       exact this
     · simp[World.frozen?,hb]
   have hX:=Any.slices_Sort_int L b 0 cap zs w hH hbs (by omega)
   refine hX.mono λe' w' ⟨h1,n,os,hw⟩=>⟨h1,?_,?_⟩
   · rw[hw];exact gK _ hJ n _ os
   · have hd:(zs.mergeSort λx y=>decide (x<=y)).length=zs.length:=List.length_mergeSort _
     generalize(zs.mergeSort λx y=>decide (x<=y))=ds at hd hw
     refine .inr ⟨b,cap,_,e,by rw[hd],by rw[hd];exact hcap,hm,hJ,by rw[hw];exact ii (Value.int .i64) hb n ds.toArray os,by rw[hsz1,Nat.mul_one];simpa[putCells] using hcs,λi x hi=>?_⟩
     have hi':i<ds.length:=(List.getElem?_eq_some_iff.1 hi).1
     refine⟨[Value.int .i64 x],λq hq=>?_,rfl⟩
     have:q=0:=by have:q<1:=hq;omega
     subst this
     rw[hsz1,Nat.mul_one,Nat.add_zero,fW _ (by simpa using hi') (by rw[hcs];omega),getElem!_pos ds.toArray _ (by simpa using hi')]
     simp[hi'] at hi
     simp[hi]
end TL
/-
  TlPost: what is owed behind a law that returns true and writes nothing of the caller's.
  By an AI agent.
-/
namespace TL
open Go Go.Proofs Go.ChangeShapes Go.WideShapes Go.RowKit
def l8(P:Program)(ts:List TypeId):Bool:=ts.all λt=>P.readableRec t&&decide (t<P.types.size)
theorem ie{H:Type}{enc:TypeId×Value->H}{P:Program}(hl:laidOutB P=true){W W':World}(hb:Below W.heap.size W W')(sp:Nat->Bool):
   ∀{ts:List TypeId} {vs:List Value} {ds:List (DataW H)} {ps:List MemPlace},l8 P ts=true->DataW.TrodAll enc P W 0 (λ_=>true) true ts vs ds ps->(∀p∈ps,p.block<W.heap.size)->(∀p∈ps,sp p.block=true)->DataW.TrodAll enc P W' 0 sp true ts vs ds ps
 |[],[],[],_,_,h,_,_=>h
 |[],[],_::_,_,_,h,_,_=>h.elim
 |[],_::_,_,_,_,h,_,_=>by cases‹List (DataW H)›<;>exact h.elim
 |_::_,[],_,_,_,h,_,_=>by cases‹List (DataW H)›<;>exact h.elim
 |_::_,_::_,[],_,_,h,_,_=>h.elim
 |t::ts,v::vs,d::ds,ps,hr,h,hlt,hsp=>by
   obtain⟨p,q,h1,h2,rfl⟩:=h
   simp only[l8,List.all_cons,Bool.and_eq_true,decide_eq_true_eq] at hr
   exact⟨p,q,WideElems.Trod_stays hl hr.1.1 hr.1.2 h1 (λx hx=>hb.same (hlt x (by simp[hx]))) (λx hx=>hsp x (by simp[hx])),
     ie hl hb sp hr.2 h2 (λx hx=>hlt x (by simp[hx])) (λx hx=>hsp x (by simp[hx])),rfl⟩
theorem nj{H:Type}{enc:TypeId×Value->H}{P:Program}{f:Func}{s:ChangeSpec}{W W':World}{args:Array Value}{ds gs:List (DataW H)}{before:List MemPlace}{tb:TypeId}
   (hl:laidOutB P=true)(hr:l8 P f.params.toList=true)(hv:s.vars=[])(hrt:f.resultTypes= #[tb])(htb:P.underlying tb=some .bool)
   (hW:DataW.Whole enc P f.params.toList s.vars false W args.toList ds gs before)(hfn:s.fn H (ds++gs)={results:=[.lit (.bool true)],args:=ds})(hB:Below W.heap.size W W'):
   s.post enc P f false true false false W args (.bool true) W':=by
 have hlt:=hW.lt
 have hW0:=hW
 obtain⟨p,q,hA,hV,rfl,hfz,_⟩:=hW
 rw[hv] at hV
 obtain⟨rfl,rfl⟩:=trodVars_none hV
 simp only[List.append_nil] at hlt hfz hW0 hfn
 have hres:∀(b:Nat) (sp:Nat->Bool) (hd:Bool),DataW.TrodAll enc P W' b sp hd f.resultTypes.toList ((Value.bool true).resultList f.resultTypes.size) (s.fn H (ds++[])).results []:=λb sp hd=>by
   rw[hrt,List.append_nil,hfn]
   exact trodAll_cons_mk (shut_bool htb true) trodAll_mk0
 have hargs:∀sp:Nat->Bool,(∀x∈p,sp x.block=true)->DataW.TrodAll enc P W' 0 sp true f.params.toList args.toList (s.fn H (ds++[])).args p:=λsp hsp=>by
   rw[List.append_nil,hfn]
   exact ie hl hB sp hr hA hlt hsp
 have hvars:∀sp:Nat->Bool,DataW.TrodVars enc P W' sp s.vars (s.fn H (ds++[])).vars []:=λsp=>by
   rw[List.append_nil,hfn,hv]
   rfl
 refine⟨ds,[],p,[],p,[],hW0,hres _ _ _,hargs _ (λx hx=>by simpa using hlt x hx),hvars _,World.keptBut_mono (λx hx=>⟨hx,Or.inr (by simpa using hx)⟩) (hB.frame _),λ_=>?_⟩
 refine⟨?_,_,_,([]++p)++[],⟨[]++p,[],trodAll_append (hargs _ (λ_ _=>rfl)) (hres _ _ _),hvars _,rfl,?_,?_⟩,?_⟩
 · exact ok_one hrt rfl (okWide_bool_mk htb true)
 · intro b off hp
   have hp':MemPlace.cell b off∈p:=by simpa using hp
   rw[hB.frozen (p:=⟨b,off,none⟩) (hlt _ hp')]
   exact hfz b off hp'
 · intro ha;cases ha
 · intro x hx _
   simpa using hx
end TL
