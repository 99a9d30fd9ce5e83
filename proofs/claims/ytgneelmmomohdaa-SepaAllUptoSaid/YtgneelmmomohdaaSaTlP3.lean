/- Plain texts of this claim, part 3. By an AI agent. -/
import Derived.Test.YtgneelmmomohdaaSaTlP2
/-
  TlCls3: each step of the walk keeps what it relies on: a loop, an edge back.
  By an AI agent.
-/
set_option linter.all false
namespace TL
variable{g:bz}{s:Bs}{fr:Fm}{path:List Int}{A B A0:Fm}{S U:List Int}{u v w e b h:Int}{pl lo by_:List Int}{la:List Bool}{ed bl:List Int}
theorem gx.mem(hd:gx g s fr){p:Int×List Int}(hp:p∈fr):(0<=p.1/\p.1<g.1)/\gI s.place p.1≠0:=hd.se.pr _ (List.mem_map.2 ⟨p,hp,rfl⟩)
theorem gx.to(hd:gx g s fr):∀p∈fr,0<=gI s.by_ p.1->hf g (gI s.by_ p.1)/\bg g (gI s.by_ p.1)=p.1:=λp hp h0=>by
 have h1:=(hd.mem hp).1
 rcases hd.se.by_ p.1 h1.1 h1.2 with k|⟨k,j,_⟩
 · omega
 · exact⟨k,j⟩
theorem gx.wy(hd:gx g s fr){A B:Fm}(he:fr=A++B):∀x∈A.map Prod.fst,∀y∈A.map Prod.fst,Wy g (λz=>z∈A.map Prod.fst) x y:=
 AS (λA v S B k=>(hd.fra A v S B k).own) hd.to A.length A B rfl he
theorem gx.el(hd:gx g s fr):∀p∈fr,∀e∈p.2,(0<=e/\e<(g.2.length:Int))/\gI s.laid e=true:=λp hp e he=>hd.se.el e (by
 rw[hd.stk];exact List.mem_flatten.2 ⟨p.2,List.mem_map.2 ⟨p,hp,rfl⟩,he⟩)
theorem gx.lot(hd:gx g s fr){k:Int}(hk:hf g k)(hl:gI s.laid (k/2)=true):gI s.place (bg g k)≠0:=by
  obtain⟨t1,t2,t3,t4⟩:=dR (g:=g) hk
  have:=hd.lof _ t1 (by rw[t2];exact hl)
  rwa[t3] at this
theorem mH{x y:Int}(h:gI pl x<gI pl y):x≠y:=λe=>by rw[e] at h;omega
theorem gF{X A:List (Int×List Int)}{a x:Int×List Int}{B:List (Int×List Int)}(h:X++[a]=A++x::B):(A=X/\x=a/\B=[])\/∃B0,X=A++x::B0/\B=B0++[a]:=by
 rcases List.eq_nil_or_concat B with k|⟨B0,y,k⟩
 · subst k
   have:=List.append_inj' h rfl
   exact .inl ⟨this.1.symm,by simpa using this.2.symm,rfl⟩
 · rw[List.concat_eq_append] at k
   subst k
   have h2:X++[a]=(A++x::B0)++[y]:=by rw[h];simp
   have:=List.append_inj' h2 rfl
   exact .inr ⟨B0,this.1,by rw[show a=y by simpa using this.2]⟩
theorem gx.nexts(hd:gx g s fr)(u0:0<=u)(u1:u<g.1)(hn:¬gI s.next u=((gI (ar g) u).length:Int)):gx g {s with next:=s.next.set u.toNat (gI s.next u+1)} fr:=
 ⟨hd.se.nexts u0 u1 hn,hd.stk,hd.inj,hd.lof,hd.fra,hd.clr,hd.clb⟩
theorem gx.loop(hm:aX g)(hd:gx g s fr)(hh:hf g h)(hl:¬gI s.laid (h/2)=true)(hv:gI s.place (aA g h)≠0)(hw:bg g h=aA g h)(hse:eU g (ec (iM s (h/2)) (h/2)) (fr.map Prod.fst)):gx g (ec (iM s (h/2)) (h/2)) fr:=by
  have e0:=ik hh
  have e1:=fN hh
  have hl5:=hd.se.l5
  obtain⟨hlay,hne⟩:=hd.se.lay e0 e1 hl
  have hen:(s.edges++[h/2]).Nodup:=hlay.en
  have hel:∀x∈s.edges++[h/2],(0<=x/\x<(g.2.length:Int))/\gI (s.laid.set (h/2).toNat true) x=true:=hlay.el
  rw[qQ (s:=iM s (h/2)) (pre:=s.edges) (rest:=[]) (e:=h/2) rfl hen] at hse ⊢
  have hends:∀k,hf g k->k/2=h/2->aA g k=aA g h/\bg g k=aA g h:=λk hk he=>by
    rcases fz hk.1 hh.1 he with q|q
    · rw[q];exact⟨rfl,hw⟩
    · obtain⟨_,_,t3,t4⟩:=dR (g:=g) hh
      rw[q,t3,t4];exact⟨hw,rfl⟩
  have hcl:=zi (g:=g) (la:=s.laid.set (h/2).toNat true) (ed:=s.edges++[h/2]) (bl:=s.block) (pre:=s.edges) (P:=[h/2]) (c:=s.count) rfl hen hel hd.se.l6 hd.se.ct
    (λx hx=>hd.clr x ((kN e0 (by omega) hl).1 hx)) (λb b0 b1=>sB e0 (by omega) hl (hd.clb b b0 b1)) (λhin _=>.inl ⟨h/2,by
      have hf1:(gI g.2 (h/2)).1=(gI g.2 (h/2)).2:=by
        have h1:=hw
        unfold bg aA at h1
        have h2:h%2=0\/h%2=1:=by omega
        rcases h2 with q|q
        · rw[q] at h1;exact h1.symm
        · rw[q] at h1;exact h1
      exact hf1,λx hx hb=>List.mem_singleton.1 (hin x hx hb)⟩)
  refine⟨hse,hd.stk,hd.inj,λk hk hlk=>?_,λA v S B he=>(hd.fra A v S B he).lay e0 (by omega) (λ_=>ik) (λk hk hke a c _=>?_),hcl.1,hcl.2⟩
  · have hlk:gI (s.laid.set (h/2).toNat true) (k/2)=true:=hlk
    show gI s.place (aA g k)≠0
    by_cases q:k/2=h/2
    · rw[(hends k hk q).1];exact hv
    · rw[dv e0 (by omega) (ik hk),if_neg q] at hlk
      exact hd.lof k hk hlk
  · obtain⟨p,q⟩:=hends k hk hke
    rw[p] at a;rw[q] at c
    exfalso
    have a:gI s.place v<=gI s.place (aA g h):=a
    have c:gI s.place (aA g h)<gI s.place v:=c
    omega
theorem gx.back(hm:aX g)(hd:gx g s (A0++[(v,S)]))(hall:∀k,hf g k->gI s.place (aA g k)≠0->aA g k∉(A0++[(v,S)]).map Prod.fst->gI s.laid (k/2)=true)(hh:hf g h)(hv:aA g h=v)(hl:¬gI s.laid (h/2)=true)(hne:bg g h≠v)(hw:gI s.place (bg g h)≠0)
    (hse:eU g {iM s (h/2) with low:=s.low.set v.toNat (min (gI s.low v) (gI s.place (bg g h)))} ((A0++[(v,S++[h/2])]).map Prod.fst)):
    gx g {iM s (h/2) with low:=s.low.set v.toNat (min (gI s.low v) (gI s.place (bg g h)))} (A0++[(v,S++[h/2])]):=by
  have e0:=ik hh
  have e1:=fN hh
  have hl5:=hd.se.l5
  have hl2:=hd.se.l2
  have hvm:=hd.mem (p:=(v,S)) (by simp)
  have hlast:=hd.fra A0 v S [] rfl
  obtain⟨t1,t2,t3,t4⟩:=dR (g:=g) hh
  -- the other end is on the path, ahead
  have hwp:bg g h∈A0.map Prod.fst:=by
    by_cases c:bg g h∈(A0++[(v,S)]).map Prod.fst
    · rw[List.map_append,List.mem_append] at c
      exact c.resolve_right (λk=>hne (by simpa using k))
    · exfalso
      have:=hall _ t1 (by rw[t3];exact hw) (by rw[t3];exact c)
      rw[t2] at this;exact hl this
  have hpw:gI s.place (bg g h)<gI s.place v:=by
    obtain⟨p,hp,e⟩:=List.mem_map.1 hwp
    rw[<-e];exact hlast.asc p hp
  have hlo:∀x,0<=x->gI (s.low.set v.toNat (min (gI s.low v) (gI s.place (bg g h)))) x=if x=v then min (gI s.low v) (gI s.place (bg g h)) else gI s.low x:=λx a=>bT hvm.1.1 (by omega) a
  have hlv:gI (s.low.set v.toNat (min (gI s.low v) (gI s.place (bg g h)))) v=min (gI s.low v) (gI s.place (bg g h)):=by rw[hlo v hvm.1.1,if_pos rfl]
  have hle:∀x,0<=x->gI (s.low.set v.toNat (min (gI s.low v) (gI s.place (bg g h)))) x<=gI s.low x:=λx a=>by
    rw[hlo x a];split
    · rename_i k;rw[k];omega
    · omega
  have hends:∀k,hf g k->k/2=h/2->(aA g k=v/\bg g k=bg g h)\/(aA g k=bg g h/\bg g k=v):=λk hk he=>by
    rcases fz hk.1 hh.1 he with q|q
    · rw[q];exact .inl ⟨hv,rfl⟩
    · rw[q,t3,t4];exact .inr ⟨rfl,hv⟩
  have hmap:(A0++[(v,S++[h/2])]).map Prod.fst=(A0++[(v,S)]).map Prod.fst:=by simp
  -- the edge belongs to the edge by which v was found
  have hrel:∃A' q Q S',A0=A'++[(q,Q)]/\S=gI s.by_ v/2::S'/\aA g (gI s.by_ v)=q/\0<=gI s.by_ v:=by
    rcases hlast.own with⟨k,_⟩|k
    · rw[k] at hwp;exact absurd hwp List.not_mem_nil
    · exact k
  obtain⟨A',q,Q,S',ha1,ha2,ha3,ha4⟩:=hrel
  have hbv:=hd.to (v,S) (by simp) ha4
  have hvA:v∉A0.map Prod.fst:=λk=>by
    obtain⟨p,hp,e⟩:=List.mem_map.1 k
    have:=hlast.asc p hp
    rw[e] at this;omega
  have hqA:q∈A0.map Prod.fst:=by rw[ha1];simp
  have heq:EqB g (h/2) (gI s.by_ v/2):=by
    obtain⟨b1,b2,b3,b4⟩:=dR (g:=g) hbv.1
    refine .rel ⟨h,iu (gI s.by_ v),hh,b1,rfl,b2,?_,?_,?_,?_⟩
    · rw[b3,hbv.2,hv]
    · rw[hv];exact hne
    · rw[b4,b3,hbv.2,ha3];exact λk=>hvA (by have k:q=v:=k;rw[<-k];exact hqA)
    · rw[b4,ha3,hv]
      exact(hd.wy (A:=A0) (B:=[(v,S)]) rfl _ hwp _ hqA).mono (λz hz k=>hvA (by rw[<-k];exact hz))
  have hclo:∀x,lT g (s.laid.set (h/2).toNat true) (s.edges++[h/2]) x↔lT g s.laid s.edges x:=λx=>kN e0 (by omega) hl
  refine⟨hse,?_,hd.inj,λk hk hlk=>?_,λA x Sx B he=>?_,λx hx=>hd.clr x ((hclo x).1 hx),λb b0 b1=>sB e0 (by omega) hl (hd.clb b b0 b1)⟩
  · show s.edges++[h/2]=_
    rw[hd.stk];simp
  · have hlk:gI (s.laid.set (h/2).toNat true) (k/2)=true:=hlk
    show gI s.place (aA g k)≠0
    by_cases c:k/2=h/2
    · rcases hends k hk c with⟨r,_⟩|⟨r,_⟩
      · rw[r];exact hvm.2
      · rw[r];exact hw
    · rw[dv e0 (by omega) (ik hk),if_neg c] at hlk
      exact hd.lof k hk hlk
  · rw[hmap]
    rcases gF he with⟨k1,k2,k3⟩|⟨B0,k1,k2⟩
    · -- the last one
      obtain⟨rfl,rfl⟩:x=v/\Sx=S++[h/2]:=by simpa using k2
      subst k1 k3
      refine {hlast with own:=.inr ⟨A',q,Q,S'++[h/2],ha1,by rw[ha2];rfl,ha3,ha4⟩,eqb:=λy hy=>?_,end_:=λy hy=>?_,l1:=λk hk hlk a c d=>?_,l2:=?_,l3:=λhlt=>?_}
      · rcases List.mem_append.1 hy with j|j
        · exact hlast.eqb y j
        · rw[List.mem_singleton.1 j];exact heq
      · rcases List.mem_append.1 hy with j|j
        · exact hlast.end_ y j
        · exact⟨h,hh,(List.mem_singleton.1 j).symm,by rw[hv];exact Int.le_refl _⟩
      · have hlk:gI (s.laid.set (h/2).toNat true) (k/2)=true:=hlk
        have a:gI s.place x<=gI s.place (aA g k):=a
        have c:gI s.place (bg g k)<gI s.place x:=c
        refine⟨x,by simp,?_⟩
        show gI (s.low.set x.toNat _) x<=gI s.place (bg g k)
        rw[hlv]
        by_cases j:k/2=h/2
        · rcases hends k hk j with⟨r,r2⟩|⟨r,r2⟩
          · rw[r2];omega
          · rw[r2] at c;omega
        · rw[dv e0 (by omega) (ik hk),if_neg j] at hlk
          obtain⟨y,hy,hy2⟩:=hlast.l1 k hk hlk a c d
          have:y=x:=by simpa using hy
          rw[this] at hy2;omega
      · show gI (s.low.set x.toNat _) x<=gI s.place x
        rw[hlv];have:=hlast.l2;omega
      · have hlt:gI (s.low.set x.toNat (min (gI s.low x) (gI s.place (bg g h)))) x<gI s.place x:=hlt
        show∃k,hf g k/\gI (s.laid.set (h/2).toNat true) (k/2)=true/\gI s.place x<=gI s.place (aA g k)/\gI s.place (bg g k)=gI (s.low.set x.toNat _) x
        rw[hlv] at hlt ⊢
        by_cases j:gI s.place (bg g h)<=gI s.low x
        · refine⟨h,hh,?_,by rw[hv];exact Int.le_refl _,by omega⟩
          rw[dv e0 (by omega) e0,if_pos rfl]
        · obtain⟨k,c1,c2,c3,c4⟩:=hlast.l3 (by omega)
          refine⟨k,c1,?_,c3,by omega⟩
          rw[dv e0 (by omega) (ik c1)];split
          · rfl
          · exact c2
    · -- one ahead of it
      have hold:=hd.fra A x Sx (B0++[(v,S)]) (by rw[k1];simp)
      have hx:=hd.mem (p:=(x,Sx)) (by rw[k1];simp)
      have hxv:gI s.place x<gI s.place v:=hlast.asc (x,Sx) (by rw[k1];simp)
      have hxne:x≠v:=mH hxv
      have hlx:gI (s.low.set v.toNat (min (gI s.low v) (gI s.place (bg g h)))) x=gI s.low x:=by rw[hlo x hx.1.1,if_neg hxne]
      subst k2
      refine {hold with l1:=λk hk hlk a c d=>?_,l2:=?_,l3:=λhlt=>?_}
      · have hlk:gI (s.laid.set (h/2).toNat true) (k/2)=true:=hlk
        have a:gI s.place x<=gI s.place (aA g k):=a
        have c:gI s.place (bg g k)<gI s.place x:=c
        show∃y∈x::(B0++[(v,S++[h/2])]).map Prod.fst,gI (s.low.set v.toNat _) y<=gI s.place (bg g k)
        by_cases j:k/2=h/2
        · rcases hends k hk j with⟨r,r2⟩|⟨r,r2⟩
          · exact⟨v,by simp,by rw[hlv,r2];omega⟩
          · rw[r2] at c;omega
        · rw[dv e0 (by omega) (ik hk),if_neg j] at hlk
          obtain⟨y,hy,hy2⟩:=hold.l1 k hk hlk a c d
          refine⟨y,by simpa using hy,?_⟩
          have hy0:0<=y:=by
            have:y∈(A0++[(v,S)]).map Prod.fst:=by
              rw[k1]
              simp only[List.map_append,List.map_cons,List.mem_append,List.mem_cons] at hy ⊢
              rcases hy with q|q|q|q
              · exact .inl (.inr (.inl q))
              · exact .inl (.inr (.inr q))
              · exact .inr (.inl q)
              · exact absurd q List.not_mem_nil
            exact(hd.se.pr y this).1.1
          have:=hle y hy0
          omega
      · show gI (s.low.set v.toNat _) x<=gI s.place x
        rw[hlx];exact hold.l2
      · have hlt:gI (s.low.set v.toNat (min (gI s.low v) (gI s.place (bg g h)))) x<gI s.place x:=hlt
        show∃k,hf g k/\gI (s.laid.set (h/2).toNat true) (k/2)=true/\gI s.place x<=gI s.place (aA g k)/\gI s.place (bg g k)=gI (s.low.set v.toNat _) x
        rw[hlx] at hlt ⊢
        obtain⟨k,c1,c2,c3,c4⟩:=hold.l3 hlt
        refine⟨k,c1,?_,c3,c4⟩
        rw[dv e0 (by omega) (ik c1)];split
        · rfl
        · exact c2
end TL
/-
  TlCls4: each step of the walk keeps what it relies on: a node found, a node left.
  By an AI agent.
-/
set_option linter.all false
namespace TL
variable{g:bz}{s:Bs}{fr:Fm}{path:List Int}{A B A0:Fm}{S U:List Int}{u v w e b h:Int}
theorem gx.new(hm:aX g)(hd:gx g s (A0++[(v,S)]))(hall:∀k,hf g k->gI s.place (aA g k)≠0->aA g k∉(A0++[(v,S)]).map Prod.fst->gI s.laid (k/2)=true)(hh:hf g h)(hv:aA g h=v)(hl:¬gI s.laid (h/2)=true)(hw:gI s.place (bg g h)=0)
    (hse:eU g (gh {iM s (h/2) with by_:=s.by_.set (bg g h).toNat h} (bg g h)) ((A0++[(v,S)]++[(bg g h,[h/2])]).map Prod.fst)):
    gx g (gh {iM s (h/2) with by_:=s.by_.set (bg g h).toNat h} (bg g h)) (A0++[(v,S)]++[(bg g h,[h/2])]):=by
  have e0:=ik hh
  have e1:=fN hh
  have hl5:=hd.se.l5
  have hl1:=hd.se.l1
  have hl2:=hd.se.l2
  have hl3:=hd.se.l3
  have hf0:=hd.se.f0
  obtain⟨w0,w1⟩:=dM hm hh
  have hvm:=hd.mem (p:=(v,S)) (by simp)
  have hlast:=hd.fra A0 v S [] rfl
  obtain⟨t1,t2,t3,t4⟩:=dR (g:=g) hh
  generalize hwe:bg g h=w at*
  have hpl:∀x,0<=x->gI (s.place.set w.toNat (s.found+1)) x=if x=w then s.found+1 else gI s.place x:=λx a=>bT w0 (by omega) a
  have hlo:∀x,0<=x->gI (s.low.set w.toNat (s.found+1)) x=if x=w then s.found+1 else gI s.low x:=λx a=>bT w0 (by omega) a
  have hby:∀x,0<=x->gI (s.by_.set w.toNat h) x=if x=w then h else gI s.by_ x:=λx a=>bT w0 (by omega) a
  have hla:∀x,0<=x->gI (s.laid.set (h/2).toNat true) x=if x=h/2 then true else gI s.laid x:=λx a=>dv e0 (by omega) a
  have hfd:∀x,0<=x->gI s.place x≠0->gI (s.place.set w.toNat (s.found+1)) x=gI s.place x:=λx a c=>by
    rw[hpl x a,if_neg (λk=>c (by rw[k];exact hw))]
  have hub:∀x,0<=x->x<g.1->gI s.place x<=s.found:=λx a c=>(hd.se.pl x a c).2
  have hge:∀x,0<=x->x<g.1->gI s.place x<=gI (s.place.set w.toNat (s.found+1)) x:=λx a c=>by
    rw[hpl x a];have:=hub x a c;split<;>omega
  have hends:∀k,hf g k->k/2=h/2->(aA g k=v/\bg g k=w)\/(aA g k=w/\bg g k=v):=λk hk he=>by
    rcases fz hk.1 hh.1 he with q|q
    · rw[q];exact .inl ⟨hv,hwe⟩
    · rw[q,t3,t4];exact .inr ⟨rfl,hv⟩
  have hlaf:∀k,hf g k->gI (s.laid.set (h/2).toNat true) (k/2)=true->k/2≠h/2->gI s.laid (k/2)=true:=λk hk hlk j=>by
    rw[hla _ (ik hk),if_neg j] at hlk;exact hlk
  have hlam:∀k,hf g k->gI s.laid (k/2)=true->gI (s.laid.set (h/2).toNat true) (k/2)=true:=λk hk hlk=>by
    rw[hla _ (ik hk)];split
    · rfl
    · exact hlk
  have hvf:=hfd v hvm.1.1 hvm.2
  -- a done node's other ends are found
  have hdone:∀k,hf g k->gI s.place (aA g k)≠0->aA g k∉(A0++[(v,S)]).map Prod.fst->gI s.place (bg g k)≠0:=λk hk a c=>hd.lot hk (hall k hk a c)
  have hwpath:w∉(A0++[(v,S)]).map Prod.fst:=λk=>(hd.se.pr w k).2 hw
  -- the stack's edges are laid
  have hstk:∀p∈A0++[(v,S)],∀e∈p.2,∀k,hf g k->k/2=e->gI s.place (aA g k)≠0:=λp hp e he k hk hke=>hd.lof k hk (by rw[hke];exact(hd.el p hp e he).2)
  refine⟨hse,?_,λx y x0 x1 y0 y1 hx hxy=>?_,λk hk hlk=>?_,λA x Sx B he=>?_,λx hx=>hd.clr x ((kN e0 (by omega) hl).1 hx),λb b0 b1=>sB e0 (by omega) hl (hd.clb b b0 b1)⟩
  · show s.edges++[h/2]=_
    rw[hd.stk];simp
  · have hx:gI (s.place.set w.toNat (s.found+1)) x≠0:=hx
    have hxy:gI (s.place.set w.toNat (s.found+1)) x=gI (s.place.set w.toNat (s.found+1)) y:=hxy
    rw[hpl x x0,hpl y y0] at hxy
    rw[hpl x x0] at hx
    have h1:=hub x x0 x1
    have h2:=hub y y0 y1
    by_cases c1:x=w
    · by_cases c2:y=w
      · rw[c1,c2]
      · rw[if_pos c1,if_neg c2] at hxy;omega
    · by_cases c2:y=w
      · rw[if_neg c1,if_pos c2] at hxy;omega
      · rw[if_neg c1,if_neg c2] at hxy
        rw[if_neg c1] at hx
        exact hd.inj x y x0 x1 y0 y1 hx hxy
  · have hlk:gI (s.laid.set (h/2).toNat true) (k/2)=true:=hlk
    show gI (s.place.set w.toNat (s.found+1)) (aA g k)≠0
    obtain⟨f0,f1⟩:=ck hm hk
    by_cases c:k/2=h/2
    · rcases hends k hk c with⟨r,_⟩|⟨r,_⟩
      · rw[r,hvf];exact hvm.2
      · rw[r,hpl w w0,if_pos rfl];omega
    · have:=hd.lof k hk (hlaf k hk hlk c)
      rw[hfd _ f0 this];exact this
  · show vX g (s.place.set w.toNat (s.found+1)) (s.low.set w.toNat (s.found+1)) (s.by_.set w.toNat h) (s.laid.set (h/2).toNat true) _ A x Sx B
    rcases gF he with⟨k1,k2,k3⟩|⟨B0,k1,k2⟩
    · obtain⟨rfl,rfl⟩:x=w/\Sx=[h/2]:=by simpa using k2
      subst k1 k3
      have hxp:gI (s.place.set x.toNat (s.found+1)) x=s.found+1:=by rw[hpl x w0,if_pos rfl]
      have hxb:gI (s.by_.set x.toNat h) x=h:=by rw[hby x w0,if_pos rfl]
      refine⟨.inr ⟨A0,v,S,[],rfl,by rw[hxb],by rw[hxb];exact hv,by rw[hxb];exact hh.1⟩,λp hp=>?_,λy hy=>?_,λy hy=>?_,λp hp y hy k hk hke=>?_,λk hk a c d=>?_,λy y0 y1 hy=>?_,λk hk hlk a c d=>?_,?_,λhlt=>?_⟩
      · have:=hd.mem hp
        rw[hxp,hfd _ this.1.1 this.2];have:=hub _ this.1.1 this.1.2;omega
      · rw[List.mem_singleton.1 hy,hxb];exact .refl _
      · refine⟨iu h,t1,by rw[t2];exact(List.mem_singleton.1 hy).symm,?_⟩
        rw[t3];exact Int.le_refl _
      · have h1:=hstk p hp y hy k hk hke
        obtain⟨f0,f1⟩:=ck hm hk
        rw[hxp,hfd _ f0 h1];have:=hub _ f0 f1;omega
      · obtain⟨f0,f1⟩:=ck hm hk
        obtain⟨q0,q1⟩:=dM hm hk
        have hne:aA g k≠x:=λj=>c (by rw[j];simp)
        rw[hpl _ f0,if_neg hne] at a
        have h1:=hdone k hk a (λj=>c (by rw[List.map_append];exact List.mem_append_left _ j))
        rw[hxp,hfd _ q0 h1];have:=hub _ q0 q1;omega
      · rw[hxp,hpl y y0] at hy
        have:y=x:=by
          by_cases c:y=x
          · exact c
          · rw[if_neg c] at hy;have:=hub y y0 y1;omega
        subst this
        exact .refl ⟨⟨w0,w1⟩,Int.le_refl _⟩
      · obtain⟨f0,f1⟩:=ck hm hk
        rw[hxp,hpl _ f0] at a
        have hfx:aA g k=x:=by
          by_cases j:aA g k=x
          · exact j
          · rw[if_neg j] at a;have:=hub _ f0 f1;omega
        exfalso
        rw[hxb] at d
        exact hd.lof k hk (hlaf k hk hlk d) (by rw[hfx];exact hw)
      · rw[hxp,hlo x w0,if_pos rfl];exact Int.le_refl _
      · rw[hxp,hlo x w0,if_pos rfl] at hlt;omega
    · have hold:=hd.fra A x Sx B0 k1
      have hx:=hd.mem (p:=(x,Sx)) (by rw[k1];simp)
      have hxne:x≠w:=λk=>hx.2 (by rw[k];exact hw)
      have hxp:gI (s.place.set w.toNat (s.found+1)) x=gI s.place x:=hfd x hx.1.1 hx.2
      have hxl:gI (s.low.set w.toNat (s.found+1)) x=gI s.low x:=by rw[hlo x hx.1.1,if_neg hxne]
      have hxb:gI (s.by_.set w.toNat h) x=gI s.by_ x:=by rw[hby x hx.1.1,if_neg hxne]
      have hxv:gI s.place x<=gI s.place v:=by
        rcases gF k1 with⟨_,j,_⟩|⟨B1,j,_⟩
        · have:x=v:=by have:=congrArg Prod.fst j;exact this
          rw[this];exact Int.le_refl _
        · have:=hlast.asc (x,Sx) (by rw[j];simp)
          exact Int.le_of_lt this
      have hinA:∀p∈A,p∈A0++[(v,S)]:=λp hp=>by rw[k1];exact List.mem_append_left _ hp
      subst k2
      refine⟨?_,λp hp=>?_,λy hy=>?_,λy hy=>?_,λp hp y hy k hk hke=>?_,λk hk a c d=>?_,λy y0 y1 hy=>?_,λk hk hlk a c d=>?_,?_,λhlt=>?_⟩
      · rw[hxb];exact hold.own
      · have:=hd.mem (hinA p hp)
        rw[hxp,hfd _ this.1.1 this.2];exact hold.asc p hp
      · rw[hxb];exact hold.eqb y hy
      · obtain⟨k,c1,c2,c3⟩:=hold.end_ y hy
        obtain⟨f0,f1⟩:=ck hm c1
        exact⟨k,c1,c2,by rw[hxp];exact Int.le_trans c3 (hge _ f0 f1)⟩
      · have h1:=hstk p (hinA p hp) y hy k hk hke
        rw[hxp,hfd _ (ck hm hk).1 h1];exact hold.low p hp y hy k hk hke
      · obtain⟨f0,f1⟩:=ck hm hk
        have hne:aA g k≠w:=λj=>c (by rw[j];simp)
        rw[hpl _ f0,if_neg hne] at a
        have hnp:aA g k∉(A0++[(v,S)]).map Prod.fst:=λj=>c (by rw[List.map_append];exact List.mem_append_left _ j)
        have h1:=hdone k hk a hnp
        rw[hxp,hfd _ f0 a] at d
        rw[hxp,hfd _ (dM hm hk).1 h1]
        exact hold.cross k hk a hnp d
      · rw[hxp]
        by_cases c:y=w
        · subst c
          have h1:=(hold.conn v hvm.1.1 hvm.1.2 hxv).mono (B:=λz=>(0<=z/\z<g.1)/\gI s.place x<=gI (s.place.set y.toNat (s.found+1)) z) (λz hz=>⟨hz.1,Int.le_trans hz.2 (hge z hz.1.1 hz.1.2)⟩)
          have h2:(0<=y/\y<g.1)/\gI s.place x<=gI (s.place.set y.toNat (s.found+1)) y:=⟨⟨w0,w1⟩,by rw[hpl y w0,if_pos rfl];have:=hub x hx.1.1 hx.1.2;omega⟩
          have h3:=Wy.one (g:=g) (A:=λz=>(0<=z/\z<g.1)/\gI s.place x<=gI (s.place.set y.toNat (s.found+1)) z) hh (by rw[hv];exact h1.right) (by rw[hwe];exact h2)
          rw[hv,hwe] at h3
          exact h1.trans h3
        · rw[hxp,hpl y y0,if_neg c] at hy
          exact(hold.conn y y0 y1 hy).mono (λz hz=>⟨hz.1,Int.le_trans hz.2 (hge z hz.1.1 hz.1.2)⟩)
      · obtain⟨f0,f1⟩:=ck hm hk
        obtain⟨q0,q1⟩:=dM hm hk
        by_cases j:k/2=h/2
        · exfalso
          rcases hends k hk j with⟨r,r2⟩|⟨r,r2⟩
          · rw[r2,hxp,hpl w w0,if_pos rfl] at c;have:=hub x hx.1.1 hx.1.2;omega
          · rw[r2,hxp,hvf] at c;omega
        · have hlk':=hlaf k hk hlk j
          have h1:=hd.lof k hk hlk'
          have h2:=hd.lot hk hlk'
          rw[hxp,hfd _ f0 h1] at a
          rw[hxp,hfd _ q0 h2] at c
          rw[hxb] at d
          obtain⟨y,hy,hy2⟩:=hold.l1 k hk hlk' a c d
          have hyp:y∈(A0++[(v,S)]).map Prod.fst:=by
            rw[k1];simp only[List.map_append,List.map_cons,List.mem_append];exact .inr hy
          have hym:=hd.se.pr y hyp
          refine⟨y,?_,?_⟩
          · simp only[List.map_append,List.mem_cons,List.mem_append] at hy ⊢
            rcases hy with r|r
            · exact .inl r
            · exact .inr (.inl r)
          · rw[hlo y hym.1.1,if_neg (λr=>hym.2 (by rw[r];exact hw)),hfd _ q0 h2];exact hy2
      · rw[hxl,hxp];exact hold.l2
      · rw[hxl,hxp] at hlt
        obtain⟨k,c1,c2,c3,c4⟩:=hold.l3 hlt
        have h2:=hd.lot c1 c2
        exact⟨k,c1,hlam k c1 c2,by rw[hxp,hfd _ (ck hm c1).1 (hd.lof k c1 c2)];exact c3,by rw[hxl,hfd _ (dM hm c1).1 h2];exact c4⟩
end TL
/-
  TlCls5: each step of the walk keeps what it relies on: a walk begun, a node left.
  By an AI agent.
-/
set_option linter.all false
namespace TL
variable{g:bz}{s:Bs}{fr:Fm}{path:List Int}{A B A0:Fm}{S U:List Int}{u v w e b h:Int}
theorem gx.begin_(hm:aX g)(hd:gx g s [])(hu:oq g s [])(v0:0<=v)(v1:v<g.1)(hv:gI s.place v=0)(hse:eU g (gh s v) [v]):gx g (gh s v) [(v,[])]:=by
  have hl1:=hd.se.l1
  have hl2:=hd.se.l2
  have hf0:=hd.se.f0
  have hpl:∀x,0<=x->gI (s.place.set v.toNat (s.found+1)) x=if x=v then s.found+1 else gI s.place x:=λx a=>bT v0 (by omega) a
  have hlo:∀x,0<=x->gI (s.low.set v.toNat (s.found+1)) x=if x=v then s.found+1 else gI s.low x:=λx a=>bT v0 (by omega) a
  have hub:∀x,0<=x->x<g.1->gI s.place x<=s.found:=λx a c=>(hd.se.pl x a c).2
  have hfd:∀x,0<=x->gI s.place x≠0->gI (s.place.set v.toNat (s.found+1)) x=gI s.place x:=λx a c=>by
    rw[hpl x a,if_neg (λk=>c (by rw[k];exact hv))]
  have hxp:gI (s.place.set v.toNat (s.found+1)) v=s.found+1:=by rw[hpl v v0,if_pos rfl]
  have hed:s.edges=[]:=hd.stk
  refine⟨hse,hd.stk,λx y x0 x1 y0 y1 hx hxy=>?_,λk hk hlk=>?_,λA x Sx B he=>?_,hd.clr,hd.clb⟩
  · have hx:gI (s.place.set v.toNat (s.found+1)) x≠0:=hx
    have hxy:gI (s.place.set v.toNat (s.found+1)) x=gI (s.place.set v.toNat (s.found+1)) y:=hxy
    rw[hpl x x0,hpl y y0] at hxy
    rw[hpl x x0] at hx
    have h1:=hub x x0 x1
    have h2:=hub y y0 y1
    by_cases c1:x=v
    · by_cases c2:y=v
      · rw[c1,c2]
      · rw[if_pos c1,if_neg c2] at hxy;omega
    · by_cases c2:y=v
      · rw[if_neg c1,if_pos c2] at hxy;omega
      · rw[if_neg c1,if_neg c2] at hxy
        rw[if_neg c1] at hx
        exact hd.inj x y x0 x1 y0 y1 hx hxy
  · show gI (s.place.set v.toNat (s.found+1)) (aA g k)≠0
    have:=hd.lof k hk hlk
    rw[hfd _ (ck hm hk).1 this];exact this
  · show vX g (s.place.set v.toNat (s.found+1)) (s.low.set v.toNat (s.found+1)) s.by_ s.laid _ A x Sx B
    rcases gF (X:=[]) he with⟨k1,k2,k3⟩|⟨B0,k1,k2⟩
    · obtain⟨rfl,rfl⟩:x=v/\Sx=[]:=by simpa using k2
      subst k1 k3
      have hbx:gI s.by_ x= -1:=hse.p0 x rfl
      refine⟨.inl ⟨rfl,rfl,hbx⟩,λp hp=>absurd hp List.not_mem_nil,λy hy=>absurd hy List.not_mem_nil,λy hy=>absurd hy List.not_mem_nil,λp hp=>absurd hp List.not_mem_nil,λk hk a c d=>?_,λy y0 y1 hy=>?_,λk hk hlk a c d=>?_,?_,λhlt=>?_⟩
      · obtain⟨f0,f1⟩:=ck hm hk
        obtain⟨q0,q1⟩:=dM hm hk
        have hne:aA g k≠x:=λj=>c (by rw[j];simp)
        rw[hpl _ f0,if_neg hne] at a
        have h1:=hd.lot hk (hu.all hm hk a (by simp))
        rw[hxp,hfd _ q0 h1];have:=hub _ q0 q1;omega
      · rw[hxp,hpl y y0] at hy
        have:y=x:=by
          by_cases c:y=x
          · exact c
          · rw[if_neg c] at hy;have:=hub y y0 y1;omega
        subst this
        exact .refl ⟨⟨v0,v1⟩,Int.le_refl _⟩
      · obtain⟨f0,f1⟩:=ck hm hk
        rw[hxp,hpl _ f0] at a
        have hfx:aA g k=x:=by
          by_cases j:aA g k=x
          · exact j
          · rw[if_neg j] at a;have:=hub _ f0 f1;omega
        exact absurd (by rw[hfx];exact hv) (hd.lof k hk hlk)
      · rw[hxp,hlo x v0,if_pos rfl];exact Int.le_refl _
      · rw[hxp,hlo x v0,if_pos rfl] at hlt;omega
    · exact absurd k1.symm (by simp)
theorem gx.off0(hd:gx g s [(v,[])])(hse:eU g s []):gx g s []:=
  ⟨hse,hd.stk,hd.inj,hd.lof,λA x Sx B he=>by simp at he,hd.clr,hd.clb⟩
theorem vX.off(hm:aX g)(hd:gx g s (A0++[(u,U),(v,S)])){A1:Fm}{x:Int}{Sx Sy:List Int}{B1 B2:Fm}(hold:vX g s.place s.low s.by_ s.laid ((A0++[(u,U),(v,S)]).map Prod.fst) A1 x Sx (B1++[(v,S)]))
    (hin:(x,Sx)∈A0++[(u,U)])(hin2:∀y∈(x::B1.map Prod.fst),y∈(A0++[(u,U)]).map Prod.fst)(hu:u∈x::B1.map Prod.fst)(hB:B2.map Prod.fst=B1.map Prod.fst)(heqb:∀e∈Sy,EqB g e (gI s.by_ x/2))(hend:∀e∈Sy,∃h,hf g h/\h/2=e/\gI s.place x<=gI s.place (aA g h))
    (hown:(A1=[]/\Sy=[]/\gI s.by_ x= -1)\/(∃A' u U S',A1=A'++[(u,U)]/\Sy=gI s.by_ x/2::S'/\aA g (gI s.by_ x)=u/\0<=gI s.by_ x)):
    vX g s.place (s.low.set u.toNat (min (gI s.low u) (gI s.low v))) s.by_ s.laid ((A0++[(u,U)]).map Prod.fst) A1 x Sy B2:=by
  have hl2:=hd.se.l2
  have hvf:=hd.fra (A0++[(u,U)]) v S [] (by simp)
  have hum:=hd.mem (p:=(u,U)) (by simp)
  have hvm:=hd.mem (p:=(v,S)) (by simp)
  have hlo:∀x,0<=x->gI (s.low.set u.toNat (min (gI s.low u) (gI s.low v))) x=if x=u then min (gI s.low u) (gI s.low v) else gI s.low x:=λx a=>bT hum.1.1 (by omega) a
  have hxm:=hd.mem (p:=(x,Sx)) (by
    have:=List.mem_append.1 hin
    rcases this with k|k
    · exact List.mem_append_left _ k
    · rw[List.mem_singleton.1 k];simp)
  have hxv:gI s.place x<gI s.place v:=hvf.asc (x,Sx) hin
  refine {hold with own:=hown,eqb:=heqb,end_:=hend,cross:=λk hk a c d=>?_,l1:=λk hk hlk a c d=>?_,l2:=?_,l3:=λhlt=>?_}
  · by_cases j:aA g k=v
    · rw[j] at d;omega
    · refine hold.cross k hk a (λq=>c ?_) d
      have e1:(A0++[(u,U),(v,S)]).map Prod.fst=(A0++[(u,U)]).map Prod.fst++[v]:=by simp
      rw[e1,List.mem_append] at q
      exact q.resolve_right (λr=>j (by simpa using r))
  · obtain⟨y,hy,hy2⟩:=hold.l1 k hk hlk a c d
    have hlu:gI (s.low.set u.toNat (min (gI s.low u) (gI s.low v))) u=min (gI s.low u) (gI s.low v):=by rw[hlo u hum.1.1,if_pos rfl]
    have hy3:y∈x::B1.map Prod.fst\/y=v:=by
      simp only[List.map_append,List.mem_cons,List.mem_append,List.map_cons,List.map_nil] at hy ⊢
      rcases hy with r|r|r
      · exact .inl (.inl r)
      · exact .inl (.inr r)
      · exact .inr (r.resolve_right List.not_mem_nil)
    rw[hB]
    rcases hy3 with r|r
    · by_cases q:y=u
      · exact⟨u,hu,by rw[hlu,<-q];omega⟩
      · have:=(hd.se.pr y (by
          have:=hin2 y r
          rw[show(A0++[(u,U),(v,S)]).map Prod.fst=(A0++[(u,U)]).map Prod.fst++[v] by simp]
          exact List.mem_append_left _ this)).1.1
        exact⟨y,r,by rw[hlo y this,if_neg q];exact hy2⟩
    · exact⟨u,hu,by rw[hlu,<-r];omega⟩
  · rw[hlo x hxm.1.1]
    have:=hold.l2
    split
    · rename_i k;rw[<-k];omega
    · exact this
  · rw[hlo x hxm.1.1] at hlt ⊢
    by_cases k:x=u
    · rw[if_pos k] at hlt ⊢
      by_cases j:gI s.low u<=gI s.low v
      · rw[show min (gI s.low u) (gI s.low v)=gI s.low x by rw[k];omega] at hlt ⊢
        exact hold.l3 hlt
      · obtain⟨q,c1,c2,c3,c4⟩:=hvf.l3 (by omega)
        exact⟨q,c1,c2,by omega,by omega⟩
    · rw[if_neg k] at hlt ⊢
      exact hold.l3 hlt
end TL
/-
  TlCls6: a node left: its edges go to the one ahead, or are a block.
  By an AI agent.
-/
set_option linter.all false
namespace TL
variable{g:bz}{s:Bs}{fr:Fm}{path:List Int}{A B A0:Fm}{S U:List Int}{u v w e b h:Int}
theorem gx.ahead(hm:aX g)(hd:gx g s (A0++[(u,U),(v,S)])){k:Int}(hk:hf g k)(hlk:gI s.laid (k/2)=true)(h1:gI s.place v<=gI s.place (aA g k))(h2:gI s.place (bg g k)<gI s.place v):bg g k=u\/(bg g k∈A0.map Prod.fst/\gI s.place (bg g k)<gI s.place u):=by
  have hvf:=hd.fra (A0++[(u,U)]) v S [] (by simp)
  have huf:=hd.fra A0 u U [(v,S)] rfl
  obtain⟨t1,t2,t3,t4⟩:=dR (g:=g) hk
  have hp:bg g k∈(A0++[(u,U),(v,S)]).map Prod.fst:=by
    by_cases c:bg g k∈(A0++[(u,U),(v,S)]).map Prod.fst
    · exact c
    · have:=hvf.cross (iu k) t1 (by rw[t3];exact hd.lot hk hlk) (by rw[t3];exact c) (by rw[t3];exact h2)
      rw[t4] at this;omega
  simp only[List.map_append,List.map_cons,List.map_nil,List.mem_append,List.mem_cons] at hp
  rcases hp with c|c|c|c
  · refine .inr ⟨c,?_⟩
    obtain⟨p,hp,e⟩:=List.mem_map.1 c
    rw[<-e];exact huf.asc p hp
  · exact .inl c
  · rw[c] at h2;omega
  · exact absurd c List.not_mem_nil
theorem gx.offA(hm:aX g)(hd:gx g s (A0++[(u,U),(v,S)])){U2:List Int}{A B:Fm}{x:Int}{Sx:List Int}(he:A0++[(u,U2)]=A++(x,Sx)::B)
    (h2:(∀e∈U2,EqB g e (gI s.by_ u/2))/\(∀e∈U2,∃h,hf g h/\h/2=e/\gI s.place u<=gI s.place (aA g h))/\((A0=[]/\U2=[]/\gI s.by_ u= -1)\/(∃A' u' U' S',A0=A'++[(u',U')]/\U2=gI s.by_ u/2::S'/\aA g (gI s.by_ u)=u'/\0<=gI s.by_ u))):
    vX g s.place (s.low.set u.toNat (min (gI s.low u) (gI s.low v))) s.by_ s.laid ((A0++[(u,U2)]).map Prod.fst) A x Sx B:=by
  have hmap:(A0++[(u,U2)]).map Prod.fst=(A0++[(u,U)]).map Prod.fst:=by simp
  rw[hmap]
  rcases gF he with⟨k1,k2,k3⟩|⟨B0,k1,k2⟩
  · obtain⟨rfl,rfl⟩:x=u/\Sx=U2:=by simpa using k2
    subst k1 k3
    exact vX.off hm hd (B1:=[]) (Sx:=U) (hd.fra A x U [(v,S)] rfl) (by simp) (λy hy=>by
      have:y=x:=by simpa using hy
      rw[this];simp) (by simp) rfl h2.1 h2.2.1 h2.2.2
  · subst k2
    have hold:=hd.fra A x Sx (B0++[(u,U)]++[(v,S)]) (by rw[k1];simp)
    refine vX.off hm hd (B1:=B0++[(u,U)]) hold (by rw[k1];simp) (λy hy=>?_) (by simp) (by simp) hold.eqb hold.end_ hold.own
    rw[k1]
    simp only[List.map_append,List.map_cons,List.map_nil,List.mem_append,List.mem_cons] at hy ⊢
    rcases hy with r|r|r
    · exact .inl (.inr (.inl r))
    · exact .inl (.inr (.inr r))
    · exact .inr r
theorem gx.off1(hm:aX g)(hd:gx g s (A0++[(u,U),(v,S)]))(hc:gI s.low v<gI s.place u)
    (hse:eU g {s with low:=s.low.set u.toNat (min (gI s.low u) (gI s.low v))} ((A0++[(u,U++S)]).map Prod.fst)):
    gx g {s with low:=s.low.set u.toNat (min (gI s.low u) (gI s.low v))} (A0++[(u,U++S)]):=by
  have hvf:=hd.fra (A0++[(u,U)]) v S [] (by simp)
  have huf:=hd.fra A0 u U [(v,S)] rfl
  have hum:=hd.mem (p:=(u,U)) (by simp)
  have huv:gI s.place u<gI s.place v:=hvf.asc (u,U) (by simp)
  -- an edge from behind to one ahead of u
  obtain⟨k,k1,k2,k3,k4⟩:=hvf.l3 (by omega)
  have hka:=(hd.ahead hm k1 k2 k3 (by omega)).resolve_left (λj=>by rw[j] at k4;omega)
  obtain⟨q,Q,A',S',ha1,ha2,ha3,ha4⟩:∃q Q A' S',A0=A'++[(q,Q)]/\U=gI s.by_ u/2::S'/\aA g (gI s.by_ u)=q/\0<=gI s.by_ u:=by
    rcases huf.own with⟨j,_⟩|⟨A',q,Q,S',a,b,c,d⟩
    · rw[j] at hka;exact absurd hka.1 List.not_mem_nil
    · exact⟨q,Q,A',S',a,b,c,d⟩
  obtain⟨hb0,hb1⟩:0<=gI s.by_ v/\aA g (gI s.by_ v)=u:=by
    rcases hvf.own with⟨j,_⟩|⟨A2,u2,U2,S2,a,_,c,d⟩
    · simp at j
    · have:=(List.append_inj' a rfl).2
      have:u=u2:=by have:=(List.cons.inj this).1;exact congrArg Prod.fst this
      exact⟨d,by rw[c,this]⟩
  have hbv:=hd.to (v,S) (by simp) hb0
  have hbu:=hd.to (u,U) (by simp) ha4
  have huA:u∉A0.map Prod.fst:=λj=>by
    obtain⟨p,hp,e⟩:=List.mem_map.1 j
    have:=huf.asc p hp
    rw[e] at this;omega
  have hqA:q∈A0.map Prod.fst:=by rw[ha1];simp
  have hrel:EqB g (gI s.by_ v/2) (gI s.by_ u/2):=by
    obtain⟨b1,b2,b3,b4⟩:=dR (g:=g) hbu.1
    refine .rel ⟨gI s.by_ v,iu (gI s.by_ u),hbv.1,b1,rfl,b2,?_,?_,?_,?_⟩
    · rw[hb1,b3,hbu.2]
    · rw[hbv.2,hb1];exact(mH huv).symm
    · rw[b4,b3,hbu.2,ha3];exact λj=>huA (by have j:q=u:=j;rw[<-j];exact hqA)
    · rw[hb1,hbv.2,b4,ha3]
      have w1:=(hvf.conn (aA g k) (ck hm k1).1 (ck hm k1).2 k3).mono (B:=λz=>z≠u) (λz hz j=>by rw[j] at hz;omega)
      have w2:=Wy.one (g:=g) (A:=λz=>z≠u) k1 w1.right (λj=>huA (by rw[<-j];exact hka.1))
      have w3:=(hd.wy (A:=A0) (B:=[(u,U),(v,S)]) rfl _ hka.1 _ hqA).mono (B:=λz=>z≠u) (λz hz j=>huA (by rw[<-j];exact hz))
      exact(w1.trans w2).trans w3
  refine⟨hse,?_,hd.inj,hd.lof,λA x Sx B he=>hd.offA hm he ⟨λy hy=>?_,λy hy=>?_,.inr ⟨A',q,Q,S'++S,ha1,by rw[ha2];rfl,ha3,ha4⟩⟩,hd.clr,hd.clb⟩
  · show s.edges=_
    rw[hd.stk];simp
  · rcases List.mem_append.1 hy with j|j
    · exact huf.eqb y j
    · exact(hvf.eqb y j).trans hrel
  · rcases List.mem_append.1 hy with j|j
    · exact huf.end_ y j
    · obtain⟨r,c1,c2,c3⟩:=hvf.end_ y j
      exact⟨r,c1,c2,by omega⟩
theorem gx.off2(hm:aX g)(hd:gx g s (A0++[(u,U),(v,S)]))(hu:oq g s ((A0++[(u,U)]).map Prod.fst))(hc:gI s.place u<=gI s.low v)
    (hse:eU g (ec {s with low:=s.low.set u.toNat (min (gI s.low u) (gI s.low v))} (gI s.by_ v/2)) ((A0++[(u,U)]).map Prod.fst)):
    gx g (ec {s with low:=s.low.set u.toNat (min (gI s.low u) (gI s.low v))} (gI s.by_ v/2)) (A0++[(u,U)]):=by
  have hvf:=hd.fra (A0++[(u,U)]) v S [] (by simp)
  have huf:=hd.fra A0 u U [(v,S)] rfl
  have huv:gI s.place u<gI s.place v:=hvf.asc (u,U) (by simp)
  obtain⟨S',hS,hb0,hb1⟩:∃S',S=gI s.by_ v/2::S'/\0<=gI s.by_ v/\aA g (gI s.by_ v)=u:=by
    rcases hvf.own with⟨j,_⟩|⟨A2,u2,U2,S2,a,b,c,d⟩
    · simp at j
    · have:=(List.append_inj' a rfl).2
      have:u=u2:=by have:=(List.cons.inj this).1;exact congrArg Prod.fst this
      exact⟨S2,b,d,by rw[c,this]⟩
  have hbv:=hd.to (v,S) (by simp) hb0
  have hpre:s.edges=((A0++[(u,U)]).map Prod.snd).flatten++gI s.by_ v/2::S':=by rw[hd.stk,<-hS];simp
  rw[qQ (s:={s with low:=s.low.set u.toNat (min (gI s.low u) (gI s.low v))}) hpre hd.se.en] at hse ⊢
  have hpre':s.edges=((A0++[(u,U)]).map Prod.snd).flatten++S:=by rw[hpre,hS]
  have hvout:v∉(A0++[(u,U)]).map Prod.fst:=λj=>by
    obtain⟨p,hp,e⟩:=List.mem_map.1 j
    have:=hvf.asc p hp
    rw[e] at this;omega
  -- nodes behind v are done
  have hT:∀k,hf g k->gI s.place v<=gI s.place (aA g k)->gI s.laid (k/2)=true:=λk hk a=>by
    refine hu.all hm hk (λj=>?_) (λj=>?_)
    · have h9:=(hd.mem (p:=(v,S)) (by simp))
      have h3:0<=gI s.place v:=(hd.se.pl v h9.1.1 h9.1.2).1
      have h4:gI s.place v≠0:=h9.2
      omega
    · obtain⟨p,hp,e⟩:=List.mem_map.1 j
      have:=hvf.asc p hp
      rw[e] at this;omega
  have hcl:=zi (g:=g) (la:=s.laid) (ed:=s.edges) (bl:=s.block) (pre:=((A0++[(u,U)]).map Prod.snd).flatten) (P:=gI s.by_ v/2::S') (c:=s.count) hpre hd.se.en hd.se.el hd.se.l6 hd.se.ct hd.clr hd.clb (λhin hle=>.inr ⟨λz=>(0<=z/\z<g.1)/\gI s.place v<=gI s.place z,u,λk=>by have:=k.2;omega,λk hk ht=>?_,λx hx hb=>?_,λx y hx hy hbx hby=>?_⟩)
  · refine⟨hse,rfl,hd.inj,hd.lof,λA x Sx B he=>hd.offA hm he ⟨huf.eqb,huf.end_,huf.own⟩,hcl.1,hcl.2⟩
  · have hlk:=hT k hk ht.2
    have hclo:lT g s.laid ((A0++[(u,U)]).map Prod.snd).flatten (k/2):=by
      refine⟨⟨ik hk,fN hk⟩,hlk,λj=>?_⟩
      obtain⟨l,hl,hkl⟩:=List.mem_flatten.1 j
      obtain⟨p,hp,rfl⟩:=List.mem_map.1 hl
      have:=hvf.low p hp _ hkl k hk rfl
      have:=ht.2
      omega
    refine⟨?_,hclo,hle _ hclo⟩
    by_cases c:gI s.place v<=gI s.place (bg g k)
    · exact .inl ⟨dM hm hk,c⟩
    · by_cases d:k/2=gI s.by_ v/2
      · rcases fz hk.1 hbv.1.1 d with r|r
        · rw[r,hbv.2] at c;exact absurd (Int.le_refl _) c
        · obtain⟨_,_,_,t4⟩:=dR (g:=g) hbv.1
          rw[r,t4];exact .inr hb1
      · obtain⟨y,hy,hy2⟩:=hvf.l1 k hk hlk ht.2 (by omega) d
        have:y=v:=by simpa using hy
        rw[this] at hy2
        rcases hd.ahead hm hk hlk ht.2 (by omega) with r|⟨_,r⟩
        · exact .inr r
        · omega
  · have:=hin x hx hb
    rw[<-hS] at this
    obtain⟨k,c1,c2,c3⟩:=hvf.end_ x this
    exact⟨k,c1,c2,ck hm c1,c3⟩
  · have h1:=hin x hx hbx
    have h2:=hin y hy hby
    rw[<-hS] at h1 h2
    exact(hvf.eqb x h1).trans (hvf.eqb y h2).symm
end TL
/-
  TlCls7: the walk as a whole.
  By an AI agent.
-/
set_option linter.all false
namespace TL
variable{g:bz}{s:Bs}{fr:Fm}{path:List Int}{A B A0:Fm}{S U:List Int}{u v w e b h:Int}
theorem ug(hne:fr≠[]):∃A0 v S,fr=A0++[(v,S)]/\gI (fr.map Prod.fst) (((fr.map Prod.fst).length:Int)-1)=v:=by
 refine⟨fr.dropLast,(fr.getLast hne).1,(fr.getLast hne).2,(List.dropLast_concat_getLast hne).symm,?_⟩
 have h1:fr=fr.dropLast++[fr.getLast hne]:=(List.dropLast_concat_getLast hne).symm
 generalize fr.dropLast=X at h1
 generalize fr.getLast hne=p at h1 ⊢
 subst h1
 have e1:(((X++[p]).map Prod.fst).length:Int)-1=((X.length:Nat):Int):=by simp
 rw[e1]
 simp[gI]
theorem mM:(dP g s v).laid=s.laid:=by
 unfold dP;split
 · rfl
 · simp only;split<;>rfl
theorem jd:(dP g s v).place=s.place:=by
 unfold dP;split
 · rfl
 · simp only;split<;>rfl
theorem oq.leave(h:oq g s (path++[v]))(hn:gI s.next v=((gI (ar g) v).length:Int)):oq g s path/\oq g (dP g s v) path:=by
 have h1:oq g s path:=⟨h.use,λx x0 x1 hx hxp=>by
   by_cases c:x=v
   · rw[c];exact hn
   · exact h.exh x x0 x1 hx (λk=>(List.mem_append.1 k).elim hxp (λj=>c (List.mem_singleton.1 j)))⟩
 refine⟨h1,⟨λx x0 x1 j j0 j1=>?_,λx x0 x1 hx hxp=>?_⟩⟩
 · rw[mM];rw[kg] at j1;exact h1.use x x0 x1 j j0 j1
 · rw[kg];rw[jd] at hx;exact h1.exh x x0 x1 hx hxp
theorem oq.take{s':Bs}{path':List Int}(hu:oq g s path)(hse:eU g s path)(u0:0<=u)(u1:u<g.1)(hup:u∈path)(hh:gI (gI (ar g) u) (gI s.next u)=h)(hnx:s'.next=s.next.set u.toNat (gI s.next u+1))(hla:∀e,0<=e->e<(g.2.length:Int)->gI s.laid e=true->gI s'.laid e=true)(hlh:gI s'.laid (h/2)=true)(hin:∀x,0<=x->x<g.1->∀j:Int,0<=j->j<((gI (ar g) x).length:Int)->0<=gI (gI (ar g) x) j/2/\gI (gI (ar g) x) j/2<(g.2.length:Int))
    (hp:∀x∈path,x∈path')(hpl:∀x,0<=x->x<g.1->gI s'.place x≠0->gI s.place x≠0\/x∈path'):oq g s' path':=by
  have hl4:=hse.l4
  have hnn:∀x,0<=x->gI s'.next x=if x=u then gI s.next u+1 else gI s.next x:=λx a=>by rw[hnx];exact bT u0 (by omega) a
  refine⟨λx x0 x1 j j0 j1=>?_,λx x0 x1 hx hxp=>?_⟩
  · rw[hnn x x0] at j1
    have hold:∀x,0<=x->x<g.1->∀j:Int,0<=j->j<gI s.next x->gI s'.laid (gI (gI (ar g) x) j/2)=true:=λx x0 x1 j j0 j1=>by
      have:=hse.nx x x0 x1
      obtain⟨a,c⟩:=hin x x0 x1 j j0 (by omega)
      exact hla _ a c (hu.use x x0 x1 j j0 j1)
    by_cases c:x=u
    · rw[if_pos c] at j1
      by_cases d:j=gI s.next u
      · rw[c,d,hh];exact hlh
      · exact hold x x0 x1 j j0 (by rw[c];omega)
    · rw[if_neg c] at j1
      exact hold x x0 x1 j j0 j1
  · rcases hpl x x0 x1 hx with k|k
    · have hne:x≠u:=λj=>hxp (hp x (by rw[j];exact hup))
      rw[hnn x x0,if_neg hne]
      exact hu.exh x x0 x1 k (λj=>hxp (hp x j))
    · exact absurd k hxp
theorem jk{x j:Int}(x0:0<=x)(x1:x<g.1)(j0:0<=j)(j1:j<((gI (ar g) x).length:Int)):hf g (gI (gI (ar g) x) j)/\aA g (gI (gI (ar g) x) j)=x:=by
 have hin:gI (gI (ar g) x) j∈gI (ar g) x:=br j0 j1
 rw[fE x0 x1] at hin ⊢
 exact cQ hin
theorem yV(hm:aX g)(hd:gx g s fr)(hu:oq g s (fr.map Prod.fst))(hne:fr≠[])(hv:v=gI (fr.map Prod.fst) (((fr.map Prod.fst).length:Int)-1)):
   ∃fr',fr'.map Prod.fst=(dF g s (fr.map Prod.fst) v).2/\gx g (dF g s (fr.map Prod.fst) v).1 fr'/\oq g (dF g s (fr.map Prod.fst) v).1 (dF g s (fr.map Prod.fst) v).2:=by
 have hpne:fr.map Prod.fst≠[]:=λk=>hne (List.map_eq_nil_iff.1 k)
 have hse:=hd.se.step hm hpne hv
 obtain⟨A0,v',S,rfl,hv'⟩:=ug hne
 have:v'=v:=by rw[hv];exact hv'.symm
 subst this
 clear hv hv'
 have hvm:(0<=v'/\v'<g.1)/\gI s.place v'≠0:=hd.mem (p:=(v',S)) (by simp)
 have hmap:(A0++[(v',S)]).map Prod.fst=A0.map Prod.fst++[v']:=by simp
 have hl2:=hd.se.l2
 have hl5:=hd.se.l5
 have hlast:=hd.fra A0 v' S [] rfl
 by_cases hn:gI s.next v'=((gI (ar g) v').length:Int)
 · -- left
   have hst:dF g s ((A0++[(v',S)]).map Prod.fst) v'=(dP g s v',A0.map Prod.fst):=by
     unfold dF;rw[if_pos hn,hmap,List.dropLast_concat]
   rw[hst] at hse ⊢
   rw[hmap] at hu
   obtain⟨hu1,hu2⟩:=hu.leave hn
   by_cases hb:gI s.by_ v'<0
   · have hlv:dP g s v'=s:=by unfold dP;rw[if_pos hb]
     rcases hlast.own with⟨k1,k2,_⟩|⟨A',q,Q,S',_,_,_,k4⟩
     · subst k1 k2
       rw[hlv] at hse ⊢
       exact⟨[],rfl,hd.off0 hse,by rw[hlv] at hu2;exact hu2⟩
     · omega
   · obtain⟨A',q,Q,S',k1,k2,k3,k4⟩:=hlast.own.resolve_left (λk=>by omega)
     subst k1
     have hq:=hd.mem (p:=(q,Q)) (by simp)
     have hqv:gI s.place q<gI s.place v':=hlast.asc (q,Q) (by simp)
     have hqn:v'≠q:=(mH hqv).symm
     have hlow:gI (s.low.set q.toNat (min (gI s.low q) (gI s.low v'))) v'=gI s.low v':=by
       rw[bT hq.1.1 (by omega) hvm.1.1,if_neg hqn]
     have hd':gx g s (A'++[(q,Q),(v',S)]):=by simpa using hd
     have hm2:(A'++[(q,Q)]).map Prod.fst=A'.map Prod.fst++[q]:=by simp
     by_cases hc:gI s.place q<=gI s.low v'
     · have hlv:dP g s v'=ec {s with low:=s.low.set q.toNat (min (gI s.low q) (gI s.low v'))} (gI s.by_ v'/2):=by
         unfold dP;rw[if_neg hb];simp only[k3];rw[if_pos (by rw[hlow];exact hc)]
       rw[hlv] at hse hu2 ⊢
       exact⟨A'++[(q,Q)],rfl,hd'.off2 hm hu1 hc hse,hu2⟩
     · have hlv:dP g s v'={s with low:=s.low.set q.toNat (min (gI s.low q) (gI s.low v'))}:=by
         unfold dP;rw[if_neg hb];simp only[k3];rw[if_neg (by rw[hlow];exact hc)]
       rw[hlv] at hse hu2 ⊢
       refine⟨A'++[(q,Q++S)],by simp,hd'.off1 hm (by omega) (by rw[show(A'++[(q,Q++S)]).map Prod.fst=(A'++[(q,Q)]).map Prod.fst by simp];exact hse),hu2⟩
 · -- a half-edge more
   obtain⟨n0,n1⟩:=hd.se.nx v' hvm.1.1 hvm.1.2
   have n1':gI s.next v'<=((gI (ar g) v').length:Int):=n1
   obtain⟨hh,hfv⟩:=jk hvm.1.1 hvm.1.2 n0 (by omega)
   generalize hhe:gI (gI (ar g) v') (gI s.next v')=h at hh hfv
   have hd1:=hd.nexts hvm.1.1 hvm.1.2 hn
   have e0:=ik hh
   have e1:=fN hh
   have hvp:v'∈(A0++[(v',S)]).map Prod.fst:=by simp
   have hin:∀x,0<=x->x<g.1->∀j:Int,0<=j->j<((gI (ar g) x).length:Int)->0<=gI (gI (ar g) x) j/2/\gI (gI (ar g) x) j/2<(g.2.length:Int):=λx x0 x1 j j0 j1=>⟨ik (jk x0 x1 j0 j1).1,fN (jk x0 x1 j0 j1).1⟩
   have hlam:∀e,0<=e->e<(g.2.length:Int)->gI s.laid e=true->gI (s.laid.set (h/2).toNat true) e=true:=λe a c d=>by
     rw[dv e0 (by omega) a];split
     · rfl
     · exact d
   have hlah:gI (s.laid.set (h/2).toNat true) (h/2)=true:=by rw[dv e0 (by omega) e0,if_pos rfl]
   have hst:dF g s ((A0++[(v',S)]).map Prod.fst) v'=((eC g {s with next:=s.next.set v'.toNat (gI s.next v'+1)} v' h).1,if(eC g {s with next:=s.next.set v'.toNat (gI s.next v'+1)} v' h).2.2=true then(A0++[(v',S)]).map Prod.fst++[(eC g {s with next:=s.next.set v'.toNat (gI s.next v'+1)} v' h).2.1] else(A0++[(v',S)]).map Prod.fst):=by
     unfold dF;rw[if_neg hn,hhe]
   by_cases hl:gI s.laid (h/2)=true
   · have ht:eC g {s with next:=s.next.set v'.toNat (gI s.next v'+1)} v' h=({s with next:=s.next.set v'.toNat (gI s.next v'+1)},0,false):=by unfold eC;rw[if_pos hl]
     rw[hst,ht]
     exact⟨_,rfl,hd1,hu.take hd.se hvm.1.1 hvm.1.2 hvp hhe rfl (λe _ _ d=>d) hl hin (λx hx=>hx) (λx _ _ k=>.inl k)⟩
   · by_cases hw:bg g h=v'
     · have ht:eC g {s with next:=s.next.set v'.toNat (gI s.next v'+1)} v' h=(ec (iM {s with next:=s.next.set v'.toNat (gI s.next v'+1)} (h/2)) (h/2),0,false):=by unfold eC;rw[if_neg hl,if_pos hw]
       rw[hst,ht] at hse ⊢
       exact⟨_,rfl,hd1.loop hm hh hl (by rw[hfv];exact hvm.2) (by rw[hw,hfv]) hse,hu.take hd.se hvm.1.1 hvm.1.2 hvp hhe rfl hlam hlah hin (λx hx=>hx) (λx _ _ k=>.inl k)⟩
     · by_cases hp:gI s.place (bg g h)=0
       · have ht:eC g {s with next:=s.next.set v'.toNat (gI s.next v'+1)} v' h=(gh {iM {s with next:=s.next.set v'.toNat (gI s.next v'+1)} (h/2) with by_:=s.by_.set (bg g h).toNat h} (bg g h),bg g h,true):=by unfold eC;rw[if_neg hl,if_neg hw,if_pos hp]
         rw[hst,ht] at hse ⊢
         have hse':eU g (gh {iM {s with next:=s.next.set v'.toNat (gI s.next v'+1)} (h/2) with by_:=s.by_.set (bg g h).toNat h} (bg g h)) ((A0++[(v',S)]++[(bg g h,[h/2])]).map Prod.fst):=by
           rw[List.map_append];exact hse
         refine⟨A0++[(v',S)]++[(bg g h,[h/2])],by rw[List.map_append];rfl,?_,?_⟩
         · exact hd1.new hm (λk hk a c=>hu.all hm hk a c) hh hfv hl hp hse'
         · obtain⟨w0,w1⟩:=dM hm hh
           have hl1:=hd.se.l1
           refine hu.take hd.se hvm.1.1 hvm.1.2 hvp hhe rfl hlam hlah hin (λx hx=>List.mem_append_left _ hx) (λx x0 x1 k=>?_)
           by_cases c:x=bg g h
           · exact .inr (by rw[c];simp)
           · have k:gI (s.place.set (bg g h).toNat (s.found+1)) x≠0:=k
             rw[bT w0 (by omega) x0,if_neg c] at k
             exact .inl k
       · have ht:eC g {s with next:=s.next.set v'.toNat (gI s.next v'+1)} v' h=({iM {s with next:=s.next.set v'.toNat (gI s.next v'+1)} (h/2) with low:=s.low.set v'.toNat (min (gI s.low v') (gI s.place (bg g h)))},0,false):=by unfold eC;rw[if_neg hl,if_neg hw,if_neg hp]
         rw[hst,ht] at hse ⊢
         have hse':eU g {iM {s with next:=s.next.set v'.toNat (gI s.next v'+1)} (h/2) with low:=s.low.set v'.toNat (min (gI s.low v') (gI s.place (bg g h)))} ((A0++[(v',S++[h/2])]).map Prod.fst):=by
           rw[show(A0++[(v',S++[h/2])]).map Prod.fst=(A0++[(v',S)]).map Prod.fst by simp];exact hse
         refine⟨A0++[(v',S++[h/2])],by simp,?_,?_⟩
         · exact hd1.back hm (λk hk a c=>hu.all hm hk a c) hh hfv hl hw hp hse'
         · exact hu.take hd.se hvm.1.1 hvm.1.2 hvp hhe rfl hlam hlah hin (λx hx=>hx) (λx _ _ k=>.inl k)
end TL
/-
  TlCls8: what the blocks of a net are: edges are in one block just if a chain of edges joins them, each two at a node whose other ends are joined without it.
  By an AI agent.
-/
set_option linter.all false
namespace TL
variable{g:bz}{s:Bs}{fr:Fm}{path:List Int}{u v w e f b h x:Int}
theorem sy(hx:gI s.place x≠0)(hs:eU g s path)(x0:0<=x)(hm:aX g)(hp:path≠[])(hu:u=gI path ((path.length:Int)-1)):gI (dF g s path u).1.place x≠0:=by
 unfold dF
 split
 · rw[jd];exact hx
 · rename_i hn
   simp only
   unfold eC
   split
   · exact hx
   · split
     · exact hx
     · split
       · rename_i c
         have hup:=hs.pr u (by rw[hu,jK hp];simp[gI])
         obtain⟨n0,n1⟩:=hs.nx u hup.1.1 hup.1.2
         have n1':gI s.next u<=((gI (ar g) u).length:Int):=n1
         obtain⟨hh,_⟩:=jk hup.1.1 hup.1.2 n0 (by omega)
         obtain⟨w0,w1⟩:=dM hm hh
         have hl:=hs.l1
         have hf:=hs.f0
         show gI (s.place.set _ (s.found+1)) x≠0
         rw[bT w0 (by omega) x0]
         split
         · omega
         · exact hx
       · exact hx
theorem CY(hm:aX g):∀(n:Nat) (s:Bs) (fr:Fm),gx g s fr->oq g s (fr.map Prod.fst)->cq g s (fr.map Prod.fst)<=n->
   gx g (sR g n s (fr.map Prod.fst)) []/\oq g (sR g n s (fr.map Prod.fst)) []/\∀x,0<=x->gI s.place x≠0->gI (sR g n s (fr.map Prod.fst)).place x≠0
 |0,s,fr,hd,hu,hl=>by
   have:fr.map Prod.fst=[]:=List.length_eq_zero_iff.1 (by unfold cq at hl;omega)
   have:fr=[]:=List.map_eq_nil_iff.1 this
   subst this
   exact⟨hd,hu,λx _ h=>h⟩
 |n+1,s,fr,hd,hu,hl=>by
   by_cases c:fr=[]
   · subst c
     unfold sR
     exact⟨hd,hu,λx _ h=>h⟩
   · have hp:fr.map Prod.fst≠[]:=λk=>c (List.map_eq_nil_iff.1 k)
     obtain⟨fr',h1,h2,h3⟩:=yV hm hd hu c rfl
     have hless:=jG hd.se hp rfl
     unfold sR
     rw[if_neg hp,<-h1]
     rw[<-h1] at h3 hless
     obtain⟨a1,a2,a3⟩:=CY hm n _ fr' h2 h3 (by omega)
     exact⟨a1,a2,λx x0 hx=>a3 x x0 (sy hx hd.se x0 hm hp rfl)⟩
theorem oq.begin_(hu:oq g s [])(hse:eU g s [])(v0:0<=v)(v1:v<g.1):oq g (gh s v) [v]:=by
 have hl:=hse.l1
 refine⟨hu.use,λx x0 x1 hx hxp=>?_⟩
 have hx:gI (s.place.set v.toNat (s.found+1)) x≠0:=hx
 have hne:x≠v:=λk=>hxp (by rw[k];simp)
 rw[bT v0 (by omega) x0,if_neg hne] at hx
 exact hu.exh x x0 x1 hx (by simp)
theorem nl(hm:aX g):∀k:Nat,(k:Int)<=g.1->gx g (dC g k) []/\oq g (dC g k) []/\∀v:Int,0<=v->v<k->gI (dC g k).place v≠0
 |0,hk=>by
   have h0:=hm.1
   have r0:∀{x:Int} {v:Int},0<=v->v<g.1->gI (List.replicate g.1.toNat x) v=x:=λa b=>nJ a (by omega)
   have rb:∀{v:Int},0<=v->v<(g.2.length:Int)->gI (List.replicate g.2.length false) v=false:=λ {v} a b=>by
     obtain⟨k,rfl⟩:∃k:Nat,v=(k:Int):=⟨v.toNat,by omega⟩
     have:k<g.2.length:=by omega
     simp[gI,this]
   have hse:eU g (i9 g) []:=eU.start hm
   refine⟨⟨hse,rfl,λx y x0 x1 y0 y1 hx _=>absurd (r0 x0 x1) hx,λk hk hl=>?_,λA v S B he=>?_,λe he=>?_,λb b0 b1=>?_⟩,⟨λx x0 x1 j j0 j1=>?_,λx x0 x1 hx _=>absurd (r0 x0 x1) hx⟩,λv v0 v1=>by omega⟩
   · have hl:gI (List.replicate g.2.length false) (k/2)=true:=hl
     rw[rb (ik hk) (fN hk)] at hl;cases hl
   · simp at he
   · have hl:gI (List.replicate g.2.length false) e=true:=he.2.1
     rw[rb he.1.1 he.1.2] at hl;cases hl
   · have b1:b<0:=b1
     omega
   · have j1:j<gI (List.replicate g.1.toNat (0:Int)) x:=j1
     rw[r0 x0 x1] at j1;omega
 |k+1,hk=>by
   obtain⟨h1,h2,h3⟩:=nl hm k (by omega)
   rw[ij]
   by_cases c:gI (dC g k).place (k:Int)=0
   · rw[if_pos c]
     have hse:=h1.se.first (v:=(k:Int)) (by omega) (by omega) c
     have hd:=h1.begin_ hm h2 (by omega) (by omega) c hse
     have hu:=h2.begin_ (v:=(k:Int)) h1.se (by omega) (by omega)
     obtain⟨a1,a2,a3⟩:=CY hm _ (gh (dC g k) k) [((k:Int),[])] hd hu (Nat.le_refl _)
     refine⟨a1,a2,λv v0 v1=>a3 v v0 ?_⟩
     have hl:=h1.se.l1
     have hf:=h1.se.f0
     show gI ((dC g k).place.set _ ((dC g k).found+1)) v≠0
     rw[bT (by omega) (by omega) v0]
     split
     · omega
     · exact h3 v v0 (by omega)
   · rw[if_neg c]
     refine⟨h1,h2,λv v0 v1=>?_⟩
     by_cases d:v=(k:Int)
     · rw[d];exact c
     · exact h3 v v0 (by omega)
theorem mt(hm:aX g)(e0:0<=e)(e1:e<(g.2.length:Int)):lT g (dC g g.1.toNat).laid (dC g g.1.toNat).edges e:=by
  have h0:=hm.1
  obtain⟨h1,h2,h3⟩:=nl hm g.1.toNat (by omega)
  have hed:(dC g g.1.toNat).edges=[]:=h1.stk
  refine⟨⟨e0,e1⟩,?_,by rw[hed];simp⟩
  have hh:hf g (2*e):=⟨by omega,by omega⟩
  obtain⟨f0,f1⟩:=ck hm hh
  have:=h2.all hm hh (h3 _ f0 (by omega)) (by simp)
  rwa[show 2*e/2=e by omega] at this
def mO(g:bz)(e:Int):Int:=gI (dC g g.1.toNat).block e
theorem uV{k:Int}(hk:hf g k)(he:k/2=e)(hl:(gI g.2 e).1=(gI g.2 e).2):bg g k=aA g k:=by
 unfold bg aA
 rw[he]
 have h2:k%2=0\/k%2=1:=by omega
 rcases h2 with q|q
 · rw[q];exact hl.symm
 · rw[q];exact hl
theorem yl(hm:aX g)(hr:mY g e f):mO g f<=mO g e:=by
 have h0:=hm.1
 obtain⟨h,k,hh,hk,he,hkf,hx,hne,hnk,hw⟩:=hr
 obtain⟨h1,h2,h3⟩:=nl hm g.1.toNat (by omega)
 have hce:=mt hm (e:=e) (by rw[<-he];exact ik hh) (by rw[<-he];exact fN hh)
 obtain⟨c0,c1⟩:=h1.clr e hce
 rcases h1.clb _ c0 c1 with⟨e0,l1,l2⟩|⟨T,u,t1,t2,t3,t4⟩
 · have:=l2 e hce rfl
   rw[<-this] at l1
   exact absurd (uV hh he l1) hne
 · obtain⟨h',q1,q2,q3⟩:=t3 e hce rfl
   by_cases c:T (aA g h)
   · have:=(t2 k hk (by rw[<-hx];exact c)).2.2
     rw[hkf] at this;exact this
   · obtain⟨a1,a2,a3,a4⟩:=dR (g:=g) hh
     have hq:h'=iu h:=by
       rcases fz q1.1 hh.1 (by rw[q2,he]) with r|r
       · rw[r] at q3;exact absurd q3 c
       · exact r
     rw[hq,a3] at q3
     have hxu:aA g h=u:=by
       have:=(t2 (iu h) a1 (by rw[a3];exact q3)).1
       rw[a4] at this
       exact this.resolve_left c
     have key:∀y,Wy g (λz=>z≠aA g h) (bg g h) y->T y:=by
       intro y hy
       generalize hz:bg g h=z0 at hy q3
       clear hw
       induction hy with
       |refl _=>exact q3
       |step p1 p2 p3 ih=>
         have:=(t2 _ p2 ih).1
         exact this.resolve_right (λr=>p3 (by rw[hxu];exact r))
     obtain⟨b1,b2,b3,b4⟩:=dR (g:=g) hk
     have:=(t2 (iu k) b1 (by rw[b3];exact key _ hw)).2.2
     rw[b2,hkf] at this;exact this
theorem mY.symm(hr:mY g e f):mY g f e:=by
 obtain⟨h,k,hh,hk,he,hkf,hx,hne,hnk,hw⟩:=hr
 exact⟨k,h,hk,hh,hkf,he,hx.symm,hnk,hne,by rw[<-hx];exact hw.symm⟩
theorem Az(hm:aX g)(hr:mY g e f):mO g e=mO g f:=Int.le_antisymm (yl hm hr.symm) (yl hm hr)
theorem zW(hm:aX g)(hr:EqB g e f):mO g e=mO g f:=by
 induction hr with
 |refl=>rfl
 |rel h=>exact Az hm h
 |symm _ ih=>exact ih.symm
 |trans _ _ i1 i2=>exact i1.trans i2
theorem Ad(hm:aX g)(e0:0<=e)(e1:e<(g.2.length:Int))(f0:0<=f)(f1:f<(g.2.length:Int))(h:mO g e=mO g f):EqB g e f:=by
  have h0:=hm.1
  obtain⟨h1,h2,h3⟩:=nl hm g.1.toNat (by omega)
  have hce:=mt hm e0 e1
  have hcf:=mt hm f0 f1
  obtain⟨c0,c1⟩:=h1.clr e hce
  rcases h1.clb _ c0 c1 with⟨q,_,l2⟩|⟨T,u,t1,t2,t3,t4⟩
  · rw[l2 e hce rfl,l2 f hcf h.symm];exact .refl _
  · exact t4 e f hce hcf rfl h.symm
end TL
/-
  TlJoin: an edge more within a component: what becomes of blocks.
  By an AI agent.
-/
set_option linter.all false
namespace TL
variable{g:bz}{u v w x y z h k e f:Int}{A B:Int->Prop}
def gr(g:bz)(u v:Int):bz:=(g.1,g.2++[(u,v)])
theorem kL:((gr g u v).2.length:Int)=(g.2.length:Int)+1:=by simp[gr]
theorem nk{α:Type}[Inhabited α]{l:List α}{a:α}{i:Int}(h1:i<(l.length:Int))(h0:0<=i):gI (l++[a]) i=gI l i:=by
 have h:i.toNat<l.length:=by omega
 simp[gI,List.getElem?_append_left h]
theorem om{α:Type}[Inhabited α]{l:List α}{a:α}:gI (l++[a]) (l.length:Int)=a:=by simp[gI]
theorem wI(hk:hf g k):hf (gr g u v) k/\aA (gr g u v) k=aA g k/\bg (gr g u v) k=bg g k:=by
 have h2:=hk.2
 have h1:=hk.1
 have e:gI (gr g u v).2 (k/2)=gI g.2 (k/2):=nk (by omega) (by omega)
 refine⟨⟨h1,by rw[kL];omega⟩,?_,?_⟩
 · unfold aA;rw[e]
 · unfold bg;rw[e]
theorem vF:hf (gr g u v) (2*(g.2.length:Int))/\aA (gr g u v) (2*(g.2.length:Int))=u/\bg (gr g u v) (2*(g.2.length:Int))=v:=by
 have e:gI (gr g u v).2 (2*(g.2.length:Int)/2)=(u,v):=by
   rw[show 2*(g.2.length:Int)/2=(g.2.length:Int) by omega];exact om
 refine⟨⟨by omega,by rw[kL];omega⟩,?_,?_⟩
 · unfold aA;rw[e,show 2*(g.2.length:Int)%2=0 by omega];rfl
 · unfold bg;rw[e,show 2*(g.2.length:Int)%2=0 by omega];rfl
theorem vV:hf (gr g u v) (2*(g.2.length:Int)+1)/\aA (gr g u v) (2*(g.2.length:Int)+1)=v/\bg (gr g u v) (2*(g.2.length:Int)+1)=u:=by
 have e:gI (gr g u v).2 ((2*(g.2.length:Int)+1)/2)=(u,v):=by
   rw[show(2*(g.2.length:Int)+1)/2=(g.2.length:Int) by omega];exact om
 refine⟨⟨by omega,by rw[kL];omega⟩,?_,?_⟩
 · unfold aA;rw[e,show(2*(g.2.length:Int)+1)%2=1 by omega];rfl
 · unfold bg;rw[e,show(2*(g.2.length:Int)+1)%2=1 by omega];rfl
theorem tj(hk:hf (gr g u v) k):hf g k\/k=2*(g.2.length:Int)\/k=2*(g.2.length:Int)+1:=by
 have h1:=hk.1
 have h2:=hk.2
 rw[kL] at h2
 by_cases c:k<2*(g.2.length:Int)
 · exact .inl ⟨h1,c⟩
 · right;omega
theorem Wy.split(hw:Wy (gr g u v) A x y):Wy g A x y\/(A u/\A v/\((Wy g A x u/\Wy g A v y)\/(Wy g A x v/\Wy g A u y))):=by
  induction hw with
  |refl a=>exact .inl (.refl a)
  |step p q r ih=>
    rename_i k
    rcases tj q with c|c|c
    · obtain⟨_,b1,b2⟩:=wI (u:=u) (v:=v) c
      rw[b1] at ih
      rw[b2] at r ⊢
      rcases ih with d|⟨a1,a2,d|d⟩
      · exact .inl (.step d c r)
      · exact .inr ⟨a1,a2,.inl ⟨d.1,.step d.2 c r⟩⟩
      · exact .inr ⟨a1,a2,.inr ⟨d.1,.step d.2 c r⟩⟩
    · obtain⟨_,b1,b2⟩:=vF (g:=g) (u:=u) (v:=v)
      subst c
      rw[b1] at ih
      rw[b2] at r ⊢
      rcases ih with d|⟨a1,a2,d|d⟩
      · exact .inr ⟨d.right,r,.inl ⟨d,.refl r⟩⟩
      · exact .inl (d.1.trans d.2.symm)
      · exact .inl d.1
    · obtain⟨_,b1,b2⟩:=vV (g:=g) (u:=u) (v:=v)
      subst c
      rw[b1] at ih
      rw[b2] at r ⊢
      rcases ih with d|⟨a1,a2,d|d⟩
      · exact .inr ⟨r,d.right,.inr ⟨d,.refl r⟩⟩
      · exact .inl d.1
      · exact .inl (d.1.trans d.2.symm)
end TL
/-
  TlJoin3: numbers of blocks; the law on an edge more.
  By an AI agent.
-/
set_option linter.all false
namespace TL
variable{g:bz}{u v w s x e f i k:Int}{by_ far:List Int}{O:Int->Prop}
theorem jz(l:List Int):∀n (i:Nat),i<n->gI (aR l n).2 (i:Int)=((aR l n).1.idxOf (gI l (i:Int)):Int)/\gI l (i:Int)∈(aR l n).1
 |0,i,h=>by omega
 |n+1,i,h=>by
   have hl:=(jy l n).1
   unfold aR
   simp only
   by_cases c:i=n
   · subst c
     refine⟨?_,?_⟩
     · have:gI ((aR l i).2++[((List.idxOf (gI l (i:Int)) (if gI l (i:Int)∈(aR l i).1 then(aR l i).1 else(aR l i).1++[gI l (i:Int)]):Nat):Int)]) (i:Int)=((List.idxOf (gI l (i:Int)) (if gI l (i:Int)∈(aR l i).1 then(aR l i).1 else(aR l i).1++[gI l (i:Int)]):Nat):Int):=by
         have h2:=om (l:=(aR l i).2) (a:=((List.idxOf (gI l (i:Int)) (if gI l (i:Int)∈(aR l i).1 then(aR l i).1 else(aR l i).1++[gI l (i:Int)]):Nat):Int))
         rwa[hl] at h2
       exact this
     · split
       · assumption
       · simp
   · obtain⟨h1,h2⟩:=jz l n i (by omega)
     have h3:gI ((aR l n).2++[((List.idxOf (gI l (n:Int)) (if gI l (n:Int)∈(aR l n).1 then(aR l n).1 else(aR l n).1++[gI l (n:Int)]):Nat):Int)]) (i:Int)=gI (aR l n).2 (i:Int):=nk (by omega) (by omega)
     rw[h3,h1]
     split
     · exact⟨rfl,h2⟩
     · refine⟨?_,List.mem_append_left _ h2⟩
       rw[List.idxOf_append,if_pos h2]
theorem AL(e0:0<=e)(e1:e<(g.2.length:Int))(f0:0<=f)(f1:f<(g.2.length:Int)):gI (fJ g) e=gI (fJ g) f↔mO g e=mO g f:=by
  obtain⟨a,rfl⟩:∃a:Nat,e=(a:Int):=⟨e.toNat,by omega⟩
  obtain⟨b,rfl⟩:∃b:Nat,f=(b:Int):=⟨f.toNat,by omega⟩
  obtain⟨h1,h2⟩:=jz (dC g g.1.toNat).block g.2.length a (by omega)
  obtain⟨h3,h4⟩:=jz (dC g g.1.toNat).block g.2.length b (by omega)
  unfold fJ mO
  rw[h1,h3]
  constructor
  · intro h
    have h:List.idxOf (gI (dC g g.1.toNat).block (a:Int)) (aR (dC g g.1.toNat).block g.2.length).1=List.idxOf (gI (dC g g.1.toNat).block (b:Int)) (aR (dC g g.1.toNat).block g.2.length).1:=by omega
    have k1:=List.getElem_idxOf (List.idxOf_lt_length_of_mem h2)
    have k2:=List.getElem_idxOf (List.idxOf_lt_length_of_mem h4)
    rw[<-k1,<-k2]
    simp only[h]
  · intro h;rw[h]
theorem nC(hm:aX g)(e0:0<=e)(e1:e<(g.2.length:Int))(f0:0<=f)(f1:f<(g.2.length:Int)):gI (fJ g) e=gI (fJ g) f↔EqB g e f:=by
  rw[AL e0 e1 f0 f1]
  exact⟨Ad hm e0 e1 f0 f1,zW hm⟩
end TL
/-
  TlKap: edges of one block, a node taken out: what is left of them stays joined.
  By an AI agent.
-/
set_option linter.all false
namespace TL
variable{g:bz}{e f x y z:Int}
def mn(g:bz)(e y:Int):Prop:=∃h,hf g h/\h/2=e/\bg g h=y
theorem pG{h k:Int}(hh:hf g h)(hk:hf g k)(he:h/2=k/2):bg g k=bg g h\/bg g k=aA g h:=by
 rcases fz hk.1 hh.1 he.symm with q|q
 · exact .inl (by rw[q])
 · obtain⟨_,_,_,t4⟩:=dR (g:=g) hh
   exact .inr (by rw[q,t4])
theorem kC(hy:mn g e y)(hz:mn g e z)(hyx:y≠x)(hzx:z≠x):Wy g (λw=>w≠x) y z:=by
 obtain⟨h,h1,h2,h3⟩:=hy
 obtain⟨k,k1,k2,k3⟩:=hz
 rcases pG h1 k1 (by rw[h2,k2]) with q|q
 · rw[<-k3,q,h3];exact .refl hyx
 · rw[k3] at q
   have:=Wy.one (g:=g) (A:=λw=>w≠x) h1 (by rw[<-q];exact hzx) (by rw[h3];exact hyx)
   rw[<-q,h3] at this
   exact this.symm
def vL(g:bz)(e:Int):Prop:=∃h,hf g h/\h/2=e/\bg g h≠aA g h
theorem vL.end_(h:vL g e)(x:Int):∃y,mn g e y/\y≠x:=by
 obtain⟨k,k1,k2,k3⟩:=h
 obtain⟨t1,t2,t3,t4⟩:=dR (g:=g) k1
 by_cases c:bg g k=x
 · exact⟨aA g k,⟨iu k,t1,by rw[t2,k2],t4⟩,λj=>k3 (by rw[c,j])⟩
 · exact⟨bg g k,⟨k,k1,k2,rfl⟩,c⟩
theorem uA(h:mY g e f):vL g e/\vL g f:=by
 obtain⟨h,k,hh,hk,he,hkf,hx,hne,hnk,hw⟩:=h
 exact⟨⟨h,hh,he,hne⟩,⟨k,hk,hkf,hnk⟩⟩
theorem Au(hr:mY g e f)(hy:mn g e y)(hz:mn g f z)(hyx:y≠x)(hzx:z≠x):Wy g (λw=>w≠x) y z:=by
 obtain⟨h,k,hh,hk,he,hkf,hx,hne,hnk,hw⟩:=hr
 obtain⟨t1,t2,t3,t4⟩:=dR (g:=g) hh
 obtain⟨s1,s2,s3,s4⟩:=dR (g:=g) hk
 by_cases c:aA g h=x
 · have ey:y=bg g h:=by
     obtain⟨q,q1,q2,q3⟩:=hy
     rcases pG hh q1 (by rw[he,q2]) with r|r
     · rw[<-q3,r]
     · exact absurd (by rw[<-q3,r,c]) hyx
   have ez:z=bg g k:=by
     obtain⟨q,q1,q2,q3⟩:=hz
     rcases pG hk q1 (by rw[hkf,q2]) with r|r
     · rw[<-q3,r]
     · exact absurd (by rw[<-q3,r,<-hx,c]) hzx
   rw[ey,ez,<-c];exact hw
 · have e1:mn g e (aA g h):=⟨iu h,t1,by rw[t2,he],t4⟩
   have e2:mn g f (aA g h):=⟨iu k,s1,by rw[s2,hkf],by rw[s4,hx]⟩
   exact(kC hy e1 hyx c).trans (kC e2 hz c hzx)
theorem uJ(hr:EqB g e f):e=f\/(vL g e/\vL g f/\∀x y z,mn g e y->mn g f z->y≠x->z≠x->Wy g (λw=>w≠x) y z):=by
  induction hr with
  |refl=>exact .inl rfl
  |rel h=>exact .inr ⟨(uA h).1,(uA h).2,λx y z a b c d=>Au h a b c d⟩
  |symm _ ih=>
    rcases ih with a|⟨a,b,c⟩
    · exact .inl a.symm
    · exact .inr ⟨b,a,λx y z p q r s=>(c x z y q p s r).symm⟩
  |trans _ _ i1 i2=>
    rcases i1 with a|⟨a,b,c⟩
    · rw[a];exact i2
    · rcases i2 with d|⟨d,k,q⟩
      · rw[<-d];exact .inr ⟨a,b,c⟩
      · refine .inr ⟨a,k,λx y z p r s t=>?_⟩
        obtain⟨w,w1,w2⟩:=b.end_ x
        exact(c x y w p w1 s w2).trans (q x w z w1 r w2 t)
end TL
/-
  TlAnc: the tree that a walk depth first leaves.
  By an AI agent.
-/
set_option linter.all false
namespace TL
inductive AncB (g:bz) (by_:List Int) (a:Int):Int->Prop
  |refl:AncB g by_ a a
  |step {x:Int}:AncB g by_ a (aA g (gI by_ x))->0<=gI by_ x->AncB g by_ a x
variable{g:bz}{s:Bs}{fr:Fm}{A B A0:Fm}{S:List Int}{by_ by' pl:List Int}{a v w x y h k:Int}
theorem AncB.trans(h1:AncB g by_ a x)(h2:AncB g by_ x y):AncB g by_ a y:=by
 induction h2 with
 |refl=>exact h1
 |step _ q ih=>exact .step ih q
structure Cz(g:bz)(pl by_:List Int):Prop where
  up:∀x,0<=x->x<g.1->gI pl x≠0->0<=gI by_ x->hf g (gI by_ x)/\bg g (gI by_ x)=x/\gI pl (aA g (gI by_ x))≠0/\gI pl (aA g (gI by_ x))<gI pl x
theorem AncB.le(hm:aX g)(ht:Cz g pl by_)(h:AncB g by_ a x)(hx:0<=x/\x<g.1)(hp:gI pl x≠0):(0<=a/\a<g.1)/\gI pl a≠0/\gI pl a<=gI pl x:=by
 induction h with
 |refl=>exact⟨hx,hp,Int.le_refl _⟩
 |step p q ih=>
   obtain⟨t1,t2,t3,t4⟩:=ht.up _ hx.1 hx.2 hp q
   have:=ih (ck hm t1) t3
   exact⟨this.1,this.2.1,by omega⟩
theorem AncB.congr(hm:aX g)(ht:Cz g pl by_)(h:AncB g by_ a x)(hx:0<=x/\x<g.1)(hp:gI pl x≠0)(hb:∀z,0<=z->z<g.1->gI pl z≠0->gI by' z=gI by_ z):AncB g by' a x:=by
  induction h with
  |refl=>exact .refl
  |step p q ih=>
    obtain⟨t1,t2,t3,t4⟩:=ht.up _ hx.1 hx.2 hp q
    have e:=hb _ hx.1 hx.2 hp
    exact .step (by rw[e];exact ih (ck hm t1) t3) (by rw[e];exact q)
theorem gx.anc(hd:gx g s fr):∀(n:Nat) (A B:Fm),A.length=n->∀v S,fr=A++(v,S)::B->∀p∈A,AncB g s.by_ p.1 v
  |0,A,B,hl,v,S,he,p,hp=>by rw[List.length_eq_zero_iff.1 hl] at hp;exact absurd hp List.not_mem_nil
  |n+1,A,B,hl,v,S,he,p,hp=>by
    rcases(hd.fra A v S B he).own with⟨k,_⟩|⟨A',u,U,S',k1,_,k3,k4⟩
    · rw[k] at hp;exact absurd hp List.not_mem_nil
    · subst k1
      have hl':A'.length=n:=by simpa using hl
      have he':fr=A'++(u,U)::((v,S)::B):=by rw[he];simp
      rcases List.mem_append.1 hp with c|c
      · exact .step (by rw[k3];exact hd.anc n A' _ hl' u U he' p c) k4
      · rw[List.mem_singleton.1 c]
        exact .step (by rw[k3];exact .refl) k4
end TL
/-
  TlAnc2: each step keeps the tree.
  By an AI agent.
-/
set_option linter.all false
namespace TL
variable{g:bz}{s:Bs}{fr:Fm}{A B A0:Fm}{S:List Int}{a v w x y h k:Int}
structure zk(g:bz)(s:Bs):Prop where
 tb:Cz g s.place s.by_
 cmp:∀h,hf g h->gI s.laid (h/2)=true->AncB g s.by_ (aA g h) (bg g h)\/AncB g s.by_ (bg g h) (aA g h)
theorem rz:(dP g s v).by_=s.by_:=by
 unfold dP;split
 · rfl
 · simp only;split<;>rfl
theorem zk.lay(ht:zk g s){la:List Bool}(hh:hf g h)(hl:h/2<(s.laid.length:Int))(hc:AncB g s.by_ (aA g h) (bg g h)\/AncB g s.by_ (bg g h) (aA g h))(k:Int)(hk:hf g k)(hlk:gI (s.laid.set (h/2).toNat true) (k/2)=true):AncB g s.by_ (aA g k) (bg g k)\/AncB g s.by_ (bg g k) (aA g k):=by
  rw[dv (ik hh) hl (ik hk)] at hlk
  by_cases c:k/2=h/2
  · rcases fz hk.1 hh.1 c with q|q
    · rw[q];exact hc
    · obtain⟨_,_,t3,t4⟩:=dR (g:=g) hh
      rw[q,t3,t4];exact hc.symm
  · rw[if_neg c] at hlk;exact ht.cmp k hk hlk
theorem zk.begin_(hm:aX g)(ht:zk g s)(hl:(s.place.length:Int)=g.1)(hf0:0<=s.found)(hub:∀x,0<=x->x<g.1->gI s.place x<=s.found)(v0:0<=v)(v1:v<g.1)(hv:gI s.place v=0)(hb:gI s.by_ v= -1):zk g (gh s v):=by
 refine⟨⟨λx x0 x1 hx hbx=>?_⟩,ht.cmp⟩
 have hx:gI (s.place.set v.toNat (s.found+1)) x≠0:=hx
 have hbx:0<=gI s.by_ x:=hbx
 show hf g (gI s.by_ x)/\bg g (gI s.by_ x)=x/\gI (s.place.set v.toNat (s.found+1)) (aA g (gI s.by_ x))≠0/\gI (s.place.set v.toNat (s.found+1)) (aA g (gI s.by_ x))<gI (s.place.set v.toNat (s.found+1)) x
 have hne:x≠v:=λk=>by rw[k] at hbx;omega
 rw[bT v0 (by omega) x0,if_neg hne] at hx ⊢
 obtain⟨t1,t2,t3,t4⟩:=ht.tb.up x x0 x1 hx hbx
 have hf':=ck hm t1
 rw[bT v0 (by omega) hf'.1,if_neg (λk=>t3 (by rw[k];exact hv))]
 exact⟨t1,t2,t3,t4⟩
theorem Bv(hm:aX g)(hd:gx g s fr)(hu:oq g s (fr.map Prod.fst))(ht:zk g s)(hne:fr≠[])(hv:v=gI (fr.map Prod.fst) (((fr.map Prod.fst).length:Int)-1)):zk g (dF g s (fr.map Prod.fst) v).1:=by
 obtain⟨A0,v',S,rfl,hv'⟩:=ug hne
 have:v'=v:=by rw[hv];exact hv'.symm
 subst this
 clear hv hv'
 have hvm:(0<=v'/\v'<g.1)/\gI s.place v'≠0:=hd.mem (p:=(v',S)) (by simp)
 have hl5:=hd.se.l5
 unfold dF
 by_cases hn:gI s.next v'=((gI (ar g) v').length:Int)
 · rw[if_pos hn]
   refine⟨⟨λx x0 x1 hx hbx=>?_⟩,λk hk hlk=>?_⟩
   · rw[jd] at hx ⊢;rw[rz] at hbx ⊢
     exact ht.tb.up x x0 x1 hx hbx
   · rw[mM] at hlk;rw[rz];exact ht.cmp k hk hlk
 · rw[if_neg hn]
   obtain⟨n0,n1⟩:=hd.se.nx v' hvm.1.1 hvm.1.2
   have n1':gI s.next v'<=((gI (ar g) v').length:Int):=n1
   obtain⟨hh,hfv⟩:=jk hvm.1.1 hvm.1.2 n0 (by omega)
   simp only
   generalize hhe:gI (gI (ar g) v') (gI s.next v')=h at hh hfv ⊢
   obtain⟨t1,t2,t3,t4⟩:=dR (g:=g) hh
   have e1:=fN hh
   unfold eC
   by_cases hl:gI s.laid (h/2)=true
   · rw[if_pos hl];exact⟨ht.tb,ht.cmp⟩
   · rw[if_neg hl]
     by_cases hw:bg g h=v'
     · rw[if_pos hw]
       exact⟨ht.tb,λk hk hlk=>ht.lay (la:=[]) hh (by omega) (.inl (by rw[hfv,hw];exact .refl)) k hk hlk⟩
     · rw[if_neg hw]
       by_cases hp:gI s.place (bg g h)=0
       · rw[if_pos hp]
         obtain⟨w0,w1⟩:=dM hm hh
         have hl1:=hd.se.l1
         have hl3:=hd.se.l3
         have hf0:=hd.se.f0
         have hby:∀x,0<=x->gI (s.by_.set (bg g h).toNat h) x=if x=bg g h then h else gI s.by_ x:=λx a=>bT w0 (by omega) a
         have hpl:∀x,0<=x->gI (s.place.set (bg g h).toNat (s.found+1)) x=if x=bg g h then s.found+1 else gI s.place x:=λx a=>bT w0 (by omega) a
         have hcg:∀{a x:Int},AncB g s.by_ a x->0<=x/\x<g.1->gI s.place x≠0->AncB g (s.by_.set (bg g h).toNat h) a x:=λ {a x} q r t=>q.congr hm ht.tb r t (λz z0 z1 hz=>by rw[hby z z0,if_neg (λj=>hz (by rw[j];exact hp))])
         have hvw:AncB g (s.by_.set (bg g h).toNat h) v' (bg g h):=.step (by rw[hby _ w0,if_pos rfl,hfv];exact .refl) (by rw[hby _ w0,if_pos rfl];exact hh.1)
         refine⟨⟨λx x0 x1 hx hbx=>?_⟩,λk hk hlk=>?_⟩
         · have hx:gI (s.place.set (bg g h).toNat (s.found+1)) x≠0:=hx
           have hbx:0<=gI (s.by_.set (bg g h).toNat h) x:=hbx
           show hf g (gI (s.by_.set (bg g h).toNat h) x)/\bg g (gI (s.by_.set (bg g h).toNat h) x)=x/\gI (s.place.set (bg g h).toNat (s.found+1)) (aA g (gI (s.by_.set (bg g h).toNat h) x))≠0/\gI (s.place.set (bg g h).toNat (s.found+1)) (aA g (gI (s.by_.set (bg g h).toNat h) x))<gI (s.place.set (bg g h).toNat (s.found+1)) x
           rw[hby x x0] at hbx ⊢
           rw[hpl x x0] at hx ⊢
           by_cases c:x=bg g h
           · rw[if_pos c,if_pos c,hfv,hpl v' hvm.1.1,if_neg (λj=>hw j.symm)]
             have:=(hd.se.pl v' hvm.1.1 hvm.1.2).2
             exact⟨hh,c.symm,hvm.2,by omega⟩
           · rw[if_neg c] at hbx hx
             rw[if_neg c,if_neg c]
             obtain⟨u1,u2,u3,u4⟩:=ht.tb.up x x0 x1 hx hbx
             rw[hpl _ (ck hm u1).1,if_neg (λj=>u3 (by rw[j];exact hp))]
             exact⟨u1,u2,u3,u4⟩
         · have hlk:gI (s.laid.set (h/2).toNat true) (k/2)=true:=hlk
           show AncB g (s.by_.set (bg g h).toNat h) (aA g k) (bg g k)\/AncB g (s.by_.set (bg g h).toNat h) (bg g k) (aA g k)
           by_cases c:k/2=h/2
           · rcases fz hk.1 hh.1 c with q|q
             · rw[q,hfv];exact .inl hvw
             · rw[q,t3,t4,hfv];exact .inr hvw
           · rw[dv (ik hh) (by omega) (ik hk),if_neg c] at hlk
             have f1:=hd.lof k hk hlk
             have f2:=hd.lot hk hlk
             rcases ht.cmp k hk hlk with q|q
             · exact .inl (hcg q (dM hm hk) f2)
             · exact .inr (hcg q (ck hm hk) f1)
       · rw[if_neg hp]
         have hwp:bg g h∈A0.map Prod.fst:=by
           by_cases c:bg g h∈(A0++[(v',S)]).map Prod.fst
           · rw[List.map_append,List.mem_append] at c
             exact c.resolve_right (λk=>hw (by simpa using k))
           · exfalso
             have:=hu.all hm t1 (by rw[t3];exact hp) (by rw[t3];exact c)
             rw[t2] at this;exact hl this
         obtain⟨p,p1,p2⟩:=List.mem_map.1 hwp
         have:=hd.anc A0.length A0 [] rfl v' S rfl p p1
         rw[p2] at this
         exact⟨ht.tb,λk hk hlk=>ht.lay (la:=[]) hh (by omega) (.inr (by rw[hfv];exact this)) k hk hlk⟩
end TL
/-
  TlAnc3: the tree that the whole walk leaves.
  By an AI agent.
-/
set_option linter.all false
namespace TL
variable{g:bz}{s:Bs}{fr:Fm}{v x y h k:Int}
theorem CL(hm:aX g):∀(n:Nat) (s:Bs) (fr:Fm),gx g s fr->oq g s (fr.map Prod.fst)->zk g s->cq g s (fr.map Prod.fst)<=n->zk g (sR g n s (fr.map Prod.fst))
 |0,s,fr,hd,hu,ht,hl=>ht
 |n+1,s,fr,hd,hu,ht,hl=>by
   by_cases c:fr=[]
   · subst c;unfold sR;exact ht
   · have hp:fr.map Prod.fst≠[]:=λk=>c (List.map_eq_nil_iff.1 k)
     obtain⟨fr',h1,h2,h3⟩:=yV hm hd hu c rfl
     have ht':=Bv hm hd hu ht c rfl
     have hless:=jG hd.se hp rfl
     unfold sR
     rw[if_neg hp,<-h1]
     rw[<-h1] at h3 hless
     exact CL hm n _ fr' h2 h3 ht' (by omega)
theorem yJ(hm:aX g):∀k:Nat,(k:Int)<=g.1->zk g (dC g k)
 |0,hk=>by
   have h0:=hm.1
   have r0:∀{x:Int} {v:Int},0<=v->v<g.1->gI (List.replicate g.1.toNat x) v=x:=λa b=>nJ a (by omega)
   obtain⟨hd,_,_⟩:=nl hm 0 (by omega)
   exact⟨⟨λx x0 x1 hx _=>absurd (r0 x0 x1) hx⟩,λk hk hl=>absurd (hd.lof k hk hl) (λj=>j (r0 (ck hm hk).1 (ck hm hk).2))⟩
 |k+1,hk=>by
   obtain⟨h1,h2,h3⟩:=nl hm k (by omega)
   have ih:=yJ hm k (by omega)
   rw[ij]
   by_cases c:gI (dC g k).place (k:Int)=0
   · rw[if_pos c]
     have hse:=h1.se.first (v:=(k:Int)) (by omega) (by omega) c
     have hd:=h1.begin_ hm h2 (by omega) (by omega) c hse
     have hu:=h2.begin_ (v:=(k:Int)) h1.se (by omega) (by omega)
     have hb:gI (dC g k).by_ (k:Int)= -1:=by
       rcases h1.se.by_ (k:Int) (by omega) (by omega) with q|⟨_,_,q⟩
       · exact q
       · exact absurd c q
     have ht:=ih.begin_ hm h1.se.l1 h1.se.f0 (λx a b=>(h1.se.pl x a b).2) (by omega) (by omega) c hb
     exact CL hm _ (gh (dC g k) k) [((k:Int),[])] hd hu ht (Nat.le_refl _)
   · rw[if_neg c];exact ih
end TL
/-
  TlBlk5: bridges, and whether a net is biconnected, as the program does it.
  By an AI agent.
-/
set_option linter.all false
namespace TL
variable{g:bz}{of:List Int}{n k:Nat}
def e8(g:bz)(k:Nat):List Bool:=(g.2.take k).foldl (λb e=>(b.set e.1.toNat true).set e.2.toNat true) (List.replicate g.1.toNat false)
structure ov(g:bz)(at_:List Bool)(k:Nat):Prop where
 eq:at_=e8 g k
 lo:(at_.length:Int)=g.1
 no:∀j:Int,0<=j->j<k->¬(gI g.2 j).1=(gI g.2 j).2
theorem ov.start(h0:0<=g.1):ov g (List.replicate (Int.toNat g.1) false) 0:=⟨rfl,by simp;omega,λj a b=>by omega⟩
theorem ov.next{at_:List Bool}(h:ov g at_ k)(hk:(k:Int)<g.2.length)(hn:¬(gI g.2 (k:Int)).1=(gI g.2 (k:Int)).2):ov g ((at_.set (Int.toNat (gI g.2 (k:Int)).1) true).set (Int.toNat (gI g.2 (k:Int)).2) true) (k+1):=by
 have hk':k<g.2.length:=by omega
 refine⟨?_,by simp only[List.length_set];exact h.lo,λj a b=>?_⟩
 · unfold e8
   rw[List.take_succ_eq_append_getElem hk',List.foldl_append]
   have e:gI g.2 (k:Int)=g.2[k]:=by simp[gI,hk']
   rw[e,h.eq];rfl
 · by_cases c:j=(k:Int)
   · rw[c];exact hn
   · exact h.no j a (by omega)
def bY(g:bz):Bool:=decide (2<=g.1/\(∀e∈g.2,¬e.1=e.2)/\¬false∈e8 g g.2.length/\gm g=1)
theorem rO(h:g.1<2):false=bY g:=by
 unfold bY;rw[decide_eq_false];rintro⟨a,_⟩;omega
theorem tn(hk:(k:Int)<g.2.length)(h:(gI g.2 (k:Int)).1=(gI g.2 (k:Int)).2):false=bY g:=by
 unfold bY;rw[decide_eq_false];rintro⟨_,a,_⟩
 exact a _ (br (xs:=g.2) (i:=(k:Int)) (by omega) hk) h
theorem vk{at_:List Bool}(h:ov g at_ k)(hk:k=g.2.length)(hf:false∈at_):false=bY g:=by
 subst hk
 unfold bY;rw[decide_eq_false];rintro⟨_,_,a,_⟩
 rw[h.eq] at hf;exact a hf
theorem xQ{at_:List Bool}(h:ov g at_ k)(hk:k=g.2.length)(h2:¬g.1<2)(hf:¬false∈at_):decide ((c7 g).2.2=1)=bY g:=by
 subst hk
 unfold bY
 rw[decide_eq_decide]
 refine⟨λhc=>⟨by omega,λe he=>?_,by rw[<-h.eq];exact hf,hc⟩,λhc=>hc.2.2.2⟩
 obtain⟨i,hi,rfl⟩:=List.mem_iff_getElem.1 he
 have:=h.no (i:Int) (by omega) (by omega)
 have e:gI g.2 (i:Int)=g.2[i]:=by simp[gI,hi]
 rwa[e] at this
def cC(g:bz):Bool×Int:=if aX g then(bY g,0) else(false,1)
def kf(s:List Bool)(v:Bool):Int:=if v∈s then(s.idxOf v:Int) else-1
theorem wK{s:List Bool}{v:Bool}{i:Nat}(h:∀j:Nat,j<i->¬v=gI s (j:Int))(hi:(i:Int)<s.length)(he:v=gI s (i:Int)):(i:Int)=kf s v:=by
 have hlt:i<s.length:=by omega
 have e:gI s (i:Int)=s[i]:=by simp[gI,hlt]
 have hm:v∈s:=by rw[he];exact br (by omega) hi
 unfold kf
 rw[if_pos hm]
 have hlt2:=List.idxOf_lt_length_iff.2 hm
 have h1:¬s.idxOf v<i:=λhlt'=>h _ hlt' (by simp[gI,hlt2])
 have h2:¬i<s.idxOf v:=λhlt'=>by
   have:=List.not_of_lt_findIdx (xs:=s) (p:=(· ==v)) (i:=i) hlt'
   simp at this
   exact this (by rw[<-e,<-he])
 omega
theorem AY{s:List Bool}{v:Bool}{i:Nat}(h:∀j:Nat,j<i->¬v=gI s (j:Int))(hi:¬(i:Int)<s.length): -1=kf s v:=by
 unfold kf
 rw[if_neg]
 intro hm
 obtain⟨j,hj,e⟩:=List.mem_iff_getElem.1 hm
 apply h j (by omega)
 rw[<-e];simp[gI,hj]
theorem uR{l:List Bool}{x:Bool}:decide (0<=kf l x)=decide (x∈l):=by
 unfold kf
 by_cases h:x∈l
 · rw[if_pos h,decide_eq_true h,decide_eq_true (by omega)]
 · rw[if_neg h,decide_eq_false h];rfl
end TL
/-
  TlAnc4: in a net of one block, an edge leads from behind a node to one ahead of its parent.
  By an AI agent.
-/
set_option linter.all false
namespace TL
variable{g:bz}{pl by_:List Int}{a b c x y h k:Int}
theorem AncB.cmp(h1:AncB g by_ a x)(h2:AncB g by_ b x):AncB g by_ a b\/AncB g by_ b a:=by
  induction h1 with
  |refl=>exact .inr h2
  |step p q ih=>
    cases h2 with
    |refl=>exact .inl (.step p q)
    |step p2 q2=>exact ih p2
theorem AncB.root(h:AncB g by_ a x)(hr:gI by_ x<0):a=x:=by
 cases h with
 |refl=>rfl
 |step _ q=>omega
end TL
/-
  TlAnc5: one root alone.
  By an AI agent.
-/
set_option linter.all false
namespace TL
variable{g:bz}{pl by_:List Int}{a b c x y h k e f r:Int}
theorem rt(hm:aX g)(ht:Cz g pl by_)(hpl:∀x,0<=x->x<g.1->0<=gI pl x/\gI pl x≠0):∀(n:Nat) (x:Int),0<=x->x<g.1->(gI pl x).toNat<=n->∃r,AncB g by_ r x/\gI by_ r<0
 |0,x,x0,x1,hn=>by have:=hpl x x0 x1;omega
 |n+1,x,x0,x1,hn=>by
   by_cases c:gI by_ x<0
   · exact⟨x,.refl,c⟩
   · obtain⟨t1,t2,t3,t4⟩:=ht.up x x0 x1 (hpl x x0 x1).2 (by omega)
     obtain⟨f0,f1⟩:=ck hm t1
     obtain⟨r,h1,h2⟩:=rt hm ht hpl n _ f0 f1 (by have:=hpl _ f0 f1;have:=hpl x x0 x1;omega)
     exact⟨r,.step h1 (by omega),h2⟩
def Cv(g:bz)(by_:List Int)(r e:Int):Prop:=∀h,hf g h->h/2=e->AncB g by_ r (aA g h)
theorem xc(hc:AncB g by_ (aA g h) (bg g h)\/AncB g by_ (bg g h) (aA g h))(hh:hf g h)(hr:AncB g by_ r (aA g h))(hb:gI by_ r<0):Cv g by_ r (h/2):=by
 have hto:AncB g by_ r (bg g h):=by
   rcases hc with q|q
   · exact hr.trans q
   · rcases hr.cmp q with p|p
     · exact p
     · have:=p.root hb
       rw[this];exact .refl
 intro k hk he
 rcases fz hk.1 hh.1 he with q|q
 · rw[q];exact hr
 · obtain⟨_,_,t3,_⟩:=dR (g:=g) hh
   rw[q,t3];exact hto
theorem Ck(hc:∀h,hf g h->AncB g by_ (aA g h) (bg g h)\/AncB g by_ (bg g h) (aA g h))(he:EqB g e f)(hb:gI by_ r<0):Cv g by_ r e↔Cv g by_ r f:=by
 have one:∀{e f},mY g e f->Cv g by_ r e->Cv g by_ r f:=by
   rintro e f ⟨h,k,hh,hk,rfl,rfl,hx,_,_,_⟩ hr
   exact xc (hc k hk) hk (by rw[<-hx];exact hr h hh rfl) hb
 induction he with
 |refl=>exact Iff.rfl
 |rel h=>exact⟨one h,one h.symm⟩
 |symm _ ih=>exact ih.symm
 |trans _ _ i1 i2=>exact i1.trans i2
theorem jp{v:Int}(hm:aX g)(v0:0<=v)(v1:v<g.1):∀k:Nat,k<=g.2.length->(e8 g k).length=g.1.toNat/\(gI (e8 g k) v=true->∃h,hf g h/\aA g h=v)
 |0,_=>by
   refine⟨by simp[e8],λh=>?_⟩
   obtain⟨j,rfl⟩:∃j:Nat,v=(j:Int):=⟨v.toNat,by omega⟩
   have:j<g.1.toNat:=by omega
   simp[e8,gI,this] at h
 |k+1,hk=>by
   obtain⟨h1,h2⟩:=jp hm v0 v1 k (by omega)
   have hlt:k<g.2.length:=by omega
   have e:e8 g (k+1)=((e8 g k).set (g.2[k]).1.toNat true).set (g.2[k]).2.toNat true:=by
     unfold e8
     rw[List.take_succ_eq_append_getElem hlt,List.foldl_append];rfl
   obtain⟨⟨a0,a1⟩,b0,b1⟩:=hm.2.2.2 _ (List.getElem_mem hlt)
   have eg:gI g.2 (k:Int)=g.2[k]:=by simp[gI,hlt]
   refine⟨by rw[e];simp[h1],λh=>?_⟩
   rw[e,dv b0 (by rw[List.length_set,h1];omega) v0,dv a0 (by rw[h1];omega) v0] at h
   by_cases c1:v=(g.2[k]).2
   · refine⟨2*(k:Int)+1,⟨by omega,by omega⟩,?_⟩
     unfold aA
     rw[show(2*(k:Int)+1)/2=(k:Int) by omega,show(2*(k:Int)+1)%2=1 by omega,eg,c1];rfl
   · rw[if_neg c1] at h
     by_cases c2:v=(g.2[k]).1
     · refine⟨2*(k:Int),⟨by omega,by omega⟩,?_⟩
       unfold aA
       rw[show(2*(k:Int))/2=(k:Int) by omega,show(2*(k:Int))%2=0 by omega,eg,c2];rfl
     · rw[if_neg c2] at h
       exact h2 h
theorem lY(hm:aX g)(hb:bY g=true){v:Int}(v0:0<=v)(v1:v<g.1):∃h,hf g h/\aA g h=v:=by
 obtain⟨h1,h2⟩:=jp hm v0 v1 g.2.length (Nat.le_refl _)
 apply h2
 have hnf:=(of_decide_eq_true hb).2.2.1
 have hmem:gI (e8 g g.2.length) v∈e8 g g.2.length:=br v0 (by rw[h1];omega)
 cases c:gI (e8 g g.2.length) v with
 |true=>rfl
 |false=>rw[c] at hmem;exact absurd hmem hnf
theorem vN(hm:aX g)(hb:bY g=true)(a0:0<=a)(a1:a<g.1)(x0:0<=x)(x1:x<g.1)(ha:gI (dC g g.1.toNat).by_ a<0):AncB g (dC g g.1.toNat).by_ a x:=by
  have h0:=hm.1
  have ht:=yJ hm g.1.toNat (by omega)
  have hc:∀h,hf g h->AncB g (dC g g.1.toNat).by_ (aA g h) (bg g h)\/AncB g (dC g g.1.toNat).by_ (bg g h) (aA g h):=λh hh=>ht.cmp h hh (mt hm (ik hh) (fN hh)).2.1
  obtain⟨h,h1,h2⟩:=lY hm hb a0 a1
  obtain⟨k,k1,k2⟩:=lY hm hb x0 x1
  have hcnt:gm g=1:=(of_decide_eq_true hb).2.2.2
  have hof:gI (fJ g) (h/2)=gI (fJ g) (k/2):=by
    have r1:=iN g (ik h1) (fN h1)
    have r2:=iN g (ik k1) (fN k1)
    omega
  have heq:=(nC hm (ik h1) (fN h1) (ik k1) (fN k1)).1 hof
  have r1:Cv g (dC g g.1.toNat).by_ a (h/2):=xc (hc h h1) h1 (by rw[h2];exact .refl) ha
  have:=(Ck hc heq ha).1 r1 k k1 rfl
  rwa[k2] at this
end TL
/-
  TlDocB: blocks, as the document makes them: edges joined at each node by what is joined without it.
  By an AI agent.
-/
set_option linter.all false
namespace TL
variable{g:bz}{of of0 of2 fi c L M:List Int}{a b v h k' i j x y z:Int}{k m:Nat}
def j4(of:List Int)(a b:Int):List Int:=of.map λz=>if z=max (gI of a) (gI of b) then min (gI of a) (gI of b) else z
structure sk(of:List Int)(a b:Int)(of2:List Int)(k:Nat):Prop where
 eq:of2=(of.take k).map (λz=>if z=max (gI of a) (gI of b) then min (gI of a) (gI of b) else z)++of.drop k
 lo:(of2.length:Int)=of.length
theorem sk.start:sk of a b of 0:=⟨by simp,rfl⟩
theorem sk.at_(h:sk of a b of2 k)(hk:(k:Int)<of.length):gI of2 (k:Int)=gI of (k:Int):=by
 have hk':k<of.length:=by omega
 rw[h.eq]
 unfold gI
 rw[List.getD_eq_getElem?_getD,List.getD_eq_getElem?_getD,Int.toNat_natCast,List.getElem?_append_right (by simp;omega)]
 simp
 rw[show k+(k-min k of.length)=k by omega]
theorem sk.yes(h:sk of a b of2 k)(hk:(k:Int)<of.length)(hc:gI of2 (k:Int)=max (gI of a) (gI of b)):sk of a b (of2.set (Int.toNat (k:Int)) (min (gI of a) (gI of b))) (k+1):=by
 have hk':k<of.length:=by omega
 have e:=h.at_ hk
 rw[hc] at e
 refine⟨?_,by rw[List.length_set];exact h.lo⟩
 rw[h.eq,Int.toNat_natCast,List.set_append_right _ _ (by simp;omega),List.take_succ_eq_append_getElem hk',List.map_append]
 rw[show k-((of.take k).map (λz=>if z=max (gI of a) (gI of b) then min (gI of a) (gI of b) else z)).length=0 by simp;omega,List.drop_eq_getElem_cons hk']
 have e2:of[k]=max (gI of a) (gI of b):=by rw[e];simp[gI,hk']
 simp[e2]
theorem sk.no(h:sk of a b of2 k)(hk:(k:Int)<of.length)(hc:¬gI of2 (k:Int)=max (gI of a) (gI of b)):sk of a b of2 (k+1):=by
 have hk':k<of.length:=by omega
 have e:=h.at_ hk
 rw[e] at hc
 refine⟨?_,h.lo⟩
 have e2:¬of[k]=max (gI of a) (gI of b):=by
   have:gI of (k:Int)=of[k]:=by simp[gI,hk']
   rw[<-this];exact hc
 rw[h.eq,List.take_succ_eq_append_getElem hk',List.map_append,List.drop_eq_getElem_cons hk']
 simp[e2]
theorem sk.done(h:sk of a b of2 k)(hk:¬(k:Int)<of2.length):of2=j4 of a b:=by
 have hl:=h.lo
 rw[h.eq,List.take_of_length_le (by omega),List.drop_eq_nil_of_le (by omega),List.append_nil];rfl
theorem vS:(j4 of a b).length=of.length:=by unfold j4;simp
theorem wd(h0:0<=i)(h1:i<(of.length:Int)):gI (j4 of a b) i=if gI of i=max (gI of a) (gI of b) then min (gI of a) (gI of b) else gI of i:=by
 have hi:i.toNat<of.length:=by omega
 unfold j4
 generalize gI of a=p
 generalize gI of b=q
 unfold gI
 rw[List.getD_eq_getElem?_getD,List.getD_eq_getElem?_getD,List.getElem?_map,List.getElem?_eq_getElem hi];rfl
structure Ct(g:bz)(of:List Int):Prop where
  lo:(of.length:Int)=g.2.length
  ob:∀i,0<=i->i<(g.2.length:Int)->0<=gI of i/\gI of i<=i
  id:∀i,0<=i->i<(g.2.length:Int)->gI of (gI of i)=gI of i
  snd:∀i j,0<=i->i<(g.2.length:Int)->0<=j->j<(g.2.length:Int)->gI of i=gI of j->EqB g i j
theorem Ct.join(h:Ct g of)(a0:0<=a)(a1:a<(g.2.length:Int))(b0:0<=b)(b1:b<(g.2.length:Int))(he:EqB g a b):Ct g (j4 of a b)/\gI (j4 of a b) a=gI (j4 of a b) b/\∀i j,0<=i->i<(g.2.length:Int)->0<=j->j<(g.2.length:Int)->gI of i=gI of j->gI (j4 of a b) i=gI (j4 of a b) j:=by
 have hl:=h.lo
 have ja:∀i,0<=i->i<(g.2.length:Int)->gI (j4 of a b) i=if gI of i=max (gI of a) (gI of b) then min (gI of a) (gI of b) else gI of i:=λi p q=>wd p (by omega)
 have ba:=h.ob a a0 a1
 have bb:=h.ob b b0 b1
 have ida:=h.id a a0 a1
 have idb:=h.id b b0 b1
 have hmin:min (gI of a) (gI of b)=gI of a\/min (gI of a) (gI of b)=gI of b:=by omega
 have hmax:max (gI of a) (gI of b)=gI of a\/max (gI of a) (gI of b)=gI of b:=by omega
 have emin:gI of (min (gI of a) (gI of b))=min (gI of a) (gI of b):=by rcases hmin with q|q<;>rw[q]<;>assumption
 -- of what is named by the greater, or the lesser, of the two
 have hcl:∀i,0<=i->i<(g.2.length:Int)->(gI of i=max (gI of a) (gI of b)\/gI of i=min (gI of a) (gI of b))->EqB g i a:=λi i0 i1 q=>by
   have:gI of i=gI of a\/gI of i=gI of b:=by omega
   rcases this with q|q
   · exact h.snd i a i0 i1 a0 a1 q
   · exact(h.snd i b i0 i1 b0 b1 q).trans he.symm
 refine⟨⟨by rw[vS];exact hl,λi i0 i1=>?_,λi i0 i1=>?_,λi j i0 i1 j0 j1 hij=>?_⟩,?_,λi j i0 i1 j0 j1 hij=>?_⟩
 · have:=h.ob i i0 i1
   rw[ja i i0 i1]
   split<;>omega
 · have bi:=h.ob i i0 i1
   rw[ja i i0 i1]
   by_cases q:gI of i=max (gI of a) (gI of b)
   · rw[if_pos q,ja _ (by omega) (by omega),emin]
     split<;>rfl
   · rw[if_neg q,ja _ (by omega) (by omega),h.id i i0 i1,if_neg q]
 · rw[ja i i0 i1,ja j j0 j1] at hij
   by_cases q:gI of i=max (gI of a) (gI of b)
   · rw[if_pos q] at hij
     by_cases q2:gI of j=max (gI of a) (gI of b)
     · exact h.snd i j i0 i1 j0 j1 (by rw[q,q2])
     · rw[if_neg q2] at hij
       exact(hcl i i0 i1 (.inl q)).trans (hcl j j0 j1 (.inr hij.symm)).symm
   · rw[if_neg q] at hij
     by_cases q2:gI of j=max (gI of a) (gI of b)
     · rw[if_pos q2] at hij
       exact(hcl i i0 i1 (.inr hij)).trans (hcl j j0 j1 (.inl q2)).symm
     · rw[if_neg q2] at hij
       exact h.snd i j i0 i1 j0 j1 hij
 · rw[ja a a0 a1,ja b b0 b1]
   split<;>split<;>omega
 · rw[ja i i0 i1,ja j j0 j1,hij]
def fH(g:bz)(v:Int):List Bool:=(List.replicate g.1.toNat false).set v.toNat true
theorem jx(hm:aX g)(v0:0<=v)(v1:v<g.1)(x0:0<=x):gI (fH g v) x=true↔x=v:=by
 unfold fH
 rw[dv v0 (by simp;omega) x0]
 by_cases q:x=v
 · rw[if_pos q];simp[q]
 · rw[if_neg q]
   constructor
   · intro j
     exfalso
     by_cases c:x<g.1
     · rw[fM x0 (by omega)] at j;cases j
     · have:¬x.toNat<g.1.toNat:=by omega
       simp[gI,this] at j
   · intro j;exact absurd j q
theorem jF(hm:aX g)(v0:0<=v)(v1:v<g.1)(x0:0<=x)(x1:x<g.1)(y0:0<=y)(y1:y<g.1)(hx:x≠v)(hy:y≠v):
    (0<=gI (aU g (fH g v) []).1 x/\gI (aU g (fH g v) []).1 x<g.1)/\(gI (aU g (fH g v) []).1 x=gI (aU g (fH g v) []).1 y↔Wy g (λz=>z≠v) x y):=by
  obtain⟨l,hi⟩:=dJ (gone:=fH g v) (cut:=[]) hm
  have hP:=i7 (gone:=fH g v) (cut:=[]) hm
  have hno:∀z,0<=z->z≠v->¬gI (fH g v) z=true:=λz z0 q j=>q ((jx hm v0 v1 z0).1 j)
  have hxd:fI g x:=⟨x0,x1⟩
  have hyd:fI g y:=⟨y0,y1⟩
  obtain⟨l1,l2,l3⟩:=gR (gone:=fH g v) (cut:=[]) hm
  have h0:0<=gI (aU g (fH g v) []).1 x:=(hi.iff x hxd).2 (by
    have:=hi.all x.toNat (by omega) (by omega) (by rw[show((x.toNat:Nat):Int)=x by omega];exact hno x x0 hx)
    rwa[show((x.toNat:Nat):Int)=x by omega] at this)
  have h1:=hi.top x hxd
  refine⟨⟨h0,by omega⟩,(hi.lab x y hxd hyd h0).trans ⟨λhc=>?_,λhw=>?_⟩⟩
  · exact hP.cl (λz=>z≠v/\Wy g (λz=>z≠v) x z) (λh hh hp q=>by
      have:=hp.2.1
      have ht:=dM hm hh
      have hne:bg g h≠v:=λj=>this ((jx hm v0 v1 ht.1).2 j)
      exact⟨hne,.step q.2 hh hne⟩) x y hc ⟨hx,.refl hx⟩ |>.2
  · induction hw with
    |refl _=>exact(Cn.eqv _).rfl _ (hP.nd.2 hxd)
    |step p q r ih=>
      rename_i h'
      have hf:=ck hm q
      have hfn:=p.right
      have hc:=ih hf.1 hf.2 hfn ⟨hf.1,hf.2⟩
      have ht:=dM hm q
      exact(Cn.eqv _).trans _ _ _ (hP.nd.2 hxd) (hP.nd.2 hf) (hP.nd.2 ht) hc (hP.one h' q ⟨hno _ hf.1 hfn,hno _ ht.1 r,by simp[gI]⟩)
structure pz(g:bz)(of0:List Int)(v:Int)(c fi of:List Int)(k:Nat):Prop where
 hc:c=(aU g (fH g v) []).1
 v0:0<=v
 v1:v<g.1
 fl:(fi.length:Int)=g.1
 fb:∀x,0<=x->x<g.1->0<=gI fi x/\gI fi x<=(g.2.length:Int)
 le:Ct g of
 mono:∀i j,0<=i->i<(g.2.length:Int)->0<=j->j<(g.2.length:Int)->gI of0 i=gI of0 j->gI of i=gI of j
 frs:∀x,0<=x->x<g.1->gI fi x≠0->∃h∈bO g v,bg g h≠v/\h/2=gI fi x-1/\gI c (bg g h)=x
 row:∀h∈(bO g v).take k,bg g h≠v->gI fi (gI c (bg g h))≠0/\gI of (gI fi (gI c (bg g h))-1)=gI of (h/2)
theorem pz.start(hm:aX g)(v0:0<=v)(v1:v<g.1)(hc:c=(aU g (fH g v) []).1)(hl:Ct g of):pz g of v c (List.replicate (Int.toNat g.1) 0) of 0:=by
 have hr:∀x,0<=x->x<g.1->gI (List.replicate (Int.toNat g.1) (0:Int)) x=0:=λx a b=>fM a (by omega)
 exact⟨hc,v0,v1,by simp;omega,λx a b=>by rw[hr x a b];omega,hl,λ_ _ _ _ _ _ q=>q,λx a b q=>absurd (hr x a b) q,λh q=>by simp at q⟩
theorem pz.loop(h:pz g of0 v c fi of k)(hk:(k:Int)<(bO g v).length)(hl:bg g (gI (bO g v) (k:Int))=v):pz g of0 v c fi of (k+1):=by
 refine⟨h.hc,h.v0,h.v1,h.fl,h.fb,h.le,h.mono,h.frs,λx hx q=>?_⟩
 rw[bC hk] at hx
 rcases List.mem_append.1 hx with hx|hx
 · exact h.row x hx q
 · rw[List.mem_singleton.1 hx] at q;exact absurd hl q
theorem sP(hk:(k:Int)<(bO g v).length):gI (bO g v) (k:Int)∈bO g v/\hf g (gI (bO g v) (k:Int))/\aA g (gI (bO g v) (k:Int))=v:=by
 have h1:=br (xs:=bO g v) (i:=(k:Int)) (by omega) hk
 exact⟨h1,cQ h1⟩
theorem pz.cb(hm:aX g)(h:pz g of0 v c fi of k)(hx0:0<=x)(hx1:x<g.1)(hx:x≠v):0<=gI c x/\gI c x<g.1:=by
 rw[h.hc]
 exact(jF hm h.v0 h.v1 hx0 hx1 hx0 hx1 hx hx).1
theorem pz.first(hm:aX g)(h:pz g of0 v c fi of k)(hk:(k:Int)<(bO g v).length)(hl:¬bg g (gI (bO g v) (k:Int))=v)(h0:gI fi (gI c (bg g (gI (bO g v) (k:Int))))=0):pz g of0 v c (fi.set (Int.toNat (gI c (bg g (gI (bO g v) (k:Int))))) (gI (bO g v) (k:Int)/2+1)) of (k+1):=by
 obtain⟨r1,r2,r3⟩:=sP hk
 have ht:=dM hm r2
 obtain⟨c0,c1⟩:=h.cb hm ht.1 ht.2 hl
 have hfl:=h.fl
 have hs:∀x,0<=x->gI (fi.set (Int.toNat (gI c (bg g (gI (bO g v) (k:Int))))) (gI (bO g v) (k:Int)/2+1)) x=if x=gI c (bg g (gI (bO g v) (k:Int))) then gI (bO g v) (k:Int)/2+1 else gI fi x:=λx q=>bT c0 (by omega) q
 have b1:=ik r2
 have b2:=fN r2
 refine⟨h.hc,h.v0,h.v1,by rw[List.length_set];exact hfl,λx x0 x1=>?_,h.le,h.mono,λx x0 x1 q=>?_,λy hy q=>?_⟩
 · rw[hs x x0]
   have:=h.fb x x0 x1
   split<;>omega
 · rw[hs x x0] at q ⊢
   by_cases e:x=gI c (bg g (gI (bO g v) (k:Int)))
   · rw[if_pos e]
     exact⟨_,r1,hl,by omega,e.symm⟩
   · rw[if_neg e] at q ⊢
     exact h.frs x x0 x1 q
 · have hyo:y∈bO g v:=List.mem_of_mem_take hy
   have hyt:=dM hm (cQ hyo).1
   obtain⟨d0,d1⟩:=h.cb hm hyt.1 hyt.2 q
   rw[hs _ d0]
   rw[bC hk] at hy
   rcases List.mem_append.1 hy with hy|hy
   · obtain⟨p1,p2⟩:=h.row y hy q
     by_cases e:gI c (bg g y)=gI c (bg g (gI (bO g v) (k:Int)))
     · rw[e] at p1;exact absurd h0 p1
     · rw[if_neg e];exact⟨p1,p2⟩
   · rw[List.mem_singleton.1 hy,if_pos rfl]
     exact⟨by omega,by rw[show gI (bO g v) (k:Int)/2+1-1=gI (bO g v) (k:Int)/2 by omega]⟩
theorem pz.join(hm:aX g)(h:pz g of0 v c fi of k)(hk:(k:Int)<(bO g v).length)(hl:¬bg g (gI (bO g v) (k:Int))=v)(h0:¬gI fi (gI c (bg g (gI (bO g v) (k:Int))))=0)(he:of2=j4 of (gI fi (gI c (bg g (gI (bO g v) (k:Int))))-1) (gI (bO g v) (k:Int)/2)):pz g of0 v c fi of2 (k+1):=by
 subst he
 obtain⟨r1,r2,r3⟩:=sP hk
 have ht:=dM hm r2
 obtain⟨c0,c1⟩:=h.cb hm ht.1 ht.2 hl
 have b1:=ik r2
 have b2:=fN r2
 obtain⟨f0,f1⟩:=h.fb _ c0 c1
 obtain⟨y,y1,y2,y3,y4⟩:=h.frs _ c0 c1 h0
 obtain⟨yf,yv⟩:=cQ y1
 have hyt:=dM hm yf
 have hrel:mY g (gI fi (gI c (bg g (gI (bO g v) (k:Int))))-1) (gI (bO g v) (k:Int)/2):=by
   refine⟨y,_,yf,r2,y3,rfl,by rw[yv,r3],by rw[yv];exact y2,by rw[r3];exact hl,?_⟩
   rw[yv]
   rw[h.hc] at y4
   exact(jF hm h.v0 h.v1 hyt.1 hyt.2 ht.1 ht.2 y2 hl).2.1 y4
 obtain⟨j1,j2,j3⟩:=h.le.join (a:=gI fi (gI c (bg g (gI (bO g v) (k:Int))))-1) (b:=gI (bO g v) (k:Int)/2) (by omega) (by omega) b1 b2 (.rel hrel)
 refine⟨h.hc,h.v0,h.v1,h.fl,h.fb,j1,λi j i0 i1 j0 j1' q=>j3 i j i0 i1 j0 j1' (h.mono i j i0 i1 j0 j1' q),h.frs,λz hz q=>?_⟩
 · have hzo:z∈bO g v:=List.mem_of_mem_take hz
   have hzf:=(cQ hzo).1
   have hzt:=dM hm hzf
   obtain⟨d0,d1⟩:=h.cb hm hzt.1 hzt.2 q
   rw[bC hk] at hz
   rcases List.mem_append.1 hz with hz|hz
   · obtain⟨p1,p2⟩:=h.row z hz q
     obtain⟨q1,q2⟩:=h.fb _ d0 d1
     exact⟨p1,j3 _ _ (by omega) (by omega) (ik hzf) (fN hzf) p2⟩
   · rw[List.mem_singleton.1 hz]
     exact⟨h0,j2⟩
structure vY(g:bz)(of:List Int)(k:Nat):Prop where
  le:Ct g of
  cmp:∀v:Int,0<=v->v<(k:Int)->∀h∈bO g v,∀h'∈bO g v,bg g h≠v->bg g h'≠v->gI (aU g (fH g v) []).1 (bg g h)=gI (aU g (fH g v) []).1 (bg g h')->gI of (h/2)=gI of (h'/2)
theorem vY.start:vY g (bp g.2.length) 0:=by
 have hi:∀i,0<=i->i<(g.2.length:Int)->gI (bp g.2.length) i=i:=λi a b=>ui a (by omega)
 refine⟨⟨by simp[bp],λi a b=>by rw[hi i a b];omega,λi a b=>by rw[hi i a b,hi i a b],λi j a b c d q=>by rw[hi i a b,hi j c d] at q;rw[q];exact .refl _⟩,λv a b=>by omega⟩
theorem vY.next(hm:aX g)(h:vY g of0 k){m:Nat}(hr:pz g of0 (k:Int) c fi of m)(hm2:¬(m:Int)<(bO g (k:Int)).length):vY g of (k+1):=by
 refine⟨hr.le,λv v0 v1 x hx y hy hxv hyv q=>?_⟩
 by_cases c':v=(k:Int)
 · subst c'
   have hr':=hr.row
   rw[List.take_of_length_le (by omega),hr.hc] at hr'
   obtain⟨p1,p2⟩:=hr' x hx hxv
   obtain⟨q1,q2⟩:=hr' y hy hyv
   rw[<-p2,<-q2,q]
 · have hxf:=(cQ hx).1
   have hyf:=(cQ hy).1
   exact hr.mono _ _ (ik hxf) (fN hxf) (ik hyf) (fN hyf) (h.cmp v v0 (by omega) x hx y hy hxv hyv q)
theorem vY.all(hm:aX g)(h:vY g of k)(hk:(k:Int)=g.1)(i0:0<=i)(i1:i<(g.2.length:Int))(j0:0<=j)(j1:j<(g.2.length:Int)):gI of i=gI of j↔EqB g i j:=by
 refine⟨h.le.snd i j i0 i1 j0 j1,λhe=>?_⟩
 have one:∀i j,mY g i j->gI of i=gI of j:=by
   rintro i j ⟨x,y,hx,hy,rfl,rfl,hxy,hx2,hy2,hw⟩
   have hf:=ck hm hx
   have hxt:=dM hm hx
   have hyt:=dM hm hy
   exact h.cmp (aA g x) hf.1 (by omega) x (fc hx) y (by rw[hxy];exact fc hy) hx2 (by rw[hxy];exact hy2) ((jF hm hf.1 hf.2 hxt.1 hxt.2 hyt.1 hyt.2 hx2 (by rw[hxy];exact hy2)).2.2 hw)
 clear i0 i1 j0 j1
 induction he with
 |refl=>rfl
 |rel q=>exact one _ _ q
 |symm _ ih=>exact ih.symm
 |trans _ _ i1 i2=>exact i1.trans i2
end TL
/-
  TlDocC: the document's blocks and cut nodes are the program's.
  By an AI agent.
-/
set_option linter.all false
namespace TL
variable{g:bz}{of nu bo cu L M l:List Int}{a b v h i j x y n n' ct:Int}{k m:Nat}
inductive Fn (L:List Int):Nat->Int->Prop
  |zero:Fn L 0 0
  |old {k:Nat} {n:Int} (j:Nat):Fn L k n->j<k->gI L (j:Int)=gI L (k:Int)->Fn L (k+1) n
  |new {k:Nat} {n:Int}:Fn L k n->(∀j:Nat,j<k->gI L (j:Int)≠gI L (k:Int))->gI L (k:Int)=n->Fn L (k+1) (n+1)
theorem Fn.congr(h:Fn L k n):(∀i:Nat,i<k->gI L (i:Int)=gI M (i:Int))->Fn M k n:=by
 induction h with
 |zero=>intro _;exact .zero
 | @old k n j h1 h2 h3 ih=>
   intro hh
   exact .old j (ih λi q=>hh i (by omega)) h2 (by rw[<-hh j (by omega),<-hh k (by omega),h3])
 | @new k n h1 h2 h3 ih=>
   intro hh
   exact .new (ih λi q=>hh i (by omega)) (λj q=>by rw[<-hh j (by omega),<-hh k (by omega)];exact h2 j q) (by rw[<-hh k (by omega),h3])
theorem Fn.uniq(h:Fn L k n):∀n',Fn M k n'->(∀i j:Nat,i<k->j<k->(gI L (i:Int)=gI L (j:Int)↔gI M (i:Int)=gI M (j:Int)))->n=n'/\∀i:Nat,i<k->gI L (i:Int)=gI M (i:Int):=by
 induction h with
 |zero=>intro n' h' _;cases h';exact⟨rfl,λi q=>by omega⟩
 | @old k n j h1 h2 h3 ih=>
   intro n' h' hh
   cases h' with
   |old j' h1' h2' h3'=>
     obtain⟨e1,e2⟩:=ih _ h1' (λi j a b=>hh i j (by omega) (by omega))
     refine⟨e1,λi q=>?_⟩
     by_cases c:i=k
     · rw[c,<-h3,e2 j h2]
       exact(hh j k (by omega) (by omega)).1 h3
     · exact e2 i (by omega)
   |new h1' h2' h3'=>exact absurd ((hh j k (by omega) (by omega)).1 h3) (h2' j h2)
 | @new k n h1 h2 h3 ih=>
   intro n' h' hh
   cases h' with
   |old j' h1' h2' h3'=>exact absurd ((hh j' k (by omega) (by omega)).2 h3') (h2 j' h2')
   |new h1' h2' h3'=>
     obtain⟨e1,e2⟩:=ih _ h1' (λi j a b=>hh i j (by omega) (by omega))
     refine⟨by omega,λi q=>?_⟩
     by_cases c:i=k
     · rw[c,h3,h3',e1]
     · exact e2 i (by omega)
theorem Fn.top(h:Fn L k n):0<=n/\(0<n->∃i:Nat,i<k/\gI L (i:Int)=n-1):=by
 induction h with
 |zero=>exact⟨Int.le_refl _,λq=>by omega⟩
 |old j h1 h2 h3 ih=>
   refine⟨ih.1,λq=>?_⟩
   obtain⟨i,i1,i2⟩:=ih.2 q
   exact⟨i,by omega,i2⟩
 | @new k n h1 h2 h3 ih=>exact⟨by omega,λ_=>⟨k,by omega,by omega⟩⟩
theorem tJ(l:List Int):∀(k:Nat) (x:Int),x∈(aR l k).1->∃j:Nat,j<k/\gI l (j:Int)=x
 |0,x,hx=>absurd hx List.not_mem_nil
 |k+1,x,hx=>by
   have hx2:x∈(if gI l (k:Int)∈(aR l k).1 then(aR l k).1 else(aR l k).1++[gI l (k:Int)]):=hx
   have:x∈(aR l k).1\/x=gI l (k:Int):=by
     split at hx2
     · exact .inl hx2
     · exact(List.mem_append.1 hx2).imp id List.mem_singleton.1
   rcases this with q|q
   · obtain⟨j,j1,j2⟩:=tJ l k x q
     exact⟨j,by omega,j2⟩
   · exact⟨k,by omega,q.symm⟩
theorem zj(l:List Int):∀k:Nat,Fn (aR l k).2 k ((aR l k).1.length:Int)
 |0=>.zero
 |k+1=>by
   have hl:=(jy l k).1
   have hlast:=(jz l (k+1) k (by omega)).1
   have hpre:∀i:Nat,i<k->gI (aR l k).2 (i:Int)=gI (aR l (k+1)).2 (i:Int):=λi q=>by
     conv=>rhs;unfold aR
     exact(nk (by omega) (by omega)).symm
   have hc:=(zj l k).congr hpre
   by_cases c:gI l (k:Int)∈(aR l k).1
   · have e:(aR l (k+1)).1=(aR l k).1:=by conv=>lhs;unfold aR;simp only[if_pos c]
     obtain⟨j,j1,j2⟩:=tJ l k _ c
     rw[e]
     refine .old j hc j1 ?_
     rw[hlast,e,<-hpre j j1,(jz l k j j1).1,j2]
   · have e:(aR l (k+1)).1=(aR l k).1++[gI l (k:Int)]:=by conv=>lhs;unfold aR;simp only[if_neg c]
     have elast:gI (aR l (k+1)).2 (k:Int)=((aR l k).1.length:Int):=by
       rw[hlast,e,List.idxOf_append,if_neg c];simp
     have e3:(((aR l (k+1)).1.length:Nat):Int)=((aR l k).1.length:Int)+1:=by rw[e,List.length_append,List.length_singleton];omega
     rw[e3]
     refine .new hc (λj q=>?_) elast
     rw[elast,<-hpre j q]
     have:=pT l k _ (br (xs:=(aR l k).2) (i:=(j:Int)) (by omega) (by omega))
     omega
theorem tx(g:bz):Fn (fJ g) g.2.length (gm g):=zj _ _
def je(of:List Int)(k:Nat):Int:=(((bp k).filter λj=>decide (gI of j=j)).length:Int)
theorem kv(h:gI of (k:Int)=(k:Int)):je of (k+1)=je of k+1:=by
 unfold je
 rw[cv,List.filter_append]
 simp[h]
theorem ql(h:¬gI of (k:Int)=(k:Int)):je of (k+1)=je of k:=by
 unfold je
 rw[cv,List.filter_append]
 simp[h]
theorem oT:∀d:Nat,je of k<=je of (k+d)
 |0=>Int.le_refl _
 |d+1=>by
   have:=oT d
   by_cases c:gI of ((k+d:Nat):Int)=((k+d:Nat):Int)
   · have:=kv c
     rw[show k+(d+1)=k+d+1 by omega];omega
   · have:=ql c
     rw[show k+(d+1)=k+d+1 by omega];omega
theorem qp{j:Nat}(h:gI of (j:Int)=(j:Int))(hj:j<k):je of j<je of k:=by
 have h1:=kv h
 have h2:=oT (of:=of) (k:=j+1) (k-(j+1))
 rw[show j+1+(k-(j+1))=k by omega] at h2
 omega
theorem Al:0<=je of k/\je of k<=(k:Int):=by
 unfold je
 have:((bp k).filter λj=>decide (gI of j=j)).length<=(bp k).length:=List.length_filter_le ..
 have h2:(bp k).length=k:=by simp[bp]
 omega
structure sM(of nu:List Int)(ct:Int)(k:Nat):Prop where
 lo:(nu.length:Int)=of.length
 ct:ct=je of k
 nu:∀j:Nat,j<k->gI of (j:Int)=(j:Int)->gI nu (j:Int)=je of j
theorem sM.start{m:Int}(hl:(of.length:Int)=m):sM of (List.replicate (Int.toNat m) 0) 0 0:=⟨by simp;omega,rfl,λj q=>by omega⟩
theorem sM.cb(h:sM of nu ct k):0<=ct/\ct<=(k:Int):=by rw[h.ct];exact Al
theorem sM.yes(h:sM of nu ct k)(hk:(k:Int)<of.length)(hc:gI of (k:Int)=(k:Int)):sM of (nu.set (Int.toNat (k:Int)) ct) (ct+1) (k+1):=by
 have hl:=h.lo
 refine⟨by rw[List.length_set];exact hl,by rw[kv hc,h.ct],λj q e=>?_⟩
 rw[bT (by omega) (by omega) (by omega)]
 by_cases c:j=k
 · subst c;rw[if_pos rfl];exact h.ct
 · rw[if_neg (by omega)];exact h.nu j (by omega) e
theorem sM.no(h:sM of nu ct k)(hc:¬gI of (k:Int)=(k:Int)):sM of nu ct (k+1):=by
 refine⟨h.lo,by rw[ql hc,h.ct],λj q e=>?_⟩
 by_cases c:j=k
 · subst c;exact absurd e hc
 · exact h.nu j (by omega) e
structure Ax(of nu bo:List Int)(k:Nat):Prop where
  lo:(bo.length:Int)=of.length
  at_:∀j:Nat,j<k->gI bo (j:Int)=gI nu (gI of (j:Int))
theorem Ax.start{m:Int}(hl:(of.length:Int)=m):Ax of nu (List.replicate (Int.toNat m) 0) 0:=⟨by simp;omega,λj q=>by omega⟩
theorem Ax.next(h:Ax of nu bo k)(hk:(k:Int)<of.length):Ax of nu (bo.set (Int.toNat (k:Int)) (gI nu (gI of (k:Int)))) (k+1):=by
 have hl:=h.lo
 refine⟨by rw[List.length_set];exact hl,λj q=>?_⟩
 rw[bT (by omega) (by omega) (by omega)]
 by_cases c:j=k
 · subst c;rw[if_pos rfl]
 · rw[if_neg (by omega)];exact h.at_ j (by omega)
theorem Cq(hm:aX g){q:Nat}(hd:vY g of q)(hq:(q:Int)=g.1){k1 k2:Nat}(hn:sM of nu ct k1)(h1:(k1:Int)=g.2.length)(hb:Ax of nu bo k2)(h2:(k2:Int)=g.2.length):bo=fJ g/\ct=gm g:=by
 have hlo:=hd.le.lo
 have e1:k1=g.2.length:=by omega
 have e2:k2=g.2.length:=by omega
 subst e1 e2
 have hob:∀i:Nat,i<g.2.length->0<=gI of (i:Int)/\gI of (i:Int)<=(i:Int):=λi q=>hd.le.ob i (by omega) (by omega)
 have hat:∀i:Nat,i<g.2.length->gI bo (i:Int)=je of (gI of (i:Int)).toNat:=λi q=>by
   obtain⟨a,b⟩:=hob i q
   rw[hb.at_ i q]
   have hid:=hd.le.id i (by omega) (by omega)
   have:=hn.nu (gI of (i:Int)).toNat (by omega) (by rw[show(((gI of (i:Int)).toNat:Nat):Int)=gI of (i:Int) by omega];exact hid)
   rwa[show(((gI of (i:Int)).toNat:Nat):Int)=gI of (i:Int) by omega] at this
 have hfn:∀k:Nat,k<=g.2.length->Fn bo k (je of k):=by
   intro k
   induction k with
   |zero=>intro _;exact .zero
   |succ k ih=>
     intro hk
     obtain⟨a,b⟩:=hob k (by omega)
     by_cases c:gI of (k:Int)=(k:Int)
     · rw[kv c]
       refine .new (ih (by omega)) (λj q=>?_) (by rw[hat k (by omega),c];rfl)
       obtain⟨a2,b2⟩:=hob j (by omega)
       have hid:=hd.le.id j (by omega) (by omega)
       have:=qp (of:=of) (j:=(gI of (j:Int)).toNat) (k:=k) (by rw[show(((gI of (j:Int)).toNat:Nat):Int)=gI of (j:Int) by omega];exact hid) (by omega)
       rw[hat j (by omega),hat k (by omega),c,Int.toNat_natCast]
       omega
     · rw[ql c]
       refine .old (gI of (k:Int)).toNat (ih (by omega)) (by omega) ?_
       have hid:=hd.le.id k (by omega) (by omega)
       have h3:=hat (gI of (k:Int)).toNat (by omega)
       rw[show(((gI of (k:Int)).toNat:Nat):Int)=gI of (k:Int) by omega] at h3 ⊢
       rw[h3,hat k (by omega),hid]
 have hall:∀i j:Nat,i<g.2.length->j<g.2.length->(gI bo (i:Int)=gI bo (j:Int)↔gI (fJ g) (i:Int)=gI (fJ g) (j:Int)):=λi j hi hj=>by
   rw[nC hm (by omega) (by omega) (by omega) (by omega),<-hd.all hm hq (by omega) (by omega) (by omega) (by omega),hat i hi,hat j hj]
   obtain⟨a,b⟩:=hob i hi
   obtain⟨a2,b2⟩:=hob j hj
   have hid:=hd.le.id i (by omega) (by omega)
   have hid2:=hd.le.id j (by omega) (by omega)
   constructor
   · intro e
     rcases Int.lt_trichotomy (gI of (i:Int)) (gI of (j:Int)) with q|q|q
     · have:=qp (of:=of) (j:=(gI of (i:Int)).toNat) (k:=(gI of (j:Int)).toNat) (by rw[show(((gI of (i:Int)).toNat:Nat):Int)=gI of (i:Int) by omega];exact hid) (by omega)
       omega
     · exact q
     · have:=qp (of:=of) (j:=(gI of (j:Int)).toNat) (k:=(gI of (i:Int)).toNat) (by rw[show(((gI of (j:Int)).toNat:Nat):Int)=gI of (j:Int) by omega];exact hid2) (by omega)
       omega
   · intro e;rw[e]
 obtain⟨u1,u2⟩:=(hfn g.2.length (Nat.le_refl _)).uniq _ (tx g) hall
 have hbl:=hb.lo
 have hol:=pK g
 exact⟨fp (by omega) (λi hi=>u2 i (by omega)),by rw[hn.ct];exact u1⟩
def Dn(g:bz)(of:List Int)(v:Int)(k:Int):Prop:=∃x y,hf g x/\hf g y/\x<k/\y<k/\aA g x=v/\aA g y=v/\gI of (x/2)≠gI of (y/2)
theorem u7(hm:aX g)(ho:∀e,0<=e->e<(g.2.length:Int)->0<=gI of e)(v0:0<=v)(v1:v<g.1):∀k:Nat,(k:Int)<=2*(g.2.length:Int)->
   (fA of g k).1.length=g.1.toNat/\(fA of g k).2.length=g.1.toNat/\
   ((gI (fA of g k).1 v=0/\∀x,hf g x->x<k->aA g x≠v)\/∃x,hf g x/\x<k/\aA g x=v/\gI (fA of g k).1 v=gI of (x/2)+1)/\(gI (fA of g k).2 v=true↔Dn g of v k)
 |0,_=>by
   have r0:gI (fA of g 0).1 v=0:=fM v0 (by omega)
   have r1:gI (fA of g 0).2 v=false:=fM v0 (by omega)
   refine⟨by simp[fA,bp],by simp[fA,bp],.inl ⟨r0,λx hx q=>by have:=hx.1;omega⟩,?_⟩
   rw[r1]
   exact⟨λq=>absurd q (by decide),λ⟨x,_,hx,_,q,_⟩=>(by have:=hx.1;omega)⟩
 |k+1,hk=>by
   obtain⟨l1,l2,h1,h2⟩:=u7 hm ho v0 v1 k (by omega)
   have e:fA of g (k+1)=wC of g (fA of g k) (k:Int):=by
     unfold fA
     rw[cv,List.foldl_append];rfl
   have hkf:hf g (k:Int):=⟨by clear h1;omega,by clear h1;omega⟩
   have hup:∀z:Int,z<(k:Int)->z<((k+1:Nat):Int):=λz q=>by clear h1;omega
   have hkk:(k:Int)<((k+1:Nat):Int):=by clear h1;omega
   obtain⟨f0,f1⟩:=ck hm hkf
   have hok:=ho _ (ik hkf) (fN hkf)
   have s1:gI (fA of g (k+1)).1 v=if v=aA g (k:Int) then gI of ((k:Int)/2)+1 else gI (fA of g k).1 v:=by
     rw[e];exact bT f0 (by clear h1;omega) v0
   have s2:gI (fA of g (k+1)).2 v=if v=aA g (k:Int) then(gI (fA of g k).2 (aA g (k:Int))||(decide (0<gI (fA of g k).1 (aA g (k:Int)))&& !decide (gI (fA of g k).1 (aA g (k:Int))=gI of ((k:Int)/2)+1))) else gI (fA of g k).2 v:=by
     rw[e];exact bT f0 (by clear h1;omega) v0
   refine⟨by rw[e];unfold wC;rw[List.length_set];exact l1,by rw[e];unfold wC;rw[List.length_set];exact l2,?_,?_⟩
   · rw[s1]
     by_cases c:v=aA g (k:Int)
     · rw[if_pos c]
       exact .inr ⟨_,hkf,hkk,c.symm,rfl⟩
     · rw[if_neg c]
       rcases h1 with⟨p,q⟩|⟨x,x1,x2,x3,x4⟩
       · refine .inl ⟨p,λx hx hlt hv=>?_⟩
         by_cases d:x=(k:Int)
         · rw[d] at hv;exact c hv.symm
         · exact q x hx (by omega) hv
       · exact .inr ⟨x,x1,hup x x2,x3,x4⟩
   · rw[s2]
     by_cases c:v=aA g (k:Int)
     · rw[if_pos c,<-c]
       rw[Bool.or_eq_true,Bool.and_eq_true,decide_eq_true_iff,Bool.not_eq_true',decide_eq_false_iff_not]
       constructor
       · rintro(q|⟨q1,q2⟩)
         · obtain⟨x,y,a1,a2,a3,a4,a5⟩:=h2.1 q
           exact⟨x,y,a1,a2,hup x a3,hup y a4,a5⟩
         · rcases h1 with⟨p,_⟩|⟨x,x1,x2,x3,x4⟩
           · omega
           · exact⟨x,(k:Int),x1,hkf,hup x x2,hkk,x3,c.symm,λj=>q2 (by rw[x4,j])⟩
       · rintro⟨x,y,a1,a2,a3,a4,a5,a6,a7⟩
         by_cases d:gI (fA of g k).2 v=true
         · exact .inl d
         · right
           have same:∀x y,hf g x->hf g y->x<(k:Int)->y<(k:Int)->aA g x=v->aA g y=v->gI of (x/2)=gI of (y/2):=λx y p1 p2 p3 p4 p5 p6=>Classical.byContradiction λj=>d (h2.2 ⟨x,y,p1,p2,p3,p4,p5,p6,j⟩)
           have hz:∃z,hf g z/\z<(k:Int)/\aA g z=v/\gI of (z/2)≠gI of ((k:Int)/2):=by
             by_cases dx:x=(k:Int)
             · by_cases dy:y=(k:Int)
               · rw[dx,dy] at a7;exact absurd rfl a7
               · exact⟨y,a2,(by clear h1;omega),a6,by rw[dx] at a7;exact a7.symm⟩
             · by_cases dy:y=(k:Int)
               · exact⟨x,a1,(by clear h1;omega),a5,by rw[dy] at a7;exact a7⟩
               · exact absurd (same x y a1 a2 (by clear h1;omega) (by clear h1;omega) a5 a6) a7
           obtain⟨z,z1,z2,z3,z4⟩:=hz
           rcases h1 with⟨p,q⟩|⟨w,w1,w2,w3,w4⟩
           · exact absurd z3 (q z z1 z2)
           · have:=same w z w1 z1 w2 z2 w3 z3
             have h5:=ho _ (ik w1) (fN w1)
             exact⟨by omega,λj=>z4 (by omega)⟩
     · rw[if_neg c,h2]
       constructor
       · rintro⟨x,y,a1,a2,a3,a4,a5⟩
         exact⟨x,y,a1,a2,hup x a3,hup y a4,a5⟩
       · rintro⟨x,y,a1,a2,a3,a4,a5,a6,a7⟩
         refine⟨x,y,a1,a2,?_,?_,a5,a6,a7⟩
         · have:x≠(k:Int):=λj=>by rw[j] at a5;exact c a5.symm
           clear h1;omega
         · have:y≠(k:Int):=λj=>by rw[j] at a6;exact c a6.symm
           clear h1;omega
def hG(g:bz):List Bool:=(fA (fJ g) g (2*g.2.length)).2
theorem jB(hm:aX g)(v0:0<=v)(v1:v<g.1):gI (hG g) v=true↔∃x∈bO g v,∃y∈bO g v,gI (fJ g) (x/2)≠gI (fJ g) (y/2):=by
 rw[show gI (hG g) v=gI (fA (fJ g) g (2*g.2.length)).2 v from rfl,(u7 hm (λe a b=>(iN g a b).1) v0 v1 (2*g.2.length) (by omega)).2.2.2]
 constructor
 · rintro⟨x,y,a1,a2,_,_,a5,a6,a7⟩
   refine⟨x,?_,y,?_,a7⟩
   · rw[<-a5];exact fc a1
   · rw[<-a6];exact fc a2
 · rintro⟨x,x1,y,y1,q⟩
   obtain⟨a1,a2⟩:=cQ x1
   obtain⟨b1,b2⟩:=cQ y1
   exact⟨x,y,a1,b1,by have:=a1.2;omega,by have:=b1.2;omega,a2,b2,q⟩
theorem zN(hm:aX g)(v0:0<=v)(v1:v<g.1)(hi:0<=i)(hj:i<((bO g v).length:Int))(h:¬gI (fJ g) (gI (bO g v) i/2)=gI (fJ g) (gI (bO g v) 0/2)):gI (hG g) v=true:=
 (jB hm v0 v1).2 ⟨_,br hi hj,_,br (by omega) (by omega),h⟩
theorem y6(hm:aX g)(v0:0<=v)(v1:v<g.1)(h:∀j:Int,1<=j->j<((bO g v).length:Int)->gI (fJ g) (gI (bO g v) j/2)=gI (fJ g) (gI (bO g v) 0/2)):¬gI (hG g) v=true:=λq=>by
 obtain⟨x,x1,y,y1,hne⟩:=(jB hm v0 v1).1 q
 have key:∀x,x∈bO g v->gI (fJ g) (x/2)=gI (fJ g) (gI (bO g v) 0/2):=λx hx=>by
   obtain⟨i,hi,rfl⟩:=List.mem_iff_getElem.1 hx
   have e:gI (bO g v) (i:Int)=(bO g v)[i]:=by simp[gI,hi]
   rw[<-e]
   by_cases c:i=0
   · subst c;rfl
   · exact h i (by omega) (by omega)
 exact hne (by rw[key x x1,key y y1])
theorem AT(hc:cu=(bp k).filter λv=>gI (hG g) v)(hk:(k:Int)=g.1):cu=gJ g:=by
 have:k=g.1.toNat:=by omega
 rw[hc,this];rfl
structure zl(m:Int)(of:List Int)(k:Nat):Prop where
  lo:(of.length:Int)=m
  at_:∀j:Nat,j<k->gI of (j:Int)=(j:Int)
theorem zl.start{m:Int}(h0:0<=m):zl m (List.replicate (Int.toNat m) 0) 0:=⟨by simp;omega,λj q=>by omega⟩
theorem zl.next{m:Int}(h:zl m of k)(hk:(k:Int)<m):zl m (of.set (Int.toNat (k:Int)) (k:Int)) (k+1):=by
 have hl:=h.lo
 refine⟨by rw[List.length_set];exact hl,λj q=>?_⟩
 rw[bT (by omega) (by omega) (by omega)]
 by_cases c:j=k
 · subst c;rw[if_pos rfl]
 · rw[if_neg (by omega)];exact h.at_ j (by omega)
theorem zl.done(h:zl (g.2.length:Int) of k)(hk:¬(k:Int)<(g.2.length:Int)):vY g of 0:=by
 have hl:=h.lo
 have:of=bp g.2.length:=by
   apply fp
   · simp[bp];omega
   · intro i hi
     rw[h.at_ i (by omega),ui (by omega) (by omega)]
 rw[this];exact vY.start
def gZ(g:bz)(bo:List Int)(v j:Int):Prop:=1<=j/\∀i:Int,1<=i->i<j->gI bo (gI (bO g v) i/2)=gI bo (gI (bO g v) 0/2)
theorem gZ.start:gZ g bo v 1:=⟨Int.le_refl _,λi a b=>by omega⟩
theorem gZ.next(h:gZ g bo v j)(he:gI bo (gI (bO g v) j/2)=gI bo (gI (bO g v) 0/2)):gZ g bo v (j+1):=by
 have:=h.1
 refine⟨by omega,λi a b=>?_⟩
 by_cases c:i=j
 · rw[c];exact he
 · exact h.2 i a (by omega)
theorem gZ.yes(hm:aX g)(hb:bo=fJ g)(hc:cu=(bp k).filter λv=>gI (hG g) v)(hk:(k:Int)<g.1)(h:gZ g bo (k:Int) j)(hj:j<((bO g (k:Int)).length:Int))(he:¬gI bo (gI (bO g (k:Int)) j/2)=gI bo (gI (bO g (k:Int)) 0/2)):cu++[(k:Int)]=(bp (k+1)).filter λv=>gI (hG g) v:=by
 rw[hb] at he
 exact qG hc (zN hm (by omega) hk (by have:=h.1;omega) hj he)
theorem gZ.no(hm:aX g)(hb:bo=fJ g)(hc:cu=(bp k).filter λv=>gI (hG g) v)(hk:(k:Int)<g.1)(h:gZ g bo (k:Int) j)(hj:¬j<((bO g (k:Int)).length:Int)):cu=(bp (k+1)).filter λv=>gI (hG g) v:=by
 refine tY hc (y6 hm (by omega) hk λi a b=>?_)
 have:=h.2 i a (by omega)
 rwa[hb] at this
end TL
/-
  TlCut: a node is a cut node just if its component falls apart without it.
  By an AI agent.
-/
set_option linter.all false
namespace TL
variable{g:bz}{a b v w h i j x y z e:Int}{k m q:Nat}{l l':List Int}
theorem mG(hm:aX g)(v0:0<=v)(v1:v<g.1)(x0:0<=x)(x1:x<g.1)(y0:0<=y)(y1:y<g.1)(hx:x≠v)(hy:y≠v):Cn (d6 g (fH g v) []) x y↔Wy g (λz=>z≠v) x y:=by
 obtain⟨l,hi⟩:=dJ (gone:=fH g v) (cut:=[]) hm
 obtain⟨⟨p1,_⟩,p2⟩:=jF hm v0 v1 x0 x1 y0 y1 hx hy
 exact(hi.lab x y ⟨x0,x1⟩ ⟨y0,y1⟩ p1).symm.trans p2
theorem CO(hm:aX g){A:Int->Prop}(h:Wy g A x y)(hx:fI g x):Cn (d6 g [] []) x y/\fI g y:=by
 have hP:=i7 (gone:=[]) (cut:=[]) hm
 induction h with
 |refl _=>exact⟨(Cn.eqv _).rfl _ hx,hx⟩
 |step p q r ih=>
   have ht:=dM hm q
   exact⟨(Cn.eqv (d6 g [] [])).trans _ _ _ hx ih.2 ht ih.1 (hP.one _ q ⟨by simp[gI],by simp[gI],by simp[gI]⟩),ht⟩
theorem tO(hm:aX g)(hh:hf g h):Cn (d6 g [] []) (aA g h) (bg g h):=(i7 (gone:=[]) (cut:=[]) hm).one _ hh ⟨by simp[gI],by simp[gI],by simp[gI]⟩
theorem CV(hm:aX g){S:Int->Prop}(hS:∀h,hf g h->S (aA g h)->S (bg g h))(hc:Cn (d6 g [] []) x y)(hx:S x):S y:=(i7 (gone:=[]) (cut:=[]) hm).cl S (λh a _ c=>hS h a c) x y hc hx
def De(g:bz)(v:Int):Prop:=∀h h',hf g h->hf g h'->aA g h=v->aA g h'=v->bg g h≠v->bg g h'≠v->Wy g (λz=>z≠v) (bg g h) (bg g h')
theorem BM(hm:aX g)(v0:0<=v)(v1:v<g.1)(hn:De g v):(aU g (fH g v) []).2<=(aU g [] []).2:=by
 obtain⟨l,hi⟩:=dJ (gone:=[]) (cut:=[]) hm
 obtain⟨l',hi'⟩:=dJ (gone:=fH g v) (cut:=[]) hm
 have hq:=Cn.eqv (d6 g [] [])
 have hne:∀x∈l',x≠v:=λx hx e=>(hi'.dom x hx).2 ((jx hm v0 v1 (hi'.dom x hx).1.1).2 e)
 rw[hi.num,hi'.num]
 have main:∀x y,fI g x->fI g y->x≠v->y≠v->Cn (d6 g [] []) x y->Wy g (λz=>z≠v) x y:=λx y hx hy nx ny hc=>by
   refine(CV hm (S:=λu=>(u≠v->Wy g (λz=>z≠v) x u)/\(u=v->∀h,hf g h->aA g h=v->bg g h≠v->Wy g (λz=>z≠v) x (bg g h))) (λh hh hs=>?_) hc ⟨λ_=>.refl nx,λq=>absurd q nx⟩).1 ny
   obtain⟨t1,t2,t3,t4⟩:=dR (g:=g) hh
   refine⟨λq=>?_,λq k hk hkv hkt=>?_⟩
   · by_cases c:aA g h=v
     · exact hs.2 c h hh c q
     · exact .step (hs.1 c) hh q
   · by_cases c:aA g h=v
     · exact hs.2 c k hk hkv hkt
     · exact(hs.1 c).trans (by have:=hn (iu h) k t1 hk (by rw[t3,q]) hkv (by rw[t4];exact c) hkt;rwa[t4] at this)
 have:=qo (P:=λx y=>Cn (d6 g [] []) x y) l' l hi'.nd (λx hx=>by
   have hd:=(hi'.dom x hx).1
   have h0:=hd.1
   have h1:=hd.2
   have:=hi.all x.toNat (by omega) (by omega) (by simp[gI])
   rwa[show((x.toNat:Nat):Int)=x by omega] at this) (λx hx x' hx' y hy h1 h2=>by
   have dx:=(hi'.dom x hx).1
   have dx':=(hi'.dom x' hx').1
   have dy:=(hi.dom y hy).1
   have hc:=hq.trans _ _ _ dx dy dx' h1 (hq.symm _ _ dx' dy h2)
   exact hi'.one x hx x' hx' ((mG hm v0 v1 dx.1 dx.2 dx'.1 dx'.2 (hne x hx) (hne x' hx')).2 (main x x' dx dx' (hne x hx) (hne x' hx') hc)))
 omega
theorem Ca(hm:aX g)(v0:0<=v)(v1:v<g.1)(hn:¬De g v):(aU g [] []).2<(aU g (fH g v) []).2:=by
 obtain⟨l,hi⟩:=dJ (gone:=[]) (cut:=[]) hm
 obtain⟨l',hi'⟩:=dJ (gone:=fH g v) (cut:=[]) hm
 have hq:=Cn.eqv (d6 g [] [])
 have hq':=Cn.eqv (d6 g (fH g v) [])
 obtain⟨h,h',hh,hh',hv,hv',ht,ht',hw⟩:∃h h',hf g h/\hf g h'/\aA g h=v/\aA g h'=v/\bg g h≠v/\bg g h'≠v/\¬Wy g (λz=>z≠v) (bg g h) (bg g h'):=Classical.byContradiction λq=>hn λh h' a b c d e f=>Classical.byContradiction λk=>q ⟨h,h',a,b,c,d,e,f,k⟩
 have xd:=dM hm hh
 have yd:=dM hm hh'
 have cx:Cn (d6 g [] []) v (bg g h):=by have:=tO hm hh;rwa[hv] at this
 have cy:Cn (d6 g [] []) v (bg g h'):=by have:=tO hm hh';rwa[hv'] at this
 obtain⟨r,r1,r2⟩:∃r∈l,Cn (d6 g [] []) v r:=by
   have:=hi.all v.toNat (by omega) (by omega) (by simp[gI])
   rwa[show((v.toNat:Nat):Int)=v by omega] at this
 have hrd:=(hi.dom r r1).1
 have hzv:∀z∈l.erase r,z∈l/\z≠r:=λz hz=>⟨List.mem_of_mem_erase hz,λe=>by rw[e] at hz;exact(List.Nodup.not_mem_erase hi.nd) hz⟩
 have hfar:∀z∈l.erase r,¬Cn (d6 g [] []) z v:=λz hz hc=>(hzv z hz).2 (hi.one z (hzv z hz).1 r r1 (hq.trans _ _ _ (hi.dom z (hzv z hz).1).1 ⟨v0,v1⟩ hrd hc r2))
 have hnv:∀z∈l.erase r,z≠v:=λz hz e=>hfar z hz (by rw[e];exact hq.rfl _ ⟨v0,v1⟩)
 -- what is joined without v is joined
 have down:∀x y,fI g x->fI g y->x≠v->y≠v->Cn (d6 g (fH g v) []) x y->Cn (d6 g [] []) x y:=λx y hx hy nx ny hc=>(CO hm ((mG hm v0 v1 hx.1 hx.2 hy.1 hy.2 nx ny).1 hc) hx).1
 have hL:∀z∈bg g h::bg g h'::l.erase r,fI g z/\z≠v:=λz hz=>by
   rcases List.mem_cons.1 hz with q|q
   · rw[q];exact⟨xd,ht⟩
   · rcases List.mem_cons.1 q with q|q
     · rw[q];exact⟨yd,ht'⟩
     · exact⟨(hi.dom z (hzv z q).1).1,hnv z q⟩
 have hone:∀z∈bg g h::bg g h'::l.erase r,∀z'∈bg g h::bg g h'::l.erase r,Cn (d6 g (fH g v) []) z z'->z=z':=λz hz z' hz' hc=>by
   obtain⟨d1,n1⟩:=hL z hz
   obtain⟨d2,n2⟩:=hL z' hz'
   have hd:=down z z' d1 d2 n1 n2 hc
   rcases List.mem_cons.1 hz with p|p
   · rcases List.mem_cons.1 hz' with p'|p'
     · rw[p,p']
     · rcases List.mem_cons.1 p' with p'|p'
       · rw[p,p'] at hc
         exact absurd ((mG hm v0 v1 xd.1 xd.2 yd.1 yd.2 ht ht').1 hc) hw
       · rw[p] at hd
         exact absurd (hq.trans _ _ _ d2 xd ⟨v0,v1⟩ (hq.symm _ _ xd d2 hd) (hq.symm _ _ ⟨v0,v1⟩ xd cx)) (hfar z' p')
   · rcases List.mem_cons.1 p with p|p
     · rcases List.mem_cons.1 hz' with p'|p'
       · rw[p,p'] at hc
         exact absurd ((mG hm v0 v1 yd.1 yd.2 xd.1 xd.2 ht' ht).1 hc).symm hw
       · rcases List.mem_cons.1 p' with p'|p'
         · rw[p,p']
         · rw[p] at hd
           exact absurd (hq.trans _ _ _ d2 yd ⟨v0,v1⟩ (hq.symm _ _ yd d2 hd) (hq.symm _ _ ⟨v0,v1⟩ yd cy)) (hfar z' p')
     · rcases List.mem_cons.1 hz' with p'|p'
       · rw[p'] at hd
         exact absurd (hq.trans _ _ _ d1 xd ⟨v0,v1⟩ hd (hq.symm _ _ ⟨v0,v1⟩ xd cx)) (hfar z p)
       · rcases List.mem_cons.1 p' with p'|p'
         · rw[p'] at hd
           exact absurd (hq.trans _ _ _ d1 yd ⟨v0,v1⟩ hd (hq.symm _ _ ⟨v0,v1⟩ yd cy)) (hfar z p)
         · exact hi.one z (hzv z p).1 z' (hzv z' p').1 hd
 have hnd:(bg g h::bg g h'::l.erase r).Nodup:=by
   refine List.nodup_cons.2 ⟨λq=>?_,List.nodup_cons.2 ⟨λq=>hfar _ q (hq.symm _ _ ⟨v0,v1⟩ yd cy),hi.nd.erase r⟩⟩
   rcases List.mem_cons.1 q with q|q
   · exact hw (by rw[q];exact .refl ht')
   · exact hfar _ q (hq.symm _ _ ⟨v0,v1⟩ xd cx)
 have:=qo (P:=λx y=>Cn (d6 g (fH g v) []) x y) (bg g h::bg g h'::l.erase r) l' hnd (λz hz=>by
   obtain⟨d,n⟩:=hL z hz
   have h0:=d.1
   have h1:=d.2
   have:=hi'.all z.toNat (by omega) (by omega) (λq=>n (by have:=(jx hm v0 v1 (x:=((z.toNat:Nat):Int)) (by omega)).1 q;omega))
   rwa[show((z.toNat:Nat):Int)=z by omega] at this) (λz hz z' hz' y hy h1 h2=>hone z hz z' hz' (hq'.trans _ _ _ (hL z hz).1 (hi'.dom y hy).1 (hL z' hz').1 h1 (hq'.symm _ _ (hL z' hz').1 (hi'.dom y hy).1 h2)))
 have e1:=List.length_erase_of_mem r1
 have e2:=List.length_pos_of_mem r1
 rw[hi.num,hi'.num]
 simp only[List.length_cons] at this
 omega
theorem tV(hm:aX g)(v0:0<=v)(v1:v<g.1)(hl:∀h,hf g h->aA g h=v->bg g h≠v):gI (hG g) v=true↔0<(bO g v).length/\(aU g [] []).2<(aU g (fH g v) []).2:=by
  rw[jB hm v0 v1]
  constructor
  · rintro⟨x,x1,y,y1,hne⟩
    obtain⟨hx,xv⟩:=cQ x1
    obtain⟨hy,yv⟩:=cQ y1
    refine⟨List.length_pos_of_mem x1,Ca hm v0 v1 λhn=>hne ?_⟩
    rw[nC hm (ik (x:=x) hx) (fN hx) (ik (x:=y) hy) (fN hy)]
    exact .rel ⟨x,y,hx,hy,rfl,rfl,by rw[xv,yv],by rw[xv];exact hl x hx xv,by rw[yv];exact hl y hy yv,by rw[xv];exact hn x y hx hy xv yv (hl x hx xv) (hl y hy yv)⟩
  · rintro⟨h1,h2⟩
    refine Classical.byContradiction λhn=>?_
    have:De g v:=λx y hx hy xv yv xt yt=>by
      have he:gI (fJ g) (x/2)=gI (fJ g) (y/2):=Classical.byContradiction λq=>hn ⟨x,by rw[<-xv];exact fc hx,y,by rw[<-yv];exact fc hy,q⟩
      rw[nC hm (ik hx) (fN hx) (ik hy) (fN hy)] at he
      have ex:mn g (x/2) (bg g x):=⟨x,hx,rfl,rfl⟩
      have ey:mn g (y/2) (bg g y):=⟨y,hy,rfl,rfl⟩
      rcases uJ he with q|⟨_,_,q⟩
      · rw[q] at ex;exact kC ex ey xt yt
      · exact q v _ _ ex ey xt yt
    have:=BM hm v0 v1 this
    omega
end TL
/-
  TlOrb: going round by a permutation; two places changed; what that does to the numbers of rounds.
  By an AI agent.
-/
set_option linter.all false
namespace TL
def tr(a b x:Int):Int:=if x=a then b else if x=b then a else x
theorem ib{P:Nat->Prop}:∀(k:Nat),P k->∃m,P m/\∀j,j<m->¬P j:=by
 intro k
 induction k using Nat.strongRecOn with
 |ind k ih=>
   intro hk
   by_cases c:∃j,j<k/\P j
   · obtain⟨j,hj,hp⟩:=c
     exact ih j hj hp
   · exact⟨k,hk,λj hj hp=>c ⟨j,hj,hp⟩⟩
end TL
/-
  TlEul: Euler's count of a rotation.
  By an AI agent.
-/
set_option linter.all false
namespace TL
def cy(r:fG)(x:Int):Int:=match r.find? (λl=>decide (x∈l)) with
  |some l=>DH l x
  |none=>x
end TL
/-
  TlLess2: a rotation's part: its half-edges among the whole's, and its genus.
  By an AI agent.
-/
set_option linter.all false
namespace TL
section
variable{g:bz}{r:fG}{keep:List Int}
def gone(m:Nat)(keep:List Int):List Int:=(bp (2*m)).filter λh=>decide (h/2∉keep)
end
end TL
/-
  TlDual: faces as nodes: the dual, corners' faces, edges laid, taken and split, ways over faces, as plain functions.
  By an AI agent.
-/
set_option linter.all false
namespace TL
def B9(g:bz)(r:fG)(c:Int×Int):Prop:=(0<=c.1/\c.1<g.1)/\if((gI r c.1).length:Int)=0 then c.2= -1 else c.2∈gI r c.1
instance (g:bz)(r:fG)(c:Int×Int):Decidable (B9 g r c):=by unfold B9;infer_instance
end TL
namespace TL
end TL
namespace TL
end TL
namespace TL
section
variable{g:bz}{r:fG}{a b:Int×Int}
end
end TL
