/- Plain texts of this claim, part 3. By an AI agent. -/
import Derived.Test.YtgneelmmomohdaaSqTlP2
import Derived.Maps.RangeRun
/-
  TlCls4: each step of the walk keeps what it relies on: a node found, a node left.
  By an AI agent.
-/
set_option linter.all false
namespace TL
variable{g:bh}{s:Bs}{fr:Fm}{path:List Int}{A B A0:Fm}{S U:List Int}{u v w e b h:Int}
theorem gn.new(hm:b7 g)(hd:gn g s (A0++[(v,S)]))(hall:∀k,hf g k->gI s.place (aI g k)≠0->aI g k∉(A0++[(v,S)]).map Prod.fst->gI s.laid (k/2)=true)(hh:hf g h)(hv:aI g h=v)(hl:¬gI s.laid (h/2)=true)(hw:gI s.place (bM g h)=0)
    (hse:eB g (gc {hZ s (h/2) with by_:=s.by_.set (bM g h).toNat h} (bM g h)) ((A0++[(v,S)]++[(bM g h,[h/2])]).map Prod.fst)):
    gn g (gc {hZ s (h/2) with by_:=s.by_.set (bM g h).toNat h} (bM g h)) (A0++[(v,S)]++[(bM g h,[h/2])]):=by
  have e0:=kM hh
  have e1:=jH hh
  have hl5:=hd.se.l5
  have hl1:=hd.se.l1
  have hl2:=hd.se.l2
  have hl3:=hd.se.l3
  have hf0:=hd.se.f0
  obtain⟨w0,w1⟩:=fb hm hh
  have hvm:=hd.mem (p:=(v,S)) (by simp)
  have hlast:=hd.fra A0 v S [] rfl
  obtain⟨t1,t2,t3,t4⟩:=dZ (g:=g) hh
  generalize hwe:bM g h=w at*
  have hpl:∀x,0<=x->gI (s.place.set w.toNat (s.found+1)) x=if x=w then s.found+1 else gI s.place x:=λx a=>c5 w0 (by omega) a
  have hlo:∀x,0<=x->gI (s.low.set w.toNat (s.found+1)) x=if x=w then s.found+1 else gI s.low x:=λx a=>c5 w0 (by omega) a
  have hby:∀x,0<=x->gI (s.by_.set w.toNat h) x=if x=w then h else gI s.by_ x:=λx a=>c5 w0 (by omega) a
  have hla:∀x,0<=x->gI (s.laid.set (h/2).toNat true) x=if x=h/2 then true else gI s.laid x:=λx a=>dI e0 (by omega) a
  have hfd:∀x,0<=x->gI s.place x≠0->gI (s.place.set w.toNat (s.found+1)) x=gI s.place x:=λx a c=>by
    rw[hpl x a,if_neg (λk=>c (by rw[k];exact hw))]
  have hub:∀x,0<=x->x<g.1->gI s.place x<=s.found:=λx a c=>(hd.se.pl x a c).2
  have hge:∀x,0<=x->x<g.1->gI s.place x<=gI (s.place.set w.toNat (s.found+1)) x:=λx a c=>by
    rw[hpl x a];have:=hub x a c;split<;>omega
  have hends:∀k,hf g k->k/2=h/2->(aI g k=v/\bM g k=w)\/(aI g k=w/\bM g k=v):=λk hk he=>by
    rcases gO hk.1 hh.1 he with q|q
    · rw[q];exact .inl ⟨hv,hwe⟩
    · rw[q,t3,t4];exact .inr ⟨rfl,hv⟩
  have hlaf:∀k,hf g k->gI (s.laid.set (h/2).toNat true) (k/2)=true->k/2≠h/2->gI s.laid (k/2)=true:=λk hk hlk j=>by
    rw[hla _ (kM hk),if_neg j] at hlk;exact hlk
  have hlam:∀k,hf g k->gI s.laid (k/2)=true->gI (s.laid.set (h/2).toNat true) (k/2)=true:=λk hk hlk=>by
    rw[hla _ (kM hk)];split
    · rfl
    · exact hlk
  have hvf:=hfd v hvm.1.1 hvm.2
  -- a done node's other ends are found
  have hdone:∀k,hf g k->gI s.place (aI g k)≠0->aI g k∉(A0++[(v,S)]).map Prod.fst->gI s.place (bM g k)≠0:=λk hk a c=>hd.lot hk (hall k hk a c)
  have hwpath:w∉(A0++[(v,S)]).map Prod.fst:=λk=>(hd.se.pr w k).2 hw
  -- the stack's edges are laid
  have hstk:∀p∈A0++[(v,S)],∀e∈p.2,∀k,hf g k->k/2=e->gI s.place (aI g k)≠0:=λp hp e he k hk hke=>hd.lof k hk (by rw[hke];exact(hd.el p hp e he).2)
  refine⟨hse,?_,λx y x0 x1 y0 y1 hx hxy=>?_,λk hk hlk=>?_,λA x Sx B he=>?_,λx hx=>hd.clr x ((jI e0 (by omega) hl).1 hx),λb b0 b1=>q7 e0 (by omega) hl (hd.clb b b0 b1)⟩
  · show s.edges++[h/2]=_
    rw[hd.stk];simp
  · have hx:gI (s.place.set w.toNat (s.found+1)) x≠0:=hx
    have hxy:gI (s.place.set w.toNat (s.found+1)) x=gI (s.place.set w.toNat (s.found+1)) y:=hxy
    rw[hpl x x0,hpl y y0] at hxy
    rw[hpl x x0] at hx
    have h1:=hub x x0 x1
    have h2:=hub y y0 y1
    by_cases c1:x=w
    · by_cases c2:y=w
      · rw[c1,c2]
      · rw[if_pos c1,if_neg c2] at hxy;omega
    · by_cases c2:y=w
      · rw[if_neg c1,if_pos c2] at hxy;omega
      · rw[if_neg c1,if_neg c2] at hxy
        rw[if_neg c1] at hx
        exact hd.inj x y x0 x1 y0 y1 hx hxy
  · have hlk:gI (s.laid.set (h/2).toNat true) (k/2)=true:=hlk
    show gI (s.place.set w.toNat (s.found+1)) (aI g k)≠0
    obtain⟨f0,f1⟩:=db hm hk
    by_cases c:k/2=h/2
    · rcases hends k hk c with⟨r,_⟩|⟨r,_⟩
      · rw[r,hvf];exact hvm.2
      · rw[r,hpl w w0,if_pos rfl];omega
    · have:=hd.lof k hk (hlaf k hk hlk c)
      rw[hfd _ f0 this];exact this
  · show tc g (s.place.set w.toNat (s.found+1)) (s.low.set w.toNat (s.found+1)) (s.by_.set w.toNat h) (s.laid.set (h/2).toNat true) _ A x Sx B
    rcases ga he with⟨k1,k2,k3⟩|⟨B0,k1,k2⟩
    · obtain⟨rfl,rfl⟩:x=w/\Sx=[h/2]:=by simpa using k2
      subst k1 k3
      have hxp:gI (s.place.set x.toNat (s.found+1)) x=s.found+1:=by rw[hpl x w0,if_pos rfl]
      have hxb:gI (s.by_.set x.toNat h) x=h:=by rw[hby x w0,if_pos rfl]
      refine⟨.inr ⟨A0,v,S,[],rfl,by rw[hxb],by rw[hxb];exact hv,by rw[hxb];exact hh.1⟩,λp hp=>?_,λy hy=>?_,λy hy=>?_,λp hp y hy k hk hke=>?_,λk hk a c d=>?_,λy y0 y1 hy=>?_,λk hk hlk a c d=>?_,?_,λhlt=>?_⟩
      · have:=hd.mem hp
        rw[hxp,hfd _ this.1.1 this.2];have:=hub _ this.1.1 this.1.2;omega
      · rw[List.mem_singleton.1 hy,hxb];exact .refl _
      · refine⟨gW h,t1,by rw[t2];exact(List.mem_singleton.1 hy).symm,?_⟩
        rw[t3];exact Int.le_refl _
      · have h1:=hstk p hp y hy k hk hke
        obtain⟨f0,f1⟩:=db hm hk
        rw[hxp,hfd _ f0 h1];have:=hub _ f0 f1;omega
      · obtain⟨f0,f1⟩:=db hm hk
        obtain⟨q0,q1⟩:=fb hm hk
        have hne:aI g k≠x:=λj=>c (by rw[j];simp)
        rw[hpl _ f0,if_neg hne] at a
        have h1:=hdone k hk a (λj=>c (by rw[List.map_append];exact List.mem_append_left _ j))
        rw[hxp,hfd _ q0 h1];have:=hub _ q0 q1;omega
      · rw[hxp,hpl y y0] at hy
        have:y=x:=by
          by_cases c:y=x
          · exact c
          · rw[if_neg c] at hy;have:=hub y y0 y1;omega
        subst this
        exact .refl ⟨⟨w0,w1⟩,Int.le_refl _⟩
      · obtain⟨f0,f1⟩:=db hm hk
        rw[hxp,hpl _ f0] at a
        have hfx:aI g k=x:=by
          by_cases j:aI g k=x
          · exact j
          · rw[if_neg j] at a;have:=hub _ f0 f1;omega
        exfalso
        rw[hxb] at d
        exact hd.lof k hk (hlaf k hk hlk d) (by rw[hfx];exact hw)
      · rw[hxp,hlo x w0,if_pos rfl];exact Int.le_refl _
      · rw[hxp,hlo x w0,if_pos rfl] at hlt;omega
    · have hold:=hd.fra A x Sx B0 k1
      have hx:=hd.mem (p:=(x,Sx)) (by rw[k1];simp)
      have hxne:x≠w:=λk=>hx.2 (by rw[k];exact hw)
      have hxp:gI (s.place.set w.toNat (s.found+1)) x=gI s.place x:=hfd x hx.1.1 hx.2
      have hxl:gI (s.low.set w.toNat (s.found+1)) x=gI s.low x:=by rw[hlo x hx.1.1,if_neg hxne]
      have hxb:gI (s.by_.set w.toNat h) x=gI s.by_ x:=by rw[hby x hx.1.1,if_neg hxne]
      have hxv:gI s.place x<=gI s.place v:=by
        rcases ga k1 with⟨_,j,_⟩|⟨B1,j,_⟩
        · have:x=v:=by have:=congrArg Prod.fst j;exact this
          rw[this];exact Int.le_refl _
        · have:=hlast.asc (x,Sx) (by rw[j];simp)
          exact Int.le_of_lt this
      have hinA:∀p∈A,p∈A0++[(v,S)]:=λp hp=>by rw[k1];exact List.mem_append_left _ hp
      subst k2
      refine⟨?_,λp hp=>?_,λy hy=>?_,λy hy=>?_,λp hp y hy k hk hke=>?_,λk hk a c d=>?_,λy y0 y1 hy=>?_,λk hk hlk a c d=>?_,?_,λhlt=>?_⟩
      · rw[hxb];exact hold.own
      · have:=hd.mem (hinA p hp)
        rw[hxp,hfd _ this.1.1 this.2];exact hold.asc p hp
      · rw[hxb];exact hold.eqb y hy
      · obtain⟨k,c1,c2,c3⟩:=hold.end_ y hy
        obtain⟨f0,f1⟩:=db hm c1
        exact⟨k,c1,c2,by rw[hxp];exact Int.le_trans c3 (hge _ f0 f1)⟩
      · have h1:=hstk p (hinA p hp) y hy k hk hke
        rw[hxp,hfd _ (db hm hk).1 h1];exact hold.low p hp y hy k hk hke
      · obtain⟨f0,f1⟩:=db hm hk
        have hne:aI g k≠w:=λj=>c (by rw[j];simp)
        rw[hpl _ f0,if_neg hne] at a
        have hnp:aI g k∉(A0++[(v,S)]).map Prod.fst:=λj=>c (by rw[List.map_append];exact List.mem_append_left _ j)
        have h1:=hdone k hk a hnp
        rw[hxp,hfd _ f0 a] at d
        rw[hxp,hfd _ (fb hm hk).1 h1]
        exact hold.cross k hk a hnp d
      · rw[hxp]
        by_cases c:y=w
        · subst c
          have h1:=(hold.conn v hvm.1.1 hvm.1.2 hxv).mono (B:=λz=>(0<=z/\z<g.1)/\gI s.place x<=gI (s.place.set y.toNat (s.found+1)) z) (λz hz=>⟨hz.1,Int.le_trans hz.2 (hge z hz.1.1 hz.1.2)⟩)
          have h2:(0<=y/\y<g.1)/\gI s.place x<=gI (s.place.set y.toNat (s.found+1)) y:=⟨⟨w0,w1⟩,by rw[hpl y w0,if_pos rfl];have:=hub x hx.1.1 hx.1.2;omega⟩
          have h3:=Wy.one (g:=g) (A:=λz=>(0<=z/\z<g.1)/\gI s.place x<=gI (s.place.set y.toNat (s.found+1)) z) hh (by rw[hv];exact h1.right) (by rw[hwe];exact h2)
          rw[hv,hwe] at h3
          exact h1.trans h3
        · rw[hxp,hpl y y0,if_neg c] at hy
          exact(hold.conn y y0 y1 hy).mono (λz hz=>⟨hz.1,Int.le_trans hz.2 (hge z hz.1.1 hz.1.2)⟩)
      · obtain⟨f0,f1⟩:=db hm hk
        obtain⟨q0,q1⟩:=fb hm hk
        by_cases j:k/2=h/2
        · exfalso
          rcases hends k hk j with⟨r,r2⟩|⟨r,r2⟩
          · rw[r2,hxp,hpl w w0,if_pos rfl] at c;have:=hub x hx.1.1 hx.1.2;omega
          · rw[r2,hxp,hvf] at c;omega
        · have hlk':=hlaf k hk hlk j
          have h1:=hd.lof k hk hlk'
          have h2:=hd.lot hk hlk'
          rw[hxp,hfd _ f0 h1] at a
          rw[hxp,hfd _ q0 h2] at c
          rw[hxb] at d
          obtain⟨y,hy,hy2⟩:=hold.l1 k hk hlk' a c d
          have hyp:y∈(A0++[(v,S)]).map Prod.fst:=by
            rw[k1];simp only[List.map_append,List.map_cons,List.mem_append];exact .inr hy
          have hym:=hd.se.pr y hyp
          refine⟨y,?_,?_⟩
          · simp only[List.map_append,List.mem_cons,List.mem_append] at hy ⊢
            rcases hy with r|r
            · exact .inl r
            · exact .inr (.inl r)
          · rw[hlo y hym.1.1,if_neg (λr=>hym.2 (by rw[r];exact hw)),hfd _ q0 h2];exact hy2
      · rw[hxl,hxp];exact hold.l2
      · rw[hxl,hxp] at hlt
        obtain⟨k,c1,c2,c3,c4⟩:=hold.l3 hlt
        have h2:=hd.lot c1 c2
        exact⟨k,c1,hlam k c1 c2,by rw[hxp,hfd _ (db hm c1).1 (hd.lof k c1 c2)];exact c3,by rw[hxl,hfd _ (fb hm c1).1 h2];exact c4⟩
end TL
/-
  TlCls5: each step of the walk keeps what it relies on: a walk begun, a node left.
  By an AI agent.
-/
set_option linter.all false
namespace TL
variable{g:bh}{s:Bs}{fr:Fm}{path:List Int}{A B A0:Fm}{S U:List Int}{u v w e b h:Int}
theorem gn.begin_(hm:b7 g)(hd:gn g s [])(hu:n9 g s [])(v0:0<=v)(v1:v<g.1)(hv:gI s.place v=0)(hse:eB g (gc s v) [v]):gn g (gc s v) [(v,[])]:=by
  have hl1:=hd.se.l1
  have hl2:=hd.se.l2
  have hf0:=hd.se.f0
  have hpl:∀x,0<=x->gI (s.place.set v.toNat (s.found+1)) x=if x=v then s.found+1 else gI s.place x:=λx a=>c5 v0 (by omega) a
  have hlo:∀x,0<=x->gI (s.low.set v.toNat (s.found+1)) x=if x=v then s.found+1 else gI s.low x:=λx a=>c5 v0 (by omega) a
  have hub:∀x,0<=x->x<g.1->gI s.place x<=s.found:=λx a c=>(hd.se.pl x a c).2
  have hfd:∀x,0<=x->gI s.place x≠0->gI (s.place.set v.toNat (s.found+1)) x=gI s.place x:=λx a c=>by
    rw[hpl x a,if_neg (λk=>c (by rw[k];exact hv))]
  have hxp:gI (s.place.set v.toNat (s.found+1)) v=s.found+1:=by rw[hpl v v0,if_pos rfl]
  have hed:s.edges=[]:=hd.stk
  refine⟨hse,hd.stk,λx y x0 x1 y0 y1 hx hxy=>?_,λk hk hlk=>?_,λA x Sx B he=>?_,hd.clr,hd.clb⟩
  · have hx:gI (s.place.set v.toNat (s.found+1)) x≠0:=hx
    have hxy:gI (s.place.set v.toNat (s.found+1)) x=gI (s.place.set v.toNat (s.found+1)) y:=hxy
    rw[hpl x x0,hpl y y0] at hxy
    rw[hpl x x0] at hx
    have h1:=hub x x0 x1
    have h2:=hub y y0 y1
    by_cases c1:x=v
    · by_cases c2:y=v
      · rw[c1,c2]
      · rw[if_pos c1,if_neg c2] at hxy;omega
    · by_cases c2:y=v
      · rw[if_neg c1,if_pos c2] at hxy;omega
      · rw[if_neg c1,if_neg c2] at hxy
        rw[if_neg c1] at hx
        exact hd.inj x y x0 x1 y0 y1 hx hxy
  · show gI (s.place.set v.toNat (s.found+1)) (aI g k)≠0
    have:=hd.lof k hk hlk
    rw[hfd _ (db hm hk).1 this];exact this
  · show tc g (s.place.set v.toNat (s.found+1)) (s.low.set v.toNat (s.found+1)) s.by_ s.laid _ A x Sx B
    rcases ga (X:=[]) he with⟨k1,k2,k3⟩|⟨B0,k1,k2⟩
    · obtain⟨rfl,rfl⟩:x=v/\Sx=[]:=by simpa using k2
      subst k1 k3
      have hbx:gI s.by_ x= -1:=hse.p0 x rfl
      refine⟨.inl ⟨rfl,rfl,hbx⟩,λp hp=>absurd hp List.not_mem_nil,λy hy=>absurd hy List.not_mem_nil,λy hy=>absurd hy List.not_mem_nil,λp hp=>absurd hp List.not_mem_nil,λk hk a c d=>?_,λy y0 y1 hy=>?_,λk hk hlk a c d=>?_,?_,λhlt=>?_⟩
      · obtain⟨f0,f1⟩:=db hm hk
        obtain⟨q0,q1⟩:=fb hm hk
        have hne:aI g k≠x:=λj=>c (by rw[j];simp)
        rw[hpl _ f0,if_neg hne] at a
        have h1:=hd.lot hk (hu.all hm hk a (by simp))
        rw[hxp,hfd _ q0 h1];have:=hub _ q0 q1;omega
      · rw[hxp,hpl y y0] at hy
        have:y=x:=by
          by_cases c:y=x
          · exact c
          · rw[if_neg c] at hy;have:=hub y y0 y1;omega
        subst this
        exact .refl ⟨⟨v0,v1⟩,Int.le_refl _⟩
      · obtain⟨f0,f1⟩:=db hm hk
        rw[hxp,hpl _ f0] at a
        have hfx:aI g k=x:=by
          by_cases j:aI g k=x
          · exact j
          · rw[if_neg j] at a;have:=hub _ f0 f1;omega
        exact absurd (by rw[hfx];exact hv) (hd.lof k hk hlk)
      · rw[hxp,hlo x v0,if_pos rfl];exact Int.le_refl _
      · rw[hxp,hlo x v0,if_pos rfl] at hlt;omega
    · exact absurd k1.symm (by simp)
theorem gn.off0(hd:gn g s [(v,[])])(hse:eB g s []):gn g s []:=
  ⟨hse,hd.stk,hd.inj,hd.lof,λA x Sx B he=>by simp at he,hd.clr,hd.clb⟩
theorem tc.off(hm:b7 g)(hd:gn g s (A0++[(u,U),(v,S)])){A1:Fm}{x:Int}{Sx Sy:List Int}{B1 B2:Fm}(hold:tc g s.place s.low s.by_ s.laid ((A0++[(u,U),(v,S)]).map Prod.fst) A1 x Sx (B1++[(v,S)]))
    (hin:(x,Sx)∈A0++[(u,U)])(hin2:∀y∈(x::B1.map Prod.fst),y∈(A0++[(u,U)]).map Prod.fst)(hu:u∈x::B1.map Prod.fst)(hB:B2.map Prod.fst=B1.map Prod.fst)(heqb:∀e∈Sy,EqB g e (gI s.by_ x/2))(hend:∀e∈Sy,∃h,hf g h/\h/2=e/\gI s.place x<=gI s.place (aI g h))
    (hown:(A1=[]/\Sy=[]/\gI s.by_ x= -1)\/(∃A' u U S',A1=A'++[(u,U)]/\Sy=gI s.by_ x/2::S'/\aI g (gI s.by_ x)=u/\0<=gI s.by_ x)):
    tc g s.place (s.low.set u.toNat (min (gI s.low u) (gI s.low v))) s.by_ s.laid ((A0++[(u,U)]).map Prod.fst) A1 x Sy B2:=by
  have hl2:=hd.se.l2
  have hvf:=hd.fra (A0++[(u,U)]) v S [] (by simp)
  have hum:=hd.mem (p:=(u,U)) (by simp)
  have hvm:=hd.mem (p:=(v,S)) (by simp)
  have hlo:∀x,0<=x->gI (s.low.set u.toNat (min (gI s.low u) (gI s.low v))) x=if x=u then min (gI s.low u) (gI s.low v) else gI s.low x:=λx a=>c5 hum.1.1 (by omega) a
  have hxm:=hd.mem (p:=(x,Sx)) (by
    have:=List.mem_append.1 hin
    rcases this with k|k
    · exact List.mem_append_left _ k
    · rw[List.mem_singleton.1 k];simp)
  have hxv:gI s.place x<gI s.place v:=hvf.asc (x,Sx) hin
  refine {hold with own:=hown,eqb:=heqb,end_:=hend,cross:=λk hk a c d=>?_,l1:=λk hk hlk a c d=>?_,l2:=?_,l3:=λhlt=>?_}
  · by_cases j:aI g k=v
    · rw[j] at d;omega
    · refine hold.cross k hk a (λq=>c ?_) d
      have e1:(A0++[(u,U),(v,S)]).map Prod.fst=(A0++[(u,U)]).map Prod.fst++[v]:=by simp
      rw[e1,List.mem_append] at q
      exact q.resolve_right (λr=>j (by simpa using r))
  · obtain⟨y,hy,hy2⟩:=hold.l1 k hk hlk a c d
    have hlu:gI (s.low.set u.toNat (min (gI s.low u) (gI s.low v))) u=min (gI s.low u) (gI s.low v):=by rw[hlo u hum.1.1,if_pos rfl]
    have hy3:y∈x::B1.map Prod.fst\/y=v:=by
      simp only[List.map_append,List.mem_cons,List.mem_append,List.map_cons,List.map_nil] at hy ⊢
      rcases hy with r|r|r
      · exact .inl (.inl r)
      · exact .inl (.inr r)
      · exact .inr (r.resolve_right List.not_mem_nil)
    rw[hB]
    rcases hy3 with r|r
    · by_cases q:y=u
      · exact⟨u,hu,by rw[hlu,<-q];omega⟩
      · have:=(hd.se.pr y (by
          have:=hin2 y r
          rw[show(A0++[(u,U),(v,S)]).map Prod.fst=(A0++[(u,U)]).map Prod.fst++[v] by simp]
          exact List.mem_append_left _ this)).1.1
        exact⟨y,r,by rw[hlo y this,if_neg q];exact hy2⟩
    · exact⟨u,hu,by rw[hlu,<-r];omega⟩
  · rw[hlo x hxm.1.1]
    have:=hold.l2
    split
    · rename_i k;rw[<-k];omega
    · exact this
  · rw[hlo x hxm.1.1] at hlt ⊢
    by_cases k:x=u
    · rw[if_pos k] at hlt ⊢
      by_cases j:gI s.low u<=gI s.low v
      · rw[show min (gI s.low u) (gI s.low v)=gI s.low x by rw[k];omega] at hlt ⊢
        exact hold.l3 hlt
      · obtain⟨q,c1,c2,c3,c4⟩:=hvf.l3 (by omega)
        exact⟨q,c1,c2,by omega,by omega⟩
    · rw[if_neg k] at hlt ⊢
      exact hold.l3 hlt
end TL
/-
  TlCls6: a node left: its edges go to the one ahead, or are a block.
  By an AI agent.
-/
set_option linter.all false
namespace TL
variable{g:bh}{s:Bs}{fr:Fm}{path:List Int}{A B A0:Fm}{S U:List Int}{u v w e b h:Int}
theorem gn.ahead(hm:b7 g)(hd:gn g s (A0++[(u,U),(v,S)])){k:Int}(hk:hf g k)(hlk:gI s.laid (k/2)=true)(h1:gI s.place v<=gI s.place (aI g k))(h2:gI s.place (bM g k)<gI s.place v):bM g k=u\/(bM g k∈A0.map Prod.fst/\gI s.place (bM g k)<gI s.place u):=by
  have hvf:=hd.fra (A0++[(u,U)]) v S [] (by simp)
  have huf:=hd.fra A0 u U [(v,S)] rfl
  obtain⟨t1,t2,t3,t4⟩:=dZ (g:=g) hk
  have hp:bM g k∈(A0++[(u,U),(v,S)]).map Prod.fst:=by
    by_cases c:bM g k∈(A0++[(u,U),(v,S)]).map Prod.fst
    · exact c
    · have:=hvf.cross (gW k) t1 (by rw[t3];exact hd.lot hk hlk) (by rw[t3];exact c) (by rw[t3];exact h2)
      rw[t4] at this;omega
  simp only[List.map_append,List.map_cons,List.map_nil,List.mem_append,List.mem_cons] at hp
  rcases hp with c|c|c|c
  · refine .inr ⟨c,?_⟩
    obtain⟨p,hp,e⟩:=List.mem_map.1 c
    rw[<-e];exact huf.asc p hp
  · exact .inl c
  · rw[c] at h2;omega
  · exact absurd c List.not_mem_nil
theorem gn.offA(hm:b7 g)(hd:gn g s (A0++[(u,U),(v,S)])){U2:List Int}{A B:Fm}{x:Int}{Sx:List Int}(he:A0++[(u,U2)]=A++(x,Sx)::B)
    (h2:(∀e∈U2,EqB g e (gI s.by_ u/2))/\(∀e∈U2,∃h,hf g h/\h/2=e/\gI s.place u<=gI s.place (aI g h))/\((A0=[]/\U2=[]/\gI s.by_ u= -1)\/(∃A' u' U' S',A0=A'++[(u',U')]/\U2=gI s.by_ u/2::S'/\aI g (gI s.by_ u)=u'/\0<=gI s.by_ u))):
    tc g s.place (s.low.set u.toNat (min (gI s.low u) (gI s.low v))) s.by_ s.laid ((A0++[(u,U2)]).map Prod.fst) A x Sx B:=by
  have hmap:(A0++[(u,U2)]).map Prod.fst=(A0++[(u,U)]).map Prod.fst:=by simp
  rw[hmap]
  rcases ga he with⟨k1,k2,k3⟩|⟨B0,k1,k2⟩
  · obtain⟨rfl,rfl⟩:x=u/\Sx=U2:=by simpa using k2
    subst k1 k3
    exact tc.off hm hd (B1:=[]) (Sx:=U) (hd.fra A x U [(v,S)] rfl) (by simp) (λy hy=>by
      have:y=x:=by simpa using hy
      rw[this];simp) (by simp) rfl h2.1 h2.2.1 h2.2.2
  · subst k2
    have hold:=hd.fra A x Sx (B0++[(u,U)]++[(v,S)]) (by rw[k1];simp)
    refine tc.off hm hd (B1:=B0++[(u,U)]) hold (by rw[k1];simp) (λy hy=>?_) (by simp) (by simp) hold.eqb hold.end_ hold.own
    rw[k1]
    simp only[List.map_append,List.map_cons,List.map_nil,List.mem_append,List.mem_cons] at hy ⊢
    rcases hy with r|r|r
    · exact .inl (.inr (.inl r))
    · exact .inl (.inr (.inr r))
    · exact .inr r
theorem gn.off1(hm:b7 g)(hd:gn g s (A0++[(u,U),(v,S)]))(hc:gI s.low v<gI s.place u)
    (hse:eB g {s with low:=s.low.set u.toNat (min (gI s.low u) (gI s.low v))} ((A0++[(u,U++S)]).map Prod.fst)):
    gn g {s with low:=s.low.set u.toNat (min (gI s.low u) (gI s.low v))} (A0++[(u,U++S)]):=by
  have hvf:=hd.fra (A0++[(u,U)]) v S [] (by simp)
  have huf:=hd.fra A0 u U [(v,S)] rfl
  have hum:=hd.mem (p:=(u,U)) (by simp)
  have huv:gI s.place u<gI s.place v:=hvf.asc (u,U) (by simp)
  -- an edge from behind to one ahead of u
  obtain⟨k,k1,k2,k3,k4⟩:=hvf.l3 (by omega)
  have hka:=(hd.ahead hm k1 k2 k3 (by omega)).resolve_left (λj=>by rw[j] at k4;omega)
  obtain⟨q,Q,A',S',ha1,ha2,ha3,ha4⟩:∃q Q A' S',A0=A'++[(q,Q)]/\U=gI s.by_ u/2::S'/\aI g (gI s.by_ u)=q/\0<=gI s.by_ u:=by
    rcases huf.own with⟨j,_⟩|⟨A',q,Q,S',a,b,c,d⟩
    · rw[j] at hka;exact absurd hka.1 List.not_mem_nil
    · exact⟨q,Q,A',S',a,b,c,d⟩
  obtain⟨hb0,hb1⟩:0<=gI s.by_ v/\aI g (gI s.by_ v)=u:=by
    rcases hvf.own with⟨j,_⟩|⟨A2,u2,U2,S2,a,_,c,d⟩
    · simp at j
    · have:=(List.append_inj' a rfl).2
      have:u=u2:=by have:=(List.cons.inj this).1;exact congrArg Prod.fst this
      exact⟨d,by rw[c,this]⟩
  have hbv:=hd.to (v,S) (by simp) hb0
  have hbu:=hd.to (u,U) (by simp) ha4
  have huA:u∉A0.map Prod.fst:=λj=>by
    obtain⟨p,hp,e⟩:=List.mem_map.1 j
    have:=huf.asc p hp
    rw[e] at this;omega
  have hqA:q∈A0.map Prod.fst:=by rw[ha1];simp
  have hrel:EqB g (gI s.by_ v/2) (gI s.by_ u/2):=by
    obtain⟨b1,b2,b3,b4⟩:=dZ (g:=g) hbu.1
    refine .rel ⟨gI s.by_ v,gW (gI s.by_ u),hbv.1,b1,rfl,b2,?_,?_,?_,?_⟩
    · rw[hb1,b3,hbu.2]
    · rw[hbv.2,hb1];exact(m8 huv).symm
    · rw[b4,b3,hbu.2,ha3];exact λj=>huA (by have j:q=u:=j;rw[<-j];exact hqA)
    · rw[hb1,hbv.2,b4,ha3]
      have w1:=(hvf.conn (aI g k) (db hm k1).1 (db hm k1).2 k3).mono (B:=λz=>z≠u) (λz hz j=>by rw[j] at hz;omega)
      have w2:=Wy.one (g:=g) (A:=λz=>z≠u) k1 w1.right (λj=>huA (by rw[<-j];exact hka.1))
      have w3:=(hd.wy (A:=A0) (B:=[(u,U),(v,S)]) rfl _ hka.1 _ hqA).mono (B:=λz=>z≠u) (λz hz j=>huA (by rw[<-j];exact hz))
      exact(w1.trans w2).trans w3
  refine⟨hse,?_,hd.inj,hd.lof,λA x Sx B he=>hd.offA hm he ⟨λy hy=>?_,λy hy=>?_,.inr ⟨A',q,Q,S'++S,ha1,by rw[ha2];rfl,ha3,ha4⟩⟩,hd.clr,hd.clb⟩
  · show s.edges=_
    rw[hd.stk];simp
  · rcases List.mem_append.1 hy with j|j
    · exact huf.eqb y j
    · exact(hvf.eqb y j).trans hrel
  · rcases List.mem_append.1 hy with j|j
    · exact huf.end_ y j
    · obtain⟨r,c1,c2,c3⟩:=hvf.end_ y j
      exact⟨r,c1,c2,by omega⟩
theorem gn.off2(hm:b7 g)(hd:gn g s (A0++[(u,U),(v,S)]))(hu:n9 g s ((A0++[(u,U)]).map Prod.fst))(hc:gI s.place u<=gI s.low v)
    (hse:eB g (dC {s with low:=s.low.set u.toNat (min (gI s.low u) (gI s.low v))} (gI s.by_ v/2)) ((A0++[(u,U)]).map Prod.fst)):
    gn g (dC {s with low:=s.low.set u.toNat (min (gI s.low u) (gI s.low v))} (gI s.by_ v/2)) (A0++[(u,U)]):=by
  have hvf:=hd.fra (A0++[(u,U)]) v S [] (by simp)
  have huf:=hd.fra A0 u U [(v,S)] rfl
  have huv:gI s.place u<gI s.place v:=hvf.asc (u,U) (by simp)
  obtain⟨S',hS,hb0,hb1⟩:∃S',S=gI s.by_ v/2::S'/\0<=gI s.by_ v/\aI g (gI s.by_ v)=u:=by
    rcases hvf.own with⟨j,_⟩|⟨A2,u2,U2,S2,a,b,c,d⟩
    · simp at j
    · have:=(List.append_inj' a rfl).2
      have:u=u2:=by have:=(List.cons.inj this).1;exact congrArg Prod.fst this
      exact⟨S2,b,d,by rw[c,this]⟩
  have hbv:=hd.to (v,S) (by simp) hb0
  have hpre:s.edges=((A0++[(u,U)]).map Prod.snd).flatten++gI s.by_ v/2::S':=by rw[hd.stk,<-hS];simp
  rw[oN (s:={s with low:=s.low.set u.toNat (min (gI s.low u) (gI s.low v))}) hpre hd.se.en] at hse ⊢
  have hpre':s.edges=((A0++[(u,U)]).map Prod.snd).flatten++S:=by rw[hpre,hS]
  have hvout:v∉(A0++[(u,U)]).map Prod.fst:=λj=>by
    obtain⟨p,hp,e⟩:=List.mem_map.1 j
    have:=hvf.asc p hp
    rw[e] at this;omega
  -- nodes behind v are done
  have hT:∀k,hf g k->gI s.place v<=gI s.place (aI g k)->gI s.laid (k/2)=true:=λk hk a=>by
    refine hu.all hm hk (λj=>?_) (λj=>?_)
    · have h9:=(hd.mem (p:=(v,S)) (by simp))
      have h3:0<=gI s.place v:=(hd.se.pl v h9.1.1 h9.1.2).1
      have h4:gI s.place v≠0:=h9.2
      omega
    · obtain⟨p,hp,e⟩:=List.mem_map.1 j
      have:=hvf.asc p hp
      rw[e] at this;omega
  have hcl:=vh (g:=g) (la:=s.laid) (ed:=s.edges) (bl:=s.block) (pre:=((A0++[(u,U)]).map Prod.snd).flatten) (P:=gI s.by_ v/2::S') (c:=s.count) hpre hd.se.en hd.se.el hd.se.l6 hd.se.ct hd.clr hd.clb (λhin hle=>.inr ⟨λz=>(0<=z/\z<g.1)/\gI s.place v<=gI s.place z,u,λk=>by have:=k.2;omega,λk hk ht=>?_,λx hx hb=>?_,λx y hx hy hbx hby=>?_⟩)
  · refine⟨hse,rfl,hd.inj,hd.lof,λA x Sx B he=>hd.offA hm he ⟨huf.eqb,huf.end_,huf.own⟩,hcl.1,hcl.2⟩
  · have hlk:=hT k hk ht.2
    have hclo:kG g s.laid ((A0++[(u,U)]).map Prod.snd).flatten (k/2):=by
      refine⟨⟨kM hk,jH hk⟩,hlk,λj=>?_⟩
      obtain⟨l,hl,hkl⟩:=List.mem_flatten.1 j
      obtain⟨p,hp,rfl⟩:=List.mem_map.1 hl
      have:=hvf.low p hp _ hkl k hk rfl
      have:=ht.2
      omega
    refine⟨?_,hclo,hle _ hclo⟩
    by_cases c:gI s.place v<=gI s.place (bM g k)
    · exact .inl ⟨fb hm hk,c⟩
    · by_cases d:k/2=gI s.by_ v/2
      · rcases gO hk.1 hbv.1.1 d with r|r
        · rw[r,hbv.2] at c;exact absurd (Int.le_refl _) c
        · obtain⟨_,_,_,t4⟩:=dZ (g:=g) hbv.1
          rw[r,t4];exact .inr hb1
      · obtain⟨y,hy,hy2⟩:=hvf.l1 k hk hlk ht.2 (by omega) d
        have:y=v:=by simpa using hy
        rw[this] at hy2
        rcases hd.ahead hm hk hlk ht.2 (by omega) with r|⟨_,r⟩
        · exact .inr r
        · omega
  · have:=hin x hx hb
    rw[<-hS] at this
    obtain⟨k,c1,c2,c3⟩:=hvf.end_ x this
    exact⟨k,c1,c2,db hm c1,c3⟩
  · have h1:=hin x hx hbx
    have h2:=hin y hy hby
    rw[<-hS] at h1 h2
    exact(hvf.eqb x h1).trans (hvf.eqb y h2).symm
end TL
/-
  TlCls7: the walk as a whole.
  By an AI agent.
-/
set_option linter.all false
namespace TL
variable{g:bh}{s:Bs}{fr:Fm}{path:List Int}{A B A0:Fm}{S U:List Int}{u v w e b h:Int}
theorem x8(hne:fr≠[]):∃A0 v S,fr=A0++[(v,S)]/\gI (fr.map Prod.fst) (((fr.map Prod.fst).length:Int)-1)=v:=by
 refine⟨fr.dropLast,(fr.getLast hne).1,(fr.getLast hne).2,(List.dropLast_concat_getLast hne).symm,?_⟩
 have h1:fr=fr.dropLast++[fr.getLast hne]:=(List.dropLast_concat_getLast hne).symm
 generalize fr.dropLast=X at h1
 generalize fr.getLast hne=p at h1 ⊢
 subst h1
 have e1:(((X++[p]).map Prod.fst).length:Int)-1=((X.length:Nat):Int):=by simp
 rw[e1]
 simp[gI]
theorem qV:(dA g s v).laid=s.laid:=by
 unfold dA;split
 · rfl
 · simp only;split<;>rfl
theorem kJ:(dA g s v).place=s.place:=by
 unfold dA;split
 · rfl
 · simp only;split<;>rfl
theorem n9.leave(h:n9 g s (path++[v]))(hn:gI s.next v=((gI (bt g) v).length:Int)):n9 g s path/\n9 g (dA g s v) path:=by
 have h1:n9 g s path:=⟨h.use,λx x0 x1 hx hxp=>by
   by_cases c:x=v
   · rw[c];exact hn
   · exact h.exh x x0 x1 hx (λk=>(List.mem_append.1 k).elim hxp (λj=>c (List.mem_singleton.1 j)))⟩
 refine⟨h1,⟨λx x0 x1 j j0 j1=>?_,λx x0 x1 hx hxp=>?_⟩⟩
 · rw[qV];rw[j9] at j1;exact h1.use x x0 x1 j j0 j1
 · rw[j9];rw[kJ] at hx;exact h1.exh x x0 x1 hx hxp
theorem n9.take{s':Bs}{path':List Int}(hu:n9 g s path)(hse:eB g s path)(u0:0<=u)(u1:u<g.1)(hup:u∈path)(hh:gI (gI (bt g) u) (gI s.next u)=h)(hnx:s'.next=s.next.set u.toNat (gI s.next u+1))(hla:∀e,0<=e->e<(g.2.length:Int)->gI s.laid e=true->gI s'.laid e=true)(hlh:gI s'.laid (h/2)=true)(hin:∀x,0<=x->x<g.1->∀j:Int,0<=j->j<((gI (bt g) x).length:Int)->0<=gI (gI (bt g) x) j/2/\gI (gI (bt g) x) j/2<(g.2.length:Int))
    (hp:∀x∈path,x∈path')(hpl:∀x,0<=x->x<g.1->gI s'.place x≠0->gI s.place x≠0\/x∈path'):n9 g s' path':=by
  have hl4:=hse.l4
  have hnn:∀x,0<=x->gI s'.next x=if x=u then gI s.next u+1 else gI s.next x:=λx a=>by rw[hnx];exact c5 u0 (by omega) a
  refine⟨λx x0 x1 j j0 j1=>?_,λx x0 x1 hx hxp=>?_⟩
  · rw[hnn x x0] at j1
    have hold:∀x,0<=x->x<g.1->∀j:Int,0<=j->j<gI s.next x->gI s'.laid (gI (gI (bt g) x) j/2)=true:=λx x0 x1 j j0 j1=>by
      have:=hse.nx x x0 x1
      obtain⟨a,c⟩:=hin x x0 x1 j j0 (by omega)
      exact hla _ a c (hu.use x x0 x1 j j0 j1)
    by_cases c:x=u
    · rw[if_pos c] at j1
      by_cases d:j=gI s.next u
      · rw[c,d,hh];exact hlh
      · exact hold x x0 x1 j j0 (by rw[c];omega)
    · rw[if_neg c] at j1
      exact hold x x0 x1 j j0 j1
  · rcases hpl x x0 x1 hx with k|k
    · have hne:x≠u:=λj=>hxp (hp x (by rw[j];exact hup))
      rw[hnn x x0,if_neg hne]
      exact hu.exh x x0 x1 k (λj=>hxp (hp x j))
    · exact absurd k hxp
theorem ju{x j:Int}(x0:0<=x)(x1:x<g.1)(j0:0<=j)(j1:j<((gI (bt g) x).length:Int)):hf g (gI (gI (bt g) x) j)/\aI g (gI (gI (bt g) x) j)=x:=by
 have hin:gI (gI (bt g) x) j∈gI (bt g) x:=bv j0 j1
 rw[gL x0 x1] at hin ⊢
 exact eZ hin
theorem ym(hm:b7 g)(hd:gn g s fr)(hu:n9 g s (fr.map Prod.fst))(hne:fr≠[])(hv:v=gI (fr.map Prod.fst) (((fr.map Prod.fst).length:Int)-1)):
   ∃fr',fr'.map Prod.fst=(dp g s (fr.map Prod.fst) v).2/\gn g (dp g s (fr.map Prod.fst) v).1 fr'/\n9 g (dp g s (fr.map Prod.fst) v).1 (dp g s (fr.map Prod.fst) v).2:=by
 have hpne:fr.map Prod.fst≠[]:=λk=>hne (List.map_eq_nil_iff.1 k)
 have hse:=hd.se.step hm hpne hv
 obtain⟨A0,v',S,rfl,hv'⟩:=x8 hne
 have:v'=v:=by rw[hv];exact hv'.symm
 subst this
 clear hv hv'
 have hvm:(0<=v'/\v'<g.1)/\gI s.place v'≠0:=hd.mem (p:=(v',S)) (by simp)
 have hmap:(A0++[(v',S)]).map Prod.fst=A0.map Prod.fst++[v']:=by simp
 have hl2:=hd.se.l2
 have hl5:=hd.se.l5
 have hlast:=hd.fra A0 v' S [] rfl
 by_cases hn:gI s.next v'=((gI (bt g) v').length:Int)
 · -- left
   have hst:dp g s ((A0++[(v',S)]).map Prod.fst) v'=(dA g s v',A0.map Prod.fst):=by
     unfold dp;rw[if_pos hn,hmap,List.dropLast_concat]
   rw[hst] at hse ⊢
   rw[hmap] at hu
   obtain⟨hu1,hu2⟩:=hu.leave hn
   by_cases hb:gI s.by_ v'<0
   · have hlv:dA g s v'=s:=by unfold dA;rw[if_pos hb]
     rcases hlast.own with⟨k1,k2,_⟩|⟨A',q,Q,S',_,_,_,k4⟩
     · subst k1 k2
       rw[hlv] at hse ⊢
       exact⟨[],rfl,hd.off0 hse,by rw[hlv] at hu2;exact hu2⟩
     · omega
   · obtain⟨A',q,Q,S',k1,k2,k3,k4⟩:=hlast.own.resolve_left (λk=>by omega)
     subst k1
     have hq:=hd.mem (p:=(q,Q)) (by simp)
     have hqv:gI s.place q<gI s.place v':=hlast.asc (q,Q) (by simp)
     have hqn:v'≠q:=(m8 hqv).symm
     have hlow:gI (s.low.set q.toNat (min (gI s.low q) (gI s.low v'))) v'=gI s.low v':=by
       rw[c5 hq.1.1 (by omega) hvm.1.1,if_neg hqn]
     have hd':gn g s (A'++[(q,Q),(v',S)]):=by simpa using hd
     have hm2:(A'++[(q,Q)]).map Prod.fst=A'.map Prod.fst++[q]:=by simp
     by_cases hc:gI s.place q<=gI s.low v'
     · have hlv:dA g s v'=dC {s with low:=s.low.set q.toNat (min (gI s.low q) (gI s.low v'))} (gI s.by_ v'/2):=by
         unfold dA;rw[if_neg hb];simp only[k3];rw[if_pos (by rw[hlow];exact hc)]
       rw[hlv] at hse hu2 ⊢
       exact⟨A'++[(q,Q)],rfl,hd'.off2 hm hu1 hc hse,hu2⟩
     · have hlv:dA g s v'={s with low:=s.low.set q.toNat (min (gI s.low q) (gI s.low v'))}:=by
         unfold dA;rw[if_neg hb];simp only[k3];rw[if_neg (by rw[hlow];exact hc)]
       rw[hlv] at hse hu2 ⊢
       refine⟨A'++[(q,Q++S)],by simp,hd'.off1 hm (by omega) (by rw[show(A'++[(q,Q++S)]).map Prod.fst=(A'++[(q,Q)]).map Prod.fst by simp];exact hse),hu2⟩
 · -- a half-edge more
   obtain⟨n0,n1⟩:=hd.se.nx v' hvm.1.1 hvm.1.2
   have n1':gI s.next v'<=((gI (bt g) v').length:Int):=n1
   obtain⟨hh,hfv⟩:=ju hvm.1.1 hvm.1.2 n0 (by omega)
   generalize hhe:gI (gI (bt g) v') (gI s.next v')=h at hh hfv
   have hd1:=hd.nexts hvm.1.1 hvm.1.2 hn
   have e0:=kM hh
   have e1:=jH hh
   have hvp:v'∈(A0++[(v',S)]).map Prod.fst:=by simp
   have hin:∀x,0<=x->x<g.1->∀j:Int,0<=j->j<((gI (bt g) x).length:Int)->0<=gI (gI (bt g) x) j/2/\gI (gI (bt g) x) j/2<(g.2.length:Int):=λx x0 x1 j j0 j1=>⟨kM (ju x0 x1 j0 j1).1,jH (ju x0 x1 j0 j1).1⟩
   have hlam:∀e,0<=e->e<(g.2.length:Int)->gI s.laid e=true->gI (s.laid.set (h/2).toNat true) e=true:=λe a c d=>by
     rw[dI e0 (by omega) a];split
     · rfl
     · exact d
   have hlah:gI (s.laid.set (h/2).toNat true) (h/2)=true:=by rw[dI e0 (by omega) e0,if_pos rfl]
   have hst:dp g s ((A0++[(v',S)]).map Prod.fst) v'=((dP g {s with next:=s.next.set v'.toNat (gI s.next v'+1)} v' h).1,if(dP g {s with next:=s.next.set v'.toNat (gI s.next v'+1)} v' h).2.2=true then(A0++[(v',S)]).map Prod.fst++[(dP g {s with next:=s.next.set v'.toNat (gI s.next v'+1)} v' h).2.1] else(A0++[(v',S)]).map Prod.fst):=by
     unfold dp;rw[if_neg hn,hhe]
   by_cases hl:gI s.laid (h/2)=true
   · have ht:dP g {s with next:=s.next.set v'.toNat (gI s.next v'+1)} v' h=({s with next:=s.next.set v'.toNat (gI s.next v'+1)},0,false):=by unfold dP;rw[if_pos hl]
     rw[hst,ht]
     exact⟨_,rfl,hd1,hu.take hd.se hvm.1.1 hvm.1.2 hvp hhe rfl (λe _ _ d=>d) hl hin (λx hx=>hx) (λx _ _ k=>.inl k)⟩
   · by_cases hw:bM g h=v'
     · have ht:dP g {s with next:=s.next.set v'.toNat (gI s.next v'+1)} v' h=(dC (hZ {s with next:=s.next.set v'.toNat (gI s.next v'+1)} (h/2)) (h/2),0,false):=by unfold dP;rw[if_neg hl,if_pos hw]
       rw[hst,ht] at hse ⊢
       exact⟨_,rfl,hd1.loop hm hh hl (by rw[hfv];exact hvm.2) (by rw[hw,hfv]) hse,hu.take hd.se hvm.1.1 hvm.1.2 hvp hhe rfl hlam hlah hin (λx hx=>hx) (λx _ _ k=>.inl k)⟩
     · by_cases hp:gI s.place (bM g h)=0
       · have ht:dP g {s with next:=s.next.set v'.toNat (gI s.next v'+1)} v' h=(gc {hZ {s with next:=s.next.set v'.toNat (gI s.next v'+1)} (h/2) with by_:=s.by_.set (bM g h).toNat h} (bM g h),bM g h,true):=by unfold dP;rw[if_neg hl,if_neg hw,if_pos hp]
         rw[hst,ht] at hse ⊢
         have hse':eB g (gc {hZ {s with next:=s.next.set v'.toNat (gI s.next v'+1)} (h/2) with by_:=s.by_.set (bM g h).toNat h} (bM g h)) ((A0++[(v',S)]++[(bM g h,[h/2])]).map Prod.fst):=by
           rw[List.map_append];exact hse
         refine⟨A0++[(v',S)]++[(bM g h,[h/2])],by rw[List.map_append];rfl,?_,?_⟩
         · exact hd1.new hm (λk hk a c=>hu.all hm hk a c) hh hfv hl hp hse'
         · obtain⟨w0,w1⟩:=fb hm hh
           have hl1:=hd.se.l1
           refine hu.take hd.se hvm.1.1 hvm.1.2 hvp hhe rfl hlam hlah hin (λx hx=>List.mem_append_left _ hx) (λx x0 x1 k=>?_)
           by_cases c:x=bM g h
           · exact .inr (by rw[c];simp)
           · have k:gI (s.place.set (bM g h).toNat (s.found+1)) x≠0:=k
             rw[c5 w0 (by omega) x0,if_neg c] at k
             exact .inl k
       · have ht:dP g {s with next:=s.next.set v'.toNat (gI s.next v'+1)} v' h=({hZ {s with next:=s.next.set v'.toNat (gI s.next v'+1)} (h/2) with low:=s.low.set v'.toNat (min (gI s.low v') (gI s.place (bM g h)))},0,false):=by unfold dP;rw[if_neg hl,if_neg hw,if_neg hp]
         rw[hst,ht] at hse ⊢
         have hse':eB g {hZ {s with next:=s.next.set v'.toNat (gI s.next v'+1)} (h/2) with low:=s.low.set v'.toNat (min (gI s.low v') (gI s.place (bM g h)))} ((A0++[(v',S++[h/2])]).map Prod.fst):=by
           rw[show(A0++[(v',S++[h/2])]).map Prod.fst=(A0++[(v',S)]).map Prod.fst by simp];exact hse
         refine⟨A0++[(v',S++[h/2])],by simp,?_,?_⟩
         · exact hd1.back hm (λk hk a c=>hu.all hm hk a c) hh hfv hl hw hp hse'
         · exact hu.take hd.se hvm.1.1 hvm.1.2 hvp hhe rfl hlam hlah hin (λx hx=>hx) (λx _ _ k=>.inl k)
end TL
/-
  TlCls8: what the blocks of a net are: edges are in one block just if a chain of edges joins them, each two at a node whose other ends are joined without it.
  By an AI agent.
-/
set_option linter.all false
namespace TL
variable{g:bh}{s:Bs}{fr:Fm}{path:List Int}{u v w e f b h x:Int}
theorem qo(hx:gI s.place x≠0)(hs:eB g s path)(x0:0<=x)(hm:b7 g)(hp:path≠[])(hu:u=gI path ((path.length:Int)-1)):gI (dp g s path u).1.place x≠0:=by
 unfold dp
 split
 · rw[kJ];exact hx
 · rename_i hn
   simp only
   unfold dP
   split
   · exact hx
   · split
     · exact hx
     · split
       · rename_i c
         have hup:=hs.pr u (by rw[hu,iF hp];simp[gI])
         obtain⟨n0,n1⟩:=hs.nx u hup.1.1 hup.1.2
         have n1':gI s.next u<=((gI (bt g) u).length:Int):=n1
         obtain⟨hh,_⟩:=ju hup.1.1 hup.1.2 n0 (by omega)
         obtain⟨w0,w1⟩:=fb hm hh
         have hl:=hs.l1
         have hf:=hs.f0
         show gI (s.place.set _ (s.found+1)) x≠0
         rw[c5 w0 (by omega) x0]
         split
         · omega
         · exact hx
       · exact hx
theorem z6(hm:b7 g):∀(n:Nat) (s:Bs) (fr:Fm),gn g s fr->n9 g s (fr.map Prod.fst)->bW g s (fr.map Prod.fst)<=n->
   gn g (td g n s (fr.map Prod.fst)) []/\n9 g (td g n s (fr.map Prod.fst)) []/\∀x,0<=x->gI s.place x≠0->gI (td g n s (fr.map Prod.fst)).place x≠0
 |0,s,fr,hd,hu,hl=>by
   have:fr.map Prod.fst=[]:=List.length_eq_zero_iff.1 (by unfold bW at hl;omega)
   have:fr=[]:=List.map_eq_nil_iff.1 this
   subst this
   exact⟨hd,hu,λx _ h=>h⟩
 |n+1,s,fr,hd,hu,hl=>by
   by_cases c:fr=[]
   · subst c
     unfold td
     exact⟨hd,hu,λx _ h=>h⟩
   · have hp:fr.map Prod.fst≠[]:=λk=>c (List.map_eq_nil_iff.1 k)
     obtain⟨fr',h1,h2,h3⟩:=ym hm hd hu c rfl
     have hless:=kr hd.se hp rfl
     unfold td
     rw[if_neg hp,<-h1]
     rw[<-h1] at h3 hless
     obtain⟨a1,a2,a3⟩:=z6 hm n _ fr' h2 h3 (by omega)
     exact⟨a1,a2,λx x0 hx=>a3 x x0 (qo hx hd.se x0 hm hp rfl)⟩
theorem n9.begin_(hu:n9 g s [])(hse:eB g s [])(v0:0<=v)(v1:v<g.1):n9 g (gc s v) [v]:=by
 have hl:=hse.l1
 refine⟨hu.use,λx x0 x1 hx hxp=>?_⟩
 have hx:gI (s.place.set v.toNat (s.found+1)) x≠0:=hx
 have hne:x≠v:=λk=>hxp (by rw[k];simp)
 rw[c5 v0 (by omega) x0,if_neg hne] at hx
 exact hu.exh x x0 x1 hx (by simp)
theorem rp(hm:b7 g):∀k:Nat,(k:Int)<=g.1->gn g (dR g k) []/\n9 g (dR g k) []/\∀v:Int,0<=v->v<k->gI (dR g k).place v≠0
 |0,hk=>by
   have h0:=hm.1
   have r0:∀{x:Int} {v:Int},0<=v->v<g.1->gI (List.replicate g.1.toNat x) v=x:=λa b=>oy a (by omega)
   have rb:∀{v:Int},0<=v->v<(g.2.length:Int)->gI (List.replicate g.2.length false) v=false:=λ {v} a b=>by
     obtain⟨k,rfl⟩:∃k:Nat,v=(k:Int):=⟨v.toNat,by omega⟩
     have:k<g.2.length:=by omega
     simp[gI,this]
   have hse:eB g (gz g) []:=eB.start hm
   refine⟨⟨hse,rfl,λx y x0 x1 y0 y1 hx _=>absurd (r0 x0 x1) hx,λk hk hl=>?_,λA v S B he=>?_,λe he=>?_,λb b0 b1=>?_⟩,⟨λx x0 x1 j j0 j1=>?_,λx x0 x1 hx _=>absurd (r0 x0 x1) hx⟩,λv v0 v1=>by omega⟩
   · have hl:gI (List.replicate g.2.length false) (k/2)=true:=hl
     rw[rb (kM hk) (jH hk)] at hl;cases hl
   · simp at he
   · have hl:gI (List.replicate g.2.length false) e=true:=he.2.1
     rw[rb he.1.1 he.1.2] at hl;cases hl
   · have b1:b<0:=b1
     omega
   · have j1:j<gI (List.replicate g.1.toNat (0:Int)) x:=j1
     rw[r0 x0 x1] at j1;omega
 |k+1,hk=>by
   obtain⟨h1,h2,h3⟩:=rp hm k (by omega)
   rw[iL]
   by_cases c:gI (dR g k).place (k:Int)=0
   · rw[if_pos c]
     have hse:=h1.se.first (v:=(k:Int)) (by omega) (by omega) c
     have hd:=h1.begin_ hm h2 (by omega) (by omega) c hse
     have hu:=h2.begin_ (v:=(k:Int)) h1.se (by omega) (by omega)
     obtain⟨a1,a2,a3⟩:=z6 hm _ (gc (dR g k) k) [((k:Int),[])] hd hu (Nat.le_refl _)
     refine⟨a1,a2,λv v0 v1=>a3 v v0 ?_⟩
     have hl:=h1.se.l1
     have hf:=h1.se.f0
     show gI ((dR g k).place.set _ ((dR g k).found+1)) v≠0
     rw[c5 (by omega) (by omega) v0]
     split
     · omega
     · exact h3 v v0 (by omega)
   · rw[if_neg c]
     refine⟨h1,h2,λv v0 v1=>?_⟩
     by_cases d:v=(k:Int)
     · rw[d];exact c
     · exact h3 v v0 (by omega)
theorem nZ(hm:b7 g)(e0:0<=e)(e1:e<(g.2.length:Int)):kG g (dR g g.1.toNat).laid (dR g g.1.toNat).edges e:=by
  have h0:=hm.1
  obtain⟨h1,h2,h3⟩:=rp hm g.1.toNat (by omega)
  have hed:(dR g g.1.toNat).edges=[]:=h1.stk
  refine⟨⟨e0,e1⟩,?_,by rw[hed];simp⟩
  have hh:hf g (2*e):=⟨by omega,by omega⟩
  obtain⟨f0,f1⟩:=db hm hh
  have:=h2.all hm hh (h3 _ f0 (by omega)) (by simp)
  rwa[show 2*e/2=e by omega] at this
def lm(g:bh)(e:Int):Int:=gI (dR g g.1.toNat).block e
theorem sc{k:Int}(hk:hf g k)(he:k/2=e)(hl:(gI g.2 e).1=(gI g.2 e).2):bM g k=aI g k:=by
 unfold bM aI
 rw[he]
 have h2:k%2=0\/k%2=1:=by omega
 rcases h2 with q|q
 · rw[q];exact hl.symm
 · rw[q];exact hl
theorem tg(hm:b7 g)(hr:oA g e f):lm g f<=lm g e:=by
 have h0:=hm.1
 obtain⟨h,k,hh,hk,he,hkf,hx,hne,hnk,hw⟩:=hr
 obtain⟨h1,h2,h3⟩:=rp hm g.1.toNat (by omega)
 have hce:=nZ hm (e:=e) (by rw[<-he];exact kM hh) (by rw[<-he];exact jH hh)
 obtain⟨c0,c1⟩:=h1.clr e hce
 rcases h1.clb _ c0 c1 with⟨e0,l1,l2⟩|⟨T,u,t1,t2,t3,t4⟩
 · have:=l2 e hce rfl
   rw[<-this] at l1
   exact absurd (sc hh he l1) hne
 · obtain⟨h',q1,q2,q3⟩:=t3 e hce rfl
   by_cases c:T (aI g h)
   · have:=(t2 k hk (by rw[<-hx];exact c)).2.2
     rw[hkf] at this;exact this
   · obtain⟨a1,a2,a3,a4⟩:=dZ (g:=g) hh
     have hq:h'=gW h:=by
       rcases gO q1.1 hh.1 (by rw[q2,he]) with r|r
       · rw[r] at q3;exact absurd q3 c
       · exact r
     rw[hq,a3] at q3
     have hxu:aI g h=u:=by
       have:=(t2 (gW h) a1 (by rw[a3];exact q3)).1
       rw[a4] at this
       exact this.resolve_left c
     have key:∀y,Wy g (λz=>z≠aI g h) (bM g h) y->T y:=by
       intro y hy
       generalize hz:bM g h=z0 at hy q3
       clear hw
       induction hy with
       |refl _=>exact q3
       |step p1 p2 p3 ih=>
         have:=(t2 _ p2 ih).1
         exact this.resolve_right (λr=>p3 (by rw[hxu];exact r))
     obtain⟨b1,b2,b3,b4⟩:=dZ (g:=g) hk
     have:=(t2 (gW k) b1 (by rw[b3];exact key _ hw)).2.2
     rw[b2,hkf] at this;exact this
theorem oA.symm(hr:oA g e f):oA g f e:=by
 obtain⟨h,k,hh,hk,he,hkf,hx,hne,hnk,hw⟩:=hr
 exact⟨k,h,hk,hh,hkf,he,hx.symm,hnk,hne,by rw[<-hx];exact hw.symm⟩
theorem x7(hm:b7 g)(hr:oA g e f):lm g e=lm g f:=Int.le_antisymm (tg hm hr.symm) (tg hm hr)
theorem wQ(hm:b7 g)(hr:EqB g e f):lm g e=lm g f:=by
 induction hr with
 |refl=>rfl
 |rel h=>exact x7 hm h
 |symm _ ih=>exact ih.symm
 |trans _ _ i1 i2=>exact i1.trans i2
theorem wW(hm:b7 g)(e0:0<=e)(e1:e<(g.2.length:Int))(f0:0<=f)(f1:f<(g.2.length:Int))(h:lm g e=lm g f):EqB g e f:=by
  have h0:=hm.1
  obtain⟨h1,h2,h3⟩:=rp hm g.1.toNat (by omega)
  have hce:=nZ hm e0 e1
  have hcf:=nZ hm f0 f1
  obtain⟨c0,c1⟩:=h1.clr e hce
  rcases h1.clb _ c0 c1 with⟨q,_,l2⟩|⟨T,u,t1,t2,t3,t4⟩
  · rw[l2 e hce rfl,l2 f hcf h.symm];exact .refl _
  · exact t4 e f hce hcf rfl h.symm
end TL
/-
  TlJoin: an edge more within a component: what becomes of blocks.
  By an AI agent.
-/
set_option linter.all false
namespace TL
variable{g:bh}{u v w x y z h k e f:Int}{A B:Int->Prop}
def fO(g:bh)(u v:Int):bh:=(g.1,g.2++[(u,v)])
theorem jo:((fO g u v).2.length:Int)=(g.2.length:Int)+1:=by simp[fO]
theorem oM{α:Type}[Inhabited α]{l:List α}{a:α}{i:Int}(h1:i<(l.length:Int))(h0:0<=i):gI (l++[a]) i=gI l i:=by
 have h:i.toNat<l.length:=by omega
 simp[gI,List.getElem?_append_left h]
theorem lO{α:Type}[Inhabited α]{l:List α}{a:α}:gI (l++[a]) (l.length:Int)=a:=by simp[gI]
theorem vl(hk:hf g k):hf (fO g u v) k/\aI (fO g u v) k=aI g k/\bM (fO g u v) k=bM g k:=by
 have h2:=hk.2
 have h1:=hk.1
 have e:gI (fO g u v).2 (k/2)=gI g.2 (k/2):=oM (by omega) (by omega)
 refine⟨⟨h1,by rw[jo];omega⟩,?_,?_⟩
 · unfold aI;rw[e]
 · unfold bM;rw[e]
theorem sI:hf (fO g u v) (2*(g.2.length:Int))/\aI (fO g u v) (2*(g.2.length:Int))=u/\bM (fO g u v) (2*(g.2.length:Int))=v:=by
 have e:gI (fO g u v).2 (2*(g.2.length:Int)/2)=(u,v):=by
   rw[show 2*(g.2.length:Int)/2=(g.2.length:Int) by omega];exact lO
 refine⟨⟨by omega,by rw[jo];omega⟩,?_,?_⟩
 · unfold aI;rw[e,show 2*(g.2.length:Int)%2=0 by omega];rfl
 · unfold bM;rw[e,show 2*(g.2.length:Int)%2=0 by omega];rfl
theorem sy:hf (fO g u v) (2*(g.2.length:Int)+1)/\aI (fO g u v) (2*(g.2.length:Int)+1)=v/\bM (fO g u v) (2*(g.2.length:Int)+1)=u:=by
 have e:gI (fO g u v).2 ((2*(g.2.length:Int)+1)/2)=(u,v):=by
   rw[show(2*(g.2.length:Int)+1)/2=(g.2.length:Int) by omega];exact lO
 refine⟨⟨by omega,by rw[jo];omega⟩,?_,?_⟩
 · unfold aI;rw[e,show(2*(g.2.length:Int)+1)%2=1 by omega];rfl
 · unfold bM;rw[e,show(2*(g.2.length:Int)+1)%2=1 by omega];rfl
theorem qD(hk:hf (fO g u v) k):hf g k\/k=2*(g.2.length:Int)\/k=2*(g.2.length:Int)+1:=by
 have h1:=hk.1
 have h2:=hk.2
 rw[jo] at h2
 by_cases c:k<2*(g.2.length:Int)
 · exact .inl ⟨h1,c⟩
 · right;omega
theorem Wy.split(hw:Wy (fO g u v) A x y):Wy g A x y\/(A u/\A v/\((Wy g A x u/\Wy g A v y)\/(Wy g A x v/\Wy g A u y))):=by
  induction hw with
  |refl a=>exact .inl (.refl a)
  |step p q r ih=>
    rename_i k
    rcases qD q with c|c|c
    · obtain⟨_,b1,b2⟩:=vl (u:=u) (v:=v) c
      rw[b1] at ih
      rw[b2] at r ⊢
      rcases ih with d|⟨a1,a2,d|d⟩
      · exact .inl (.step d c r)
      · exact .inr ⟨a1,a2,.inl ⟨d.1,.step d.2 c r⟩⟩
      · exact .inr ⟨a1,a2,.inr ⟨d.1,.step d.2 c r⟩⟩
    · obtain⟨_,b1,b2⟩:=sI (g:=g) (u:=u) (v:=v)
      subst c
      rw[b1] at ih
      rw[b2] at r ⊢
      rcases ih with d|⟨a1,a2,d|d⟩
      · exact .inr ⟨d.right,r,.inl ⟨d,.refl r⟩⟩
      · exact .inl (d.1.trans d.2.symm)
      · exact .inl d.1
    · obtain⟨_,b1,b2⟩:=sy (g:=g) (u:=u) (v:=v)
      subst c
      rw[b1] at ih
      rw[b2] at r ⊢
      rcases ih with d|⟨a1,a2,d|d⟩
      · exact .inr ⟨r,d.right,.inr ⟨d,.refl r⟩⟩
      · exact .inl d.1
      · exact .inl (d.1.trans d.2.symm)
end TL
/-
  TlJoin3: numbers of blocks; the law on an edge more.
  By an AI agent.
-/
set_option linter.all false
namespace TL
variable{g:bh}{u v w s x e f i k:Int}{by_ far:List Int}{O:Int->Prop}
theorem o4(l:List Int):∀n (i:Nat),i<n->gI (aO l n).2 (i:Int)=((aO l n).1.idxOf (gI l (i:Int)):Int)/\gI l (i:Int)∈(aO l n).1
 |0,i,h=>by omega
 |n+1,i,h=>by
   have hl:=(jw l n).1
   unfold aO
   simp only
   by_cases c:i=n
   · subst c
     refine⟨?_,?_⟩
     · have:gI ((aO l i).2++[((List.idxOf (gI l (i:Int)) (if gI l (i:Int)∈(aO l i).1 then(aO l i).1 else(aO l i).1++[gI l (i:Int)]):Nat):Int)]) (i:Int)=((List.idxOf (gI l (i:Int)) (if gI l (i:Int)∈(aO l i).1 then(aO l i).1 else(aO l i).1++[gI l (i:Int)]):Nat):Int):=by
         have h2:=lO (l:=(aO l i).2) (a:=((List.idxOf (gI l (i:Int)) (if gI l (i:Int)∈(aO l i).1 then(aO l i).1 else(aO l i).1++[gI l (i:Int)]):Nat):Int))
         rwa[hl] at h2
       exact this
     · split
       · assumption
       · simp
   · obtain⟨h1,h2⟩:=o4 l n i (by omega)
     have h3:gI ((aO l n).2++[((List.idxOf (gI l (n:Int)) (if gI l (n:Int)∈(aO l n).1 then(aO l n).1 else(aO l n).1++[gI l (n:Int)]):Nat):Int)]) (i:Int)=gI (aO l n).2 (i:Int):=oM (by omega) (by omega)
     rw[h3,h1]
     split
     · exact⟨rfl,h2⟩
     · refine⟨?_,List.mem_append_left _ h2⟩
       rw[List.idxOf_append,if_pos h2]
theorem wa(e0:0<=e)(e1:e<(g.2.length:Int))(f0:0<=f)(f1:f<(g.2.length:Int)):gI (iV g) e=gI (iV g) f↔lm g e=lm g f:=by
  obtain⟨a,rfl⟩:∃a:Nat,e=(a:Int):=⟨e.toNat,by omega⟩
  obtain⟨b,rfl⟩:∃b:Nat,f=(b:Int):=⟨f.toNat,by omega⟩
  obtain⟨h1,h2⟩:=o4 (dR g g.1.toNat).block g.2.length a (by omega)
  obtain⟨h3,h4⟩:=o4 (dR g g.1.toNat).block g.2.length b (by omega)
  unfold iV lm
  rw[h1,h3]
  constructor
  · intro h
    have h:List.idxOf (gI (dR g g.1.toNat).block (a:Int)) (aO (dR g g.1.toNat).block g.2.length).1=List.idxOf (gI (dR g g.1.toNat).block (b:Int)) (aO (dR g g.1.toNat).block g.2.length).1:=by omega
    have k1:=List.getElem_idxOf (List.idxOf_lt_length_of_mem h2)
    have k2:=List.getElem_idxOf (List.idxOf_lt_length_of_mem h4)
    rw[<-k1,<-k2]
    simp only[h]
  · intro h;rw[h]
theorem vH(hm:b7 g)(e0:0<=e)(e1:e<(g.2.length:Int))(f0:0<=f)(f1:f<(g.2.length:Int)):gI (iV g) e=gI (iV g) f↔EqB g e f:=by
  rw[wa e0 e1 f0 f1]
  exact⟨wW hm e0 e1 f0 f1,wQ hm⟩
end TL
/-
  TlKap: edges of one block, a node taken out: what is left of them stays joined.
  By an AI agent.
-/
set_option linter.all false
namespace TL
variable{g:bh}{e f x y z:Int}
def lM(g:bh)(e y:Int):Prop:=∃h,hf g h/\h/2=e/\bM g h=y
theorem nV{h k:Int}(hh:hf g h)(hk:hf g k)(he:h/2=k/2):bM g k=bM g h\/bM g k=aI g h:=by
 rcases gO hk.1 hh.1 he.symm with q|q
 · exact .inl (by rw[q])
 · obtain⟨_,_,_,t4⟩:=dZ (g:=g) hh
   exact .inr (by rw[q,t4])
theorem lK(hy:lM g e y)(hz:lM g e z)(hyx:y≠x)(hzx:z≠x):Wy g (λw=>w≠x) y z:=by
 obtain⟨h,h1,h2,h3⟩:=hy
 obtain⟨k,k1,k2,k3⟩:=hz
 rcases nV h1 k1 (by rw[h2,k2]) with q|q
 · rw[<-k3,q,h3];exact .refl hyx
 · rw[k3] at q
   have:=Wy.one (g:=g) (A:=λw=>w≠x) h1 (by rw[<-q];exact hzx) (by rw[h3];exact hyx)
   rw[<-q,h3] at this
   exact this.symm
def sd(g:bh)(e:Int):Prop:=∃h,hf g h/\h/2=e/\bM g h≠aI g h
theorem sd.end_(h:sd g e)(x:Int):∃y,lM g e y/\y≠x:=by
 obtain⟨k,k1,k2,k3⟩:=h
 obtain⟨t1,t2,t3,t4⟩:=dZ (g:=g) k1
 by_cases c:bM g k=x
 · exact⟨aI g k,⟨gW k,t1,by rw[t2,k2],t4⟩,λj=>k3 (by rw[c,j])⟩
 · exact⟨bM g k,⟨k,k1,k2,rfl⟩,c⟩
theorem rX(h:oA g e f):sd g e/\sd g f:=by
 obtain⟨h,k,hh,hk,he,hkf,hx,hne,hnk,hw⟩:=h
 exact⟨⟨h,hh,he,hne⟩,⟨k,hk,hkf,hnk⟩⟩
theorem xe(hr:oA g e f)(hy:lM g e y)(hz:lM g f z)(hyx:y≠x)(hzx:z≠x):Wy g (λw=>w≠x) y z:=by
 obtain⟨h,k,hh,hk,he,hkf,hx,hne,hnk,hw⟩:=hr
 obtain⟨t1,t2,t3,t4⟩:=dZ (g:=g) hh
 obtain⟨s1,s2,s3,s4⟩:=dZ (g:=g) hk
 by_cases c:aI g h=x
 · have ey:y=bM g h:=by
     obtain⟨q,q1,q2,q3⟩:=hy
     rcases nV hh q1 (by rw[he,q2]) with r|r
     · rw[<-q3,r]
     · exact absurd (by rw[<-q3,r,c]) hyx
   have ez:z=bM g k:=by
     obtain⟨q,q1,q2,q3⟩:=hz
     rcases nV hk q1 (by rw[hkf,q2]) with r|r
     · rw[<-q3,r]
     · exact absurd (by rw[<-q3,r,<-hx,c]) hzx
   rw[ey,ez,<-c];exact hw
 · have e1:lM g e (aI g h):=⟨gW h,t1,by rw[t2,he],t4⟩
   have e2:lM g f (aI g h):=⟨gW k,s1,by rw[s2,hkf],by rw[s4,hx]⟩
   exact(lK hy e1 hyx c).trans (lK e2 hz c hzx)
theorem wO(hr:EqB g e f):e=f\/(sd g e/\sd g f/\∀x y z,lM g e y->lM g f z->y≠x->z≠x->Wy g (λw=>w≠x) y z):=by
  induction hr with
  |refl=>exact .inl rfl
  |rel h=>exact .inr ⟨(rX h).1,(rX h).2,λx y z a b c d=>xe h a b c d⟩
  |symm _ ih=>
    rcases ih with a|⟨a,b,c⟩
    · exact .inl a.symm
    · exact .inr ⟨b,a,λx y z p q r s=>(c x z y q p s r).symm⟩
  |trans _ _ i1 i2=>
    rcases i1 with a|⟨a,b,c⟩
    · rw[a];exact i2
    · rcases i2 with d|⟨d,k,q⟩
      · rw[<-d];exact .inr ⟨a,b,c⟩
      · refine .inr ⟨a,k,λx y z p r s t=>?_⟩
        obtain⟨w,w1,w2⟩:=b.end_ x
        exact(c x y w p w1 s w2).trans (q x w z w1 r w2 t)
end TL
/-
  TlBlk5: bridges, and whether a net is biconnected, as the program does it.
  By an AI agent.
-/
set_option linter.all false
namespace TL
variable{g:bh}{of:List Int}{n k:Nat}
def qj(g:bh)(k:Nat):List Bool:=(g.2.take k).foldl (λb e=>(b.set e.1.toNat true).set e.2.toNat true) (List.replicate g.1.toNat false)
structure mI(g:bh)(at_:List Bool)(k:Nat):Prop where
 eq:at_=qj g k
 lo:(at_.length:Int)=g.1
 no:∀j:Int,0<=j->j<k->¬(gI g.2 j).1=(gI g.2 j).2
theorem mI.start(h0:0<=g.1):mI g (List.replicate (Int.toNat g.1) false) 0:=⟨rfl,by simp;omega,λj a b=>by omega⟩
theorem mI.next{at_:List Bool}(h:mI g at_ k)(hk:(k:Int)<g.2.length)(hn:¬(gI g.2 (k:Int)).1=(gI g.2 (k:Int)).2):mI g ((at_.set (Int.toNat (gI g.2 (k:Int)).1) true).set (Int.toNat (gI g.2 (k:Int)).2) true) (k+1):=by
 have hk':k<g.2.length:=by omega
 refine⟨?_,by simp only[List.length_set];exact h.lo,λj a b=>?_⟩
 · unfold qj
   rw[List.take_succ_eq_append_getElem hk',List.foldl_append]
   have e:gI g.2 (k:Int)=g.2[k]:=by simp[gI,hk']
   rw[e,h.eq];rfl
 · by_cases c:j=(k:Int)
   · rw[c];exact hn
   · exact h.no j a (by omega)
def cU(g:bh):Bool:=decide (2<=g.1/\(∀e∈g.2,¬e.1=e.2)/\¬false∈qj g g.2.length/\ji g=1)
theorem pQ(h:g.1<2):false=cU g:=by
 unfold cU;rw[decide_eq_false];rintro⟨a,_⟩;omega
theorem qh(hk:(k:Int)<g.2.length)(h:(gI g.2 (k:Int)).1=(gI g.2 (k:Int)).2):false=cU g:=by
 unfold cU;rw[decide_eq_false];rintro⟨_,a,_⟩
 exact a _ (bv (xs:=g.2) (i:=(k:Int)) (by omega) hk) h
theorem sg{at_:List Bool}(h:mI g at_ k)(hk:k=g.2.length)(hf:false∈at_):false=cU g:=by
 subst hk
 unfold cU;rw[decide_eq_false];rintro⟨_,_,a,_⟩
 rw[h.eq] at hf;exact a hf
theorem vB{at_:List Bool}(h:mI g at_ k)(hk:k=g.2.length)(h2:¬g.1<2)(hf:¬false∈at_):decide ((cM g).2.2=1)=cU g:=by
 subst hk
 unfold cU
 rw[decide_eq_decide]
 refine⟨λhc=>⟨by omega,λe he=>?_,by rw[<-h.eq];exact hf,hc⟩,λhc=>hc.2.2.2⟩
 obtain⟨i,hi,rfl⟩:=List.mem_iff_getElem.1 he
 have:=h.no (i:Int) (by omega) (by omega)
 have e:gI g.2 (i:Int)=g.2[i]:=by simp[gI,hi]
 rwa[e] at this
def c9(g:bh):Bool×Int:=if b7 g then(cU g,0) else(false,1)
def jg(s:List Bool)(v:Bool):Int:=if v∈s then(s.idxOf v:Int) else-1
theorem uU{s:List Bool}{v:Bool}{i:Nat}(h:∀j:Nat,j<i->¬v=gI s (j:Int))(hi:(i:Int)<s.length)(he:v=gI s (i:Int)):(i:Int)=jg s v:=by
 have hlt:i<s.length:=by omega
 have e:gI s (i:Int)=s[i]:=by simp[gI,hlt]
 have hm:v∈s:=by rw[he];exact bv (by omega) hi
 unfold jg
 rw[if_pos hm]
 have hlt2:=List.idxOf_lt_length_iff.2 hm
 have h1:¬s.idxOf v<i:=λhlt'=>h _ hlt' (by simp[gI,hlt2])
 have h2:¬i<s.idxOf v:=λhlt'=>by
   have:=List.not_of_lt_findIdx (xs:=s) (p:=(· ==v)) (i:=i) hlt'
   simp at this
   exact this (by rw[<-e,<-he])
 omega
theorem wS{s:List Bool}{v:Bool}{i:Nat}(h:∀j:Nat,j<i->¬v=gI s (j:Int))(hi:¬(i:Int)<s.length): -1=jg s v:=by
 unfold jg
 rw[if_neg]
 intro hm
 obtain⟨j,hj,e⟩:=List.mem_iff_getElem.1 hm
 apply h j (by omega)
 rw[<-e];simp[gI,hj]
theorem sU{l:List Bool}{x:Bool}:decide (0<=jg l x)=decide (x∈l):=by
 unfold jg
 by_cases h:x∈l
 · rw[if_pos h,decide_eq_true h,decide_eq_true (by omega)]
 · rw[if_neg h,decide_eq_false h];rfl
end TL
/-
  TlDocB: blocks, as the document makes them: edges joined at each node by what is joined without it.
  By an AI agent.
-/
set_option linter.all false
namespace TL
variable{g:bh}{of of0 of2 fi c L M:List Int}{a b v h k' i j x y z:Int}{k m:Nat}
def fQ(g:bh)(v:Int):List Bool:=(List.replicate g.1.toNat false).set v.toNat true
theorem iP(hm:b7 g)(v0:0<=v)(v1:v<g.1)(x0:0<=x):gI (fQ g v) x=true↔x=v:=by
 unfold fQ
 rw[dI v0 (by simp;omega) x0]
 by_cases q:x=v
 · rw[if_pos q];simp[q]
 · rw[if_neg q]
   constructor
   · intro j
     exfalso
     by_cases c:x<g.1
     · rw[fI x0 (by omega)] at j;cases j
     · have:¬x.toNat<g.1.toNat:=by omega
       simp[gI,this] at j
   · intro j;exact absurd j q
theorem t6(hm:b7 g)(v0:0<=v)(v1:v<g.1)(x0:0<=x)(x1:x<g.1)(y0:0<=y)(y1:y<g.1)(hx:x≠v)(hy:y≠v):
    (0<=gI (dc g (fQ g v) []).1 x/\gI (dc g (fQ g v) []).1 x<g.1)/\(gI (dc g (fQ g v) []).1 x=gI (dc g (fQ g v) []).1 y↔Wy g (λz=>z≠v) x y):=by
  obtain⟨l,hi⟩:=dT (gone:=fQ g v) (cut:=[]) hm
  have hP:=kj (gone:=fQ g v) (cut:=[]) hm
  have hno:∀z,0<=z->z≠v->¬gI (fQ g v) z=true:=λz z0 q j=>q ((iP hm v0 v1 z0).1 j)
  have hxd:ic g x:=⟨x0,x1⟩
  have hyd:ic g y:=⟨y0,y1⟩
  obtain⟨l1,l2,l3⟩:=qP (gone:=fQ g v) (cut:=[]) hm
  have h0:0<=gI (dc g (fQ g v) []).1 x:=(hi.iff x hxd).2 (by
    have:=hi.all x.toNat (by omega) (by omega) (by rw[show((x.toNat:Nat):Int)=x by omega];exact hno x x0 hx)
    rwa[show((x.toNat:Nat):Int)=x by omega] at this)
  have h1:=hi.top x hxd
  refine⟨⟨h0,by omega⟩,(hi.lab x y hxd hyd h0).trans ⟨λhc=>?_,λhw=>?_⟩⟩
  · exact hP.cl (λz=>z≠v/\Wy g (λz=>z≠v) x z) (λh hh hp q=>by
      have:=hp.2.1
      have ht:=fb hm hh
      have hne:bM g h≠v:=λj=>this ((iP hm v0 v1 ht.1).2 j)
      exact⟨hne,.step q.2 hh hne⟩) x y hc ⟨hx,.refl hx⟩ |>.2
  · induction hw with
    |refl _=>exact(Cn.eqv _).rfl _ (hP.nd.2 hxd)
    |step p q r ih=>
      rename_i h'
      have hf:=db hm q
      have hfn:=p.right
      have hc:=ih hf.1 hf.2 hfn ⟨hf.1,hf.2⟩
      have ht:=fb hm q
      exact(Cn.eqv _).trans _ _ _ (hP.nd.2 hxd) (hP.nd.2 hf) (hP.nd.2 ht) hc (hP.one h' q ⟨hno _ hf.1 hfn,hno _ ht.1 r,by simp[gI]⟩)
end TL
/-
  TlDocC: the document's blocks and cut nodes are the program's.
  By an AI agent.
-/
set_option linter.all false
namespace TL
variable{g:bh}{of nu bo cu L M l:List Int}{a b v h i j x y n n' ct:Int}{k m:Nat}
def zk(g:bh)(of:List Int)(v:Int)(k:Int):Prop:=∃x y,hf g x/\hf g y/\x<k/\y<k/\aI g x=v/\aI g y=v/\gI of (x/2)≠gI of (y/2)
theorem qX(hm:b7 g)(ho:∀e,0<=e->e<(g.2.length:Int)->0<=gI of e)(v0:0<=v)(v1:v<g.1):∀k:Nat,(k:Int)<=2*(g.2.length:Int)->
   (f8 of g k).1.length=g.1.toNat/\(f8 of g k).2.length=g.1.toNat/\
   ((gI (f8 of g k).1 v=0/\∀x,hf g x->x<k->aI g x≠v)\/∃x,hf g x/\x<k/\aI g x=v/\gI (f8 of g k).1 v=gI of (x/2)+1)/\(gI (f8 of g k).2 v=true↔zk g of v k)
 |0,_=>by
   have r0:gI (f8 of g 0).1 v=0:=fI v0 (by omega)
   have r1:gI (f8 of g 0).2 v=false:=fI v0 (by omega)
   refine⟨by simp[f8,bG],by simp[f8,bG],.inl ⟨r0,λx hx q=>by have:=hx.1;omega⟩,?_⟩
   rw[r1]
   exact⟨λq=>absurd q (by decide),λ⟨x,_,hx,_,q,_⟩=>(by have:=hx.1;omega)⟩
 |k+1,hk=>by
   obtain⟨l1,l2,h1,h2⟩:=qX hm ho v0 v1 k (by omega)
   have e:f8 of g (k+1)=ua of g (f8 of g k) (k:Int):=by
     unfold f8
     rw[cV,List.foldl_append];rfl
   have hkf:hf g (k:Int):=⟨by clear h1;omega,by clear h1;omega⟩
   have hup:∀z:Int,z<(k:Int)->z<((k+1:Nat):Int):=λz q=>by clear h1;omega
   have hkk:(k:Int)<((k+1:Nat):Int):=by clear h1;omega
   obtain⟨f0,f1⟩:=db hm hkf
   have hok:=ho _ (kM hkf) (jH hkf)
   have s1:gI (f8 of g (k+1)).1 v=if v=aI g (k:Int) then gI of ((k:Int)/2)+1 else gI (f8 of g k).1 v:=by
     rw[e];exact c5 f0 (by clear h1;omega) v0
   have s2:gI (f8 of g (k+1)).2 v=if v=aI g (k:Int) then(gI (f8 of g k).2 (aI g (k:Int))||(decide (0<gI (f8 of g k).1 (aI g (k:Int)))&& !decide (gI (f8 of g k).1 (aI g (k:Int))=gI of ((k:Int)/2)+1))) else gI (f8 of g k).2 v:=by
     rw[e];exact c5 f0 (by clear h1;omega) v0
   refine⟨by rw[e];unfold ua;rw[List.length_set];exact l1,by rw[e];unfold ua;rw[List.length_set];exact l2,?_,?_⟩
   · rw[s1]
     by_cases c:v=aI g (k:Int)
     · rw[if_pos c]
       exact .inr ⟨_,hkf,hkk,c.symm,rfl⟩
     · rw[if_neg c]
       rcases h1 with⟨p,q⟩|⟨x,x1,x2,x3,x4⟩
       · refine .inl ⟨p,λx hx hlt hv=>?_⟩
         by_cases d:x=(k:Int)
         · rw[d] at hv;exact c hv.symm
         · exact q x hx (by omega) hv
       · exact .inr ⟨x,x1,hup x x2,x3,x4⟩
   · rw[s2]
     by_cases c:v=aI g (k:Int)
     · rw[if_pos c,<-c]
       rw[Bool.or_eq_true,Bool.and_eq_true,decide_eq_true_iff,Bool.not_eq_true',decide_eq_false_iff_not]
       constructor
       · rintro(q|⟨q1,q2⟩)
         · obtain⟨x,y,a1,a2,a3,a4,a5⟩:=h2.1 q
           exact⟨x,y,a1,a2,hup x a3,hup y a4,a5⟩
         · rcases h1 with⟨p,_⟩|⟨x,x1,x2,x3,x4⟩
           · omega
           · exact⟨x,(k:Int),x1,hkf,hup x x2,hkk,x3,c.symm,λj=>q2 (by rw[x4,j])⟩
       · rintro⟨x,y,a1,a2,a3,a4,a5,a6,a7⟩
         by_cases d:gI (f8 of g k).2 v=true
         · exact .inl d
         · right
           have same:∀x y,hf g x->hf g y->x<(k:Int)->y<(k:Int)->aI g x=v->aI g y=v->gI of (x/2)=gI of (y/2):=λx y p1 p2 p3 p4 p5 p6=>Classical.byContradiction λj=>d (h2.2 ⟨x,y,p1,p2,p3,p4,p5,p6,j⟩)
           have hz:∃z,hf g z/\z<(k:Int)/\aI g z=v/\gI of (z/2)≠gI of ((k:Int)/2):=by
             by_cases dx:x=(k:Int)
             · by_cases dy:y=(k:Int)
               · rw[dx,dy] at a7;exact absurd rfl a7
               · exact⟨y,a2,(by clear h1;omega),a6,by rw[dx] at a7;exact a7.symm⟩
             · by_cases dy:y=(k:Int)
               · exact⟨x,a1,(by clear h1;omega),a5,by rw[dy] at a7;exact a7⟩
               · exact absurd (same x y a1 a2 (by clear h1;omega) (by clear h1;omega) a5 a6) a7
           obtain⟨z,z1,z2,z3,z4⟩:=hz
           rcases h1 with⟨p,q⟩|⟨w,w1,w2,w3,w4⟩
           · exact absurd z3 (q z z1 z2)
           · have:=same w z w1 z1 w2 z2 w3 z3
             have h5:=ho _ (kM w1) (jH w1)
             exact⟨by omega,λj=>z4 (by omega)⟩
     · rw[if_neg c,h2]
       constructor
       · rintro⟨x,y,a1,a2,a3,a4,a5⟩
         exact⟨x,y,a1,a2,hup x a3,hup y a4,a5⟩
       · rintro⟨x,y,a1,a2,a3,a4,a5,a6,a7⟩
         refine⟨x,y,a1,a2,?_,?_,a5,a6,a7⟩
         · have:x≠(k:Int):=λj=>by rw[j] at a5;exact c a5.symm
           clear h1;omega
         · have:y≠(k:Int):=λj=>by rw[j] at a6;exact c a6.symm
           clear h1;omega
def qZ(g:bh):List Bool:=(f8 (iV g) g (2*g.2.length)).2
theorem sC(hm:b7 g)(v0:0<=v)(v1:v<g.1):gI (qZ g) v=true↔∃x∈dM g v,∃y∈dM g v,gI (iV g) (x/2)≠gI (iV g) (y/2):=by
 rw[show gI (qZ g) v=gI (f8 (iV g) g (2*g.2.length)).2 v from rfl,(qX hm (λe a b=>(tW g a b).1) v0 v1 (2*g.2.length) (by omega)).2.2.2]
 constructor
 · rintro⟨x,y,a1,a2,_,_,a5,a6,a7⟩
   refine⟨x,?_,y,?_,a7⟩
   · rw[<-a5];exact iz a1
   · rw[<-a6];exact iz a2
 · rintro⟨x,x1,y,y1,q⟩
   obtain⟨a1,a2⟩:=eZ x1
   obtain⟨b1,b2⟩:=eZ y1
   exact⟨x,y,a1,b1,by have:=a1.2;omega,by have:=b1.2;omega,a2,b2,q⟩
end TL
/-
  TlCut: a node is a cut node just if its component falls apart without it.
  By an AI agent.
-/
set_option linter.all false
namespace TL
variable{g:bh}{a b v w h i j x y z e:Int}{k m q:Nat}{l l':List Int}
theorem kW(hm:b7 g)(v0:0<=v)(v1:v<g.1)(x0:0<=x)(x1:x<g.1)(y0:0<=y)(y1:y<g.1)(hx:x≠v)(hy:y≠v):Cn (eE g (fQ g v) []) x y↔Wy g (λz=>z≠v) x y:=by
 obtain⟨l,hi⟩:=dT (gone:=fQ g v) (cut:=[]) hm
 obtain⟨⟨p1,_⟩,p2⟩:=t6 hm v0 v1 x0 x1 y0 y1 hx hy
 exact(hi.lab x y ⟨x0,x1⟩ ⟨y0,y1⟩ p1).symm.trans p2
theorem yX(hm:b7 g){A:Int->Prop}(h:Wy g A x y)(hx:ic g x):Cn (eE g [] []) x y/\ic g y:=by
 have hP:=kj (gone:=[]) (cut:=[]) hm
 induction h with
 |refl _=>exact⟨(Cn.eqv _).rfl _ hx,hx⟩
 |step p q r ih=>
   have ht:=fb hm q
   exact⟨(Cn.eqv (eE g [] [])).trans _ _ _ hx ih.2 ht ih.1 (hP.one _ q ⟨by simp[gI],by simp[gI],by simp[gI]⟩),ht⟩
theorem rN(hm:b7 g)(hh:hf g h):Cn (eE g [] []) (aI g h) (bM g h):=(kj (gone:=[]) (cut:=[]) hm).one _ hh ⟨by simp[gI],by simp[gI],by simp[gI]⟩
theorem yU(hm:b7 g){S:Int->Prop}(hS:∀h,hf g h->S (aI g h)->S (bM g h))(hc:Cn (eE g [] []) x y)(hx:S x):S y:=(kj (gone:=[]) (cut:=[]) hm).cl S (λh a _ c=>hS h a c) x y hc hx
def zC(g:bh)(v:Int):Prop:=∀h h',hf g h->hf g h'->aI g h=v->aI g h'=v->bM g h≠v->bM g h'≠v->Wy g (λz=>z≠v) (bM g h) (bM g h')
theorem y5(hm:b7 g)(v0:0<=v)(v1:v<g.1)(hn:zC g v):(dc g (fQ g v) []).2<=(dc g [] []).2:=by
 obtain⟨l,hi⟩:=dT (gone:=[]) (cut:=[]) hm
 obtain⟨l',hi'⟩:=dT (gone:=fQ g v) (cut:=[]) hm
 have hq:=Cn.eqv (eE g [] [])
 have hne:∀x∈l',x≠v:=λx hx e=>(hi'.dom x hx).2 ((iP hm v0 v1 (hi'.dom x hx).1.1).2 e)
 rw[hi.num,hi'.num]
 have main:∀x y,ic g x->ic g y->x≠v->y≠v->Cn (eE g [] []) x y->Wy g (λz=>z≠v) x y:=λx y hx hy nx ny hc=>by
   refine(yU hm (S:=λu=>(u≠v->Wy g (λz=>z≠v) x u)/\(u=v->∀h,hf g h->aI g h=v->bM g h≠v->Wy g (λz=>z≠v) x (bM g h))) (λh hh hs=>?_) hc ⟨λ_=>.refl nx,λq=>absurd q nx⟩).1 ny
   obtain⟨t1,t2,t3,t4⟩:=dZ (g:=g) hh
   refine⟨λq=>?_,λq k hk hkv hkt=>?_⟩
   · by_cases c:aI g h=v
     · exact hs.2 c h hh c q
     · exact .step (hs.1 c) hh q
   · by_cases c:aI g h=v
     · exact hs.2 c k hk hkv hkt
     · exact(hs.1 c).trans (by have:=hn (gW h) k t1 hk (by rw[t3,q]) hkv (by rw[t4];exact c) hkt;rwa[t4] at this)
 have:=od (P:=λx y=>Cn (eE g [] []) x y) l' l hi'.nd (λx hx=>by
   have hd:=(hi'.dom x hx).1
   have h0:=hd.1
   have h1:=hd.2
   have:=hi.all x.toNat (by omega) (by omega) (by simp[gI])
   rwa[show((x.toNat:Nat):Int)=x by omega] at this) (λx hx x' hx' y hy h1 h2=>by
   have dx:=(hi'.dom x hx).1
   have dx':=(hi'.dom x' hx').1
   have dy:=(hi.dom y hy).1
   have hc:=hq.trans _ _ _ dx dy dx' h1 (hq.symm _ _ dx' dy h2)
   exact hi'.one x hx x' hx' ((kW hm v0 v1 dx.1 dx.2 dx'.1 dx'.2 (hne x hx) (hne x' hx')).2 (main x x' dx dx' (hne x hx) (hne x' hx') hc)))
 omega
theorem xY(hm:b7 g)(v0:0<=v)(v1:v<g.1)(hn:¬zC g v):(dc g [] []).2<(dc g (fQ g v) []).2:=by
 obtain⟨l,hi⟩:=dT (gone:=[]) (cut:=[]) hm
 obtain⟨l',hi'⟩:=dT (gone:=fQ g v) (cut:=[]) hm
 have hq:=Cn.eqv (eE g [] [])
 have hq':=Cn.eqv (eE g (fQ g v) [])
 obtain⟨h,h',hh,hh',hv,hv',ht,ht',hw⟩:∃h h',hf g h/\hf g h'/\aI g h=v/\aI g h'=v/\bM g h≠v/\bM g h'≠v/\¬Wy g (λz=>z≠v) (bM g h) (bM g h'):=Classical.byContradiction λq=>hn λh h' a b c d e f=>Classical.byContradiction λk=>q ⟨h,h',a,b,c,d,e,f,k⟩
 have xd:=fb hm hh
 have yd:=fb hm hh'
 have cx:Cn (eE g [] []) v (bM g h):=by have:=rN hm hh;rwa[hv] at this
 have cy:Cn (eE g [] []) v (bM g h'):=by have:=rN hm hh';rwa[hv'] at this
 obtain⟨r,r1,r2⟩:∃r∈l,Cn (eE g [] []) v r:=by
   have:=hi.all v.toNat (by omega) (by omega) (by simp[gI])
   rwa[show((v.toNat:Nat):Int)=v by omega] at this
 have hrd:=(hi.dom r r1).1
 have hzv:∀z∈l.erase r,z∈l/\z≠r:=λz hz=>⟨List.mem_of_mem_erase hz,λe=>by rw[e] at hz;exact(List.Nodup.not_mem_erase hi.nd) hz⟩
 have hfar:∀z∈l.erase r,¬Cn (eE g [] []) z v:=λz hz hc=>(hzv z hz).2 (hi.one z (hzv z hz).1 r r1 (hq.trans _ _ _ (hi.dom z (hzv z hz).1).1 ⟨v0,v1⟩ hrd hc r2))
 have hnv:∀z∈l.erase r,z≠v:=λz hz e=>hfar z hz (by rw[e];exact hq.rfl _ ⟨v0,v1⟩)
 -- what is joined without v is joined
 have down:∀x y,ic g x->ic g y->x≠v->y≠v->Cn (eE g (fQ g v) []) x y->Cn (eE g [] []) x y:=λx y hx hy nx ny hc=>(yX hm ((kW hm v0 v1 hx.1 hx.2 hy.1 hy.2 nx ny).1 hc) hx).1
 have hL:∀z∈bM g h::bM g h'::l.erase r,ic g z/\z≠v:=λz hz=>by
   rcases List.mem_cons.1 hz with q|q
   · rw[q];exact⟨xd,ht⟩
   · rcases List.mem_cons.1 q with q|q
     · rw[q];exact⟨yd,ht'⟩
     · exact⟨(hi.dom z (hzv z q).1).1,hnv z q⟩
 have hone:∀z∈bM g h::bM g h'::l.erase r,∀z'∈bM g h::bM g h'::l.erase r,Cn (eE g (fQ g v) []) z z'->z=z':=λz hz z' hz' hc=>by
   obtain⟨d1,n1⟩:=hL z hz
   obtain⟨d2,n2⟩:=hL z' hz'
   have hd:=down z z' d1 d2 n1 n2 hc
   rcases List.mem_cons.1 hz with p|p
   · rcases List.mem_cons.1 hz' with p'|p'
     · rw[p,p']
     · rcases List.mem_cons.1 p' with p'|p'
       · rw[p,p'] at hc
         exact absurd ((kW hm v0 v1 xd.1 xd.2 yd.1 yd.2 ht ht').1 hc) hw
       · rw[p] at hd
         exact absurd (hq.trans _ _ _ d2 xd ⟨v0,v1⟩ (hq.symm _ _ xd d2 hd) (hq.symm _ _ ⟨v0,v1⟩ xd cx)) (hfar z' p')
   · rcases List.mem_cons.1 p with p|p
     · rcases List.mem_cons.1 hz' with p'|p'
       · rw[p,p'] at hc
         exact absurd ((kW hm v0 v1 yd.1 yd.2 xd.1 xd.2 ht' ht).1 hc).symm hw
       · rcases List.mem_cons.1 p' with p'|p'
         · rw[p,p']
         · rw[p] at hd
           exact absurd (hq.trans _ _ _ d2 yd ⟨v0,v1⟩ (hq.symm _ _ yd d2 hd) (hq.symm _ _ ⟨v0,v1⟩ yd cy)) (hfar z' p')
     · rcases List.mem_cons.1 hz' with p'|p'
       · rw[p'] at hd
         exact absurd (hq.trans _ _ _ d1 xd ⟨v0,v1⟩ hd (hq.symm _ _ ⟨v0,v1⟩ xd cx)) (hfar z p)
       · rcases List.mem_cons.1 p' with p'|p'
         · rw[p'] at hd
           exact absurd (hq.trans _ _ _ d1 yd ⟨v0,v1⟩ hd (hq.symm _ _ ⟨v0,v1⟩ yd cy)) (hfar z p)
         · exact hi.one z (hzv z p).1 z' (hzv z' p').1 hd
 have hnd:(bM g h::bM g h'::l.erase r).Nodup:=by
   refine List.nodup_cons.2 ⟨λq=>?_,List.nodup_cons.2 ⟨λq=>hfar _ q (hq.symm _ _ ⟨v0,v1⟩ yd cy),hi.nd.erase r⟩⟩
   rcases List.mem_cons.1 q with q|q
   · exact hw (by rw[q];exact .refl ht')
   · exact hfar _ q (hq.symm _ _ ⟨v0,v1⟩ xd cx)
 have:=od (P:=λx y=>Cn (eE g (fQ g v) []) x y) (bM g h::bM g h'::l.erase r) l' hnd (λz hz=>by
   obtain⟨d,n⟩:=hL z hz
   have h0:=d.1
   have h1:=d.2
   have:=hi'.all z.toNat (by omega) (by omega) (λq=>n (by have:=(iP hm v0 v1 (x:=((z.toNat:Nat):Int)) (by omega)).1 q;omega))
   rwa[show((z.toNat:Nat):Int)=z by omega] at this) (λz hz z' hz' y hy h1 h2=>hone z hz z' hz' (hq'.trans _ _ _ (hL z hz).1 (hi'.dom y hy).1 (hL z' hz').1 h1 (hq'.symm _ _ (hL z' hz').1 (hi'.dom y hy).1 h2)))
 have e1:=List.length_erase_of_mem r1
 have e2:=List.length_pos_of_mem r1
 rw[hi.num,hi'.num]
 simp only[List.length_cons] at this
 omega
theorem rF(hm:b7 g)(v0:0<=v)(v1:v<g.1)(hl:∀h,hf g h->aI g h=v->bM g h≠v):gI (qZ g) v=true↔0<(dM g v).length/\(dc g [] []).2<(dc g (fQ g v) []).2:=by
  rw[sC hm v0 v1]
  constructor
  · rintro⟨x,x1,y,y1,hne⟩
    obtain⟨hx,xv⟩:=eZ x1
    obtain⟨hy,yv⟩:=eZ y1
    refine⟨List.length_pos_of_mem x1,xY hm v0 v1 λhn=>hne ?_⟩
    rw[vH hm (kM (x:=x) hx) (jH hx) (kM (x:=y) hy) (jH hy)]
    exact .rel ⟨x,y,hx,hy,rfl,rfl,by rw[xv,yv],by rw[xv];exact hl x hx xv,by rw[yv];exact hl y hy yv,by rw[xv];exact hn x y hx hy xv yv (hl x hx xv) (hl y hy yv)⟩
  · rintro⟨h1,h2⟩
    refine Classical.byContradiction λhn=>?_
    have:zC g v:=λx y hx hy xv yv xt yt=>by
      have he:gI (iV g) (x/2)=gI (iV g) (y/2):=Classical.byContradiction λq=>hn ⟨x,by rw[<-xv];exact iz hx,y,by rw[<-yv];exact iz hy,q⟩
      rw[vH hm (kM hx) (jH hx) (kM hy) (jH hy)] at he
      have ex:lM g (x/2) (bM g x):=⟨x,hx,rfl,rfl⟩
      have ey:lM g (y/2) (bM g y):=⟨y,hy,rfl,rfl⟩
      rcases wO he with q|⟨_,_,q⟩
      · rw[q] at ex;exact lK ex ey xt yt
      · exact q v _ _ ex ey xt yt
    have:=y5 hm v0 v1 this
    omega
end TL
/-
  TlOrb: going round by a permutation; two places changed; what that does to the numbers of rounds.
  By an AI agent.
-/
set_option linter.all false
namespace TL
def tr(a b x:Int):Int:=if x=a then b else if x=b then a else x
theorem gK{P:Nat->Prop}:∀(k:Nat),P k->∃m,P m/\∀j,j<m->¬P j:=by
 intro k
 induction k using Nat.strongRecOn with
 |ind k ih=>
   intro hk
   by_cases c:∃j,j<k/\P j
   · obtain⟨j,hj,hp⟩:=c
     exact ih j hj hp
   · exact⟨k,hk,λj hj hp=>c ⟨j,hj,hp⟩⟩
end TL
/-
  TlEul: Euler's count of a rotation.
  By an AI agent.
-/
set_option linter.all false
namespace TL
def cy(r:iN)(x:Int):Int:=match r.find? (λl=>decide (x∈l)) with
  |some l=>zQ l x
  |none=>x
end TL
/-
  TlLess2: a rotation's part: its half-edges among the whole's, and its genus.
  By an AI agent.
-/
set_option linter.all false
namespace TL
section
variable{g:bh}{r:iN}{keep:List Int}
def gone(m:Nat)(keep:List Int):List Int:=(bG (2*m)).filter λh=>decide (h/2∉keep)
end
end TL
/-
  TlDual: faces as nodes: the dual, corners' faces, edges laid, taken and split, ways over faces, as plain functions.
  By an AI agent.
-/
set_option linter.all false
namespace TL
def xL(g:bh)(r:iN)(c:Int×Int):Prop:=(0<=c.1/\c.1<g.1)/\if((gI r c.1).length:Int)=0 then c.2= -1 else c.2∈gI r c.1
instance (g:bh)(r:iN)(c:Int×Int):Decidable (xL g r c):=by unfold xL;infer_instance
end TL
namespace TL
end TL
namespace TL
end TL
namespace TL
section
variable{g:bh}{r:iN}{a b:Int×Int}
end
end TL
/-
  TlSep: nodes joined by edges over some nodes; components, cut nodes.
  By an AI agent.
-/
set_option linter.all false
namespace TL
inductive Js (E:List (Int×Int)) (A:Int->Prop):Int->Int->Prop
  |refl {x:Int}:A x->Js E A x x
  |fw {x:Int} {e:Int×Int}:Js E A x e.1->e∈E->A e.2->Js E A x e.2
  |bw {x:Int} {e:Int×Int}:Js E A x e.2->e∈E->A e.1->Js E A x e.1
section
variable{E E':List (Int×Int)}{A B:Int->Prop}{x y z v u n:Int}{g:bh}{gone:List Bool}
theorem Js.right(h:Js E A x y):A y:=by cases h<;>assumption
theorem Js.left(h:Js E A x y):A x:=by
 induction h with
 |refl a=>exact a
 |fw _ _ _ ih=>exact ih
 |bw _ _ _ ih=>exact ih
theorem Js.trans(h:Js E A x y)(k:Js E A y z):Js E A x z:=by
 induction k with
 |refl _=>exact h
 |fw _ he a ih=>exact .fw ih he a
 |bw _ he a ih=>exact .bw ih he a
theorem Js.symm(h:Js E A x y):Js E A y x:=by
 induction h with
 |refl a=>exact .refl a
 |fw k he a ih=>exact(Js.bw (.refl a) he k.right).trans ih
 |bw k he a ih=>exact(Js.fw (.refl a) he k.right).trans ih
theorem Js.edge{e:Int×Int}(he:e∈E)(a:A e.1)(b:A e.2):Js E A e.1 e.2:=.fw (.refl a) he b
theorem Js.map(h:Js E A x y)(hx:A x->B x)(he:∀e∈E,A e.1->A e.2->Js E' B e.1 e.2):Js E' B x y:=by
  induction h with
  |refl a=>exact .refl (hx a)
  |fw k he' a ih=>exact ih.trans (he _ he' k.right a)
  |bw k he' a ih=>exact ih.trans (he _ he' a k.right).symm
theorem Js.mono(h:Js E A x y)(hx:B x)(hE:∀e∈E,e∈E')(hAB:∀e∈E,(A e.1->B e.1)/\(A e.2->B e.2)):Js E' B x y:=
 h.map (λ_=>hx) λe he a b=>.edge (hE e he) ((hAB e he).1 a) ((hAB e he).2 b)
def Cj(E:List (Int×Int))(n:Int)(A:Int->Prop):Prop:=∀x y,0<=x->x<n->0<=y->y<n->A x->A y->Js E A x y
theorem Cj.iff(hE:∀e∈E,nP n e)(hAB:∀z,0<=z->z<n->(A z↔B z)):Cj E n A↔Cj E n B:=by
 have key:∀{A B:Int->Prop},(∀z,0<=z->z<n->(A z↔B z))->Cj E n A->Cj E n B:=λhAB h x y x0 x1 y0 y1 a b=>
   (h x y x0 x1 y0 y1 ((hAB x x0 x1).2 a) ((hAB y y0 y1).2 b)).mono a (λ_ q=>q) λe he=>⟨(hAB _ (hE e he).1.1 (hE e he).1.2).1,(hAB _ (hE e he).2.1 (hE e he).2.2).1⟩
 exact⟨key hAB,key λz z0 z1=>(hAB z z0 z1).symm⟩
theorem tF(hm:b7 g)(hx:ic g x)(ax:¬gI gone x=true):Cn (eE g gone []) x y↔Js g.2 (λz=>¬gI gone z=true) x y:=by
  constructor
  · intro h
    have:=h (λa b=>a=b\/Js g.2 (λz=>¬gI gone z=true) a b) ⟨λ_ _=>.inl rfl,λa b _ _ h=>h.elim (λe=>.inl e.symm) (λq=>.inr q.symm),λa b c _ _ _ h k=>by
      rcases h with rfl|h
      · exact k
      · rcases k with rfl|k
        · exact .inr h
        · exact .inr (h.trans k)⟩ λe he=>by
      obtain⟨i,hi,rfl⟩:=List.mem_map.1 he
      obtain⟨⟨i0,i1⟩,a,b,_⟩:=gC.1 hi
      exact .inr (.edge (bv i0 i1) a b)
    rcases this with rfl|h
    · exact .refl ax
    · exact h
  · intro h
    have hq:=Cn.eqv (eE g gone [])
    have hnd:∀z,ic (eE g gone []) z↔ic g z:=λz=>Iff.rfl
    have hin:∀e∈g.2,¬gI gone e.1=true->¬gI gone e.2=true->e∈(eE g gone []).2:=λe he a b=>by
      obtain⟨i,hi,rfl⟩:=List.mem_iff_getElem.1 he
      have e1:gI g.2 (i:Int)=g.2[i]:=by simp[gI,hi]
      exact List.mem_map.2 ⟨(i:Int),gC.2 ⟨⟨by omega,by omega⟩,by rw[e1];exact a,by rw[e1];exact b,by simp[gI]⟩,e1⟩
    have key:Cn (eE g gone []) x y/\ic g y:=by
      induction h with
      |refl _=>exact⟨hq.rfl _ hx,hx⟩
      |fw k he a ih=>
        obtain⟨o1,o2⟩:=hm.2.2.2 _ he
        exact⟨hq.trans _ _ _ hx o1 o2 ih.1 (Cn.edge (hin _ he k.right a)),o2⟩
      |bw k he a ih=>
        obtain⟨o1,o2⟩:=hm.2.2.2 _ he
        exact⟨hq.trans _ _ _ hx o2 o1 ih.1 (hq.symm _ _ o1 o2 (Cn.edge (hin _ he a k.right))),o1⟩
    exact key.1
theorem vx:eE g [] []=g:=by
 have e:m6 g [] []=bG g.2.length:=by
   unfold m6
   rw[List.filter_eq_self]
   intro a _;simp[gI]
 unfold eE
 rw[e]
 refine Prod.ext rfl ?_
 refine List.ext_getElem (by simp[bG]) λi h1 h2=>?_
 simp[bG,gI,h2]
theorem qB:dc g [] []=cB g g.1.toNat:=by
 unfold dc dd cB
 rw[vx]
 refine congrArg (λf=>(bG g.1.toNat).foldl f (List.replicate g.1.toNat (-1),0)) ?_
 funext p v
 unfold jB iM
 by_cases c:0<=gI p.1 v
 · rw[if_pos (.inl c),if_pos c]
 · rw[if_neg (by rintro(q|q);exact c q;simp[gI] at q),if_neg c]
theorem oH(hm:b7 g):(aH g).1=(dc g [] []).1/\(aH g).2.1=(dc g [] []).2:=by
 unfold aH;rw[if_pos hm,qB];exact⟨rfl,rfl⟩
theorem lh(hm:b7 g):(dc g gone []).2<=1↔Cj g.2 g.1 (λz=>¬gI gone z=true):=by
  obtain⟨l,hi⟩:=dT (gone:=gone) (cut:=[]) hm
  have hq:=Cn.eqv (eE g gone [])
  rw[hi.num]
  constructor
  · intro h x y x0 x1 y0 y1 ax ay
    have hx':=hi.all x.toNat (by omega) (by omega) (by rwa[Int.toNat_of_nonneg x0])
    have hy':=hi.all y.toNat (by omega) (by omega) (by rwa[Int.toNat_of_nonneg y0])
    rw[Int.toNat_of_nonneg x0] at hx'
    rw[Int.toNat_of_nonneg y0] at hy'
    obtain⟨a,ha,ca⟩:=hx'
    obtain⟨b,hb,cb⟩:=hy'
    have e:a=b:=by
      match l,h,ha,hb with
      |[c],_,ha,hb=>rw[List.mem_singleton.1 ha,List.mem_singleton.1 hb]
      |[],_,ha,_=>exact absurd ha List.not_mem_nil
      |c::d::l,h,_,_=>simp at h;omega
    subst e
    exact(tF hm ⟨x0,x1⟩ ax).1 (hq.trans _ _ _ ⟨x0,x1⟩ (hi.dom a ha).1 ⟨y0,y1⟩ ca (hq.symm _ _ ⟨y0,y1⟩ (hi.dom a ha).1 cb))
  · intro h
    match l,hi.nd,hi.dom,hi.one with
    |[],_,_,_=>simp
    |[c],_,_,_=>simp
    |c::d::l,hn,hd,ho=>
      exfalso
      obtain⟨⟨c0,c1⟩,c2⟩:=hd c (by simp)
      obtain⟨⟨d0,d1⟩,d2⟩:=hd d (by simp)
      have:=ho c (by simp) d (by simp) ((tF hm ⟨c0,c1⟩ c2).2 (h c d c0 c1 d0 d1 c2 d2))
      subst this
      simp at hn
theorem wI(hm:b7 g)(hx:ic g x)(ax:¬gI gone x=true):1<=(dc g gone []).2:=by
 obtain⟨l,hi⟩:=dT (gone:=gone) (cut:=[]) hm
 rw[hi.num]
 have hx':=hi.all x.toNat (by have:=hx.1;have:=hx.2;omega) (by have:=hx.1;have:=hx.2;omega) (by rwa[Int.toNat_of_nonneg hx.1])
 obtain⟨a,ha,_⟩:=hx'
 have:=List.length_pos_of_mem ha
 omega
theorem uC(hm:b7 g):(aH g).2.1<=1↔Cj g.2 g.1 (λ_=>True):=by
 rw[(oH hm).2,lh hm]
 exact Cj.iff hm.2.2.2 λz _ _=>⟨λ_=>trivial,λ_ q=>by simp[gI] at q⟩
theorem nL(hm:b7 g):Js (bE g).1.2 A x y↔Js g.2 A x y:=by
  have eb:=fB hm
  have hsub:∀e∈(bE g).1.2,e∈g.2:=λe he=>by
    rw[eb] at he
    obtain⟨i,hi,rfl⟩:=List.mem_map.1 he
    unfold fk at hi
    have:=cw.1 (List.mem_filter.1 hi).1
    exact bv this.1 this.2
  constructor
  · exact λh=>h.mono h.left hsub λe _=>⟨id,id⟩
  · intro h
    have key:∀m:Nat,∀i:Nat,i<m->(i:Int)<(g.2.length:Int)->A (gI g.2 (i:Int)).1->A (gI g.2 (i:Int)).2->Js (bE g).1.2 A (gI g.2 (i:Int)).1 (gI g.2 (i:Int)).2:=by
      intro m
      induction m with
      |zero=>intro i hi;omega
      |succ m ih=>
        intro i hi hl a b
        by_cases hlp:(gI g.2 (i:Int)).1=(gI g.2 (i:Int)).2
        · rw[<-hlp];exact .refl a
        · by_cases hp:gH g (i:Int)=true
          · refine .edge ?_ a b
            rw[eb]
            exact List.mem_map.2 ⟨(i:Int),List.mem_filter.2 ⟨cw.2 ⟨by omega,hl⟩,hp⟩,rfl⟩
          · rw[sH hl] at hp
            have hmem:cP (gI g.2 (i:Int))∈(g.2.map cP).take i:=Classical.byContradiction λq=>hp ⟨hlp,q⟩
            obtain⟨j,hj,ej⟩:=List.mem_iff_getElem.1 hmem
            have hj':j<i/\j<g.2.length:=by simp at hj;omega
            have e1:((g.2.map cP).take i)[j]=cP (gI g.2 (j:Int)):=by simp[gI,hj'.2]
            rw[e1] at ej
            have hmm:min (gI g.2 (j:Int)).1 (gI g.2 (j:Int)).2=min (gI g.2 (i:Int)).1 (gI g.2 (i:Int)).2:=congrArg Prod.fst ej
            have hMM:max (gI g.2 (j:Int)).1 (gI g.2 (j:Int)).2=max (gI g.2 (i:Int)).1 (gI g.2 (i:Int)).2:=congrArg Prod.snd ej
            have hor:((gI g.2 (j:Int)).1=(gI g.2 (i:Int)).1/\(gI g.2 (j:Int)).2=(gI g.2 (i:Int)).2)\/((gI g.2 (j:Int)).1=(gI g.2 (i:Int)).2/\(gI g.2 (j:Int)).2=(gI g.2 (i:Int)).1):=by omega
            rcases hor with⟨q1,q2⟩|⟨q1,q2⟩
            · have:=ih j (by omega) (by omega) (by rw[q1];exact a) (by rw[q2];exact b)
              rw[q1,q2] at this;exact this
            · have:=ih j (by omega) (by omega) (by rw[q1];exact b) (by rw[q2];exact a)
              rw[q1,q2] at this;exact this.symm
    refine h.map id λe he a b=>?_
    obtain⟨i,hi,rfl⟩:=List.mem_iff_getElem.1 he
    have e1:gI g.2 (i:Int)=g.2[i]:=by simp[gI,hi]
    have:=key (i+1) i (by omega) (by omega) (by rw[e1];exact a) (by rw[e1];exact b)
    rw[e1] at this;exact this
theorem nF(hm:b7 g):Cj (bE g).1.2 (bE g).1.1 A↔Cj g.2 g.1 A:=by
 have e1:(bE g).1.1=g.1:=by rw[fB hm]
 unfold Cj
 rw[e1]
 exact⟨λh x y a b c d e f=>(nL hm).1 (h x y a b c d e f),λh x y a b c d e f=>(nL hm).2 (h x y a b c d e f)⟩
def bR(g:bh):List Int:=(cI (bE g).1).1.2.1
theorem k7(hm:b7 g)(hc:Cj g.2 g.1 (λ_=>True)):v∈bR g↔ic g v/\¬Cj g.2 g.1 (λz=>z≠v):=by
 have hmb:=jD hm
 have e1:(bE g).1.1=g.1:=by rw[fB hm]
 have eb:(cI (bE g).1).1.2.1=kB (bE g).1:=by unfold cI;rw[if_pos hmb]
 have hnl:∀h,hf (bE g).1 h->aI (bE g).1 h=v->bM (bE g).1 h≠v:=λh hh hfr hto=>by
   have h0:=hh.1
   have h1:=hh.2
   have:=(uN hm (h/2).toNat (by omega)).1
   rw[Int.toNat_of_nonneg (by omega)] at this
   rcases lA (g:=(bE g).1) h0 with⟨q1,q2⟩|⟨q1,q2⟩<;> · rw[q1] at hfr;rw[q2] at hto;exact this (by rw[hfr,hto])
 unfold bR
 rw[eb]
 unfold kB
 rw[List.mem_filter,cw]
 show(_/\gI (qZ (bE g).1) v=true)↔_
 constructor
 · rintro⟨⟨v0,v1⟩,hcut⟩
   have v1':v<(bE g).1.1:=by have:=hmb.1;omega
   obtain⟨h1,h2⟩:=(rF hmb v0 v1' hnl).1 hcut
   refine⟨⟨v0,by rw[<-e1];exact v1'⟩,λh=>?_⟩
   have h3:=(lh (gone:=fQ (bE g).1 v) hmb).2 ((Cj.iff hmb.2.2.2 λz z0 z1=>by rw[not_congr (iP hmb v0 v1' z0)]).2 ((nF hm).2 h))
   have h4:=wI (gone:=[]) hmb (x:=v) ⟨v0,v1'⟩ (by simp[gI])
   omega
 · rintro⟨⟨v0,v1⟩,hno⟩
   have v1':v<(bE g).1.1:=by rw[e1];exact v1
   refine⟨⟨v0,by omega⟩,(rF hmb v0 v1' hnl).2 ⟨?_,?_⟩⟩
   · refine Classical.byContradiction λhz=>hno λx y x0 x1 y0 y1 hx hy=>?_
     exfalso
     have hj:=(nL hm).2 (hc x v x0 x1 v0 v1 trivial trivial)
     have hout:∀e∈(bE g).1.2,e.1=v\/e.2=v->False:=λe he hv=>by
       obtain⟨i,hi,rfl⟩:=List.mem_iff_getElem.1 he
       have e2:gI (bE g).1.2 (i:Int)=(bE g).1.2[i]:=by simp[gI,hi]
       obtain⟨o1,o2,_⟩:=vR (g:=(bE g).1) (i:=i) (by omega)
       rw[e2] at o1 o2
       rcases hv with q|q
       · rw[q] at o1;exact hz (List.length_pos_of_mem o1)
       · rw[q] at o2;exact hz (List.length_pos_of_mem o2)
     generalize hvv:v=w at hj
     cases hj with
     |refl _=>exact hx hvv.symm
     |fw _ he _=>exact hout _ he (.inr hvv.symm)
     |bw _ he _=>exact hout _ he (.inl hvv.symm)
   · have h3:=(lh (gone:=[]) hmb).2 ((Cj.iff hmb.2.2.2 λz z0 z1=>⟨λ_=>trivial,λ_ q=>by simp[gI] at q⟩).2 ((nF hm).2 hc))
     refine Classical.byContradiction λhz=>hno ?_
     have h4:(dc (bE g).1 (fQ (bE g).1 v) []).2<=1:=by omega
     exact(nF hm).1 ((Cj.iff hmb.2.2.2 λz z0 z1=>by rw[not_congr (iP hmb v0 v1' z0)]).1 ((lh hmb).1 h4))
end
end TL
/-
  TlRange: a map of the call's own that is gone through, in whatever order is drawn.
  By an AI agent.
-/
set_option linter.all false
namespace TL
open Go Go.ChangeMaps
def ib{K:Type}[DecidableEq K](D:List K)(k:K):List K:=if k∈D then D else D++[k]
def oJ{K:Type}(b:Bool)(S:List K)(k:K):List K:=bif b then S++[k] else S
theorem lJ{K:Type}{b:Bool}{S:List K}{k:K}(h:b=true):oJ b S k=S++[k]:=by subst h;rfl
def Mi{K:Type}[DecidableEq K][Ky K](γ:aL)(J:cC->Prop)(w:World)(v u:Value)(F:K->Int)(D S:List K):Prop:=
  ∃(r ri:Nat) (es:List (cJ K)) (clock since:Nat) (L:List (cJ K)),v= .map (some r)/\u= .pointer (some ⟨ri,0,none⟩)/\r≠ri/\J (γ r)/\J (γ ri)/\w.heap[r]? =some (.map (es.map cz).toArray clock)/\yb es clock/\F=dX es/\D=es.map (·.key)/\
    w.heap[ri]? =some (.mapIter (some r) since (L.map (·.born)).toArray clock)/\(∀e∈es,e.born<since)/\since<=clock/\(∀e∈L,e∈es)/\L.map (·.key)=S/\S.Nodup
section
variable{K:Type}[DecidableEq K][Ky K]
theorem Mi.chg{γ γ':aL}{J J':cC->Prop}{w w':World}{v u:Value}{F:K->Int}{D S:List K}(h:Mi γ J w v u F D S)(hc:bI J' γ w γ' w')(hJ:∀c,J c->¬J' c):Mi γ' J w' v u F D S:=by
 obtain⟨r,ri,es,clock,since,L,h1,h2,hne,h3,h4,h5,h6,h7,h8,h9,h10⟩:=h
 exact⟨r,ri,es,clock,since,L,h1,h2,hne,by rw[hc.col r (ck h5) (hJ _ h3)];exact h3,by rw[hc.col ri (ck h9) (hJ _ h4)];exact h4,by rw[hc.keep r (ck h5) (hJ _ h3)];exact h5,h6,h7,h8,by rw[hc.keep ri (ck h9) (hJ _ h4)];exact h9,h10⟩
theorem Mi.ca{γ γ':aL}{j:Nat}{L:List Nat}{w w':World}{v u:Value}{F:K->Int}{D S:List K}(h:Mi γ (is j) w v u F D S)(hc:bI (inl L) γ w γ' w')(hj:L.contains j=false:=by exact rfl):Mi γ' (is j) w' v u F D S:=h.chg hc (dn hj)
theorem Mi.ce{γ γ':aL}{j k:Nat}{w w':World}{v u:Value}{F:K->Int}{D S:List K}(h:Mi γ (is j) w v u F D S)(hc:bI (is k) γ w γ' w')(hj:Nat.beq j k=false:=by exact rfl):Mi γ' (is j) w' v u F D S:=h.chg hc (gu hj)
theorem Mi.cn{γ γ':aL}{J:cC->Prop}{w w':World}{v u:Value}{F:K->Int}{D S:List K}(h:Mi γ J w v u F D S)(hc:bI no γ w γ' w'):Mi γ' J w' v u F D S:=h.chg hc (cW _)
theorem Mi.bel{γ:aL}{J:cC->Prop}{w w':World}{v u:Value}{F:K->Int}{D S:List K}(h:Mi γ J w v u F D S)(hc:e8 w.heap.size w w'):Mi γ J w' v u F D S:=by
 obtain⟨r,ri,es,clock,since,L,h1,h2,hne,h3,h4,h5,h6,h7,h8,h9,h10⟩:=h
 exact⟨r,ri,es,clock,since,L,h1,h2,hne,h3,h4,by rw[hc.block r (ck h5)];exact h5,h6,h7,h8,by rw[hc.block ri (ck h9)];exact h9,h10⟩
theorem Mi.cnt{γ:aL}{J:cC->Prop}{w:World}{v u:Value}{F:K->Int}{D S:List K}(h:Mi γ J w v u F D S):S.Nodup/\D.Nodup/\∀k∈S,k∈D:=by
 obtain⟨r,ri,es,clock,since,L,h1,h2,hne,h3,h4,h5,h6,h7,h8,h9,h10,h11,h12,h13,h14⟩:=h
 refine⟨h14,by rw[h8];exact h6.keys,λk hk=>?_⟩
 rw[<-h13] at hk
 obtain⟨e,he,rfl⟩:=List.mem_map.1 hk
 rw[h8]
 exact List.mem_map.2 ⟨e,h12 e he,rfl⟩
variable{P:Program}{f:Fr}{w:World}{dst:Option Tmp}{ty:TypeId}{pos:String}{after:Array Edge}{g:Option (Nat×Bool)}{t:TypeId}{x y z:Operand}{N:Value->World->Prop}
theorem lX:∀(D A:List K),D.Nodup->(∀p∈D,p∈A)->D.length<=A.length
 |[],A,_,_=>Nat.zero_le _
 |a::D,A,hn,hs=>by
   have hn':=List.nodup_cons.1 hn
   have ha:=hs a (List.mem_cons_self ..)
   have h3:=lX D (A.erase a) hn'.2 (λx hx=>by
     have hne:x≠a:=λe=>hn'.1 (by rw[<-e];exact hx)
     exact(List.mem_erase_of_ne hne).2 (hs x (List.mem_cons_of_mem _ hx)))
   have h4:=List.length_erase_of_mem ha
   have h5:=List.length_pos_of_mem ha
   rw[List.length_cons];omega
theorem rM{γ:aL}{J:cC->Prop}{v:Value}{F:K->Int}{D:List K}{kt et:Nat}(c:cC)(hJ:J c)(ht:P.underlying t=some (.map kt et))(hx:ev f x=v)(hm:Md γ J w v F D)
   (hk:∀γ' w' u,bI no γ w γ' w'->Mi γ' J w' v u F D []->N u w'):fv P ⟨dst,.range t x,ty,pos,after,g⟩ f w N:=by
 obtain⟨r,es,clock,rfl,hJ0,hb,hok,rfl,rfl⟩:=hm
 have hlt:=ck hb
 have hc:=fm γ w (.mapIter (some r) clock #[] clock) c
 refine aU (v:=.pointer (some ⟨w.heap.size,0,none⟩)) (w':=w.alloc (.mapIter (some r) clock #[] clock)) ?_ (hk (gE γ w.heap.size c) _ _ hc ⟨r,w.heap.size,es,clock,clock,[],rfl,rfl,by omega,by rw[hc.col r hlt (λq=>q)];exact hJ0,by simpa[gE] using hJ,by rw[hc.keep r hlt (λq=>q)];exact hb,hok,rfl,rfl,d5 ..,hok.lt,Nat.le_refl _,by simp,rfl,List.nodup_nil⟩)
 have:=run_range_map (P:=P) w t kt et r (es.map cz).toArray clock ht hb
 simp only[execOp,hx]
 simp[this]
theorem tt{es:List (cJ K)}{clock:Nat}(hok:yb es clock){a b:cJ K}(ha:a∈es)(hb:b∈es)(e:a.born=b.born):a=b:=by
 obtain⟨i,hi,rfl⟩:=List.mem_iff_getElem.1 ha
 obtain⟨j,hj,rfl⟩:=List.mem_iff_getElem.1 hb
 have h:=hok.born
 have:i=j:=(List.getElem_inj (h₀:=by simpa using hi) (h₁:=by simpa using hj) h).1 (by simpa using e)
 subst this;rfl
theorem rm{es:List (cJ K)}{clock:Nat}(hok:yb es clock){a b:cJ K}(ha:a∈es)(hb:b∈es)(e:a.key=b.key):a=b:=by
 obtain⟨i,hi,rfl⟩:=List.mem_iff_getElem.1 ha
 obtain⟨j,hj,rfl⟩:=List.mem_iff_getElem.1 hb
 have h:=hok.keys
 have:i=j:=(List.getElem_inj (h₀:=by simpa using hi) (h₁:=by simpa using hj) h).1 (by simpa using e)
 subst this;rfl
theorem tx{γ:aL}{J:cC->Prop}{v u:Value}{F:K->Int}{D S:List K}[Inhabited K](hx:ev f x=u)(hm:Mi γ J w v u F D S)
   (hk:∀w' nv nb k,bI J γ w γ w'->(∃a,nv= .tuple a/\a[0]? =some (.bool nb))->(nb=true->k∈D/\k∉S/\S.length+1<=D.length)->(nb=false->∀q∈D,q∈S)->Mi γ J w' v u F D (oJ nb S k)->N nv w'):fv P ⟨dst,.next x false,ty,pos,after,g⟩ f w N:=by
 have hcnt:=hm.cnt
 obtain⟨r,ri,es,clock,since,L,rfl,rfl,hne,h3,h4,h5,h6,rfl,rfl,h9,h10,h11,h12,rfl,h14⟩:=hm
 have hmem:∀a:MapEntry,a∈(es.map cz).toArray.toList->∃e∈es,cz e=a:=λa ha=>by simpa using ha
 rcases run_next_at (P:=P) w ty ri r since clock (L.map (·.born)).toArray (es.map cz).toArray clock h9 h5 (λa ha=>by obtain⟨e,he,rfl⟩:=hmem a ha;exact h10 e he) h11 with⟨h0,hrun⟩|⟨a,ha,w1,hal,hrun⟩
 · refine aU (v:=.tuple #[.bool false]) (w':=w) (by simp only[execOp,hx];simp[hrun]) (hk _ _ false default (bI.refl _ _ _) ⟨_,rfl,rfl⟩ (λq=>by cases q) (λ_ q hq=>?_) ⟨r,ri,es,clock,since,L,rfl,rfl,hne,h3,h4,h5,h6,rfl,rfl,h9,h10,h11,h12,rfl,h14⟩)
   obtain⟨e,he,rfl⟩:=List.mem_map.1 hq
   have hall:¬(!(L.map (·.born)).toArray.contains e.born)=true:=λhh=>by
     have:cz e∈(leftOf (es.map cz).toArray (L.map (·.born)).toArray).toList:=by
       unfold leftOf
       simp only[Array.toList_filter,List.mem_filter]
       exact⟨by simpa using⟨e,he,rfl⟩,hh⟩
     have h2:=List.length_pos_of_mem this
     simp only[Array.length_toList] at h2
     omega
   have hin:e.born∈L.map (·.born):=by simpa using hall
   obtain⟨e',he',hb⟩:=List.mem_map.1 hin
   rw[<-tt h6 (h12 e' he') he hb]
   exact List.mem_map.2 ⟨e',he',rfl⟩
 · unfold leftOf at ha
   simp only[Array.toList_filter,List.mem_filter] at ha
   obtain⟨e,he,rfl⟩:=hmem a ha.1
   have hnb:e.born∉L.map (·.born):=by simpa[cz] using ha.2
   have hns:e.key∉L.map (·.key):=λhh=>by
     obtain⟨e',he',hk'⟩:=List.mem_map.1 hh
     rw[rm h6 (h12 e' he') he hk'] at he'
     exact hnb (List.mem_map.2 ⟨e,he',rfl⟩)
   have hlri:=ck h9
   have hch:bI J γ w γ (setBlock w1 ri (.mapIter (some r) since ((L.map (·.born)).toArray.push (cz e).born) clock)):=by
     rcases hal with rfl|rfl
     · refine⟨rfl,rfl,rfl,by simp[setBlock],λ_ _ _=>rfl,λk _ hk=>?_,Nat.le_refl _⟩
       have:ri≠k:=λh=>hk (h▸h4)
       simp[setBlock,Array.getElem?_setIfInBounds_ne this]
     · refine⟨rfl,rfl,rfl,by simp[setBlock,World.drew_eq],λ_ _ _=>rfl,λk _ hk=>?_,Nat.le_succ _⟩
       have:ri≠k:=λh=>hk (h▸h4)
       show(w.heap.setIfInBounds ri _)[k]? =_
       rw[Array.getElem?_setIfInBounds_ne this]
   have hh1:w1.heap=w.heap:=by rcases hal with rfl|rfl<;>rfl
   have hnd:(L.map (·.key)++[e.key]).Nodup:=by
     rw[List.nodup_append]
     exact⟨h14,by simp,λa ha b hb=>by obtain rfl:=List.mem_singleton.1 hb;exact λq=>hns (q▸ha)⟩
   refine aU (v:=.tuple #[.bool true,(cz e).key,(cz e).val]) (w':=setBlock w1 ri (.mapIter (some r) since ((L.map (·.born)).toArray.push (cz e).born) clock)) (by simp only[execOp,hx];simp[hrun]) (hk _ _ true e.key hch ⟨_,rfl,rfl⟩ (λ_=>⟨List.mem_map.2 ⟨e,he,rfl⟩,hns,?_⟩) (λq=>by cases q) ⟨r,ri,es,clock,since,L++[e],rfl,rfl,hne,h3,h4,?_,h6,rfl,rfl,?_,h10,h11,λq hq=>?_,by rw[List.map_append];rfl,hnd⟩)
   · have hsub:∀q∈L.map (·.key)++[e.key],q∈es.map (·.key):=λq hq=>by
       rcases List.mem_append.1 hq with hq|hq
       · exact hcnt.2.2 q hq
       · rw[List.mem_singleton.1 hq];exact List.mem_map.2 ⟨e,he,rfl⟩
     have:=lX _ _ hnd hsub
     simpa using this
   · show(w1.heap.setIfInBounds ri _)[r]? =_
     rw[Array.getElem?_setIfInBounds_ne (λq=>hne q.symm),hh1];exact h5
   · show(w1.heap.setIfInBounds ri _)[ri]? =_
     rw[hh1]
     simp[hlri,cz]
   · rcases List.mem_append.1 hq with hq|hq
     · exact h12 q hq
     · rw[List.mem_singleton.1 hq];exact he
theorem rS{nv:Value}{nb:Bool}(hx:ev f x=nv)(h:∃a,nv= .tuple a/\a[0]? =some (.bool nb)):(execOp (ev f) ⟨dst,.extract x 0,ty,pos,after,g⟩).run P w= .ok (.value (.bool nb)) w:=by
 obtain⟨a,rfl,h0⟩:=h
 simp[execOp,hx,Instr.extract,h0]
theorem r9{γ:aL}{J:cC->Prop}{v u:Value}{F:K->Int}{D S:List K}{nb:Bool}{k:K}(hx:ev f x=u)(hm:Mi γ J w v u F D (oJ nb S k))(hb:nb=true):(execOp (ev f) ⟨dst,.entry x,ty,pos,after,g⟩).run P w= .ok (.value (.tuple (List.toArray [Ky.val k,.int .i64 (F k)]))) w:=by
 rw[lJ hb] at hm
 obtain⟨r,ri,es,clock,since,L,rfl,rfl,hne,h3,h4,h5,h6,rfl,rfl,h9,h10,h11,h12,h13,h14⟩:=hm
 obtain⟨L0,e,rfl⟩:∃L0 e,L=L0++[e]:=by
   refine⟨L.dropLast,L.getLast (λq=>by rw[q] at h13;simp at h13),(List.dropLast_concat_getLast _).symm⟩
 rw[List.map_append] at h13
 obtain⟨e1,e2⟩:=List.append_inj' h13 rfl
 have ek:e.key=k:=by simpa using e2
 subst ek
 have he:e∈es:=h12 e (by simp)
 have e3:((L0++[e]).map (·.born)).toArray=((L0.map (·.born)).toArray).push (cz e).born:=by simp[cz]
 rw[e3] at h9
 have hrun:=run_entry_at (P:=P) w ri r since (L0.map (·.born)).toArray (es.map cz).toArray clock (cz e) h9 h5 (by simpa using⟨e,he,rfl⟩) (by
   have:=h6.born
   simpa[cz,Function.comp_def] using this)
 have hF:(cz e).val= .int .i64 (dX es e.key):=by
   show Value.int .i64 e.val=_
   unfold dX
   have:es.find? (λa=>decide (a.key=e.key))=some e:=by
     cases hf:es.find? (λa=>decide (a.key=e.key)) with
     |none=>exact absurd (List.find?_eq_none.1 hf e he) (by simp)
     |some a=>
       have h1:=List.mem_of_find?_eq_some hf
       have h2:=List.find?_some hf
       rw[rm h6 h1 he (by simpa using h2)]
   rw[this];rfl
 rw[hF] at hrun
 simp only[execOp,hx]
 simp[hrun,cz]
end
end TL
/-
  TlSepI: what layer 15 answers.
  By an AI agent.
-/
set_option linter.all false
namespace TL
section
variable{g:bh}{u v x y n:Int}{k i j m:Nat}{l:List (Int×Int)}
def r6(u:Int)(k:Nat):List Int:=(bG k).filter λx=> !decide (x=u)
def dB(n u:Int):List Int:=r6 u n.toNat
theorem xl(h:¬(k:Int)=u):r6 u k++[(k:Int)]=r6 u (k+1):=by
 unfold r6
 rw[cV,List.filter_append,List.filter_cons_of_pos (by simpa using h)];rfl
theorem yB(h:(k:Int)=u):r6 u k=r6 u (k+1):=by
 unfold r6
 rw[cV,List.filter_append,List.filter_cons_of_neg (by simpa using h),List.filter_nil,List.append_nil]
theorem rh:(r6 u k).length<=k:=by
 unfold r6
 have:=List.length_filter_le (λx=> !decide (x=u)) (bG k)
 rw[eI] at this;exact this
def eT(g:bh)(u:Int):bh:=(cZ g (dB g.1 u)).1
theorem qy:cG (dB n u) n=0:=by
 refine nC (λi hi=>?_) ((ea _).sublist List.filter_sublist)
 have:=cw.1 (List.mem_filter.1 hi).1
 omega
theorem oE(hm:b7 g):(eT g u).1=((dB g.1 u).length:Int):=by
 unfold eT cZ
 rw[if_pos hm,if_pos qy]
theorem iI(hm:b7 g):b7 (eT g u):=by
 have hl:(dB g.1 u).length<=g.1.toNat:=rh
 obtain⟨m1,m2,m3,m4⟩:=id hm
 unfold eT cZ
 rw[if_pos hm,if_pos qy]
 refine⟨by show(0:Int)<=((dB g.1 u).length:Int);omega,by show((dB g.1 u).length:Int)<=1024;omega,?_,λe he=>?_⟩
 · show(List.map _ (lH g (dB g.1 u))).length<=3072
   rw[List.length_map]
   have:(lH g (dB g.1 u)).length<=((List.range g.2.length).map (λ(i:Nat)=>(i:Int))).length:=List.length_filter_le ..
   simp at this;omega
 · obtain⟨i,hi,rfl⟩:=List.mem_map.1 he
   have h2:=(List.mem_filter.1 hi).2
   simp only[Bool.and_eq_true,decide_eq_true_eq] at h2
   have p1:=fZ.2 h2.1
   have p2:=fZ.2 h2.2
   have q1:=jG (dB g.1 u) (gI g.2 i).1
   have q2:=jG (dB g.1 u) (gI g.2 i).2
   exact⟨⟨by omega,by show _<((dB g.1 u).length:Int);omega⟩,by omega,by show _<((dB g.1 u).length:Int);omega⟩
theorem uh(hm:b7 g)(h:x∈bR g):0<=x/\x<g.1:=by
 have hmb:=jD hm
 have e1:(bE g).1.1=g.1:=by rw[fB hm]
 unfold bR cI at h
 rw[if_pos hmb] at h
 have:=cw.1 (List.mem_filter.1 h).1
 have:=hm.1
 omega
theorem kv(hm:b7 g):((bR g).length:Int)<=g.1:=by
 have hmb:=jD hm
 have e1:(bE g).1.1=g.1:=by rw[fB hm]
 unfold bR cI
 rw[if_pos hmb]
 show((kB (bE g).1).length:Int)<=_
 unfold kB
 have h1:=List.length_filter_le (λv=>gI (f8 (iV (bE g).1) (bE g).1 (2*(bE g).1.2.length)).2 v) (bG (bE g).1.1.toNat)
 rw[eI] at h1
 have:=hm.1
 omega
def gm(g:bh):Bool:=decide ((aH g).2.1<=1)
def fg(g:bh):Bool:=decide (2<g.1)&&(gm g&&decide (((bR g).length:Int)=0))
def iU(g:bh)(u:Int)(j:Nat):List (Int×Int):=(((bR (eT g u)).take j).filter λx=>decide (u<gI (dB g.1 u) x)).map λx=>(u,gI (dB g.1 u) x)
def mH(g:bh)(u:Int):List (Int×Int):=iU g u (bR (eT g u)).length
theorem ub(hj:(j:Int)<((bR (eT g u)).length:Int))(h:u<gI (dB g.1 u) (gI (bR (eT g u)) (j:Int))):iU g u j++[(u,gI (dB g.1 u) (gI (bR (eT g u)) (j:Int)))]=iU g u (j+1):=by
 unfold iU
 rw[bO hj,List.filter_append,List.filter_cons_of_pos (by simpa using h),List.map_append];rfl
theorem x6(hj:(j:Int)<((bR (eT g u)).length:Int))(h:¬u<gI (dB g.1 u) (gI (bR (eT g u)) (j:Int))):iU g u j=iU g u (j+1):=by
 unfold iU
 rw[bO hj,List.filter_append,List.filter_cons_of_neg (by simpa using h),List.filter_nil,List.append_nil]
theorem uk(hj:¬(j:Int)<((bR (eT g u)).length:Int)):iU g u j=mH g u:=by
 unfold mH iU
 rw[List.take_of_length_le (by omega),List.take_length]
theorem lp:(iU g u j).length<=j:=by
 unfold iU
 rw[List.length_map]
 refine Nat.le_trans (List.length_filter_le _ _) ?_
 rw[List.length_take];omega
def cY(g:bh)(k:Nat):List (Int×Int):=(bG k).flatMap (mH g)
theorem hU:cY g (k+1)=cY g k++mH g (k:Int):=by
 unfold cY;rw[cV,List.flatMap_append];simp
theorem iK(hm:b7 g):∀k:Nat,((cY g k).length:Int)<=(k:Int)*1024
 |0=>by simp[cY,bG]
 |k+1=>by
   have h1:=iK hm k
   have h2:=kv (iI (u:=(k:Int)) hm)
   have h3:=iI (u:=(k:Int)) hm
   have h4:(mH g (k:Int)).length<=(bR (eT g (k:Int))).length:=lp
   rw[hU,List.length_append]
   have:=h3.2.1
   omega
def iT(g:bh)(most:Int):Nat->Nat->List (Int×Int)
 |0,k=>cY g k
 |f+1,k=>if most<=((cY g (k+1)).length:Int) then cY g (k+1) else iT g most f (k+1)
def cq(g:bh)(most:Int):List (Int×Int):=iT g most g.1.toNat 0
theorem vu{most:Int}(h:iT g most (g.1.toNat-k) k=cq g most)(hk:(k:Int)<g.1)(hb:¬most<=((cY g (k+1)).length:Int)):iT g most (g.1.toNat-(k+1)) (k+1)=cq g most:=by
 rw[<-h,show g.1.toNat-k=(g.1.toNat-(k+1))+1 by omega]
 simp only[iT]
 rw[if_neg hb]
theorem sF{most:Int}(h:iT g most (g.1.toNat-k) k=cq g most)(hk:(k:Int)<g.1)(hb:most<=((cY g (k+1)).length:Int)):cY g (k+1)=cq g most:=by
 rw[<-h,show g.1.toNat-k=(g.1.toNat-(k+1))+1 by omega]
 simp only[iT]
 rw[if_pos hb]
theorem vk{most:Int}(h:iT g most (g.1.toNat-k) k=cq g most)(hk:¬(k:Int)<g.1):cY g k=cq g most:=by
 rw[<-h,show g.1.toNat-k=0 by omega];rfl
theorem oq(hm:b7 g){most:Int}:∀(f k:Nat),f+k<=1024->((iT g most f k).length:Int)<=1048576
 |0,k,h=>by have:=iK hm k;show((cY g k).length:Int)<=_;omega
 |f+1,k,h=>by
   have:=iK hm (k+1)
   show((if most<=((cY g (k+1)).length:Int) then cY g (k+1) else iT g most f (k+1)).length:Int)<=_
   split
   · omega
   · exact oq hm f (k+1) (by omega)
theorem lZ(hm:b7 g){most:Int}:((cq g most).length:Int)<=1048576:=oq hm _ _ (by have:=hm.1;have:=hm.2.1;omega)
def j6(g:bh):Int:=if g.1<2\/¬gm g=true then 0 else if fg g=true then(if g.1<4\/0<((cq g 1).length:Int) then 2 else 3) else 1
def bp(g:bh):Int×Int:=if b7 g then(j6 g,0) else(0,1)
def bn(g:bh):List (Int×Int)×Int:=if b7 g then if fg g=true then(cq g (g.1*g.1),0) else([],7) else([],1)
theorem uA(h:¬b7 g):bp g=(0,1):=by unfold bp;rw[if_neg h]
theorem um(hm:b7 g)(h:g.1<2):bp g=(0,0):=by unfold bp j6;rw[if_pos hm,if_pos (.inl h)]
theorem tQ(hm:b7 g)(h:¬gm g=true):bp g=(0,0):=by unfold bp j6;rw[if_pos hm,if_pos (.inr h)]
theorem xz(hm:b7 g)(h1:¬g.1<2)(h2:gm g=true)(h3:¬fg g=true):bp g=(1,0):=by unfold bp j6;rw[if_pos hm,if_neg (by rintro(q|q);exact h1 q;exact q h2),if_neg h3]
theorem rY(hm:b7 g)(h1:¬g.1<2)(h2:gm g=true)(h3:fg g=true)(h4:g.1<4\/0<((cq g 1).length:Int)):bp g=(2,0):=by unfold bp j6;rw[if_pos hm,if_neg (by rintro(q|q);exact h1 q;exact q h2),if_pos h3,if_pos h4]
theorem xE(hm:b7 g)(h1:¬g.1<2)(h2:gm g=true)(h3:fg g=true)(h4:¬(g.1<4\/0<((cq g 1).length:Int))):bp g=(3,0):=by unfold bp j6;rw[if_pos hm,if_neg (by rintro(q|q);exact h1 q;exact q h2),if_pos h3,if_neg h4]
theorem ul(h:¬b7 g):bn g=([],1):=by unfold bn;rw[if_neg h]
theorem u9(hm:b7 g)(h:¬fg g=true):bn g=([],7):=by unfold bn;rw[if_pos hm,if_neg h]
theorem lL(hm:b7 g)(h:fg g=true):bn g=(cq g (g.1*g.1),0):=by unfold bn;rw[if_pos hm,if_pos h]
def mK(u v:Int)(e:Int×Int):Bool:=decide (¬e.1=u/\¬e.1=v/\¬e.2=u/\¬e.2=v)
def ia(g:bh)(u v:Int)(k:Nat):List (Int×Int):=(g.2.take k).filter (mK u v)
def ko(g:bh)(u v:Int):bh:=(g.1,ia g u v g.2.length)
theorem ve(hk:(k:Int)<(g.2.length:Int))(h:mK u v (gI g.2 (k:Int))=true):ia g u v k++[gI g.2 (k:Int)]=ia g u v (k+1):=by
 unfold ia
 rw[bO hk,List.filter_append,List.filter_cons_of_pos h];rfl
theorem l7(hk:(k:Int)<(g.2.length:Int))(h:¬mK u v (gI g.2 (k:Int))=true):ia g u v k=ia g u v (k+1):=by
 unfold ia
 rw[bO hk,List.filter_append,List.filter_cons_of_neg h,List.filter_nil,List.append_nil]
theorem oL:(ia g u v k).length<=k:=by
 unfold ia
 refine Nat.le_trans (List.length_filter_le _ _) ?_
 rw[List.length_take];omega
theorem uQ(hk:¬(k:Int)<(g.2.length:Int)):(g.1,ia g u v k)=ko g u v:=by
 unfold ko ia
 rw[List.take_of_length_le (by omega),List.take_length]
theorem pc(hm:b7 g):b7 (ko g u v):=by
 obtain⟨m1,m2,m3,m4⟩:=hm
 refine⟨m1,m2,Nat.le_trans oL m3,λe he=>?_⟩
 have h1:e∈g.2.take g.2.length:=(List.mem_filter.1 he).1
 rw[List.take_length] at h1
 exact m4 e h1
def eJ(u v:Int)(e:Int×Int):Int:=if e.1=u\/e.1=v then e.2 else e.1
def nD(u v:Int)(e:Int×Int):Prop:=e.1=e.2\/eJ u v e=u\/eJ u v e=v
instance {e:Int×Int}:Decidable (nD u v e):=by unfold nD;infer_instance
abbrev zs:=List (List Int)×((Int->Int)×List Int)
def hG(p:List Int)(g:bh)(u v:Int)(s:zs)(i:Int):zs:=
  if nD u v (gI g.2 i) then(s.1++[[i]],s.2)
  else if gI p (eJ u v (gI g.2 i))∈s.2.2 then(s.1.set (s.2.1 (gI p (eJ u v (gI g.2 i)))).toNat (gI s.1 (s.2.1 (gI p (eJ u v (gI g.2 i))))++[i]),s.2)
  else(s.1++[[i]],((λq=>if q=gI p (eJ u v (gI g.2 i)) then(s.1.length:Int) else s.2.1 q),s.2.2++[gI p (eJ u v (gI g.2 i))]))
def gQ(p:List Int)(g:bh)(u v:Int)(k:Nat):zs:=(bG k).foldl (hG p g u v) ([],(λ_=>0,[]))
theorem gV{p:List Int}:gQ p g u v (k+1)=hG p g u v (gQ p g u v k) (k:Int):=by
 unfold gQ;rw[cV,List.foldl_append];rfl
def d8(g:bh)(u v:Int):List (List Int):=(gQ (aH (ko g u v)).1 g u v g.2.length).1
structure i6(p:List Int)(g:bh)(u v:Int)(k:Nat)(l:List (List Int))(at_:(Int->Int)×List Int):Prop where
 eq:(l,at_)=gQ p g u v k
 len:l.length<=k
 rg:∀q∈at_.2,0<=at_.1 q/\at_.1 q<(l.length:Int)
 sm:∀r∈l,r.length<=k
variable{p:List Int}{ls ls':List (List Int)}{at_ at2:(Int->Int)×List Int}
theorem i6.start:i6 p g u v 0 [] (λ_=>0,[]):=⟨rfl,by simp,λq hq=>absurd hq List.not_mem_nil,λr hr=>absurd hr List.not_mem_nil⟩
theorem i6.alone(h:i6 p g u v k ls at_)(ha:nD u v (gI g.2 (k:Int))):i6 p g u v (k+1) (ls++[[(k:Int)]]) at_:=by
 refine⟨?_,by rw[List.length_append];have:=h.len;simp;omega,λq hq=>?_,λr hr=>?_⟩
 · rw[gV,<-h.eq];unfold hG;rw[if_pos ha]
 · have:=h.rg q hq
   rw[List.length_append];simp;omega
 · rcases List.mem_append.1 hr with hr|hr
   · have:=h.sm r hr;omega
   · rw[List.mem_singleton.1 hr];simp
theorem i6.old(h:i6 p g u v k ls at_)(ha:¬nD u v (gI g.2 (k:Int)))(hin:gI p (eJ u v (gI g.2 (k:Int)))∈at_.2)(e:ls'=ls.set (at_.1 (gI p (eJ u v (gI g.2 (k:Int))))).toNat (gI ls (at_.1 (gI p (eJ u v (gI g.2 (k:Int)))))++[(k:Int)])):i6 p g u v (k+1) ls' at_:=by
 have hr0:=h.rg _ hin
 subst e
 refine⟨?_,by rw[List.length_set];have:=h.len;omega,λq hq=>by rw[List.length_set];exact h.rg q hq,λr hr=>?_⟩
 · rw[gV,<-h.eq];unfold hG;rw[if_neg ha,if_pos hin]
 · rcases List.mem_or_eq_of_mem_set hr with hr|hr
   · have:=h.sm r hr;omega
   · rw[hr,List.length_append]
     have:=h.sm _ (bv (xs:=ls) hr0.1 hr0.2)
     simp;omega
theorem i6.new(h:i6 p g u v k ls at_)(ha:¬nD u v (gI g.2 (k:Int)))(hin:¬gI p (eJ u v (gI g.2 (k:Int)))∈at_.2)(e:ls'=ls++[[(k:Int)]])(e2:at2=((λq=>if q=gI p (eJ u v (gI g.2 (k:Int))) then(ls.length:Int) else at_.1 q),at_.2++[gI p (eJ u v (gI g.2 (k:Int)))])):i6 p g u v (k+1) ls' at2:=by
 subst e e2
 refine⟨?_,by rw[List.length_append];have:=h.len;simp;omega,λq hq=>?_,λr hr=>?_⟩
 · rw[gV,<-h.eq];unfold hG;rw[if_neg ha,if_neg hin]
 · show 0<=(if q=_ then _ else _)/\(if q=_ then _ else _)<_
   rw[List.length_append]
   split
   · simp;omega
   · rcases List.mem_append.1 hq with hq|hq
     · have:=h.rg q hq
       simp;omega
     · exact absurd (List.mem_singleton.1 hq) (by assumption)
 · rcases List.mem_append.1 hr with hr|hr
   · have:=h.sm r hr;omega
   · rw[List.mem_singleton.1 hr];simp
theorem i6.done(h:i6 (aH (ko g u v)).1 g u v k ls at_)(h0:(k:Int)<=(g.2.length:Int))(hk:¬(k:Int)<(g.2.length:Int)):ls=d8 g u v:=by
 have e:k=g.2.length:=by omega
 subst e
 exact congrArg Prod.fst h.eq
theorem j2(e:Int×Int)(h1:e.1=u\/e.1=v):eJ u v e=e.2:=if_pos h1
theorem uc(e:Int×Int)(h1:¬e.1=u)(h2:¬e.1=v):eJ u v e=e.1:=if_neg (by rintro(q|q);exact h1 q;exact h2 q)
theorem i6.alone'{w:Int}(h:i6 p g u v k ls at_)(hw:eJ u v (gI g.2 (k:Int))=w)(ha:(gI g.2 (k:Int)).1=(gI g.2 (k:Int)).2\/w=u\/w=v):i6 p g u v (k+1) (ls++[[(k:Int)]]) at_:=h.alone (by subst hw;exact ha)
theorem i6.old'{w:Int}(h:i6 p g u v k ls at_)(hw:eJ u v (gI g.2 (k:Int))=w)(ha:¬((gI g.2 (k:Int)).1=(gI g.2 (k:Int)).2\/w=u\/w=v))(hin:gI p w∈at_.2)(e:ls'=ls.set (at_.1 (gI p w)).toNat (gI ls (at_.1 (gI p w))++[(k:Int)])):i6 p g u v (k+1) ls' at_:=by
 subst hw;exact h.old ha hin e
theorem wu{x:Int}:(ls++[[]]).set (Int.toNat (ls.length:Int)) (gI (ls++[[]]) (ls.length:Int)++[x])=ls++[[x]]:=by
 simp[gI]
theorem i6.new'{w:Int}(h:i6 p g u v k ls at_)(hw:eJ u v (gI g.2 (k:Int))=w)(ha:¬((gI g.2 (k:Int)).1=(gI g.2 (k:Int)).2\/w=u\/w=v))(hin:¬gI p w∈at_.2)(e:ls'=(ls++[[]]).set (Int.toNat (ls.length:Int)) (gI (ls++[[]]) (ls.length:Int)++[(k:Int)]))(e2:at2=((λq=>if q=gI p w then(ls.length:Int) else at_.1 q),if gI p w∈at_.2 then at_.2 else at_.2++[gI p w])):i6 p g u v (k+1) ls' at2:=by
 subst hw
 rw[if_neg hin] at e2
 exact h.new ha hin (e.trans wu) e2
theorem pP(hm:b7 g):((aH g).1.length:Int)=g.1:=by
 unfold aH
 rw[if_pos hm]
 have:=(mU g g.1.toNat).1
 have:=hm.1
 show((cB g g.1.toNat).1.length:Int)=_
 omega
def aq(g:bh)(u v:Int):List (List Int)×Int:=if b7 g then if(0<=u/\u<g.1)/\(0<=v/\v<g.1)/\¬u=v then(d8 g u v,0) else([],2) else([],1)
theorem qr(h:¬b7 g):aq g u v=([],1):=by unfold aq;rw[if_neg h]
theorem iw(hm:b7 g)(h:¬((0<=u/\u<g.1)/\(0<=v/\v<g.1)/\¬u=v)):aq g u v=([],2):=by unfold aq;rw[if_pos hm,if_neg h]
theorem qN(hm:b7 g)(h:(0<=u/\u<g.1)/\(0<=v/\v<g.1)/\¬u=v):aq g u v=(d8 g u v,0):=by unfold aq;rw[if_pos hm,if_pos h]
def pZ(ls:List (List Int))(k:Nat):Int:=(ls.take k).foldl (λm l=>max m (l.length:Int)) 0
theorem jF{a:Int}(h:a=pZ ls k)(hk:(k:Int)<(ls.length:Int)):max a ((gI ls (k:Int)).length:Int)=pZ ls (k+1):=by
 unfold pZ at*
 rw[bO hk,List.foldl_append,<-h];rfl
theorem yQ(hm:b7 g):0<=g.1*g.1/\g.1*g.1<=1048576:=by
 obtain⟨h0,h1,_⟩:=hm
 exact⟨Int.mul_nonneg h0 h0,Int.le_trans (Int.mul_le_mul_of_nonneg_right h1 h0) (show 1024*g.1<=1048576 by omega)⟩
theorem lz(hm:b7 g){p:List Int}:∀k:Nat,i6 p g u v k (gQ p g u v k).1 (gQ p g u v k).2
 |0=>i6.start
 |k+1=>by
   have h:=lz hm (p:=p) k
   have e:=gV (p:=p) (g:=g) (u:=u) (v:=v) (k:=k)
   by_cases ha:nD u v (gI g.2 (k:Int))
   · have:=h.alone ha
     rw[e];unfold hG;rw[if_pos ha];exact this
   · by_cases hin:gI p (eJ u v (gI g.2 (k:Int)))∈(gQ p g u v k).2.2
     · have:=h.old ha hin rfl
       rw[e];unfold hG;rw[if_neg ha,if_pos hin];exact this
     · have:=h.new ha hin rfl rfl
       rw[e];unfold hG;rw[if_neg ha,if_neg hin];exact this
theorem wx(hm:b7 g):(d8 g u v).length<=g.2.length/\∀r∈d8 g u v,r.length<=g.2.length:=⟨(lz hm _).len,(lz hm _).sm⟩
theorem yx{a:Int}(hm:b7 g)(h:a=pZ (d8 g u v) k)(hk:(k:Int)<=((d8 g u v).length:Int)):0<=a/\a<=3072:=by
 have key:∀k:Nat,(k:Int)<=((d8 g u v).length:Int)->0<=pZ (d8 g u v) k/\pZ (d8 g u v) k<=3072:=by
   intro k
   induction k with
   |zero=>intro _;exact⟨Int.le_refl _,by show(0:Int)<=3072;decide⟩
   |succ k ih=>
     intro hk
     have h1:=ih (by omega)
     have h2:=(wx (u:=u) (v:=v) hm).2 _ (bv (xs:=d8 g u v) (i:=(k:Int)) (by omega) (by omega))
     have h3:=hm.2.2.1
     rw[<-jF rfl (by omega)]
     omega
 rw[h];exact key k hk
theorem og{a:Int}(h:a=pZ ls k)(hk:¬(k:Int)<(ls.length:Int)):a=pZ ls ls.length:=by
 rw[h];unfold pZ;rw[List.take_of_length_le (by omega),List.take_length]
def eO(g:bh)(u v:Int):Bool:=decide (4<=(g.2.length:Int)/\(pZ (d8 g u v) (d8 g u v).length=1\/2<=(g.2.length:Int)-pZ (d8 g u v) (d8 g u v).length))
def dw(g:bh):List (Int×Int):=if 2<g.1 then cq g (g.1*g.1) else[]
def eC(l:List (Int×Int))(D:List (Int×Int))(k:Nat):List (Int×Int):=(l.take k).foldl ib D
theorem i5{D D':List (Int×Int)}(h:D'=eC l D k)(hk:(k:Int)<(l.length:Int)):ib D' (gI l (k:Int))=eC l D (k+1):=by
 unfold eC at*
 rw[bO hk,List.foldl_append,<-h];rfl
def fN(g:bh):List (Int×Int):=eC (g.2.map cP) (eC (dw g) [] (dw g).length) g.2.length
end
end TL
/-
  TlSep2: pairs that separate, by nodes taken out.
  By an AI agent.
-/
set_option linter.all false
namespace TL
section
variable{E E':List (Int×Int)}{A B:Int->Prop}{x y z v u n:Int}{g:bh}{k i:Nat}
theorem Js.img(f:Int->Int)(h:Js E A x y)(hx:A x->B (f x))(he:∀e∈E,A e.1->A e.2->Js E' B (f e.1) (f e.2)):Js E' B (f x) (f y):=by
 induction h with
 |refl a=>exact .refl (hx a)
 |fw k he' a ih=>exact ih.trans (he _ he' k.right a)
 |bw k he' a ih=>exact ih.trans (he _ he' a k.right).symm
theorem fJ:z∈dB n u↔(0<=z/\z<n)/\z≠u:=by
 unfold dB r6
 rw[List.mem_filter,cw]
 simp only[Bool.not_eq_true',decide_eq_false_iff_not]
 constructor
 · rintro⟨⟨a,b⟩,c⟩;exact⟨⟨a,by omega⟩,c⟩
 · rintro⟨⟨a,b⟩,c⟩;exact⟨⟨a,by omega⟩,c⟩
theorem lu:(dB n u).Nodup:=(ea _).sublist List.filter_sublist
theorem jv(hz:z∈dB n u):gI (dB n u) (dq (dB n u) z-1)=z/\0<=dq (dB n u) z-1/\dq (dB n u) z-1<((dB n u).length:Int):=by
 obtain⟨i,hi,rfl⟩:=List.mem_iff_getElem.1 hz
 have e1:gI (dB n u) (i:Int)=(dB n u)[i]:=by simp[gI,hi]
 have:=qY lu (l:=dB n u) (i:=(i:Int)) (by omega) (by omega)
 rw[e1] at this
 rw[this,show(i:Int)+1-1=(i:Int) by omega]
 exact⟨e1,by omega,by omega⟩
theorem uV{i:Int}(h0:0<=i)(h1:i<((dB n u).length:Int)):dq (dB n u) (gI (dB n u) i)-1=i/\gI (dB n u) i∈dB n u:=by
 have:=qY lu (l:=dB n u) h0 h1
 exact⟨by omega,bv h0 h1⟩
theorem rO(hm:b7 g){e:Int×Int}:e∈(eT g u).2↔∃d∈g.2,d.1∈dB g.1 u/\d.2∈dB g.1 u/\e=(dq (dB g.1 u) d.1-1,dq (dB g.1 u) d.2-1):=by
 unfold eT cZ
 rw[if_pos hm,if_pos qy]
 constructor
 · intro he
   obtain⟨i,hi,rfl⟩:=List.mem_map.1 he
   obtain⟨h1,h2⟩:=List.mem_filter.1 hi
   simp only[Bool.and_eq_true,decide_eq_true_eq] at h2
   obtain⟨j,hj,rfl⟩:=List.mem_map.1 h1
   exact⟨gI g.2 (j:Int),bv (by omega) (by have:=List.mem_range.1 hj;omega),h2.1,h2.2,rfl⟩
 · rintro⟨d,hd,h1,h2,rfl⟩
   obtain⟨i,hi,rfl⟩:=List.mem_iff_getElem.1 hd
   have e1:gI g.2 (i:Int)=g.2[i]:=by simp[gI,hi]
   refine List.mem_map.2 ⟨(i:Int),List.mem_filter.2 ⟨List.mem_map.2 ⟨i,List.mem_range.2 hi,rfl⟩,?_⟩,by rw[e1]⟩
   rw[e1]
   simp only[Bool.and_eq_true,decide_eq_true_eq]
   exact⟨h1,h2⟩
theorem xI(hm:b7 g):Cj (eT g u).2 (eT g u).1 B↔Cj g.2 g.1 (λz=>z≠u/\B (dq (dB g.1 u) z-1)):=by
 rw[oE hm]
 constructor
 · intro h x y x0 x1 y0 y1 ax ay
   have hx:x∈dB g.1 u:=fJ.2 ⟨⟨x0,x1⟩,ax.1⟩
   have hy:y∈dB g.1 u:=fJ.2 ⟨⟨y0,y1⟩,ay.1⟩
   obtain⟨bx,zK,zD⟩:=jv hx
   obtain⟨by_,by0,by1⟩:=jv hy
   have hj:=(h _ _ zK zD by0 by1 ax.2 ay.2).img (B:=λz=>z≠u/\B (dq (dB g.1 u) z-1)) (E':=g.2) (gI (dB g.1 u)) (λ_=>by rw[bx];exact ax) λe he a b=>by
     obtain⟨d,hd,h1,h2,rfl⟩:=(rO hm).1 he
     show Js g.2 _ (gI (dB g.1 u) (dq (dB g.1 u) d.1-1)) (gI (dB g.1 u) (dq (dB g.1 u) d.2-1))
     rw[(jv h1).1,(jv h2).1]
     exact .edge hd ⟨(fJ.1 h1).2,a⟩ ⟨(fJ.1 h2).2,b⟩
   rw[bx,by_] at hj;exact hj
 · intro h i j i0 i1 j0 j1 bi bj
   obtain⟨pi,mi⟩:=uV i0 i1
   obtain⟨pj,mj⟩:=uV j0 j1
   obtain⟨⟨a0,a1⟩,a2⟩:=fJ.1 mi
   obtain⟨⟨b0,b1⟩,b2⟩:=fJ.1 mj
   have hj:=(h _ _ a0 a1 b0 b1 ⟨a2,by rw[pi];exact bi⟩ ⟨b2,by rw[pj];exact bj⟩).img (B:=B) (E':=(eT g u).2) (λz=>dq (dB g.1 u) z-1) (λq=>q.2) λe he a b=>by
     obtain⟨o1,o2⟩:=hm.2.2.2 _ he
     exact .edge (e:=(dq (dB g.1 u) e.1-1,dq (dB g.1 u) e.2-1)) ((rO hm).2 ⟨e,he,fJ.2 ⟨o1,a.1⟩,fJ.2 ⟨o2,b.1⟩,rfl⟩) a.2 b.2
   rw[show dq (dB g.1 u) (gI (dB g.1 u) i)-1=i from pi,show dq (dB g.1 u) (gI (dB g.1 u) j)-1=j from pj] at hj
   exact hj
def vw(g:bh)(l:List Int):List Bool:=l.foldl (λs v=>s.set v.toNat true) (List.replicate g.1.toNat false)
theorem u7{s:List Bool}{l:List Int}(hs:(s.length:Int)=g.1)(hl:∀v∈l,0<=v/\v<g.1)(x0:0<=x):gI (l.foldl (λs v=>s.set v.toNat true) s) x=true↔gI s x=true\/x∈l:=by
 induction l generalizing s with
 |nil=>simp
 |cons a l ih=>
   obtain⟨a0,a1⟩:=hl a (by simp)
   rw[List.foldl_cons,ih (by rw[List.length_set];exact hs) (λv hv=>hl v (by simp[hv])),c5 a0 (by omega) x0,List.mem_cons]
   by_cases c:x=a
   · rw[if_pos c];simp[c]
   · rw[if_neg c];simp[c]
theorem wc{l:List Int}(hm:b7 g)(hl:∀v∈l,0<=v/\v<g.1)(x0:0<=x)(x1:x<g.1):gI (vw g l) x=true↔x∈l:=by
 have:=hm.1
 unfold vw
 rw[u7 (g:=g) (by rw[List.length_replicate];omega) hl x0,fI x0 (by omega)]
 simp
def iX(g:bh)(l:List Int):Int:=(dc g (vw g l) []).2
theorem kZ{l:List Int}(hm:b7 g)(hl:∀v∈l,0<=v/\v<g.1):iX g l<=1↔Cj g.2 g.1 (λz=>z∉l):=by
 unfold iX
 rw[lh hm]
 exact Cj.iff hm.2.2.2 λz z0 z1=>not_congr (wc hm hl z0 z1)
theorem jf:∀(D A:List Int),D.Nodup->(∀p∈D,p∈A)->D.length<=A.length
 |[],A,_,_=>Nat.zero_le _
 |a::D,A,hn,hs=>by
   have hn':=List.nodup_cons.1 hn
   have ha:=hs a (List.mem_cons_self ..)
   have h3:=jf D (A.erase a) hn'.2 (λx hx=>by
     have hne:x≠a:=λe=>hn'.1 (by rw[<-e];exact hx)
     exact(List.mem_erase_of_ne hne).2 (hs x (List.mem_cons_of_mem _ hx)))
   have h4:=List.length_erase_of_mem ha
   have h5:=List.length_pos_of_mem ha
   rw[List.length_cons];omega
theorem iE(hm:b7 g):fg g=true↔2<g.1/\Cj g.2 g.1 (λ_=>True)/\∀u,0<=u->u<g.1->Cj g.2 g.1 (λz=>z≠u):=by
 unfold fg gm
 simp only[Bool.and_eq_true,decide_eq_true_eq]
 rw[uC hm]
 refine and_congr Iff.rfl ⟨λ⟨h1,h2⟩=>⟨h1,λu u0 u1=>Classical.byContradiction λhno=>?_⟩,λ⟨h1,h2⟩=>⟨h1,?_⟩⟩
 · have:=List.length_pos_of_mem ((k7 hm h1).2 ⟨⟨u0,u1⟩,hno⟩)
   omega
 · cases h:bR g with
   |nil=>rfl
   |cons a l=>
     have:=(k7 hm h1).1 (show a∈bR g by rw[h];simp)
     exact absurd (h2 a this.1.1 this.1.2) this.2
def jj(g:bh)(u:Int):List (Int×Int):=((bG g.1.toNat).filter λv=>decide (u<v)&&decide (1<iX g [u,v])).map λv=>(u,v)
theorem qd(hm:b7 g):bR g=(bG g.1.toNat).filter λx=>decide (x∈bR g):=by
 have hmb:=jD hm
 have e1:(bE g).1.1=g.1:=by rw[fB hm]
 have e:bR g=(bG g.1.toNat).filter λv=>gI (f8 (iV (bE g).1) (bE g).1 (2*(bE g).1.2.length)).2 v:=by
   unfold bR cI;rw[if_pos hmb]
   show kB (bE g).1=_
   unfold kB;rw[e1]
 have key:∀(l m:List Int) (p:Int->Bool),m=l.filter p->m=l.filter λx=>decide (x∈m):=λl m p h=>by
   conv=>lhs;rw[h]
   refine List.filter_congr λx hx=>?_
   rw[h]
   by_cases c:p x=true
   · rw[c,decide_eq_true (List.mem_filter.2 ⟨hx,c⟩)]
   · rw[Bool.eq_false_iff.2 c,decide_eq_false λq=>c (List.mem_filter.1 q).2]
 exact key _ _ _ e
theorem wK(u0:0<=u)(u1:u<n):(bG (dB n u).length).map (gI (dB n u))=dB n u:=by
 refine List.ext_getElem (by simp[bG]) λi h1 h2=>?_
 simp[bG,gI,h2]
theorem wb(hm:b7 g)(u0:0<=u)(u1:u<g.1)(hc:Cj g.2 g.1 (λz=>z≠u)):mH g u=jj g u:=by
 have hn:(eT g u).1.toNat=(dB g.1 u).length:=by rw[oE hm];omega
 have hcw:Cj (eT g u).2 (eT g u).1 (λ_=>True):=(xI hm).2 ((Cj.iff hm.2.2.2 λz _ _=>⟨λq=>⟨q,trivial⟩,λq=>q.1⟩).1 hc)
 have hin:∀x,x∈bR (eT g u)↔(0<=x/\x<((dB g.1 u).length:Int))/\1<iX g [u,gI (dB g.1 u) x]:=λx=>by
   rw[k7 (iI hm) hcw]
   have e:ic (eT g u) x↔0<=x/\x<((dB g.1 u).length:Int):=by unfold ic;rw[oE hm]
   rw[e]
   refine and_congr_right λhx=>?_
   obtain⟨p1,p2⟩:=uV hx.1 hx.2
   obtain⟨p3,p4⟩:=fJ.1 p2
   rw[xI hm]
   have hl:∀w∈[u,gI (dB g.1 u) x],0<=w/\w<g.1:=λw hw=>by
     rcases List.mem_cons.1 hw with q|q
     · rw[q];exact⟨u0,u1⟩
     · rw[List.mem_singleton.1 q];exact p3
   have h2:=kZ hm hl
   have h3:Cj g.2 g.1 (λz=>z≠u/\dq (dB g.1 u) z-1≠x)↔Cj g.2 g.1 (λz=>z∉[u,gI (dB g.1 u) x]):=Cj.iff hm.2.2.2 λz z0 z1=>by
     simp only[List.mem_cons,List.not_mem_nil,or_false,not_or]
     refine and_congr_right λhz=>not_congr ?_
     have hzm:z∈dB g.1 u:=fJ.2 ⟨⟨z0,z1⟩,hz⟩
     constructor
     · intro q;rw[<-q];exact(jv hzm).1.symm
     · intro q;rw[q];exact p1
   rw[h3,<-h2]
   omega
 unfold mH iU jj
 rw[List.take_length]
 conv=>lhs;rw[qd (iI hm)]
 rw[hn,List.filter_filter]
 have e1:(bG g.1.toNat).filter (λv=>decide (u<v)&&decide (1<iX g [u,v]))=(dB g.1 u).filter (λv=>decide (u<v)&&decide (1<iX g [u,v])):=by
   unfold dB r6
   rw[List.filter_filter]
   refine List.filter_congr λv _=>?_
   by_cases c:v=u
   · rw[c];simp
   · simp[c]
 rw[e1]
 conv=>rhs;rw[<-wK u0 u1]
 rw[List.filter_map,List.map_map]
 refine congrArg (List.map _) (List.filter_congr λx hx=>?_)
 have hx2:=cw.1 hx
 show(decide (u<gI (dB g.1 u) x)&&decide (x∈bR (eT g u)))=(decide (u<gI (dB g.1 u) x)&&decide (1<iX g [u,gI (dB g.1 u) x]))
 congr 1
 rw[decide_eq_decide,hin x]
 exact⟨λq=>q.2,λq=>⟨⟨hx2.1,by omega⟩,q⟩⟩
def eP(g:bh):List (Int×Int):=(bG g.1.toNat).flatMap (jj g)
theorem kn(hm:b7 g)(h2:fg g=true):cY g g.1.toNat=eP g:=by
 unfold cY eP
 have h:=((iE hm).1 h2).2.2
 have:∀l:List Int,(∀u∈l,0<=u/\u<g.1)->l.flatMap (mH g)=l.flatMap (jj g):=λl hl=>by
   induction l with
   |nil=>rfl
   |cons a l ih=>
     obtain⟨a0,a1⟩:=hl a (by simp)
     rw[List.flatMap_cons,List.flatMap_cons,wb hm a0 a1 (h a a0 a1),ih λu hu=>hl u (by simp[hu])]
 exact this _ λu hu=>by have:=cw.1 hu;omega
end
end TL
/-
  TlSep3: levels; an edge more.
  By an AI agent.
-/
set_option linter.all false
namespace TL
section
variable{A B:Int->Prop}{x y z v u n:Int}{g h:bh}{k i f:Nat}{most:Int}
theorem yu(u0:0<=u)(u1:u<n):((dB n u).length:Int)<=n-1:=by
 have:=jf (u::dB n u) (bG n.toNat) (List.nodup_cons.2 ⟨λq=>(fJ.1 q).2 rfl,lu⟩) λp hp=>by
   rcases List.mem_cons.1 hp with q|q
   · rw[q];exact cw.2 ⟨u0,by omega⟩
   · have:=(fJ.1 q).1;exact cw.2 ⟨this.1,by omega⟩
 rw[eI,List.length_cons] at this
 omega
theorem lE(hm:b7 g):∀k:Nat,(k:Int)<=g.1->((cY g k).length:Int)<=(k:Int)*(g.1-1)
 |0,_=>by simp[cY,bG]
 |k+1,hk=>by
   have h1:=lE hm k (by omega)
   have h2:=kv (iI (u:=(k:Int)) hm)
   rw[oE hm] at h2
   have h3:=yu (u:=(k:Int)) (n:=g.1) (by omega) (by omega)
   have h4:(mH g (k:Int)).length<=(bR (eT g (k:Int))).length:=lp
   rw[hU,List.length_append]
   have e:((k+1:Nat):Int)*(g.1-1)=(k:Int)*(g.1-1)+(g.1-1):=by rw[Int.natCast_add,Int.add_mul];simp
   omega
theorem oX(hm:b7 g)(hN:0<g.1):∀(f k:Nat),((k+f:Nat):Int)<=g.1->iT g (g.1*g.1) f k=cY g (k+f)
 |0,k,_=>rfl
 |f+1,k,hk=>by
   have h1:=lE hm (k+1) (by omega)
   have h2:((k+1:Nat):Int)*(g.1-1)<=g.1*(g.1-1):=Int.mul_le_mul_of_nonneg_right (by omega) (by omega)
   have h3:g.1*(g.1-1)=g.1*g.1-g.1:=by rw[Int.mul_sub,Int.mul_one]
   show(if g.1*g.1<=((cY g (k+1)).length:Int) then cY g (k+1) else iT g (g.1*g.1) f (k+1))=_
   rw[if_neg (by omega),oX hm hN f (k+1) (by omega),show k+1+f=k+(f+1) by omega]
theorem om(hm:b7 g)(hN:0<g.1):cq g (g.1*g.1)=cY g g.1.toNat:=by
 have:=oX hm hN g.1.toNat 0 (by omega)
 rw[Nat.zero_add] at this;exact this
theorem ns:∀f:Nat,∃t,cY g (k+f)=cY g k++t
 |0=>⟨[],by simp⟩
 |f+1=>by
   obtain⟨t,ht⟩:=ns f
   exact⟨t++mH g ((k+f:Nat):Int),by rw[show k+(f+1)=k+f+1 by omega,hU,ht,List.append_assoc]⟩
theorem pq:∀(f k:Nat),0<(iT g 1 f k).length↔0<(cY g (k+f)).length
 |0,k=>Iff.rfl
 |f+1,k=>by
   show 0<(if 1<=((cY g (k+1)).length:Int) then cY g (k+1) else iT g 1 f (k+1)).length↔_
   by_cases c:1<=((cY g (k+1)).length:Int)
   · rw[if_pos c]
     obtain⟨t,ht⟩:=ns (g:=g) (k:=k+1) f
     rw[show k+(f+1)=k+1+f by omega,ht,List.length_append]
     omega
   · rw[if_neg c,pq f (k+1),show k+1+f=k+(f+1) by omega]
theorem uF:0<((cq g 1).length:Int)↔0<(cY g g.1.toNat).length:=by
 have:=pq (g:=g) g.1.toNat 0
 rw[Nat.zero_add] at this
 unfold cq
 omega
theorem nI{p:Int×Int}:p∈eP g↔(0<=p.1/\p.1<g.1)/\(0<=p.2/\p.2<g.1)/\p.1<p.2/\1<iX g [p.1,p.2]:=by
  unfold eP jj
  rw[List.mem_flatMap]
  constructor
  · rintro⟨u,hu,hp⟩
    obtain⟨v,hv,rfl⟩:=List.mem_map.1 hp
    obtain⟨hv1,hv2⟩:=List.mem_filter.1 hv
    have h1:=cw.1 hu
    have h2:=cw.1 hv1
    simp only[Bool.and_eq_true,decide_eq_true_eq] at hv2
    exact⟨⟨h1.1,by show u<g.1;omega⟩,⟨h2.1,by show v<g.1;omega⟩,hv2.1,hv2.2⟩
  · rintro⟨⟨a,b⟩,⟨c,d⟩,e,f⟩
    refine⟨p.1,cw.2 ⟨a,by omega⟩,List.mem_map.2 ⟨p.2,List.mem_filter.2 ⟨cw.2 ⟨c,by omega⟩,?_⟩,rfl⟩⟩
    simp only[Bool.and_eq_true,decide_eq_true_eq]
    exact⟨e,f⟩
theorem qq(hx:0<=x/\x<n)(hy:0<=y/\y<n):∀w∈[x,y],0<=w/\w<n:=λw hw=>by
 rcases List.mem_cons.1 hw with q|q
 · rw[q];exact hx
 · rw[List.mem_singleton.1 q];exact hy
theorem o6(hm:b7 g):eP g=[]↔∀u v,0<=u->u<v->v<g.1->Cj g.2 g.1 (λz=>z∉[u,v]):=by
  constructor
  · intro h u v u0 uv v1
    have hl:=qq (x:=u) (y:=v) (n:=g.1) ⟨u0,by omega⟩ ⟨by omega,v1⟩
    refine(kZ hm hl).1 (Classical.byContradiction λhno=>?_)
    have:(u,v)∈eP g:=nI.2 ⟨⟨u0,by show u<g.1;omega⟩,⟨by show 0<=v;omega,v1⟩,uv,by show 1<iX g [u,v];omega⟩
    rw[h] at this
    exact absurd this List.not_mem_nil
  · intro h
    cases hd:eP g with
    |nil=>rfl
    |cons p l=>
      obtain⟨⟨a,b⟩,⟨c,d⟩,e,f⟩:=nI.1 (show p∈eP g by rw[hd];simp)
      have:=(kZ hm (qq ⟨a,b⟩ ⟨c,d⟩)).2 (h _ _ a e d)
      omega
def L1(g:bh):Prop:=2<=g.1/\Cj g.2 g.1 (λ_=>True)
def L2(g:bh):Prop:=2<g.1/\Cj g.2 g.1 (λ_=>True)/\∀u,0<=u->u<g.1->Cj g.2 g.1 (λz=>z≠u)
def L3(g:bh):Prop:=L2 g/\4<=g.1/\∀u v,0<=u->u<v->v<g.1->Cj g.2 g.1 (λz=>z∉[u,v])
theorem mN(hm:b7 g):(L3 g/\j6 g=3)\/(¬L3 g/\L2 g/\j6 g=2)\/(¬L2 g/\L1 g/\j6 g=1)\/(¬L1 g/\j6 g=0):=by
 have hc:gm g=true↔Cj g.2 g.1 (λ_=>True):=by unfold gm;rw[decide_eq_true_eq];exact uC hm
 have h2:fg g=true↔L2 g:=iE hm
 unfold j6
 by_cases c1:g.1<2\/¬gm g=true
 · rw[if_pos c1]
   refine .inr (.inr (.inr ⟨λq=>?_,rfl⟩))
   rcases c1 with c1|c1
   · have:=q.1;omega
   · exact c1 (hc.2 q.2)
 · rw[if_neg c1]
   have hL1:L1 g:=⟨by omega,hc.1 (Classical.byContradiction λq=>c1 (.inr q))⟩
   by_cases c2:fg g=true
   · rw[if_pos c2]
     have hL2:=h2.1 c2
     have hp:0<((cq g 1).length:Int)↔¬eP g=[]:=by
       rw[uF,kn hm c2]
       cases eP g<;>simp
     by_cases c3:g.1<4\/0<((cq g 1).length:Int)
     · rw[if_pos c3]
       refine .inr (.inl ⟨λq=>?_,hL2,rfl⟩)
       rcases c3 with c3|c3
       · have:=q.2.1;omega
       · exact(hp.1 c3) ((o6 hm).2 q.2.2)
     · rw[if_neg c3]
       refine .inl ⟨⟨hL2,by omega,(o6 hm).1 (Classical.byContradiction λq=>c3 (.inr (hp.2 q)))⟩,rfl⟩
   · rw[if_neg c2]
     exact .inr (.inr (.inl ⟨λq=>c2 (h2.2 q),hL1,rfl⟩))
end
end TL
/-
  TlConv: whole numbers turned to another kind, a string's byte, functions that bear values.
  By an AI agent.
-/
set_option linter.all false
namespace TL
open Go
section
variable{P:Program}{w:World}{f:Fr}{dst:Option Tmp}{ty:TypeId}{pos:String}{after:Array Edge}{g:Option (Nat×Bool)}{x y:Operand}{s d t:TypeId}{m:Int}{k k0:IntKind}
theorem i7{fid:Nat}{cs:List Operand}{vals:List Value}(h:cs.map (ev f)=vals):(execOp (ev f) ⟨dst,.makeFunc (.func fid) #[] cs.toArray,ty,pos,after,g⟩).run P w= .ok (.value (.func (.func fid) #[] vals.toArray)) w:=by
 have h:cs.toArray.map (ev f)=vals.toArray:=by rw[<-h];simp
 simp[execOp,Instr.makeFunc,h]
theorem eU{fid:Nat}{fn:Func}{c:Operand}{args:List Operand}{at_:Array TypeId}{vals caps:List Value}(hc:ev f c= .func (.func fid) #[] caps.toArray)(hf:P.funcs[fid]? =some fn)(hb:fn.body.isNone=false)(hn:(fn.name== "runtime.NumGoroutine")=false)(ha:args.map (ev f)=vals):
   (execOp (ev f) ⟨dst,.call {callee:=.value c,args:=args.toArray,argTypes:=at_},ty,pos,after,g⟩).run P w= .ok (.enter fid (vals++caps).toArray) w:=by
 have ha:args.toArray.map (ev f)=vals.toArray:=by rw[<-ha];simp
 simp only[execOp,resolve,hc,Deferred.ofValue,invoke,callFunc,ha,Sem.run_bind,Sem.run_pure,Result.andThen_ok,run_program,hf,hn,hb,Bool.false_eq_true,if_false,Array.append_empty,Array.empty_append]
 simp
end
end TL
namespace TL
open Go
section
variable{P:Program}{w:World}{f:Fr}{dst:Option Tmp}{ty:TypeId}{pos:String}{after:Array Edge}{g:Option (Nat×Bool)}{x y:Operand}{t t':TypeId}
end
end TL
namespace TL
open Go
section
variable{P:Program}{w:World}{f:Fr}{dst:Option Tmp}{ty:TypeId}{pos:String}{after:Array Edge}{g:Option (Nat×Bool)}{x y:Operand}{t t':TypeId}
end
end TL
/-
  TlArr2: a variable that holds two numbers, as a list; lengths of small numbers in bits.
  By an AI agent.
-/
set_option linter.all false
namespace TL
open Go
section
variable{P:Program}{f:Fr}{w:World}{dst:Option Tmp}{ty:TypeId}{pos:String}{after:Array Edge}{g:Option (Nat×Bool)}{t e:TypeId}{x y:Operand}
end
def zq(i:Int):Int:=gI [0,1,2,2,3,3,3,3,4,4,4,4,4] i
end TL
/-
  TlBlk7: the tree of blocks, as the program makes it, with the library's sort of few elements.
  By an AI agent.
-/
set_option linter.all false
namespace TL
def wd:List Int->List Int->Int
  |[],[]=>0
  |[],_::_=> -1
  |_::_,[]=>1
  |a::l,b::m=>if eG a b=0 then wd l m else eG a b
section
variable{s t:List Int}{k:Nat}
theorem th{l:List Int}(h:(k:Int)<l.length):l.drop k=gI l (k:Int)::l.drop (k+1):=by
 have h':k<l.length:=by omega
 rw[List.drop_eq_getElem_cons h']
 have e:gI l (k:Int)=l[k]:=by simp[gI,h']
 rw[e]
end
def mL(x y:Int×Int):Int:=wd [x.1,x.2] [y.1,y.2]
section
variable{x0 xs:List (Int×Int)}{i j:Int}
end
section
variable{g:bh}
end
end TL
