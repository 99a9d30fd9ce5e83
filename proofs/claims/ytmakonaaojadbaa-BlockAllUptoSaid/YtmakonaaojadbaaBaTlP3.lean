/- Plain texts of this claim, part 3. By an AI agent. -/
import Derived.Test.YtmakonaaojadbaaBaTlP2
import Derived.Shelf.SlSortCmp.WholeK
/-
  TlCls5: each step of the walk keeps what it relies on: a walk begun, a node left.
  By an AI agent.
-/
set_option linter.all false
namespace TL
variable{g:bK}{s:Bs}{fr:Fm}{path:List Int}{A B A0:Fm}{S U:List Int}{u v w e b h:Int}
theorem fx.begin_(hm:bg g)(hd:fx g s [])(hu:l7 g s [])(v0:0<=v)(v1:v<g.1)(hv:gI s.place v=0)(hse:dS g (f4 s v) [v]):fx g (f4 s v) [(v,[])]:=by
  have hl1:=hd.se.l1
  have hl2:=hd.se.l2
  have hf0:=hd.se.f0
  have hpl:∀x,0<=x->gI (s.place.set v.toNat (s.found+1)) x=if x=v then s.found+1 else gI s.place x:=λx a=>bY v0 (by omega) a
  have hlo:∀x,0<=x->gI (s.low.set v.toNat (s.found+1)) x=if x=v then s.found+1 else gI s.low x:=λx a=>bY v0 (by omega) a
  have hub:∀x,0<=x->x<g.1->gI s.place x<=s.found:=λx a c=>(hd.se.pl x a c).2
  have hfd:∀x,0<=x->gI s.place x≠0->gI (s.place.set v.toNat (s.found+1)) x=gI s.place x:=λx a c=>by
    rw[hpl x a,if_neg (λk=>c (by rw[k];exact hv))]
  have hxp:gI (s.place.set v.toNat (s.found+1)) v=s.found+1:=by rw[hpl v v0,if_pos rfl]
  have hed:s.edges=[]:=hd.stk
  refine⟨hse,hd.stk,λx y x0 x1 y0 y1 hx hxy=>?_,λk hk hlk=>?_,λA x Sx B he=>?_,hd.clr,hd.clb⟩
  · have hx:gI (s.place.set v.toNat (s.found+1)) x≠0:=hx
    have hxy:gI (s.place.set v.toNat (s.found+1)) x=gI (s.place.set v.toNat (s.found+1)) y:=hxy
    rw[hpl x x0,hpl y y0] at hxy
    rw[hpl x x0] at hx
    have h1:=hub x x0 x1
    have h2:=hub y y0 y1
    by_cases c1:x=v
    · by_cases c2:y=v
      · rw[c1,c2]
      · rw[if_pos c1,if_neg c2] at hxy;omega
    · by_cases c2:y=v
      · rw[if_neg c1,if_pos c2] at hxy;omega
      · rw[if_neg c1,if_neg c2] at hxy
        rw[if_neg c1] at hx
        exact hd.inj x y x0 x1 y0 y1 hx hxy
  · show gI (s.place.set v.toNat (s.found+1)) (aw g k)≠0
    have:=hd.lof k hk hlk
    rw[hfd _ (c8 hm hk).1 this];exact this
  · show qo g (s.place.set v.toNat (s.found+1)) (s.low.set v.toNat (s.found+1)) s.by_ s.laid _ A x Sx B
    rcases fL (X:=[]) he with⟨k1,k2,k3⟩|⟨B0,k1,k2⟩
    · obtain⟨rfl,rfl⟩:x=v/\Sx=[]:=by simpa using k2
      subst k1 k3
      have hbx:gI s.by_ x= -1:=hse.p0 x rfl
      refine⟨.inl ⟨rfl,rfl,hbx⟩,λp hp=>absurd hp List.not_mem_nil,λy hy=>absurd hy List.not_mem_nil,λy hy=>absurd hy List.not_mem_nil,λp hp=>absurd hp List.not_mem_nil,λk hk a c d=>?_,λy y0 y1 hy=>?_,λk hk hlk a c d=>?_,?_,λhlt=>?_⟩
      · obtain⟨f0,f1⟩:=c8 hm hk
        obtain⟨q0,q1⟩:=di hm hk
        have hne:aw g k≠x:=λj=>c (by rw[j];simp)
        rw[hpl _ f0,if_neg hne] at a
        have h1:=hd.lot hk (hu.all hm hk a (by simp))
        rw[hxp,hfd _ q0 h1];have:=hub _ q0 q1;omega
      · rw[hxp,hpl y y0] at hy
        have:y=x:=by
          by_cases c:y=x
          · exact c
          · rw[if_neg c] at hy;have:=hub y y0 y1;omega
        subst this
        exact .refl ⟨⟨v0,v1⟩,Int.le_refl _⟩
      · obtain⟨f0,f1⟩:=c8 hm hk
        rw[hxp,hpl _ f0] at a
        have hfx:aw g k=x:=by
          by_cases j:aw g k=x
          · exact j
          · rw[if_neg j] at a;have:=hub _ f0 f1;omega
        exact absurd (by rw[hfx];exact hv) (hd.lof k hk hlk)
      · rw[hxp,hlo x v0,if_pos rfl];exact Int.le_refl _
      · rw[hxp,hlo x v0,if_pos rfl] at hlt;omega
    · exact absurd k1.symm (by simp)
theorem fx.off0(hd:fx g s [(v,[])])(hse:dS g s []):fx g s []:=
  ⟨hse,hd.stk,hd.inj,hd.lof,λA x Sx B he=>by simp at he,hd.clr,hd.clb⟩
theorem qo.off(hm:bg g)(hd:fx g s (A0++[(u,U),(v,S)])){A1:Fm}{x:Int}{Sx Sy:List Int}{B1 B2:Fm}(hold:qo g s.place s.low s.by_ s.laid ((A0++[(u,U),(v,S)]).map Prod.fst) A1 x Sx (B1++[(v,S)]))
    (hin:(x,Sx)∈A0++[(u,U)])(hin2:∀y∈(x::B1.map Prod.fst),y∈(A0++[(u,U)]).map Prod.fst)(hu:u∈x::B1.map Prod.fst)(hB:B2.map Prod.fst=B1.map Prod.fst)(heqb:∀e∈Sy,EqB g e (gI s.by_ x/2))(hend:∀e∈Sy,∃h,hf g h/\h/2=e/\gI s.place x<=gI s.place (aw g h))
    (hown:(A1=[]/\Sy=[]/\gI s.by_ x= -1)\/(∃A' u U S',A1=A'++[(u,U)]/\Sy=gI s.by_ x/2::S'/\aw g (gI s.by_ x)=u/\0<=gI s.by_ x)):
    qo g s.place (s.low.set u.toNat (min (gI s.low u) (gI s.low v))) s.by_ s.laid ((A0++[(u,U)]).map Prod.fst) A1 x Sy B2:=by
  have hl2:=hd.se.l2
  have hvf:=hd.fra (A0++[(u,U)]) v S [] (by simp)
  have hum:=hd.mem (p:=(u,U)) (by simp)
  have hvm:=hd.mem (p:=(v,S)) (by simp)
  have hlo:∀x,0<=x->gI (s.low.set u.toNat (min (gI s.low u) (gI s.low v))) x=if x=u then min (gI s.low u) (gI s.low v) else gI s.low x:=λx a=>bY hum.1.1 (by omega) a
  have hxm:=hd.mem (p:=(x,Sx)) (by
    have:=List.mem_append.1 hin
    rcases this with k|k
    · exact List.mem_append_left _ k
    · rw[List.mem_singleton.1 k];simp)
  have hxv:gI s.place x<gI s.place v:=hvf.asc (x,Sx) hin
  refine {hold with own:=hown,eqb:=heqb,end_:=hend,cross:=λk hk a c d=>?_,l1:=λk hk hlk a c d=>?_,l2:=?_,l3:=λhlt=>?_}
  · by_cases j:aw g k=v
    · rw[j] at d;omega
    · refine hold.cross k hk a (λq=>c ?_) d
      have e1:(A0++[(u,U),(v,S)]).map Prod.fst=(A0++[(u,U)]).map Prod.fst++[v]:=by simp
      rw[e1,List.mem_append] at q
      exact q.resolve_right (λr=>j (by simpa using r))
  · obtain⟨y,hy,hy2⟩:=hold.l1 k hk hlk a c d
    have hlu:gI (s.low.set u.toNat (min (gI s.low u) (gI s.low v))) u=min (gI s.low u) (gI s.low v):=by rw[hlo u hum.1.1,if_pos rfl]
    have hy3:y∈x::B1.map Prod.fst\/y=v:=by
      simp only[List.map_append,List.mem_cons,List.mem_append,List.map_cons,List.map_nil] at hy ⊢
      rcases hy with r|r|r
      · exact .inl (.inl r)
      · exact .inl (.inr r)
      · exact .inr (r.resolve_right List.not_mem_nil)
    rw[hB]
    rcases hy3 with r|r
    · by_cases q:y=u
      · exact⟨u,hu,by rw[hlu,<-q];omega⟩
      · have:=(hd.se.pr y (by
          have:=hin2 y r
          rw[show(A0++[(u,U),(v,S)]).map Prod.fst=(A0++[(u,U)]).map Prod.fst++[v] by simp]
          exact List.mem_append_left _ this)).1.1
        exact⟨y,r,by rw[hlo y this,if_neg q];exact hy2⟩
    · exact⟨u,hu,by rw[hlu,<-r];omega⟩
  · rw[hlo x hxm.1.1]
    have:=hold.l2
    split
    · rename_i k;rw[<-k];omega
    · exact this
  · rw[hlo x hxm.1.1] at hlt ⊢
    by_cases k:x=u
    · rw[if_pos k] at hlt ⊢
      by_cases j:gI s.low u<=gI s.low v
      · rw[show min (gI s.low u) (gI s.low v)=gI s.low x by rw[k];omega] at hlt ⊢
        exact hold.l3 hlt
      · obtain⟨q,c1,c2,c3,c4⟩:=hvf.l3 (by omega)
        exact⟨q,c1,c2,by omega,by omega⟩
    · rw[if_neg k] at hlt ⊢
      exact hold.l3 hlt
end TL
/-
  TlCls6: a node left: its edges go to the one ahead, or are a block.
  By an AI agent.
-/
set_option linter.all false
namespace TL
variable{g:bK}{s:Bs}{fr:Fm}{path:List Int}{A B A0:Fm}{S U:List Int}{u v w e b h:Int}
theorem fx.ahead(hm:bg g)(hd:fx g s (A0++[(u,U),(v,S)])){k:Int}(hk:hf g k)(hlk:gI s.laid (k/2)=true)(h1:gI s.place v<=gI s.place (aw g k))(h2:gI s.place (b6 g k)<gI s.place v):b6 g k=u\/(b6 g k∈A0.map Prod.fst/\gI s.place (b6 g k)<gI s.place u):=by
  have hvf:=hd.fra (A0++[(u,U)]) v S [] (by simp)
  have huf:=hd.fra A0 u U [(v,S)] rfl
  obtain⟨t1,t2,t3,t4⟩:=dl (g:=g) hk
  have hp:b6 g k∈(A0++[(u,U),(v,S)]).map Prod.fst:=by
    by_cases c:b6 g k∈(A0++[(u,U),(v,S)]).map Prod.fst
    · exact c
    · have:=hvf.cross (dN k) t1 (by rw[t3];exact hd.lot hk hlk) (by rw[t3];exact c) (by rw[t3];exact h2)
      rw[t4] at this;omega
  simp only[List.map_append,List.map_cons,List.map_nil,List.mem_append,List.mem_cons] at hp
  rcases hp with c|c|c|c
  · refine .inr ⟨c,?_⟩
    obtain⟨p,hp,e⟩:=List.mem_map.1 c
    rw[<-e];exact huf.asc p hp
  · exact .inl c
  · rw[c] at h2;omega
  · exact absurd c List.not_mem_nil
theorem fx.offA(hm:bg g)(hd:fx g s (A0++[(u,U),(v,S)])){U2:List Int}{A B:Fm}{x:Int}{Sx:List Int}(he:A0++[(u,U2)]=A++(x,Sx)::B)
    (h2:(∀e∈U2,EqB g e (gI s.by_ u/2))/\(∀e∈U2,∃h,hf g h/\h/2=e/\gI s.place u<=gI s.place (aw g h))/\((A0=[]/\U2=[]/\gI s.by_ u= -1)\/(∃A' u' U' S',A0=A'++[(u',U')]/\U2=gI s.by_ u/2::S'/\aw g (gI s.by_ u)=u'/\0<=gI s.by_ u))):
    qo g s.place (s.low.set u.toNat (min (gI s.low u) (gI s.low v))) s.by_ s.laid ((A0++[(u,U2)]).map Prod.fst) A x Sx B:=by
  have hmap:(A0++[(u,U2)]).map Prod.fst=(A0++[(u,U)]).map Prod.fst:=by simp
  rw[hmap]
  rcases fL he with⟨k1,k2,k3⟩|⟨B0,k1,k2⟩
  · obtain⟨rfl,rfl⟩:x=u/\Sx=U2:=by simpa using k2
    subst k1 k3
    exact qo.off hm hd (B1:=[]) (Sx:=U) (hd.fra A x U [(v,S)] rfl) (by simp) (λy hy=>by
      have:y=x:=by simpa using hy
      rw[this];simp) (by simp) rfl h2.1 h2.2.1 h2.2.2
  · subst k2
    have hold:=hd.fra A x Sx (B0++[(u,U)]++[(v,S)]) (by rw[k1];simp)
    refine qo.off hm hd (B1:=B0++[(u,U)]) hold (by rw[k1];simp) (λy hy=>?_) (by simp) (by simp) hold.eqb hold.end_ hold.own
    rw[k1]
    simp only[List.map_append,List.map_cons,List.map_nil,List.mem_append,List.mem_cons] at hy ⊢
    rcases hy with r|r|r
    · exact .inl (.inr (.inl r))
    · exact .inl (.inr (.inr r))
    · exact .inr r
theorem fx.off1(hm:bg g)(hd:fx g s (A0++[(u,U),(v,S)]))(hc:gI s.low v<gI s.place u)
    (hse:dS g {s with low:=s.low.set u.toNat (min (gI s.low u) (gI s.low v))} ((A0++[(u,U++S)]).map Prod.fst)):
    fx g {s with low:=s.low.set u.toNat (min (gI s.low u) (gI s.low v))} (A0++[(u,U++S)]):=by
  have hvf:=hd.fra (A0++[(u,U)]) v S [] (by simp)
  have huf:=hd.fra A0 u U [(v,S)] rfl
  have hum:=hd.mem (p:=(u,U)) (by simp)
  have huv:gI s.place u<gI s.place v:=hvf.asc (u,U) (by simp)
  -- an edge from behind to one ahead of u
  obtain⟨k,k1,k2,k3,k4⟩:=hvf.l3 (by omega)
  have hka:=(hd.ahead hm k1 k2 k3 (by omega)).resolve_left (λj=>by rw[j] at k4;omega)
  obtain⟨q,Q,A',S',ha1,ha2,ha3,ha4⟩:∃q Q A' S',A0=A'++[(q,Q)]/\U=gI s.by_ u/2::S'/\aw g (gI s.by_ u)=q/\0<=gI s.by_ u:=by
    rcases huf.own with⟨j,_⟩|⟨A',q,Q,S',a,b,c,d⟩
    · rw[j] at hka;exact absurd hka.1 List.not_mem_nil
    · exact⟨q,Q,A',S',a,b,c,d⟩
  obtain⟨hb0,hb1⟩:0<=gI s.by_ v/\aw g (gI s.by_ v)=u:=by
    rcases hvf.own with⟨j,_⟩|⟨A2,u2,U2,S2,a,_,c,d⟩
    · simp at j
    · have:=(List.append_inj' a rfl).2
      have:u=u2:=by have:=(List.cons.inj this).1;exact congrArg Prod.fst this
      exact⟨d,by rw[c,this]⟩
  have hbv:=hd.to (v,S) (by simp) hb0
  have hbu:=hd.to (u,U) (by simp) ha4
  have huA:u∉A0.map Prod.fst:=λj=>by
    obtain⟨p,hp,e⟩:=List.mem_map.1 j
    have:=huf.asc p hp
    rw[e] at this;omega
  have hqA:q∈A0.map Prod.fst:=by rw[ha1];simp
  have hrel:EqB g (gI s.by_ v/2) (gI s.by_ u/2):=by
    obtain⟨b1,b2,b3,b4⟩:=dl (g:=g) hbu.1
    refine .rel ⟨gI s.by_ v,dN (gI s.by_ u),hbv.1,b1,rfl,b2,?_,?_,?_,?_⟩
    · rw[hb1,b3,hbu.2]
    · rw[hbv.2,hb1];exact(kZ huv).symm
    · rw[b4,b3,hbu.2,ha3];exact λj=>huA (by have j:q=u:=j;rw[<-j];exact hqA)
    · rw[hb1,hbv.2,b4,ha3]
      have w1:=(hvf.conn (aw g k) (c8 hm k1).1 (c8 hm k1).2 k3).mono (B:=λz=>z≠u) (λz hz j=>by rw[j] at hz;omega)
      have w2:=Wy.one (g:=g) (A:=λz=>z≠u) k1 w1.right (λj=>huA (by rw[<-j];exact hka.1))
      have w3:=(hd.wy (A:=A0) (B:=[(u,U),(v,S)]) rfl _ hka.1 _ hqA).mono (B:=λz=>z≠u) (λz hz j=>huA (by rw[<-j];exact hz))
      exact(w1.trans w2).trans w3
  refine⟨hse,?_,hd.inj,hd.lof,λA x Sx B he=>hd.offA hm he ⟨λy hy=>?_,λy hy=>?_,.inr ⟨A',q,Q,S'++S,ha1,by rw[ha2];rfl,ha3,ha4⟩⟩,hd.clr,hd.clb⟩
  · show s.edges=_
    rw[hd.stk];simp
  · rcases List.mem_append.1 hy with j|j
    · exact huf.eqb y j
    · exact(hvf.eqb y j).trans hrel
  · rcases List.mem_append.1 hy with j|j
    · exact huf.end_ y j
    · obtain⟨r,c1,c2,c3⟩:=hvf.end_ y j
      exact⟨r,c1,c2,by omega⟩
theorem fx.off2(hm:bg g)(hd:fx g s (A0++[(u,U),(v,S)]))(hu:l7 g s ((A0++[(u,U)]).map Prod.fst))(hc:gI s.place u<=gI s.low v)
    (hse:dS g (dE {s with low:=s.low.set u.toNat (min (gI s.low u) (gI s.low v))} (gI s.by_ v/2)) ((A0++[(u,U)]).map Prod.fst)):
    fx g (dE {s with low:=s.low.set u.toNat (min (gI s.low u) (gI s.low v))} (gI s.by_ v/2)) (A0++[(u,U)]):=by
  have hvf:=hd.fra (A0++[(u,U)]) v S [] (by simp)
  have huf:=hd.fra A0 u U [(v,S)] rfl
  have huv:gI s.place u<gI s.place v:=hvf.asc (u,U) (by simp)
  obtain⟨S',hS,hb0,hb1⟩:∃S',S=gI s.by_ v/2::S'/\0<=gI s.by_ v/\aw g (gI s.by_ v)=u:=by
    rcases hvf.own with⟨j,_⟩|⟨A2,u2,U2,S2,a,b,c,d⟩
    · simp at j
    · have:=(List.append_inj' a rfl).2
      have:u=u2:=by have:=(List.cons.inj this).1;exact congrArg Prod.fst this
      exact⟨S2,b,d,by rw[c,this]⟩
  have hbv:=hd.to (v,S) (by simp) hb0
  have hpre:s.edges=((A0++[(u,U)]).map Prod.snd).flatten++gI s.by_ v/2::S':=by rw[hd.stk,<-hS];simp
  rw[mY (s:={s with low:=s.low.set u.toNat (min (gI s.low u) (gI s.low v))}) hpre hd.se.en] at hse ⊢
  have hpre':s.edges=((A0++[(u,U)]).map Prod.snd).flatten++S:=by rw[hpre,hS]
  have hvout:v∉(A0++[(u,U)]).map Prod.fst:=λj=>by
    obtain⟨p,hp,e⟩:=List.mem_map.1 j
    have:=hvf.asc p hp
    rw[e] at this;omega
  -- nodes behind v are done
  have hT:∀k,hf g k->gI s.place v<=gI s.place (aw g k)->gI s.laid (k/2)=true:=λk hk a=>by
    refine hu.all hm hk (λj=>?_) (λj=>?_)
    · have h9:=(hd.mem (p:=(v,S)) (by simp))
      have h3:0<=gI s.place v:=(hd.se.pl v h9.1.1 h9.1.2).1
      have h4:gI s.place v≠0:=h9.2
      omega
    · obtain⟨p,hp,e⟩:=List.mem_map.1 j
      have:=hvf.asc p hp
      rw[e] at this;omega
  have hcl:=r7 (g:=g) (la:=s.laid) (ed:=s.edges) (bl:=s.block) (pre:=((A0++[(u,U)]).map Prod.snd).flatten) (P:=gI s.by_ v/2::S') (c:=s.count) hpre hd.se.en hd.se.el hd.se.l6 hd.se.ct hd.clr hd.clb (λhin hle=>.inr ⟨λz=>(0<=z/\z<g.1)/\gI s.place v<=gI s.place z,u,λk=>by have:=k.2;omega,λk hk ht=>?_,λx hx hb=>?_,λx y hx hy hbx hby=>?_⟩)
  · refine⟨hse,rfl,hd.inj,hd.lof,λA x Sx B he=>hd.offA hm he ⟨huf.eqb,huf.end_,huf.own⟩,hcl.1,hcl.2⟩
  · have hlk:=hT k hk ht.2
    have hclo:jN g s.laid ((A0++[(u,U)]).map Prod.snd).flatten (k/2):=by
      refine⟨⟨fM hk,eP hk⟩,hlk,λj=>?_⟩
      obtain⟨l,hl,hkl⟩:=List.mem_flatten.1 j
      obtain⟨p,hp,rfl⟩:=List.mem_map.1 hl
      have:=hvf.low p hp _ hkl k hk rfl
      have:=ht.2
      omega
    refine⟨?_,hclo,hle _ hclo⟩
    by_cases c:gI s.place v<=gI s.place (b6 g k)
    · exact .inl ⟨di hm hk,c⟩
    · by_cases d:k/2=gI s.by_ v/2
      · rcases eI hk.1 hbv.1.1 d with r|r
        · rw[r,hbv.2] at c;exact absurd (Int.le_refl _) c
        · obtain⟨_,_,_,t4⟩:=dl (g:=g) hbv.1
          rw[r,t4];exact .inr hb1
      · obtain⟨y,hy,hy2⟩:=hvf.l1 k hk hlk ht.2 (by omega) d
        have:y=v:=by simpa using hy
        rw[this] at hy2
        rcases hd.ahead hm hk hlk ht.2 (by omega) with r|⟨_,r⟩
        · exact .inr r
        · omega
  · have:=hin x hx hb
    rw[<-hS] at this
    obtain⟨k,c1,c2,c3⟩:=hvf.end_ x this
    exact⟨k,c1,c2,c8 hm c1,c3⟩
  · have h1:=hin x hx hbx
    have h2:=hin y hy hby
    rw[<-hS] at h1 h2
    exact(hvf.eqb x h1).trans (hvf.eqb y h2).symm
end TL
/-
  TlCls7: the walk as a whole.
  By an AI agent.
-/
set_option linter.all false
namespace TL
variable{g:bK}{s:Bs}{fr:Fm}{path:List Int}{A B A0:Fm}{S U:List Int}{u v w e b h:Int}
theorem pz(hne:fr≠[]):∃A0 v S,fr=A0++[(v,S)]/\gI (fr.map Prod.fst) (((fr.map Prod.fst).length:Int)-1)=v:=by
 refine⟨fr.dropLast,(fr.getLast hne).1,(fr.getLast hne).2,(List.dropLast_concat_getLast hne).symm,?_⟩
 have h1:fr=fr.dropLast++[fr.getLast hne]:=(List.dropLast_concat_getLast hne).symm
 generalize fr.dropLast=X at h1
 generalize fr.getLast hne=p at h1 ⊢
 subst h1
 have e1:(((X++[p]).map Prod.fst).length:Int)-1=((X.length:Nat):Int):=by simp
 rw[e1]
 simp[gI]
theorem kH:(dj g s v).laid=s.laid:=by
 unfold dj;split
 · rfl
 · simp only;split<;>rfl
theorem hU:(dj g s v).place=s.place:=by
 unfold dj;split
 · rfl
 · simp only;split<;>rfl
theorem l7.leave(h:l7 g s (path++[v]))(hn:gI s.next v=((gI (am g) v).length:Int)):l7 g s path/\l7 g (dj g s v) path:=by
 have h1:l7 g s path:=⟨h.use,λx x0 x1 hx hxp=>by
   by_cases c:x=v
   · rw[c];exact hn
   · exact h.exh x x0 x1 hx (λk=>(List.mem_append.1 k).elim hxp (λj=>c (List.mem_singleton.1 j)))⟩
 refine⟨h1,⟨λx x0 x1 j j0 j1=>?_,λx x0 x1 hx hxp=>?_⟩⟩
 · rw[kH];rw[im] at j1;exact h1.use x x0 x1 j j0 j1
 · rw[im];rw[hU] at hx;exact h1.exh x x0 x1 hx hxp
theorem l7.take{s':Bs}{path':List Int}(hu:l7 g s path)(hse:dS g s path)(u0:0<=u)(u1:u<g.1)(hup:u∈path)(hh:gI (gI (am g) u) (gI s.next u)=h)(hnx:s'.next=s.next.set u.toNat (gI s.next u+1))(hla:∀e,0<=e->e<(g.2.length:Int)->gI s.laid e=true->gI s'.laid e=true)(hlh:gI s'.laid (h/2)=true)(hin:∀x,0<=x->x<g.1->∀j:Int,0<=j->j<((gI (am g) x).length:Int)->0<=gI (gI (am g) x) j/2/\gI (gI (am g) x) j/2<(g.2.length:Int))
    (hp:∀x∈path,x∈path')(hpl:∀x,0<=x->x<g.1->gI s'.place x≠0->gI s.place x≠0\/x∈path'):l7 g s' path':=by
  have hl4:=hse.l4
  have hnn:∀x,0<=x->gI s'.next x=if x=u then gI s.next u+1 else gI s.next x:=λx a=>by rw[hnx];exact bY u0 (by omega) a
  refine⟨λx x0 x1 j j0 j1=>?_,λx x0 x1 hx hxp=>?_⟩
  · rw[hnn x x0] at j1
    have hold:∀x,0<=x->x<g.1->∀j:Int,0<=j->j<gI s.next x->gI s'.laid (gI (gI (am g) x) j/2)=true:=λx x0 x1 j j0 j1=>by
      have:=hse.nx x x0 x1
      obtain⟨a,c⟩:=hin x x0 x1 j j0 (by omega)
      exact hla _ a c (hu.use x x0 x1 j j0 j1)
    by_cases c:x=u
    · rw[if_pos c] at j1
      by_cases d:j=gI s.next u
      · rw[c,d,hh];exact hlh
      · exact hold x x0 x1 j j0 (by rw[c];omega)
    · rw[if_neg c] at j1
      exact hold x x0 x1 j j0 j1
  · rcases hpl x x0 x1 hx with k|k
    · have hne:x≠u:=λj=>hxp (hp x (by rw[j];exact hup))
      rw[hnn x x0,if_neg hne]
      exact hu.exh x x0 x1 k (λj=>hxp (hp x j))
    · exact absurd k hxp
theorem gP{x j:Int}(x0:0<=x)(x1:x<g.1)(j0:0<=j)(j1:j<((gI (am g) x).length:Int)):hf g (gI (gI (am g) x) j)/\aw g (gI (gI (am g) x) j)=x:=by
 have hin:gI (gI (am g) x) j∈gI (am g) x:=bP j0 j1
 rw[dL x0 x1] at hin ⊢
 exact cJ hin
theorem qJ(hm:bg g)(hd:fx g s fr)(hu:l7 g s (fr.map Prod.fst))(hne:fr≠[])(hv:v=gI (fr.map Prod.fst) (((fr.map Prod.fst).length:Int)-1)):
   ∃fr',fr'.map Prod.fst=(dc g s (fr.map Prod.fst) v).2/\fx g (dc g s (fr.map Prod.fst) v).1 fr'/\l7 g (dc g s (fr.map Prod.fst) v).1 (dc g s (fr.map Prod.fst) v).2:=by
 have hpne:fr.map Prod.fst≠[]:=λk=>hne (List.map_eq_nil_iff.1 k)
 have hse:=hd.se.step hm hpne hv
 obtain⟨A0,v',S,rfl,hv'⟩:=pz hne
 have:v'=v:=by rw[hv];exact hv'.symm
 subst this
 clear hv hv'
 have hvm:(0<=v'/\v'<g.1)/\gI s.place v'≠0:=hd.mem (p:=(v',S)) (by simp)
 have hmap:(A0++[(v',S)]).map Prod.fst=A0.map Prod.fst++[v']:=by simp
 have hl2:=hd.se.l2
 have hl5:=hd.se.l5
 have hlast:=hd.fra A0 v' S [] rfl
 by_cases hn:gI s.next v'=((gI (am g) v').length:Int)
 · -- left
   have hst:dc g s ((A0++[(v',S)]).map Prod.fst) v'=(dj g s v',A0.map Prod.fst):=by
     unfold dc;rw[if_pos hn,hmap,List.dropLast_concat]
   rw[hst] at hse ⊢
   rw[hmap] at hu
   obtain⟨hu1,hu2⟩:=hu.leave hn
   by_cases hb:gI s.by_ v'<0
   · have hlv:dj g s v'=s:=by unfold dj;rw[if_pos hb]
     rcases hlast.own with⟨k1,k2,_⟩|⟨A',q,Q,S',_,_,_,k4⟩
     · subst k1 k2
       rw[hlv] at hse ⊢
       exact⟨[],rfl,hd.off0 hse,by rw[hlv] at hu2;exact hu2⟩
     · omega
   · obtain⟨A',q,Q,S',k1,k2,k3,k4⟩:=hlast.own.resolve_left (λk=>by omega)
     subst k1
     have hq:=hd.mem (p:=(q,Q)) (by simp)
     have hqv:gI s.place q<gI s.place v':=hlast.asc (q,Q) (by simp)
     have hqn:v'≠q:=(kZ hqv).symm
     have hlow:gI (s.low.set q.toNat (min (gI s.low q) (gI s.low v'))) v'=gI s.low v':=by
       rw[bY hq.1.1 (by omega) hvm.1.1,if_neg hqn]
     have hd':fx g s (A'++[(q,Q),(v',S)]):=by simpa using hd
     have hm2:(A'++[(q,Q)]).map Prod.fst=A'.map Prod.fst++[q]:=by simp
     by_cases hc:gI s.place q<=gI s.low v'
     · have hlv:dj g s v'=dE {s with low:=s.low.set q.toNat (min (gI s.low q) (gI s.low v'))} (gI s.by_ v'/2):=by
         unfold dj;rw[if_neg hb];simp only[k3];rw[if_pos (by rw[hlow];exact hc)]
       rw[hlv] at hse hu2 ⊢
       exact⟨A'++[(q,Q)],rfl,hd'.off2 hm hu1 hc hse,hu2⟩
     · have hlv:dj g s v'={s with low:=s.low.set q.toNat (min (gI s.low q) (gI s.low v'))}:=by
         unfold dj;rw[if_neg hb];simp only[k3];rw[if_neg (by rw[hlow];exact hc)]
       rw[hlv] at hse hu2 ⊢
       refine⟨A'++[(q,Q++S)],by simp,hd'.off1 hm (by omega) (by rw[show(A'++[(q,Q++S)]).map Prod.fst=(A'++[(q,Q)]).map Prod.fst by simp];exact hse),hu2⟩
 · -- a half-edge more
   obtain⟨n0,n1⟩:=hd.se.nx v' hvm.1.1 hvm.1.2
   have n1':gI s.next v'<=((gI (am g) v').length:Int):=n1
   obtain⟨hh,hfv⟩:=gP hvm.1.1 hvm.1.2 n0 (by omega)
   generalize hhe:gI (gI (am g) v') (gI s.next v')=h at hh hfv
   have hd1:=hd.nexts hvm.1.1 hvm.1.2 hn
   have e0:=fM hh
   have e1:=eP hh
   have hvp:v'∈(A0++[(v',S)]).map Prod.fst:=by simp
   have hin:∀x,0<=x->x<g.1->∀j:Int,0<=j->j<((gI (am g) x).length:Int)->0<=gI (gI (am g) x) j/2/\gI (gI (am g) x) j/2<(g.2.length:Int):=λx x0 x1 j j0 j1=>⟨fM (gP x0 x1 j0 j1).1,eP (gP x0 x1 j0 j1).1⟩
   have hlam:∀e,0<=e->e<(g.2.length:Int)->gI s.laid e=true->gI (s.laid.set (h/2).toNat true) e=true:=λe a c d=>by
     rw[cS e0 (by omega) a];split
     · rfl
     · exact d
   have hlah:gI (s.laid.set (h/2).toNat true) (h/2)=true:=by rw[cS e0 (by omega) e0,if_pos rfl]
   have hst:dc g s ((A0++[(v',S)]).map Prod.fst) v'=((dI g {s with next:=s.next.set v'.toNat (gI s.next v'+1)} v' h).1,if(dI g {s with next:=s.next.set v'.toNat (gI s.next v'+1)} v' h).2.2=true then(A0++[(v',S)]).map Prod.fst++[(dI g {s with next:=s.next.set v'.toNat (gI s.next v'+1)} v' h).2.1] else(A0++[(v',S)]).map Prod.fst):=by
     unfold dc;rw[if_neg hn,hhe]
   by_cases hl:gI s.laid (h/2)=true
   · have ht:dI g {s with next:=s.next.set v'.toNat (gI s.next v'+1)} v' h=({s with next:=s.next.set v'.toNat (gI s.next v'+1)},0,false):=by unfold dI;rw[if_pos hl]
     rw[hst,ht]
     exact⟨_,rfl,hd1,hu.take hd.se hvm.1.1 hvm.1.2 hvp hhe rfl (λe _ _ d=>d) hl hin (λx hx=>hx) (λx _ _ k=>.inl k)⟩
   · by_cases hw:b6 g h=v'
     · have ht:dI g {s with next:=s.next.set v'.toNat (gI s.next v'+1)} v' h=(dE (gx {s with next:=s.next.set v'.toNat (gI s.next v'+1)} (h/2)) (h/2),0,false):=by unfold dI;rw[if_neg hl,if_pos hw]
       rw[hst,ht] at hse ⊢
       exact⟨_,rfl,hd1.loop hm hh hl (by rw[hfv];exact hvm.2) (by rw[hw,hfv]) hse,hu.take hd.se hvm.1.1 hvm.1.2 hvp hhe rfl hlam hlah hin (λx hx=>hx) (λx _ _ k=>.inl k)⟩
     · by_cases hp:gI s.place (b6 g h)=0
       · have ht:dI g {s with next:=s.next.set v'.toNat (gI s.next v'+1)} v' h=(f4 {gx {s with next:=s.next.set v'.toNat (gI s.next v'+1)} (h/2) with by_:=s.by_.set (b6 g h).toNat h} (b6 g h),b6 g h,true):=by unfold dI;rw[if_neg hl,if_neg hw,if_pos hp]
         rw[hst,ht] at hse ⊢
         have hse':dS g (f4 {gx {s with next:=s.next.set v'.toNat (gI s.next v'+1)} (h/2) with by_:=s.by_.set (b6 g h).toNat h} (b6 g h)) ((A0++[(v',S)]++[(b6 g h,[h/2])]).map Prod.fst):=by
           rw[List.map_append];exact hse
         refine⟨A0++[(v',S)]++[(b6 g h,[h/2])],by rw[List.map_append];rfl,?_,?_⟩
         · exact hd1.new hm (λk hk a c=>hu.all hm hk a c) hh hfv hl hp hse'
         · obtain⟨w0,w1⟩:=di hm hh
           have hl1:=hd.se.l1
           refine hu.take hd.se hvm.1.1 hvm.1.2 hvp hhe rfl hlam hlah hin (λx hx=>List.mem_append_left _ hx) (λx x0 x1 k=>?_)
           by_cases c:x=b6 g h
           · exact .inr (by rw[c];simp)
           · have k:gI (s.place.set (b6 g h).toNat (s.found+1)) x≠0:=k
             rw[bY w0 (by omega) x0,if_neg c] at k
             exact .inl k
       · have ht:dI g {s with next:=s.next.set v'.toNat (gI s.next v'+1)} v' h=({gx {s with next:=s.next.set v'.toNat (gI s.next v'+1)} (h/2) with low:=s.low.set v'.toNat (min (gI s.low v') (gI s.place (b6 g h)))},0,false):=by unfold dI;rw[if_neg hl,if_neg hw,if_neg hp]
         rw[hst,ht] at hse ⊢
         have hse':dS g {gx {s with next:=s.next.set v'.toNat (gI s.next v'+1)} (h/2) with low:=s.low.set v'.toNat (min (gI s.low v') (gI s.place (b6 g h)))} ((A0++[(v',S++[h/2])]).map Prod.fst):=by
           rw[show(A0++[(v',S++[h/2])]).map Prod.fst=(A0++[(v',S)]).map Prod.fst by simp];exact hse
         refine⟨A0++[(v',S++[h/2])],by simp,?_,?_⟩
         · exact hd1.back hm (λk hk a c=>hu.all hm hk a c) hh hfv hl hw hp hse'
         · exact hu.take hd.se hvm.1.1 hvm.1.2 hvp hhe rfl hlam hlah hin (λx hx=>hx) (λx _ _ k=>.inl k)
end TL
/-
  TlCls8: what the blocks of a net are: edges are in one block just if a chain of edges joins them, each two at a node whose other ends are joined without it.
  By an AI agent.
-/
set_option linter.all false
namespace TL
variable{g:bK}{s:Bs}{fr:Fm}{path:List Int}{u v w e f b h x:Int}
theorem nO(hx:gI s.place x≠0)(hs:dS g s path)(x0:0<=x)(hm:bg g)(hp:path≠[])(hu:u=gI path ((path.length:Int)-1)):gI (dc g s path u).1.place x≠0:=by
 unfold dc
 split
 · rw[hU];exact hx
 · rename_i hn
   simp only
   unfold dI
   split
   · exact hx
   · split
     · exact hx
     · split
       · rename_i c
         have hup:=hs.pr u (by rw[hu,ic hp];simp[gI])
         obtain⟨n0,n1⟩:=hs.nx u hup.1.1 hup.1.2
         have n1':gI s.next u<=((gI (am g) u).length:Int):=n1
         obtain⟨hh,_⟩:=gP hup.1.1 hup.1.2 n0 (by omega)
         obtain⟨w0,w1⟩:=di hm hh
         have hl:=hs.l1
         have hf:=hs.f0
         show gI (s.place.set _ (s.found+1)) x≠0
         rw[bY w0 (by omega) x0]
         split
         · omega
         · exact hx
       · exact hx
theorem uR(hm:bg g):∀(n:Nat) (s:Bs) (fr:Fm),fx g s fr->l7 g s (fr.map Prod.fst)->bO g s (fr.map Prod.fst)<=n->
   fx g (o1 g n s (fr.map Prod.fst)) []/\l7 g (o1 g n s (fr.map Prod.fst)) []/\∀x,0<=x->gI s.place x≠0->gI (o1 g n s (fr.map Prod.fst)).place x≠0
 |0,s,fr,hd,hu,hl=>by
   have:fr.map Prod.fst=[]:=List.length_eq_zero_iff.1 (by unfold bO at hl;omega)
   have:fr=[]:=List.map_eq_nil_iff.1 this
   subst this
   exact⟨hd,hu,λx _ h=>h⟩
 |n+1,s,fr,hd,hu,hl=>by
   by_cases c:fr=[]
   · subst c
     unfold o1
     exact⟨hd,hu,λx _ h=>h⟩
   · have hp:fr.map Prod.fst≠[]:=λk=>c (List.map_eq_nil_iff.1 k)
     obtain⟨fr',h1,h2,h3⟩:=qJ hm hd hu c rfl
     have hless:=hZ hd.se hp rfl
     unfold o1
     rw[if_neg hp,<-h1]
     rw[<-h1] at h3 hless
     obtain⟨a1,a2,a3⟩:=uR hm n _ fr' h2 h3 (by omega)
     exact⟨a1,a2,λx x0 hx=>a3 x x0 (nO hx hd.se x0 hm hp rfl)⟩
theorem l7.begin_(hu:l7 g s [])(hse:dS g s [])(v0:0<=v)(v1:v<g.1):l7 g (f4 s v) [v]:=by
 have hl:=hse.l1
 refine⟨hu.use,λx x0 x1 hx hxp=>?_⟩
 have hx:gI (s.place.set v.toNat (s.found+1)) x≠0:=hx
 have hne:x≠v:=λk=>hxp (by rw[k];simp)
 rw[bY v0 (by omega) x0,if_neg hne] at hx
 exact hu.exh x x0 x1 hx (by simp)
theorem kE(hm:bg g):∀k:Nat,(k:Int)<=g.1->fx g (cM g k) []/\l7 g (cM g k) []/\∀v:Int,0<=v->v<k->gI (cM g k).place v≠0
 |0,hk=>by
   have h0:=hm.1
   have r0:∀{x:Int} {v:Int},0<=v->v<g.1->gI (List.replicate g.1.toNat x) v=x:=λa b=>kr a (by omega)
   have rb:∀{v:Int},0<=v->v<(g.2.length:Int)->gI (List.replicate g.2.length false) v=false:=λ {v} a b=>by
     obtain⟨k,rfl⟩:∃k:Nat,v=(k:Int):=⟨v.toNat,by omega⟩
     have:k<g.2.length:=by omega
     simp[gI,this]
   have hse:dS g (gc g) []:=dS.start hm
   refine⟨⟨hse,rfl,λx y x0 x1 y0 y1 hx _=>absurd (r0 x0 x1) hx,λk hk hl=>?_,λA v S B he=>?_,λe he=>?_,λb b0 b1=>?_⟩,⟨λx x0 x1 j j0 j1=>?_,λx x0 x1 hx _=>absurd (r0 x0 x1) hx⟩,λv v0 v1=>by omega⟩
   · have hl:gI (List.replicate g.2.length false) (k/2)=true:=hl
     rw[rb (fM hk) (eP hk)] at hl;cases hl
   · simp at he
   · have hl:gI (List.replicate g.2.length false) e=true:=he.2.1
     rw[rb he.1.1 he.1.2] at hl;cases hl
   · have b1:b<0:=b1
     omega
   · have j1:j<gI (List.replicate g.1.toNat (0:Int)) x:=j1
     rw[r0 x0 x1] at j1;omega
 |k+1,hk=>by
   obtain⟨h1,h2,h3⟩:=kE hm k (by omega)
   rw[gk]
   by_cases c:gI (cM g k).place (k:Int)=0
   · rw[if_pos c]
     have hse:=h1.se.first (v:=(k:Int)) (by omega) (by omega) c
     have hd:=h1.begin_ hm h2 (by omega) (by omega) c hse
     have hu:=h2.begin_ (v:=(k:Int)) h1.se (by omega) (by omega)
     obtain⟨a1,a2,a3⟩:=uR hm _ (f4 (cM g k) k) [((k:Int),[])] hd hu (Nat.le_refl _)
     refine⟨a1,a2,λv v0 v1=>a3 v v0 ?_⟩
     have hl:=h1.se.l1
     have hf:=h1.se.f0
     show gI ((cM g k).place.set _ ((cM g k).found+1)) v≠0
     rw[bY (by omega) (by omega) v0]
     split
     · omega
     · exact h3 v v0 (by omega)
   · rw[if_neg c]
     refine⟨h1,h2,λv v0 v1=>?_⟩
     by_cases d:v=(k:Int)
     · rw[d];exact c
     · exact h3 v v0 (by omega)
theorem ki(hm:bg g)(e0:0<=e)(e1:e<(g.2.length:Int)):jN g (cM g g.1.toNat).laid (cM g g.1.toNat).edges e:=by
  have h0:=hm.1
  obtain⟨h1,h2,h3⟩:=kE hm g.1.toNat (by omega)
  have hed:(cM g g.1.toNat).edges=[]:=h1.stk
  refine⟨⟨e0,e1⟩,?_,by rw[hed];simp⟩
  have hh:hf g (2*e):=⟨by omega,by omega⟩
  obtain⟨f0,f1⟩:=c8 hm hh
  have:=h2.all hm hh (h3 _ f0 (by omega)) (by simp)
  rwa[show 2*e/2=e by omega] at this
def kY(g:bK)(e:Int):Int:=gI (cM g g.1.toNat).block e
theorem pZ{k:Int}(hk:hf g k)(he:k/2=e)(hl:(gI g.2 e).1=(gI g.2 e).2):b6 g k=aw g k:=by
 unfold b6 aw
 rw[he]
 have h2:k%2=0\/k%2=1:=by omega
 rcases h2 with q|q
 · rw[q];exact hl.symm
 · rw[q];exact hl
theorem qK(hm:bg g)(hr:jY g e f):kY g f<=kY g e:=by
 have h0:=hm.1
 obtain⟨h,k,hh,hk,he,hkf,hx,hne,hnk,hw⟩:=hr
 obtain⟨h1,h2,h3⟩:=kE hm g.1.toNat (by omega)
 have hce:=ki hm (e:=e) (by rw[<-he];exact fM hh) (by rw[<-he];exact eP hh)
 obtain⟨c0,c1⟩:=h1.clr e hce
 rcases h1.clb _ c0 c1 with⟨e0,l1,l2⟩|⟨T,u,t1,t2,t3,t4⟩
 · have:=l2 e hce rfl
   rw[<-this] at l1
   exact absurd (pZ hh he l1) hne
 · obtain⟨h',q1,q2,q3⟩:=t3 e hce rfl
   by_cases c:T (aw g h)
   · have:=(t2 k hk (by rw[<-hx];exact c)).2.2
     rw[hkf] at this;exact this
   · obtain⟨a1,a2,a3,a4⟩:=dl (g:=g) hh
     have hq:h'=dN h:=by
       rcases eI q1.1 hh.1 (by rw[q2,he]) with r|r
       · rw[r] at q3;exact absurd q3 c
       · exact r
     rw[hq,a3] at q3
     have hxu:aw g h=u:=by
       have:=(t2 (dN h) a1 (by rw[a3];exact q3)).1
       rw[a4] at this
       exact this.resolve_left c
     have key:∀y,Wy g (λz=>z≠aw g h) (b6 g h) y->T y:=by
       intro y hy
       generalize hz:b6 g h=z0 at hy q3
       clear hw
       induction hy with
       |refl _=>exact q3
       |step p1 p2 p3 ih=>
         have:=(t2 _ p2 ih).1
         exact this.resolve_right (λr=>p3 (by rw[hxu];exact r))
     obtain⟨b1,b2,b3,b4⟩:=dl (g:=g) hk
     have:=(t2 (dN k) b1 (by rw[b3];exact key _ hw)).2.2
     rw[b2,hkf] at this;exact this
theorem jY.symm(hr:jY g e f):jY g f e:=by
 obtain⟨h,k,hh,hk,he,hkf,hx,hne,hnk,hw⟩:=hr
 exact⟨k,h,hk,hh,hkf,he,hx.symm,hnk,hne,by rw[<-hx];exact hw.symm⟩
theorem sM(hm:bg g)(hr:jY g e f):kY g e=kY g f:=Int.le_antisymm (qK hm hr.symm) (qK hm hr)
theorem sf(hm:bg g)(hr:EqB g e f):kY g e=kY g f:=by
 induction hr with
 |refl=>rfl
 |rel h=>exact sM hm h
 |symm _ ih=>exact ih.symm
 |trans _ _ i1 i2=>exact i1.trans i2
theorem sS(hm:bg g)(e0:0<=e)(e1:e<(g.2.length:Int))(f0:0<=f)(f1:f<(g.2.length:Int))(h:kY g e=kY g f):EqB g e f:=by
  have h0:=hm.1
  obtain⟨h1,h2,h3⟩:=kE hm g.1.toNat (by omega)
  have hce:=ki hm e0 e1
  have hcf:=ki hm f0 f1
  obtain⟨c0,c1⟩:=h1.clr e hce
  rcases h1.clb _ c0 c1 with⟨q,_,l2⟩|⟨T,u,t1,t2,t3,t4⟩
  · rw[l2 e hce rfl,l2 f hcf h.symm];exact .refl _
  · exact t4 e f hce hcf rfl h.symm
end TL
/-
  TlJoin: an edge more within a component: what becomes of blocks.
  By an AI agent.
-/
set_option linter.all false
namespace TL
variable{g:bK}{u v w x y z h k e f:Int}{A B:Int->Prop}
def ft(g:bK)(u v:Int):bK:=(g.1,g.2++[(u,v)])
theorem iH:((ft g u v).2.length:Int)=(g.2.length:Int)+1:=by simp[ft]
theorem kV{α:Type}[Inhabited α]{l:List α}{a:α}{i:Int}(h1:i<(l.length:Int))(h0:0<=i):gI (l++[a]) i=gI l i:=by
 have h:i.toNat<l.length:=by omega
 simp[gI,List.getElem?_append_left h]
theorem kv{α:Type}[Inhabited α]{l:List α}{a:α}:gI (l++[a]) (l.length:Int)=a:=by simp[gI]
theorem ru(hk:hf g k):hf (ft g u v) k/\aw (ft g u v) k=aw g k/\b6 (ft g u v) k=b6 g k:=by
 have h2:=hk.2
 have h1:=hk.1
 have e:gI (ft g u v).2 (k/2)=gI g.2 (k/2):=kV (by omega) (by omega)
 refine⟨⟨h1,by rw[iH];omega⟩,?_,?_⟩
 · unfold aw;rw[e]
 · unfold b6;rw[e]
theorem pK:hf (ft g u v) (2*(g.2.length:Int))/\aw (ft g u v) (2*(g.2.length:Int))=u/\b6 (ft g u v) (2*(g.2.length:Int))=v:=by
 have e:gI (ft g u v).2 (2*(g.2.length:Int)/2)=(u,v):=by
   rw[show 2*(g.2.length:Int)/2=(g.2.length:Int) by omega];exact kv
 refine⟨⟨by omega,by rw[iH];omega⟩,?_,?_⟩
 · unfold aw;rw[e,show 2*(g.2.length:Int)%2=0 by omega];rfl
 · unfold b6;rw[e,show 2*(g.2.length:Int)%2=0 by omega];rfl
theorem qh:hf (ft g u v) (2*(g.2.length:Int)+1)/\aw (ft g u v) (2*(g.2.length:Int)+1)=v/\b6 (ft g u v) (2*(g.2.length:Int)+1)=u:=by
 have e:gI (ft g u v).2 ((2*(g.2.length:Int)+1)/2)=(u,v):=by
   rw[show(2*(g.2.length:Int)+1)/2=(g.2.length:Int) by omega];exact kv
 refine⟨⟨by omega,by rw[iH];omega⟩,?_,?_⟩
 · unfold aw;rw[e,show(2*(g.2.length:Int)+1)%2=1 by omega];rfl
 · unfold b6;rw[e,show(2*(g.2.length:Int)+1)%2=1 by omega];rfl
theorem nY(hk:hf (ft g u v) k):hf g k\/k=2*(g.2.length:Int)\/k=2*(g.2.length:Int)+1:=by
 have h1:=hk.1
 have h2:=hk.2
 rw[iH] at h2
 by_cases c:k<2*(g.2.length:Int)
 · exact .inl ⟨h1,c⟩
 · right;omega
theorem Wy.split(hw:Wy (ft g u v) A x y):Wy g A x y\/(A u/\A v/\((Wy g A x u/\Wy g A v y)\/(Wy g A x v/\Wy g A u y))):=by
  induction hw with
  |refl a=>exact .inl (.refl a)
  |step p q r ih=>
    rename_i k
    rcases nY q with c|c|c
    · obtain⟨_,b1,b2⟩:=ru (u:=u) (v:=v) c
      rw[b1] at ih
      rw[b2] at r ⊢
      rcases ih with d|⟨a1,a2,d|d⟩
      · exact .inl (.step d c r)
      · exact .inr ⟨a1,a2,.inl ⟨d.1,.step d.2 c r⟩⟩
      · exact .inr ⟨a1,a2,.inr ⟨d.1,.step d.2 c r⟩⟩
    · obtain⟨_,b1,b2⟩:=pK (g:=g) (u:=u) (v:=v)
      subst c
      rw[b1] at ih
      rw[b2] at r ⊢
      rcases ih with d|⟨a1,a2,d|d⟩
      · exact .inr ⟨d.right,r,.inl ⟨d,.refl r⟩⟩
      · exact .inl (d.1.trans d.2.symm)
      · exact .inl d.1
    · obtain⟨_,b1,b2⟩:=qh (g:=g) (u:=u) (v:=v)
      subst c
      rw[b1] at ih
      rw[b2] at r ⊢
      rcases ih with d|⟨a1,a2,d|d⟩
      · exact .inr ⟨r,d.right,.inr ⟨d,.refl r⟩⟩
      · exact .inl d.1
      · exact .inl (d.1.trans d.2.symm)
end TL
/-
  TlJoin3: numbers of blocks; the law on an edge more.
  By an AI agent.
-/
set_option linter.all false
namespace TL
variable{g:bK}{u v w s x e f i k:Int}{by_ far:List Int}{O:Int->Prop}
theorem i5(l:List Int):∀n (i:Nat),i<n->gI (aK l n).2 (i:Int)=((aK l n).1.idxOf (gI l (i:Int)):Int)/\gI l (i:Int)∈(aK l n).1
 |0,i,h=>by omega
 |n+1,i,h=>by
   have hl:=(hX l n).1
   unfold aK
   simp only
   by_cases c:i=n
   · subst c
     refine⟨?_,?_⟩
     · have:gI ((aK l i).2++[((List.idxOf (gI l (i:Int)) (if gI l (i:Int)∈(aK l i).1 then(aK l i).1 else(aK l i).1++[gI l (i:Int)]):Nat):Int)]) (i:Int)=((List.idxOf (gI l (i:Int)) (if gI l (i:Int)∈(aK l i).1 then(aK l i).1 else(aK l i).1++[gI l (i:Int)]):Nat):Int):=by
         have h2:=kv (l:=(aK l i).2) (a:=((List.idxOf (gI l (i:Int)) (if gI l (i:Int)∈(aK l i).1 then(aK l i).1 else(aK l i).1++[gI l (i:Int)]):Nat):Int))
         rwa[hl] at h2
       exact this
     · split
       · assumption
       · simp
   · obtain⟨h1,h2⟩:=i5 l n i (by omega)
     have h3:gI ((aK l n).2++[((List.idxOf (gI l (n:Int)) (if gI l (n:Int)∈(aK l n).1 then(aK l n).1 else(aK l n).1++[gI l (n:Int)]):Nat):Int)]) (i:Int)=gI (aK l n).2 (i:Int):=kV (by omega) (by omega)
     rw[h3,h1]
     split
     · exact⟨rfl,h2⟩
     · refine⟨?_,List.mem_append_left _ h2⟩
       rw[List.idxOf_append,if_pos h2]
theorem tl(e0:0<=e)(e1:e<(g.2.length:Int))(f0:0<=f)(f1:f<(g.2.length:Int)):gI (dq g) e=gI (dq g) f↔kY g e=kY g f:=by
  obtain⟨a,rfl⟩:∃a:Nat,e=(a:Int):=⟨e.toNat,by omega⟩
  obtain⟨b,rfl⟩:∃b:Nat,f=(b:Int):=⟨f.toNat,by omega⟩
  obtain⟨h1,h2⟩:=i5 (cM g g.1.toNat).block g.2.length a (by omega)
  obtain⟨h3,h4⟩:=i5 (cM g g.1.toNat).block g.2.length b (by omega)
  unfold dq kY
  rw[h1,h3]
  constructor
  · intro h
    have h:List.idxOf (gI (cM g g.1.toNat).block (a:Int)) (aK (cM g g.1.toNat).block g.2.length).1=List.idxOf (gI (cM g g.1.toNat).block (b:Int)) (aK (cM g g.1.toNat).block g.2.length).1:=by omega
    have k1:=List.getElem_idxOf (List.idxOf_lt_length_of_mem h2)
    have k2:=List.getElem_idxOf (List.idxOf_lt_length_of_mem h4)
    rw[<-k1,<-k2]
    simp only[h]
  · intro h;rw[h]
theorem m8(hm:bg g)(e0:0<=e)(e1:e<(g.2.length:Int))(f0:0<=f)(f1:f<(g.2.length:Int)):gI (dq g) e=gI (dq g) f↔EqB g e f:=by
  rw[tl e0 e1 f0 f1]
  exact⟨sS hm e0 e1 f0 f1,sf hm⟩
end TL
/-
  TlKap: edges of one block, a node taken out: what is left of them stays joined.
  By an AI agent.
-/
set_option linter.all false
namespace TL
variable{g:bK}{e f x y z:Int}
def ko(g:bK)(e y:Int):Prop:=∃h,hf g h/\h/2=e/\b6 g h=y
theorem kn{h k:Int}(hh:hf g h)(hk:hf g k)(he:h/2=k/2):b6 g k=b6 g h\/b6 g k=aw g h:=by
 rcases eI hk.1 hh.1 he.symm with q|q
 · exact .inl (by rw[q])
 · obtain⟨_,_,_,t4⟩:=dl (g:=g) hh
   exact .inr (by rw[q,t4])
theorem nw(hy:ko g e y)(hz:ko g e z)(hyx:y≠x)(hzx:z≠x):Wy g (λw=>w≠x) y z:=by
 obtain⟨h,h1,h2,h3⟩:=hy
 obtain⟨k,k1,k2,k3⟩:=hz
 rcases kn h1 k1 (by rw[h2,k2]) with q|q
 · rw[<-k3,q,h3];exact .refl hyx
 · rw[k3] at q
   have:=Wy.one (g:=g) (A:=λw=>w≠x) h1 (by rw[<-q];exact hzx) (by rw[h3];exact hyx)
   rw[<-q,h3] at this
   exact this.symm
def pO(g:bK)(e:Int):Prop:=∃h,hf g h/\h/2=e/\b6 g h≠aw g h
theorem pO.end_(h:pO g e)(x:Int):∃y,ko g e y/\y≠x:=by
 obtain⟨k,k1,k2,k3⟩:=h
 obtain⟨t1,t2,t3,t4⟩:=dl (g:=g) k1
 by_cases c:b6 g k=x
 · exact⟨aw g k,⟨dN k,t1,by rw[t2,k2],t4⟩,λj=>k3 (by rw[c,j])⟩
 · exact⟨b6 g k,⟨k,k1,k2,rfl⟩,c⟩
theorem oG(h:jY g e f):pO g e/\pO g f:=by
 obtain⟨h,k,hh,hk,he,hkf,hx,hne,hnk,hw⟩:=h
 exact⟨⟨h,hh,he,hne⟩,⟨k,hk,hkf,hnk⟩⟩
theorem sC(hr:jY g e f)(hy:ko g e y)(hz:ko g f z)(hyx:y≠x)(hzx:z≠x):Wy g (λw=>w≠x) y z:=by
 obtain⟨h,k,hh,hk,he,hkf,hx,hne,hnk,hw⟩:=hr
 obtain⟨t1,t2,t3,t4⟩:=dl (g:=g) hh
 obtain⟨s1,s2,s3,s4⟩:=dl (g:=g) hk
 by_cases c:aw g h=x
 · have ey:y=b6 g h:=by
     obtain⟨q,q1,q2,q3⟩:=hy
     rcases kn hh q1 (by rw[he,q2]) with r|r
     · rw[<-q3,r]
     · exact absurd (by rw[<-q3,r,c]) hyx
   have ez:z=b6 g k:=by
     obtain⟨q,q1,q2,q3⟩:=hz
     rcases kn hk q1 (by rw[hkf,q2]) with r|r
     · rw[<-q3,r]
     · exact absurd (by rw[<-q3,r,<-hx,c]) hzx
   rw[ey,ez,<-c];exact hw
 · have e1:ko g e (aw g h):=⟨dN h,t1,by rw[t2,he],t4⟩
   have e2:ko g f (aw g h):=⟨dN k,s1,by rw[s2,hkf],by rw[s4,hx]⟩
   exact(nw hy e1 hyx c).trans (nw e2 hz c hzx)
theorem si(hr:EqB g e f):e=f\/(pO g e/\pO g f/\∀x y z,ko g e y->ko g f z->y≠x->z≠x->Wy g (λw=>w≠x) y z):=by
  induction hr with
  |refl=>exact .inl rfl
  |rel h=>exact .inr ⟨(oG h).1,(oG h).2,λx y z a b c d=>sC h a b c d⟩
  |symm _ ih=>
    rcases ih with a|⟨a,b,c⟩
    · exact .inl a.symm
    · exact .inr ⟨b,a,λx y z p q r s=>(c x z y q p s r).symm⟩
  |trans _ _ i1 i2=>
    rcases i1 with a|⟨a,b,c⟩
    · rw[a];exact i2
    · rcases i2 with d|⟨d,k,q⟩
      · rw[<-d];exact .inr ⟨a,b,c⟩
      · refine .inr ⟨a,k,λx y z p r s t=>?_⟩
        obtain⟨w,w1,w2⟩:=b.end_ x
        exact(c x y w p w1 s w2).trans (q x w z w1 r w2 t)
end TL
/-
  TlAnc: the tree that a walk depth first leaves.
  By an AI agent.
-/
set_option linter.all false
namespace TL
inductive AncB (g:bK) (by_:List Int) (a:Int):Int->Prop
  |refl:AncB g by_ a a
  |step {x:Int}:AncB g by_ a (aw g (gI by_ x))->0<=gI by_ x->AncB g by_ a x
variable{g:bK}{s:Bs}{fr:Fm}{A B A0:Fm}{S:List Int}{by_ by' pl:List Int}{a v w x y h k:Int}
theorem AncB.trans(h1:AncB g by_ a x)(h2:AncB g by_ x y):AncB g by_ a y:=by
 induction h2 with
 |refl=>exact h1
 |step _ q ih=>exact .step ih q
structure ux(g:bK)(pl by_:List Int):Prop where
  up:∀x,0<=x->x<g.1->gI pl x≠0->0<=gI by_ x->hf g (gI by_ x)/\b6 g (gI by_ x)=x/\gI pl (aw g (gI by_ x))≠0/\gI pl (aw g (gI by_ x))<gI pl x
theorem AncB.le(hm:bg g)(ht:ux g pl by_)(h:AncB g by_ a x)(hx:0<=x/\x<g.1)(hp:gI pl x≠0):(0<=a/\a<g.1)/\gI pl a≠0/\gI pl a<=gI pl x:=by
 induction h with
 |refl=>exact⟨hx,hp,Int.le_refl _⟩
 |step p q ih=>
   obtain⟨t1,t2,t3,t4⟩:=ht.up _ hx.1 hx.2 hp q
   have:=ih (c8 hm t1) t3
   exact⟨this.1,this.2.1,by omega⟩
theorem AncB.congr(hm:bg g)(ht:ux g pl by_)(h:AncB g by_ a x)(hx:0<=x/\x<g.1)(hp:gI pl x≠0)(hb:∀z,0<=z->z<g.1->gI pl z≠0->gI by' z=gI by_ z):AncB g by' a x:=by
  induction h with
  |refl=>exact .refl
  |step p q ih=>
    obtain⟨t1,t2,t3,t4⟩:=ht.up _ hx.1 hx.2 hp q
    have e:=hb _ hx.1 hx.2 hp
    exact .step (by rw[e];exact ih (c8 hm t1) t3) (by rw[e];exact q)
theorem fx.anc(hd:fx g s fr):∀(n:Nat) (A B:Fm),A.length=n->∀v S,fr=A++(v,S)::B->∀p∈A,AncB g s.by_ p.1 v
  |0,A,B,hl,v,S,he,p,hp=>by rw[List.length_eq_zero_iff.1 hl] at hp;exact absurd hp List.not_mem_nil
  |n+1,A,B,hl,v,S,he,p,hp=>by
    rcases(hd.fra A v S B he).own with⟨k,_⟩|⟨A',u,U,S',k1,_,k3,k4⟩
    · rw[k] at hp;exact absurd hp List.not_mem_nil
    · subst k1
      have hl':A'.length=n:=by simpa using hl
      have he':fr=A'++(u,U)::((v,S)::B):=by rw[he];simp
      rcases List.mem_append.1 hp with c|c
      · exact .step (by rw[k3];exact hd.anc n A' _ hl' u U he' p c) k4
      · rw[List.mem_singleton.1 c]
        exact .step (by rw[k3];exact .refl) k4
end TL
/-
  TlAnc2: each step keeps the tree.
  By an AI agent.
-/
set_option linter.all false
namespace TL
variable{g:bK}{s:Bs}{fr:Fm}{A B A0:Fm}{S:List Int}{a v w x y h k:Int}
structure rV(g:bK)(s:Bs):Prop where
 tb:ux g s.place s.by_
 cmp:∀h,hf g h->gI s.laid (h/2)=true->AncB g s.by_ (aw g h) (b6 g h)\/AncB g s.by_ (b6 g h) (aw g h)
theorem mx:(dj g s v).by_=s.by_:=by
 unfold dj;split
 · rfl
 · simp only;split<;>rfl
theorem rV.lay(ht:rV g s){la:List Bool}(hh:hf g h)(hl:h/2<(s.laid.length:Int))(hc:AncB g s.by_ (aw g h) (b6 g h)\/AncB g s.by_ (b6 g h) (aw g h))(k:Int)(hk:hf g k)(hlk:gI (s.laid.set (h/2).toNat true) (k/2)=true):AncB g s.by_ (aw g k) (b6 g k)\/AncB g s.by_ (b6 g k) (aw g k):=by
  rw[cS (fM hh) hl (fM hk)] at hlk
  by_cases c:k/2=h/2
  · rcases eI hk.1 hh.1 c with q|q
    · rw[q];exact hc
    · obtain⟨_,_,t3,t4⟩:=dl (g:=g) hh
      rw[q,t3,t4];exact hc.symm
  · rw[if_neg c] at hlk;exact ht.cmp k hk hlk
theorem rV.begin_(hm:bg g)(ht:rV g s)(hl:(s.place.length:Int)=g.1)(hf0:0<=s.found)(hub:∀x,0<=x->x<g.1->gI s.place x<=s.found)(v0:0<=v)(v1:v<g.1)(hv:gI s.place v=0)(hb:gI s.by_ v= -1):rV g (f4 s v):=by
 refine⟨⟨λx x0 x1 hx hbx=>?_⟩,ht.cmp⟩
 have hx:gI (s.place.set v.toNat (s.found+1)) x≠0:=hx
 have hbx:0<=gI s.by_ x:=hbx
 show hf g (gI s.by_ x)/\b6 g (gI s.by_ x)=x/\gI (s.place.set v.toNat (s.found+1)) (aw g (gI s.by_ x))≠0/\gI (s.place.set v.toNat (s.found+1)) (aw g (gI s.by_ x))<gI (s.place.set v.toNat (s.found+1)) x
 have hne:x≠v:=λk=>by rw[k] at hbx;omega
 rw[bY v0 (by omega) x0,if_neg hne] at hx ⊢
 obtain⟨t1,t2,t3,t4⟩:=ht.tb.up x x0 x1 hx hbx
 have hf':=c8 hm t1
 rw[bY v0 (by omega) hf'.1,if_neg (λk=>t3 (by rw[k];exact hv))]
 exact⟨t1,t2,t3,t4⟩
theorem uk(hm:bg g)(hd:fx g s fr)(hu:l7 g s (fr.map Prod.fst))(ht:rV g s)(hne:fr≠[])(hv:v=gI (fr.map Prod.fst) (((fr.map Prod.fst).length:Int)-1)):rV g (dc g s (fr.map Prod.fst) v).1:=by
 obtain⟨A0,v',S,rfl,hv'⟩:=pz hne
 have:v'=v:=by rw[hv];exact hv'.symm
 subst this
 clear hv hv'
 have hvm:(0<=v'/\v'<g.1)/\gI s.place v'≠0:=hd.mem (p:=(v',S)) (by simp)
 have hl5:=hd.se.l5
 unfold dc
 by_cases hn:gI s.next v'=((gI (am g) v').length:Int)
 · rw[if_pos hn]
   refine⟨⟨λx x0 x1 hx hbx=>?_⟩,λk hk hlk=>?_⟩
   · rw[hU] at hx ⊢;rw[mx] at hbx ⊢
     exact ht.tb.up x x0 x1 hx hbx
   · rw[kH] at hlk;rw[mx];exact ht.cmp k hk hlk
 · rw[if_neg hn]
   obtain⟨n0,n1⟩:=hd.se.nx v' hvm.1.1 hvm.1.2
   have n1':gI s.next v'<=((gI (am g) v').length:Int):=n1
   obtain⟨hh,hfv⟩:=gP hvm.1.1 hvm.1.2 n0 (by omega)
   simp only
   generalize hhe:gI (gI (am g) v') (gI s.next v')=h at hh hfv ⊢
   obtain⟨t1,t2,t3,t4⟩:=dl (g:=g) hh
   have e1:=eP hh
   unfold dI
   by_cases hl:gI s.laid (h/2)=true
   · rw[if_pos hl];exact⟨ht.tb,ht.cmp⟩
   · rw[if_neg hl]
     by_cases hw:b6 g h=v'
     · rw[if_pos hw]
       exact⟨ht.tb,λk hk hlk=>ht.lay (la:=[]) hh (by omega) (.inl (by rw[hfv,hw];exact .refl)) k hk hlk⟩
     · rw[if_neg hw]
       by_cases hp:gI s.place (b6 g h)=0
       · rw[if_pos hp]
         obtain⟨w0,w1⟩:=di hm hh
         have hl1:=hd.se.l1
         have hl3:=hd.se.l3
         have hf0:=hd.se.f0
         have hby:∀x,0<=x->gI (s.by_.set (b6 g h).toNat h) x=if x=b6 g h then h else gI s.by_ x:=λx a=>bY w0 (by omega) a
         have hpl:∀x,0<=x->gI (s.place.set (b6 g h).toNat (s.found+1)) x=if x=b6 g h then s.found+1 else gI s.place x:=λx a=>bY w0 (by omega) a
         have hcg:∀{a x:Int},AncB g s.by_ a x->0<=x/\x<g.1->gI s.place x≠0->AncB g (s.by_.set (b6 g h).toNat h) a x:=λ {a x} q r t=>q.congr hm ht.tb r t (λz z0 z1 hz=>by rw[hby z z0,if_neg (λj=>hz (by rw[j];exact hp))])
         have hvw:AncB g (s.by_.set (b6 g h).toNat h) v' (b6 g h):=.step (by rw[hby _ w0,if_pos rfl,hfv];exact .refl) (by rw[hby _ w0,if_pos rfl];exact hh.1)
         refine⟨⟨λx x0 x1 hx hbx=>?_⟩,λk hk hlk=>?_⟩
         · have hx:gI (s.place.set (b6 g h).toNat (s.found+1)) x≠0:=hx
           have hbx:0<=gI (s.by_.set (b6 g h).toNat h) x:=hbx
           show hf g (gI (s.by_.set (b6 g h).toNat h) x)/\b6 g (gI (s.by_.set (b6 g h).toNat h) x)=x/\gI (s.place.set (b6 g h).toNat (s.found+1)) (aw g (gI (s.by_.set (b6 g h).toNat h) x))≠0/\gI (s.place.set (b6 g h).toNat (s.found+1)) (aw g (gI (s.by_.set (b6 g h).toNat h) x))<gI (s.place.set (b6 g h).toNat (s.found+1)) x
           rw[hby x x0] at hbx ⊢
           rw[hpl x x0] at hx ⊢
           by_cases c:x=b6 g h
           · rw[if_pos c,if_pos c,hfv,hpl v' hvm.1.1,if_neg (λj=>hw j.symm)]
             have:=(hd.se.pl v' hvm.1.1 hvm.1.2).2
             exact⟨hh,c.symm,hvm.2,by omega⟩
           · rw[if_neg c] at hbx hx
             rw[if_neg c,if_neg c]
             obtain⟨u1,u2,u3,u4⟩:=ht.tb.up x x0 x1 hx hbx
             rw[hpl _ (c8 hm u1).1,if_neg (λj=>u3 (by rw[j];exact hp))]
             exact⟨u1,u2,u3,u4⟩
         · have hlk:gI (s.laid.set (h/2).toNat true) (k/2)=true:=hlk
           show AncB g (s.by_.set (b6 g h).toNat h) (aw g k) (b6 g k)\/AncB g (s.by_.set (b6 g h).toNat h) (b6 g k) (aw g k)
           by_cases c:k/2=h/2
           · rcases eI hk.1 hh.1 c with q|q
             · rw[q,hfv];exact .inl hvw
             · rw[q,t3,t4,hfv];exact .inr hvw
           · rw[cS (fM hh) (by omega) (fM hk),if_neg c] at hlk
             have f1:=hd.lof k hk hlk
             have f2:=hd.lot hk hlk
             rcases ht.cmp k hk hlk with q|q
             · exact .inl (hcg q (di hm hk) f2)
             · exact .inr (hcg q (c8 hm hk) f1)
       · rw[if_neg hp]
         have hwp:b6 g h∈A0.map Prod.fst:=by
           by_cases c:b6 g h∈(A0++[(v',S)]).map Prod.fst
           · rw[List.map_append,List.mem_append] at c
             exact c.resolve_right (λk=>hw (by simpa using k))
           · exfalso
             have:=hu.all hm t1 (by rw[t3];exact hp) (by rw[t3];exact c)
             rw[t2] at this;exact hl this
         obtain⟨p,p1,p2⟩:=List.mem_map.1 hwp
         have:=hd.anc A0.length A0 [] rfl v' S rfl p p1
         rw[p2] at this
         exact⟨ht.tb,λk hk hlk=>ht.lay (la:=[]) hh (by omega) (.inr (by rw[hfv];exact this)) k hk hlk⟩
end TL
/-
  TlAnc3: the tree that the whole walk leaves.
  By an AI agent.
-/
set_option linter.all false
namespace TL
variable{g:bK}{s:Bs}{fr:Fm}{v x y h k:Int}
theorem uJ(hm:bg g):∀(n:Nat) (s:Bs) (fr:Fm),fx g s fr->l7 g s (fr.map Prod.fst)->rV g s->bO g s (fr.map Prod.fst)<=n->rV g (o1 g n s (fr.map Prod.fst))
 |0,s,fr,hd,hu,ht,hl=>ht
 |n+1,s,fr,hd,hu,ht,hl=>by
   by_cases c:fr=[]
   · subst c;unfold o1;exact ht
   · have hp:fr.map Prod.fst≠[]:=λk=>c (List.map_eq_nil_iff.1 k)
     obtain⟨fr',h1,h2,h3⟩:=qJ hm hd hu c rfl
     have ht':=uk hm hd hu ht c rfl
     have hless:=hZ hd.se hp rfl
     unfold o1
     rw[if_neg hp,<-h1]
     rw[<-h1] at h3 hless
     exact uJ hm n _ fr' h2 h3 ht' (by omega)
theorem rr(hm:bg g):∀k:Nat,(k:Int)<=g.1->rV g (cM g k)
 |0,hk=>by
   have h0:=hm.1
   have r0:∀{x:Int} {v:Int},0<=v->v<g.1->gI (List.replicate g.1.toNat x) v=x:=λa b=>kr a (by omega)
   obtain⟨hd,_,_⟩:=kE hm 0 (by omega)
   exact⟨⟨λx x0 x1 hx _=>absurd (r0 x0 x1) hx⟩,λk hk hl=>absurd (hd.lof k hk hl) (λj=>j (r0 (c8 hm hk).1 (c8 hm hk).2))⟩
 |k+1,hk=>by
   obtain⟨h1,h2,h3⟩:=kE hm k (by omega)
   have ih:=rr hm k (by omega)
   rw[gk]
   by_cases c:gI (cM g k).place (k:Int)=0
   · rw[if_pos c]
     have hse:=h1.se.first (v:=(k:Int)) (by omega) (by omega) c
     have hd:=h1.begin_ hm h2 (by omega) (by omega) c hse
     have hu:=h2.begin_ (v:=(k:Int)) h1.se (by omega) (by omega)
     have hb:gI (cM g k).by_ (k:Int)= -1:=by
       rcases h1.se.by_ (k:Int) (by omega) (by omega) with q|⟨_,_,q⟩
       · exact q
       · exact absurd c q
     have ht:=ih.begin_ hm h1.se.l1 h1.se.f0 (λx a b=>(h1.se.pl x a b).2) (by omega) (by omega) c hb
     exact uJ hm _ (f4 (cM g k) k) [((k:Int),[])] hd hu ht (Nat.le_refl _)
   · rw[if_neg c];exact ih
end TL
/-
  TlBlk5: bridges, and whether a net is biconnected, as the program does it.
  By an AI agent.
-/
set_option linter.all false
namespace TL
variable{g:bK}{of:List Int}{n k:Nat}
theorem tC(l:List Int)(i:Nat)(x b:Int):gI (l.set i x) b=if b.toNat=i/\i<l.length then x else gI l b:=by
 unfold gI
 rw[List.getD_eq_getElem?_getD,List.getD_eq_getElem?_getD,List.getElem?_set]
 by_cases h1:i=b.toNat
 · rw[if_pos h1]
   by_cases h2:i<l.length
   · rw[if_pos h2,if_pos ⟨h1.symm,h2⟩];rfl
   · rw[if_neg h2,if_neg (λh=>h2 h.2),List.getElem?_eq_none (by omega)]
 · rw[if_neg h1,if_neg (λh=>h1 h.1.symm)]
theorem ow(of:List Int)(n:Nat):∀k:Nat,(k:Int)<=of.length->∀b:Int,0<=gI (e9 of n k) b/\gI (e9 of n k) b<=k
 |0,_,b=>by
   have:gI (e9 of n 0) b=0:=by
     show gI (List.replicate n (0:Int)) b=0
     by_cases c:b.toNat<n
     · simp[gI,c]
     · simp[gI,c]
   omega
 |k+1,hk,b=>by
   have ih:=ow of n k (by omega)
   rw[ju (by omega),tC]
   have h1:=ih (gI of (k:Int))
   have h2:=ih b
   split<;>omega
theorem gS{l:List Int}(h:l=bN g k):(l.length:Int)<=k:=by
 have h1:=List.length_filter_le (λe=>decide (gI (e9 (dq g) (cx g).toNat g.2.length) (gI (dq g) e)=1)&& !decide ((gI g.2 e).1=(gI g.2 e).2)) (bJ k)
 have h2:(bJ k).length=k:=by simp[bJ]
 rw[h]
 show(((bJ k).filter _).length:Int)<=k
 omega
theorem ry{l size:List Int}{j:Nat}(hs:size=e9 (aa g).1 (Int.toNat (aa g).2.2) k)(hk:(k:Int)=g.2.length)(hl:l=bN g j)(q:gI size (gI (aa g).1 (j:Int))=1)(p:¬(gI g.2 (j:Int)).1=(gI g.2 (j:Int)).2):l++[(j:Int)]=bN g (j+1):=by
 have e:k=g.2.length:=by omega
 subst e
 rw[jM (decide_eq_true (by rw[hs] at q;exact q)) p,hl]
theorem po{l size:List Int}{j:Nat}(hs:size=e9 (aa g).1 (Int.toNat (aa g).2.2) k)(hk:(k:Int)=g.2.length)(hl:l=bN g j)(q:¬gI size (gI (aa g).1 (j:Int))=1\/(gI g.2 (j:Int)).1=(gI g.2 (j:Int)).2):l=bN g (j+1):=by
 have e:k=g.2.length:=by omega
 subst e
 rw[iy (q.imp_left λh=>by rw[hs] at h;exact h),hl]
def dK(g:bK)(k:Nat):List Bool:=(g.2.take k).foldl (λb e=>(b.set e.1.toNat true).set e.2.toNat true) (List.replicate g.1.toNat false)
structure ld(g:bK)(at_:List Bool)(k:Nat):Prop where
 eq:at_=dK g k
 lo:(at_.length:Int)=g.1
 no:∀j:Int,0<=j->j<k->¬(gI g.2 j).1=(gI g.2 j).2
theorem ld.start(h0:0<=g.1):ld g (List.replicate (Int.toNat g.1) false) 0:=⟨rfl,by simp;omega,λj a b=>by omega⟩
theorem ld.next{at_:List Bool}(h:ld g at_ k)(hk:(k:Int)<g.2.length)(hn:¬(gI g.2 (k:Int)).1=(gI g.2 (k:Int)).2):ld g ((at_.set (Int.toNat (gI g.2 (k:Int)).1) true).set (Int.toNat (gI g.2 (k:Int)).2) true) (k+1):=by
 have hk':k<g.2.length:=by omega
 refine⟨?_,by simp only[List.length_set];exact h.lo,λj a b=>?_⟩
 · unfold dK
   rw[List.take_succ_eq_append_getElem hk',List.foldl_append]
   have e:gI g.2 (k:Int)=g.2[k]:=by simp[gI,hk']
   rw[e,h.eq];rfl
 · by_cases c:j=(k:Int)
   · rw[c];exact hn
   · exact h.no j a (by omega)
def c9(g:bK):Bool:=decide (2<=g.1/\(∀e∈g.2,¬e.1=e.2)/\¬false∈dK g g.2.length/\cx g=1)
theorem nz(h:g.1<2):false=c9 g:=by
 unfold c9;rw[decide_eq_false];rintro⟨a,_⟩;omega
theorem o3(hk:(k:Int)<g.2.length)(h:(gI g.2 (k:Int)).1=(gI g.2 (k:Int)).2):false=c9 g:=by
 unfold c9;rw[decide_eq_false];rintro⟨_,a,_⟩
 exact a _ (bP (xs:=g.2) (i:=(k:Int)) (by omega) hk) h
theorem pL{at_:List Bool}(h:ld g at_ k)(hk:k=g.2.length)(hf:false∈at_):false=c9 g:=by
 subst hk
 unfold c9;rw[decide_eq_false];rintro⟨_,_,a,_⟩
 rw[h.eq] at hf;exact a hf
theorem qT{at_:List Bool}(h:ld g at_ k)(hk:k=g.2.length)(h2:¬g.1<2)(hf:¬false∈at_):decide ((aa g).2.2=1)=c9 g:=by
 subst hk
 unfold c9
 rw[decide_eq_decide]
 refine⟨λhc=>⟨by omega,λe he=>?_,by rw[<-h.eq];exact hf,hc⟩,λhc=>hc.2.2.2⟩
 obtain⟨i,hi,rfl⟩:=List.mem_iff_getElem.1 he
 have:=h.no (i:Int) (by omega) (by omega)
 have e:gI g.2 (i:Int)=g.2[i]:=by simp[gI,hi]
 rwa[e] at this
def bF(g:bK):Bool×Int:=if bg g then(c9 g,0) else(false,1)
def iD(s:List Bool)(v:Bool):Int:=if v∈s then(s.idxOf v:Int) else-1
theorem qG{s:List Bool}{v:Bool}{i:Nat}(h:∀j:Nat,j<i->¬v=gI s (j:Int))(hi:(i:Int)<s.length)(he:v=gI s (i:Int)):(i:Int)=iD s v:=by
 have hlt:i<s.length:=by omega
 have e:gI s (i:Int)=s[i]:=by simp[gI,hlt]
 have hm:v∈s:=by rw[he];exact bP (by omega) hi
 unfold iD
 rw[if_pos hm]
 have hlt2:=List.idxOf_lt_length_iff.2 hm
 have h1:¬s.idxOf v<i:=λhlt'=>h _ hlt' (by simp[gI,hlt2])
 have h2:¬i<s.idxOf v:=λhlt'=>by
   have:=List.not_of_lt_findIdx (xs:=s) (p:=(· ==v)) (i:=i) hlt'
   simp at this
   exact this (by rw[<-e,<-he])
 omega
theorem sI{s:List Bool}{v:Bool}{i:Nat}(h:∀j:Nat,j<i->¬v=gI s (j:Int))(hi:¬(i:Int)<s.length): -1=iD s v:=by
 unfold iD
 rw[if_neg]
 intro hm
 obtain⟨j,hj,e⟩:=List.mem_iff_getElem.1 hm
 apply h j (by omega)
 rw[<-e];simp[gI,hj]
theorem qc{l:List Bool}{x:Bool}:decide (0<=iD l x)=decide (x∈l):=by
 unfold iD
 by_cases h:x∈l
 · rw[if_pos h,decide_eq_true h,decide_eq_true (by omega)]
 · rw[if_neg h,decide_eq_false h];rfl
end TL
/-
  TlAnc4: in a net of one block, an edge leads from behind a node to one ahead of its parent.
  By an AI agent.
-/
set_option linter.all false
namespace TL
variable{g:bK}{pl by_:List Int}{a b c x y h k:Int}
theorem AncB.cmp(h1:AncB g by_ a x)(h2:AncB g by_ b x):AncB g by_ a b\/AncB g by_ b a:=by
  induction h1 with
  |refl=>exact .inr h2
  |step p q ih=>
    cases h2 with
    |refl=>exact .inl (.step p q)
    |step p2 q2=>exact ih p2
theorem AncB.root(h:AncB g by_ a x)(hr:gI by_ x<0):a=x:=by
 cases h with
 |refl=>rfl
 |step _ q=>omega
end TL
/-
  TlAnc5: one root alone.
  By an AI agent.
-/
set_option linter.all false
namespace TL
variable{g:bK}{pl by_:List Int}{a b c x y h k e f r:Int}
theorem mC(hm:bg g)(ht:ux g pl by_)(hpl:∀x,0<=x->x<g.1->0<=gI pl x/\gI pl x≠0):∀(n:Nat) (x:Int),0<=x->x<g.1->(gI pl x).toNat<=n->∃r,AncB g by_ r x/\gI by_ r<0
 |0,x,x0,x1,hn=>by have:=hpl x x0 x1;omega
 |n+1,x,x0,x1,hn=>by
   by_cases c:gI by_ x<0
   · exact⟨x,.refl,c⟩
   · obtain⟨t1,t2,t3,t4⟩:=ht.up x x0 x1 (hpl x x0 x1).2 (by omega)
     obtain⟨f0,f1⟩:=c8 hm t1
     obtain⟨r,h1,h2⟩:=mC hm ht hpl n _ f0 f1 (by have:=hpl _ f0 f1;have:=hpl x x0 x1;omega)
     exact⟨r,.step h1 (by omega),h2⟩
def ur(g:bK)(by_:List Int)(r e:Int):Prop:=∀h,hf g h->h/2=e->AncB g by_ r (aw g h)
theorem ra(hc:AncB g by_ (aw g h) (b6 g h)\/AncB g by_ (b6 g h) (aw g h))(hh:hf g h)(hr:AncB g by_ r (aw g h))(hb:gI by_ r<0):ur g by_ r (h/2):=by
 have hto:AncB g by_ r (b6 g h):=by
   rcases hc with q|q
   · exact hr.trans q
   · rcases hr.cmp q with p|p
     · exact p
     · have:=p.root hb
       rw[this];exact .refl
 intro k hk he
 rcases eI hk.1 hh.1 he with q|q
 · rw[q];exact hr
 · obtain⟨_,_,t3,_⟩:=dl (g:=g) hh
   rw[q,t3];exact hto
theorem ua(hc:∀h,hf g h->AncB g by_ (aw g h) (b6 g h)\/AncB g by_ (b6 g h) (aw g h))(he:EqB g e f)(hb:gI by_ r<0):ur g by_ r e↔ur g by_ r f:=by
 have one:∀{e f},jY g e f->ur g by_ r e->ur g by_ r f:=by
   rintro e f ⟨h,k,hh,hk,rfl,rfl,hx,_,_,_⟩ hr
   exact ra (hc k hk) hk (by rw[<-hx];exact hr h hh rfl) hb
 induction he with
 |refl=>exact Iff.rfl
 |rel h=>exact⟨one h,one h.symm⟩
 |symm _ ih=>exact ih.symm
 |trans _ _ i1 i2=>exact i1.trans i2
theorem iI{v:Int}(hm:bg g)(v0:0<=v)(v1:v<g.1):∀k:Nat,k<=g.2.length->(dK g k).length=g.1.toNat/\(gI (dK g k) v=true->∃h,hf g h/\aw g h=v)
 |0,_=>by
   refine⟨by simp[dK],λh=>?_⟩
   obtain⟨j,rfl⟩:∃j:Nat,v=(j:Int):=⟨v.toNat,by omega⟩
   have:j<g.1.toNat:=by omega
   simp[dK,gI,this] at h
 |k+1,hk=>by
   obtain⟨h1,h2⟩:=iI hm v0 v1 k (by omega)
   have hlt:k<g.2.length:=by omega
   have e:dK g (k+1)=((dK g k).set (g.2[k]).1.toNat true).set (g.2[k]).2.toNat true:=by
     unfold dK
     rw[List.take_succ_eq_append_getElem hlt,List.foldl_append];rfl
   obtain⟨⟨a0,a1⟩,b0,b1⟩:=hm.2.2.2 _ (List.getElem_mem hlt)
   have eg:gI g.2 (k:Int)=g.2[k]:=by simp[gI,hlt]
   refine⟨by rw[e];simp[h1],λh=>?_⟩
   rw[e,cS b0 (by rw[List.length_set,h1];omega) v0,cS a0 (by rw[h1];omega) v0] at h
   by_cases c1:v=(g.2[k]).2
   · refine⟨2*(k:Int)+1,⟨by omega,by omega⟩,?_⟩
     unfold aw
     rw[show(2*(k:Int)+1)/2=(k:Int) by omega,show(2*(k:Int)+1)%2=1 by omega,eg,c1];rfl
   · rw[if_neg c1] at h
     by_cases c2:v=(g.2[k]).1
     · refine⟨2*(k:Int),⟨by omega,by omega⟩,?_⟩
       unfold aw
       rw[show(2*(k:Int))/2=(k:Int) by omega,show(2*(k:Int))%2=0 by omega,eg,c2];rfl
     · rw[if_neg c2] at h
       exact h2 h
theorem jQ(hm:bg g)(hb:c9 g=true){v:Int}(v0:0<=v)(v1:v<g.1):∃h,hf g h/\aw g h=v:=by
 obtain⟨h1,h2⟩:=iI hm v0 v1 g.2.length (Nat.le_refl _)
 apply h2
 have hnf:=(of_decide_eq_true hb).2.2.1
 have hmem:gI (dK g g.2.length) v∈dK g g.2.length:=bP v0 (by rw[h1];omega)
 cases c:gI (dK g g.2.length) v with
 |true=>rfl
 |false=>rw[c] at hmem;exact absurd hmem hnf
theorem pQ(hm:bg g)(hb:c9 g=true)(a0:0<=a)(a1:a<g.1)(x0:0<=x)(x1:x<g.1)(ha:gI (cM g g.1.toNat).by_ a<0):AncB g (cM g g.1.toNat).by_ a x:=by
  have h0:=hm.1
  have ht:=rr hm g.1.toNat (by omega)
  have hc:∀h,hf g h->AncB g (cM g g.1.toNat).by_ (aw g h) (b6 g h)\/AncB g (cM g g.1.toNat).by_ (b6 g h) (aw g h):=λh hh=>ht.cmp h hh (ki hm (fM hh) (eP hh)).2.1
  obtain⟨h,h1,h2⟩:=jQ hm hb a0 a1
  obtain⟨k,k1,k2⟩:=jQ hm hb x0 x1
  have hcnt:cx g=1:=(of_decide_eq_true hb).2.2.2
  have hof:gI (dq g) (h/2)=gI (dq g) (k/2):=by
    have r1:=eR g (fM h1) (eP h1)
    have r2:=eR g (fM k1) (eP k1)
    omega
  have heq:=(m8 hm (fM h1) (eP h1) (fM k1) (eP k1)).1 hof
  have r1:ur g (cM g g.1.toNat).by_ a (h/2):=ra (hc h h1) h1 (by rw[h2];exact .refl) ha
  have:=(ua hc heq ha).1 r1 k k1 rfl
  rwa[k2] at this
end TL
/-
  TlBlk6: ears, as the program makes them.
  By an AI agent.
-/
set_option linter.all false
namespace TL
variable{g:bK}{pl by_:List Int}{R ears:List (List Int)}{rest:List (Int×Int)}{u:List Bool}{w v h:Int}{ear:List Int}
def rd(g:bK)(by_:List Int):Nat->List Bool->Int->List Int->Option (List Bool×List Int)
 |0,u,w,ear=>if gI u w=true then some (u,ear) else none
 |n+1,u,w,ear=>if gI u w=true then some (u,ear) else if gI by_ w<0 then none else rd g by_ n (u.set w.toNat true) (b6 g (dN (gI by_ w))) (ear++[dN (gI by_ w)])
def gR(g:bK)(pl by_:List Int):List (Int×Int)->List Bool->List (List Int)->Option (List (List Int))
 |[],_,ears=>some ears
 |(v,h)::r,u,ears=>
   if gI by_ (b6 g h)=h\/gI pl (b6 g h)<gI pl v then gR g pl by_ r u ears
   else match rd g by_ g.1.toNat (u.set v.toNat true) (b6 g h) [h] with
     |none=>none
     |some p=>gR g pl by_ r p.1 (ears++[p.2])
def eT(O:List (List Int))(l:List Int):List (Int×Int):=l.flatMap λv=>(gI O v).map λh=>(v,h)
def kC(pl:List Int)(n k:Nat):List Int:=(bJ k).foldl (λo v=>o.set (gI pl v-1).toNat v) (List.replicate n 0)
def gw(g:bK):Option (List (List Int)):=gR g (cM g g.1.toNat).place (cM g g.1.toNat).by_ (eT (am g) (kC (cM g g.1.toNat).place g.1.toNat g.1.toNat)) (List.replicate g.1.toNat false) []
def rE(g:bK):Prop:=bg g->c9 g=true->2<=g.2.length->(∀v∈bJ g.1.toNat,1<=gI (cM g g.1.toNat).place v/\gI (cM g g.1.toNat).place v<=g.1)/\(eT (am g) (kC (cM g g.1.toNat).place g.1.toNat g.1.toNat)).length<=100000/\(gw g).isSome=true
def dV(g:bK):List (List Int)×Int:=if bg g then if c9 g=true then if 2<=g.2.length then((gw g).getD [],0) else([],9) else([],7) else([],1)
structure lW(pl:List Int)(n:Int)(o:List Int)(k:Nat):Prop where
 eq:o=kC pl (Int.toNat n) k
 lo:(o.length:Int)=n
 rg:∀x∈o,0<=x/\x<n
theorem lW.start{n:Int}(h0:0<n):lW pl n (List.replicate (Int.toNat n) 0) 0:=⟨rfl,by simp;omega,λx hx=>by rw[(List.mem_replicate.1 hx).2];omega⟩
theorem lW.next{n:Int}{o:List Int}{k:Nat}(h:lW pl n o k)(hk:(k:Int)<n):lW pl n (o.set (Int.toNat (gI pl (k:Int)-1)) (k:Int)) (k+1):=by
 refine⟨?_,by rw[List.length_set];exact h.lo,λx hx=>?_⟩
 · unfold kC
   rw[cz,List.foldl_append,h.eq];rfl
 · rcases List.mem_or_eq_of_mem_set hx with c|c
   · exact h.rg x c
   · rw[c];omega
structure ka(g:bK)(pl by_:List Int)(R:List (List Int))(rest:List (Int×Int))(u:List Bool)(ears:List (List Int)):Prop where
 len:(u.length:Int)=g.1
 run:gR g pl by_ rest u ears=some R
 few:(ears.length:Int)+rest.length<=100000
structure rU(g:bK)(pl by_:List Int)(R:List (List Int))(rest:List (Int×Int))(ears:List (List Int))(u:List Bool)(w:Int)(ear:List Int):Prop where
 len:(u.length:Int)=g.1
 w0:0<=w
 w1:w<g.1
 run:∃f u2 e2,rd g by_ f u w ear=some (u2,e2)/\gR g pl by_ rest u2 (ears++[e2])=some R
 few:(ears.length:Int)+1+rest.length<=100000
 sh:(ear.length:Int)+(u.count false:Int)<=g.1+1
theorem ka.skip(hi:ka g pl by_ R ((v,h)::rest) u ears)(hw:b6 g h=w)(hc:gI by_ w=h\/gI pl w<gI pl v):ka g pl by_ R rest u ears:=by
 subst hw
 have h1:=hi.run
 have h2:=hi.few
 rw[List.length_cons] at h2
 unfold gR at h1
 rw[if_pos hc] at h1
 exact⟨hi.len,h1,by omega⟩
theorem ka.up(hi:ka g pl by_ R ((v,h)::rest) u ears)(hw:b6 g h=w)(hc:¬(gI by_ w=h\/gI pl w<gI pl v))(w0:0<=w)(w1:w<g.1):rU g pl by_ R rest ears (u.set (Int.toNat v) true) w [h]:=by
 subst hw
 have h1:=hi.run
 have h2:=hi.few
 rw[List.length_cons] at h2
 unfold gR at h1
 rw[if_neg hc] at h1
 have hl:=hi.len
 refine⟨by rw[List.length_set];exact hi.len,w0,w1,?_,by omega,?_⟩
 · cases e:rd g by_ g.1.toNat (u.set v.toNat true) (b6 g h) [h] with
   |none=>rw[e] at h1;cases h1
   |some p=>rw[e] at h1;exact⟨_,p.1,p.2,e,h1⟩
 · have:(u.set (Int.toNat v) true).count false<=(u.set (Int.toNat v) true).length:=List.count_le_length
   rw[List.length_set] at this
   simp only[List.length_cons,List.length_nil];omega
theorem rU.byp(hi:rU g pl by_ R rest ears u w ear)(hu:¬gI u w=true):0<=gI by_ w:=by
 obtain⟨f,u2,e2,h1,_⟩:=hi.run
 cases f with
 |zero=>unfold rd at h1;rw[if_neg hu] at h1;cases h1
 |succ f=>
   unfold rd at h1
   rw[if_neg hu] at h1
   by_cases c:gI by_ w<0
   · rw[if_pos c] at h1;cases h1
   · omega
theorem jW{u:List Bool}{w:Int}(w0:0<=w)(w1:w<u.length)(hu:¬gI u w=true):(u.set (Int.toNat w) true).count false+1=u.count false:=by
 have hlt:w.toNat<u.length:=by omega
 have e:u[w.toNat]=false:=by
   have:gI u w=u[w.toNat]:=by simp[gI,hlt]
   rw[this] at hu;simpa using hu
 have hp:0<u.count false:=List.count_pos_iff.2 (e▸List.getElem_mem hlt)
 rw[List.count_set hlt,e]
 simp;omega
theorem rU.next(hi:rU g pl by_ R rest ears u w ear)(hu:¬gI u w=true){x y:Int}(hx:dN (gI by_ w)=x)(hy:b6 g x=y)(y0:0<=y)(y1:y<g.1):rU g pl by_ R rest ears (u.set (Int.toNat w) true) y (ear++[x])/\(u.set (Int.toNat w) true).count false<u.count false:=by
 subst hx hy
 have hl:=hi.len
 have w0:=hi.w0
 have w1:=hi.w1
 have hb:=hi.byp hu
 have hc:=jW w0 (by omega) hu
 have hs:=hi.sh
 refine⟨⟨by rw[List.length_set];exact hl,y0,y1,?_,hi.few,by rw[List.length_append,List.length_singleton];omega⟩,by omega⟩
 obtain⟨f,u2,e2,h1,h2⟩:=hi.run
 cases f with
 |zero=>unfold rd at h1;rw[if_neg hu] at h1;cases h1
 |succ f=>
   unfold rd at h1
   rw[if_neg hu,if_neg (by omega)] at h1
   exact⟨f,u2,e2,h1,h2⟩
theorem rU.done(hi:rU g pl by_ R rest ears u w ear)(hu:gI u w=true):ka g pl by_ R rest u (ears++[ear]):=by
 obtain⟨f,u2,e2,h1,h2⟩:=hi.run
 have e:rd g by_ f u w ear=some (u,ear):=by
   cases f with
   |zero=>unfold rd;rw[if_pos hu]
   |succ f=>unfold rd;rw[if_pos hu]
 rw[e] at h1
 obtain⟨rfl,rfl⟩:u=u2/\ear=e2:=by simpa using h1
 exact⟨hi.len,h2,by have:=hi.few;rw[List.length_append,List.length_singleton];omega⟩
def eY(O:List (List Int))(o:List Int)(k i:Nat):List (Int×Int):=((gI O (gI o (k:Int))).drop i).map (λh=>(gI o (k:Int),h))++eT O (o.drop (k+1))
theorem ka.row{O:List (List Int)}{o:List Int}{k:Nat}(hi:ka g pl by_ R (eT O (o.drop k)) u ears)(hk:(k:Int)<o.length):ka g pl by_ R (eY O o k 0) u ears:=by
 have hk':k<o.length:=by omega
 have e:eT O (o.drop k)=eY O o k 0:=by
   rw[List.drop_eq_getElem_cons hk']
   have e2:gI o (k:Int)=o[k]:=by simp[gI,hk']
   unfold eY eT
   rw[List.flatMap_cons,e2];rfl
 rwa[e] at hi
theorem ka.one{O:List (List Int)}{o:List Int}{k i:Nat}(hi:ka g pl by_ R (eY O o k i) u ears)(hk:(i:Int)<((gI O (gI o (k:Int))).length:Int)):ka g pl by_ R ((gI o (k:Int),gI (gI O (gI o (k:Int))) (i:Int))::eY O o k (i+1)) u ears:=by
 have hk':i<(gI O (gI o (k:Int))).length:=by omega
 have e:eY O o k i=(gI o (k:Int),gI (gI O (gI o (k:Int))) (i:Int))::eY O o k (i+1):=by
   unfold eY
   rw[List.drop_eq_getElem_cons hk']
   have e3:∀(L:List Int) (hL:i<L.length),gI L (i:Int)=L[i]:=λL hL=>by simp[gI,hL]
   have e2:=e3 (gI O (gI o (k:Int))) hk'
   rw[List.map_cons,e2];rfl
 rwa[e] at hi
theorem ka.rowdone{O:List (List Int)}{o:List Int}{k i:Nat}(hi:ka g pl by_ R (eY O o k i) u ears)(hk:¬(i:Int)<((gI O (gI o (k:Int))).length:Int)):ka g pl by_ R (eT O (o.drop (k+1))) u ears:=by
 have e:eY O o k i=eT O (o.drop (k+1)):=by
   unfold eY
   rw[List.drop_eq_nil_of_le (by omega)];rfl
 rwa[e] at hi
theorem ka.done{O:List (List Int)}{o:List Int}{k:Nat}(hi:ka g pl by_ R (eT O (o.drop k)) u ears)(hk:¬(k:Int)<(o.length:Int)):ears=R:=by
 have h1:=hi.run
 rw[List.drop_eq_nil_of_le (by omega)] at h1
 unfold eT gR at h1
 simpa using h1
theorem rP{o:List Int}(hm:bg g)(hok:rE g)(hb:c9 g=true)(h2:2<=g.2.length)(hp:pl=(cM g g.1.toNat).place)(hy:by_=(cM g g.1.toNat).by_){O:List (List Int)}(hO:O=am g){k:Nat}(ho:lW pl g.1 o k)(hk:(k:Int)=g.1):ka g pl by_ ((gw g).getD []) (eT O (o.drop 0)) (List.replicate (Int.toNat g.1) false) []:=by
 obtain⟨_,h3,h4⟩:=hok hm hb h2
 have e:k=g.1.toNat:=by omega
 subst hO
 have eo:o=kC (cM g g.1.toNat).place g.1.toNat g.1.toNat:=by rw[ho.eq,e,hp]
 have hm0:=hm.1
 refine⟨by simp;omega,?_,?_⟩
 · rw[List.drop_zero,eo,hp,hy]
   show gw g=_
   cases h5:gw g with
   |none=>rw[h5] at h4;cases h4
   |some r=>rfl
 · rw[List.drop_zero,eo]
   simp only[List.length_nil];omega
theorem qj(h:c9 g=true):2<=g.1:=(of_decide_eq_true h).1
theorem qH{O:List (List Int)}{i:Int}(hO:O=am g)(v0:0<=v)(v1:v<g.1)(i0:0<=i)(i1:i<((gI O v).length:Int)):0<=gI (gI O v) i/\gI (gI O v) i<2*(g.2.length:Int):=by
 subst hO
 have hin:gI (gI (am g) v) i∈gI (am g) v:=bP i0 i1
 rw[dL v0 v1] at hin
 have ho:=(cJ hin).1
 rw[<-dL v0 v1] at ho
 exact ho
end TL
/-
  TlDocB: blocks, as the document makes them: edges joined at each node by what is joined without it.
  By an AI agent.
-/
set_option linter.all false
namespace TL
variable{g:bK}{of of0 of2 fi c L M:List Int}{a b v h k' i j x y z:Int}{k m:Nat}
def gK(of:List Int)(a b:Int):List Int:=of.map λz=>if z=max (gI of a) (gI of b) then min (gI of a) (gI of b) else z
structure nC(of:List Int)(a b:Int)(of2:List Int)(k:Nat):Prop where
 eq:of2=(of.take k).map (λz=>if z=max (gI of a) (gI of b) then min (gI of a) (gI of b) else z)++of.drop k
 lo:(of2.length:Int)=of.length
theorem nC.start:nC of a b of 0:=⟨by simp,rfl⟩
theorem nC.at_(h:nC of a b of2 k)(hk:(k:Int)<of.length):gI of2 (k:Int)=gI of (k:Int):=by
 have hk':k<of.length:=by omega
 rw[h.eq]
 unfold gI
 rw[List.getD_eq_getElem?_getD,List.getD_eq_getElem?_getD,Int.toNat_natCast,List.getElem?_append_right (by simp;omega)]
 simp
 rw[show k+(k-min k of.length)=k by omega]
theorem nC.yes(h:nC of a b of2 k)(hk:(k:Int)<of.length)(hc:gI of2 (k:Int)=max (gI of a) (gI of b)):nC of a b (of2.set (Int.toNat (k:Int)) (min (gI of a) (gI of b))) (k+1):=by
 have hk':k<of.length:=by omega
 have e:=h.at_ hk
 rw[hc] at e
 refine⟨?_,by rw[List.length_set];exact h.lo⟩
 rw[h.eq,Int.toNat_natCast,List.set_append_right _ _ (by simp;omega),List.take_succ_eq_append_getElem hk',List.map_append]
 rw[show k-((of.take k).map (λz=>if z=max (gI of a) (gI of b) then min (gI of a) (gI of b) else z)).length=0 by simp;omega,List.drop_eq_getElem_cons hk']
 have e2:of[k]=max (gI of a) (gI of b):=by rw[e];simp[gI,hk']
 simp[e2]
theorem nC.no(h:nC of a b of2 k)(hk:(k:Int)<of.length)(hc:¬gI of2 (k:Int)=max (gI of a) (gI of b)):nC of a b of2 (k+1):=by
 have hk':k<of.length:=by omega
 have e:=h.at_ hk
 rw[e] at hc
 refine⟨?_,h.lo⟩
 have e2:¬of[k]=max (gI of a) (gI of b):=by
   have:gI of (k:Int)=of[k]:=by simp[gI,hk']
   rw[<-this];exact hc
 rw[h.eq,List.take_succ_eq_append_getElem hk',List.map_append,List.drop_eq_getElem_cons hk']
 simp[e2]
theorem nC.done(h:nC of a b of2 k)(hk:¬(k:Int)<of2.length):of2=gK of a b:=by
 have hl:=h.lo
 rw[h.eq,List.take_of_length_le (by omega),List.drop_eq_nil_of_le (by omega),List.append_nil];rfl
theorem pJ:(gK of a b).length=of.length:=by unfold gK;simp
theorem re(h0:0<=i)(h1:i<(of.length:Int)):gI (gK of a b) i=if gI of i=max (gI of a) (gI of b) then min (gI of a) (gI of b) else gI of i:=by
 have hi:i.toNat<of.length:=by omega
 unfold gK
 generalize gI of a=p
 generalize gI of b=q
 unfold gI
 rw[List.getD_eq_getElem?_getD,List.getD_eq_getElem?_getD,List.getElem?_map,List.getElem?_eq_getElem hi];rfl
structure ut(g:bK)(of:List Int):Prop where
  lo:(of.length:Int)=g.2.length
  ob:∀i,0<=i->i<(g.2.length:Int)->0<=gI of i/\gI of i<=i
  id:∀i,0<=i->i<(g.2.length:Int)->gI of (gI of i)=gI of i
  snd:∀i j,0<=i->i<(g.2.length:Int)->0<=j->j<(g.2.length:Int)->gI of i=gI of j->EqB g i j
theorem ut.join(h:ut g of)(a0:0<=a)(a1:a<(g.2.length:Int))(b0:0<=b)(b1:b<(g.2.length:Int))(he:EqB g a b):ut g (gK of a b)/\gI (gK of a b) a=gI (gK of a b) b/\∀i j,0<=i->i<(g.2.length:Int)->0<=j->j<(g.2.length:Int)->gI of i=gI of j->gI (gK of a b) i=gI (gK of a b) j:=by
 have hl:=h.lo
 have ja:∀i,0<=i->i<(g.2.length:Int)->gI (gK of a b) i=if gI of i=max (gI of a) (gI of b) then min (gI of a) (gI of b) else gI of i:=λi p q=>re p (by omega)
 have ba:=h.ob a a0 a1
 have bb:=h.ob b b0 b1
 have ida:=h.id a a0 a1
 have idb:=h.id b b0 b1
 have hmin:min (gI of a) (gI of b)=gI of a\/min (gI of a) (gI of b)=gI of b:=by omega
 have hmax:max (gI of a) (gI of b)=gI of a\/max (gI of a) (gI of b)=gI of b:=by omega
 have emin:gI of (min (gI of a) (gI of b))=min (gI of a) (gI of b):=by rcases hmin with q|q<;>rw[q]<;>assumption
 -- of what is named by the greater, or the lesser, of the two
 have hcl:∀i,0<=i->i<(g.2.length:Int)->(gI of i=max (gI of a) (gI of b)\/gI of i=min (gI of a) (gI of b))->EqB g i a:=λi i0 i1 q=>by
   have:gI of i=gI of a\/gI of i=gI of b:=by omega
   rcases this with q|q
   · exact h.snd i a i0 i1 a0 a1 q
   · exact(h.snd i b i0 i1 b0 b1 q).trans he.symm
 refine⟨⟨by rw[pJ];exact hl,λi i0 i1=>?_,λi i0 i1=>?_,λi j i0 i1 j0 j1 hij=>?_⟩,?_,λi j i0 i1 j0 j1 hij=>?_⟩
 · have:=h.ob i i0 i1
   rw[ja i i0 i1]
   split<;>omega
 · have bi:=h.ob i i0 i1
   rw[ja i i0 i1]
   by_cases q:gI of i=max (gI of a) (gI of b)
   · rw[if_pos q,ja _ (by omega) (by omega),emin]
     split<;>rfl
   · rw[if_neg q,ja _ (by omega) (by omega),h.id i i0 i1,if_neg q]
 · rw[ja i i0 i1,ja j j0 j1] at hij
   by_cases q:gI of i=max (gI of a) (gI of b)
   · rw[if_pos q] at hij
     by_cases q2:gI of j=max (gI of a) (gI of b)
     · exact h.snd i j i0 i1 j0 j1 (by rw[q,q2])
     · rw[if_neg q2] at hij
       exact(hcl i i0 i1 (.inl q)).trans (hcl j j0 j1 (.inr hij.symm)).symm
   · rw[if_neg q] at hij
     by_cases q2:gI of j=max (gI of a) (gI of b)
     · rw[if_pos q2] at hij
       exact(hcl i i0 i1 (.inr hij)).trans (hcl j j0 j1 (.inl q2)).symm
     · rw[if_neg q2] at hij
       exact h.snd i j i0 i1 j0 j1 hij
 · rw[ja a a0 a1,ja b b0 b1]
   split<;>split<;>omega
 · rw[ja i i0 i1,ja j j0 j1,hij]
def iq(g:bK)(v:Int):List Bool:=(List.replicate g.1.toNat false).set v.toNat true
theorem oN(hm:bg g)(v0:0<=v)(v1:v<g.1)(x0:0<=x):gI (iq g v) x=true↔x=v:=by
 unfold iq
 rw[cS v0 (by simp;omega) x0]
 by_cases q:x=v
 · rw[if_pos q];simp[q]
 · rw[if_neg q]
   constructor
   · intro j
     exfalso
     by_cases c:x<g.1
     · rw[fm x0 (by omega)] at j;cases j
     · have:¬x.toNat<g.1.toNat:=by omega
       simp[gI,this] at j
   · intro j;exact absurd j q
theorem jv(hm:bg g)(v0:0<=v)(v1:v<g.1)(x0:0<=x)(x1:x<g.1)(y0:0<=y)(y1:y<g.1)(hx:x≠v)(hy:y≠v):
    (0<=gI (b7 g (iq g v) []).1 x/\gI (b7 g (iq g v) []).1 x<g.1)/\(gI (b7 g (iq g v) []).1 x=gI (b7 g (iq g v) []).1 y↔Wy g (λz=>z≠v) x y):=by
  obtain⟨l,hi⟩:=jx (gone:=iq g v) (cut:=[]) hm
  have hP:=hG (gone:=iq g v) (cut:=[]) hm
  have hno:∀z,0<=z->z≠v->¬gI (iq g v) z=true:=λz z0 q j=>q ((oN hm v0 v1 z0).1 j)
  have hxd:eE g x:=⟨x0,x1⟩
  have hyd:eE g y:=⟨y0,y1⟩
  obtain⟨l1,l2,l3⟩:=kx (gone:=iq g v) (cut:=[]) hm
  have h0:0<=gI (b7 g (iq g v) []).1 x:=(hi.iff x hxd).2 (by
    have:=hi.all x.toNat (by omega) (by omega) (by rw[show((x.toNat:Nat):Int)=x by omega];exact hno x x0 hx)
    rwa[show((x.toNat:Nat):Int)=x by omega] at this)
  have h1:=hi.top x hxd
  refine⟨⟨h0,by omega⟩,(hi.lab x y hxd hyd h0).trans ⟨λhc=>?_,λhw=>?_⟩⟩
  · exact hP.cl (λz=>z≠v/\Wy g (λz=>z≠v) x z) (λh hh hp q=>by
      have:=hp.2.1
      have ht:=di hm hh
      have hne:b6 g h≠v:=λj=>this ((oN hm v0 v1 ht.1).2 j)
      exact⟨hne,.step q.2 hh hne⟩) x y hc ⟨hx,.refl hx⟩ |>.2
  · induction hw with
    |refl _=>exact(Cn.eqv _).rfl _ (hP.nd.2 hxd)
    |step p q r ih=>
      rename_i h'
      have hf:=c8 hm q
      have hfn:=p.right
      have hc:=ih hf.1 hf.2 hfn ⟨hf.1,hf.2⟩
      have ht:=di hm q
      exact(Cn.eqv _).trans _ _ _ (hP.nd.2 hxd) (hP.nd.2 hf) (hP.nd.2 ht) hc (hP.one h' q ⟨hno _ hf.1 hfn,hno _ ht.1 r,by simp[gI]⟩)
structure m7(g:bK)(of0:List Int)(v:Int)(c fi of:List Int)(k:Nat):Prop where
 hc:c=(b7 g (iq g v) []).1
 v0:0<=v
 v1:v<g.1
 fl:(fi.length:Int)=g.1
 fb:∀x,0<=x->x<g.1->0<=gI fi x/\gI fi x<=(g.2.length:Int)
 le:ut g of
 mono:∀i j,0<=i->i<(g.2.length:Int)->0<=j->j<(g.2.length:Int)->gI of0 i=gI of0 j->gI of i=gI of j
 frs:∀x,0<=x->x<g.1->gI fi x≠0->∃h∈bL g v,b6 g h≠v/\h/2=gI fi x-1/\gI c (b6 g h)=x
 row:∀h∈(bL g v).take k,b6 g h≠v->gI fi (gI c (b6 g h))≠0/\gI of (gI fi (gI c (b6 g h))-1)=gI of (h/2)
theorem m7.start(hm:bg g)(v0:0<=v)(v1:v<g.1)(hc:c=(b7 g (iq g v) []).1)(hl:ut g of):m7 g of v c (List.replicate (Int.toNat g.1) 0) of 0:=by
 have hr:∀x,0<=x->x<g.1->gI (List.replicate (Int.toNat g.1) (0:Int)) x=0:=λx a b=>fm a (by omega)
 exact⟨hc,v0,v1,by simp;omega,λx a b=>by rw[hr x a b];omega,hl,λ_ _ _ _ _ _ q=>q,λx a b q=>absurd (hr x a b) q,λh q=>by simp at q⟩
theorem m7.loop(h:m7 g of0 v c fi of k)(hk:(k:Int)<(bL g v).length)(hl:b6 g (gI (bL g v) (k:Int))=v):m7 g of0 v c fi of (k+1):=by
 refine⟨h.hc,h.v0,h.v1,h.fl,h.fb,h.le,h.mono,h.frs,λx hx q=>?_⟩
 rw[cY hk] at hx
 rcases List.mem_append.1 hx with hx|hx
 · exact h.row x hx q
 · rw[List.mem_singleton.1 hx] at q;exact absurd hl q
theorem nF(hk:(k:Int)<(bL g v).length):gI (bL g v) (k:Int)∈bL g v/\hf g (gI (bL g v) (k:Int))/\aw g (gI (bL g v) (k:Int))=v:=by
 have h1:=bP (xs:=bL g v) (i:=(k:Int)) (by omega) hk
 exact⟨h1,cJ h1⟩
theorem m7.cb(hm:bg g)(h:m7 g of0 v c fi of k)(hx0:0<=x)(hx1:x<g.1)(hx:x≠v):0<=gI c x/\gI c x<g.1:=by
 rw[h.hc]
 exact(jv hm h.v0 h.v1 hx0 hx1 hx0 hx1 hx hx).1
theorem m7.first(hm:bg g)(h:m7 g of0 v c fi of k)(hk:(k:Int)<(bL g v).length)(hl:¬b6 g (gI (bL g v) (k:Int))=v)(h0:gI fi (gI c (b6 g (gI (bL g v) (k:Int))))=0):m7 g of0 v c (fi.set (Int.toNat (gI c (b6 g (gI (bL g v) (k:Int))))) (gI (bL g v) (k:Int)/2+1)) of (k+1):=by
 obtain⟨r1,r2,r3⟩:=nF hk
 have ht:=di hm r2
 obtain⟨c0,c1⟩:=h.cb hm ht.1 ht.2 hl
 have hfl:=h.fl
 have hs:∀x,0<=x->gI (fi.set (Int.toNat (gI c (b6 g (gI (bL g v) (k:Int))))) (gI (bL g v) (k:Int)/2+1)) x=if x=gI c (b6 g (gI (bL g v) (k:Int))) then gI (bL g v) (k:Int)/2+1 else gI fi x:=λx q=>bY c0 (by omega) q
 have b1:=fM r2
 have b2:=eP r2
 refine⟨h.hc,h.v0,h.v1,by rw[List.length_set];exact hfl,λx x0 x1=>?_,h.le,h.mono,λx x0 x1 q=>?_,λy hy q=>?_⟩
 · rw[hs x x0]
   have:=h.fb x x0 x1
   split<;>omega
 · rw[hs x x0] at q ⊢
   by_cases e:x=gI c (b6 g (gI (bL g v) (k:Int)))
   · rw[if_pos e]
     exact⟨_,r1,hl,by omega,e.symm⟩
   · rw[if_neg e] at q ⊢
     exact h.frs x x0 x1 q
 · have hyo:y∈bL g v:=List.mem_of_mem_take hy
   have hyt:=di hm (cJ hyo).1
   obtain⟨d0,d1⟩:=h.cb hm hyt.1 hyt.2 q
   rw[hs _ d0]
   rw[cY hk] at hy
   rcases List.mem_append.1 hy with hy|hy
   · obtain⟨p1,p2⟩:=h.row y hy q
     by_cases e:gI c (b6 g y)=gI c (b6 g (gI (bL g v) (k:Int)))
     · rw[e] at p1;exact absurd h0 p1
     · rw[if_neg e];exact⟨p1,p2⟩
   · rw[List.mem_singleton.1 hy,if_pos rfl]
     exact⟨by omega,by rw[show gI (bL g v) (k:Int)/2+1-1=gI (bL g v) (k:Int)/2 by omega]⟩
theorem m7.join(hm:bg g)(h:m7 g of0 v c fi of k)(hk:(k:Int)<(bL g v).length)(hl:¬b6 g (gI (bL g v) (k:Int))=v)(h0:¬gI fi (gI c (b6 g (gI (bL g v) (k:Int))))=0)(he:of2=gK of (gI fi (gI c (b6 g (gI (bL g v) (k:Int))))-1) (gI (bL g v) (k:Int)/2)):m7 g of0 v c fi of2 (k+1):=by
 subst he
 obtain⟨r1,r2,r3⟩:=nF hk
 have ht:=di hm r2
 obtain⟨c0,c1⟩:=h.cb hm ht.1 ht.2 hl
 have b1:=fM r2
 have b2:=eP r2
 obtain⟨f0,f1⟩:=h.fb _ c0 c1
 obtain⟨y,y1,y2,y3,y4⟩:=h.frs _ c0 c1 h0
 obtain⟨yf,yv⟩:=cJ y1
 have hyt:=di hm yf
 have hrel:jY g (gI fi (gI c (b6 g (gI (bL g v) (k:Int))))-1) (gI (bL g v) (k:Int)/2):=by
   refine⟨y,_,yf,r2,y3,rfl,by rw[yv,r3],by rw[yv];exact y2,by rw[r3];exact hl,?_⟩
   rw[yv]
   rw[h.hc] at y4
   exact(jv hm h.v0 h.v1 hyt.1 hyt.2 ht.1 ht.2 y2 hl).2.1 y4
 obtain⟨j1,j2,j3⟩:=h.le.join (a:=gI fi (gI c (b6 g (gI (bL g v) (k:Int))))-1) (b:=gI (bL g v) (k:Int)/2) (by omega) (by omega) b1 b2 (.rel hrel)
 refine⟨h.hc,h.v0,h.v1,h.fl,h.fb,j1,λi j i0 i1 j0 j1' q=>j3 i j i0 i1 j0 j1' (h.mono i j i0 i1 j0 j1' q),h.frs,λz hz q=>?_⟩
 · have hzo:z∈bL g v:=List.mem_of_mem_take hz
   have hzf:=(cJ hzo).1
   have hzt:=di hm hzf
   obtain⟨d0,d1⟩:=h.cb hm hzt.1 hzt.2 q
   rw[cY hk] at hz
   rcases List.mem_append.1 hz with hz|hz
   · obtain⟨p1,p2⟩:=h.row z hz q
     obtain⟨q1,q2⟩:=h.fb _ d0 d1
     exact⟨p1,j3 _ _ (by omega) (by omega) (fM hzf) (eP hzf) p2⟩
   · rw[List.mem_singleton.1 hz]
     exact⟨h0,j2⟩
structure qq(g:bK)(of:List Int)(k:Nat):Prop where
  le:ut g of
  cmp:∀v:Int,0<=v->v<(k:Int)->∀h∈bL g v,∀h'∈bL g v,b6 g h≠v->b6 g h'≠v->gI (b7 g (iq g v) []).1 (b6 g h)=gI (b7 g (iq g v) []).1 (b6 g h')->gI of (h/2)=gI of (h'/2)
theorem qq.start:qq g (bJ g.2.length) 0:=by
 have hi:∀i,0<=i->i<(g.2.length:Int)->gI (bJ g.2.length) i=i:=λi a b=>pC a (by omega)
 refine⟨⟨by simp[bJ],λi a b=>by rw[hi i a b];omega,λi a b=>by rw[hi i a b,hi i a b],λi j a b c d q=>by rw[hi i a b,hi j c d] at q;rw[q];exact .refl _⟩,λv a b=>by omega⟩
theorem qq.next(hm:bg g)(h:qq g of0 k){m:Nat}(hr:m7 g of0 (k:Int) c fi of m)(hm2:¬(m:Int)<(bL g (k:Int)).length):qq g of (k+1):=by
 refine⟨hr.le,λv v0 v1 x hx y hy hxv hyv q=>?_⟩
 by_cases c':v=(k:Int)
 · subst c'
   have hr':=hr.row
   rw[List.take_of_length_le (by omega),hr.hc] at hr'
   obtain⟨p1,p2⟩:=hr' x hx hxv
   obtain⟨q1,q2⟩:=hr' y hy hyv
   rw[<-p2,<-q2,q]
 · have hxf:=(cJ hx).1
   have hyf:=(cJ hy).1
   exact hr.mono _ _ (fM hxf) (eP hxf) (fM hyf) (eP hyf) (h.cmp v v0 (by omega) x hx y hy hxv hyv q)
theorem qq.all(hm:bg g)(h:qq g of k)(hk:(k:Int)=g.1)(i0:0<=i)(i1:i<(g.2.length:Int))(j0:0<=j)(j1:j<(g.2.length:Int)):gI of i=gI of j↔EqB g i j:=by
 refine⟨h.le.snd i j i0 i1 j0 j1,λhe=>?_⟩
 have one:∀i j,jY g i j->gI of i=gI of j:=by
   rintro i j ⟨x,y,hx,hy,rfl,rfl,hxy,hx2,hy2,hw⟩
   have hf:=c8 hm hx
   have hxt:=di hm hx
   have hyt:=di hm hy
   exact h.cmp (aw g x) hf.1 (by omega) x (fh hx) y (by rw[hxy];exact fh hy) hx2 (by rw[hxy];exact hy2) ((jv hm hf.1 hf.2 hxt.1 hxt.2 hyt.1 hyt.2 hx2 (by rw[hxy];exact hy2)).2.2 hw)
 clear i0 i1 j0 j1
 induction he with
 |refl=>rfl
 |rel q=>exact one _ _ q
 |symm _ ih=>exact ih.symm
 |trans _ _ i1 i2=>exact i1.trans i2
end TL
/-
  TlDocC: the document's blocks and cut nodes are the program's.
  By an AI agent.
-/
set_option linter.all false
namespace TL
variable{g:bK}{of nu bo cu L M l:List Int}{a b v h i j x y n n' ct:Int}{k m:Nat}
inductive Fn (L:List Int):Nat->Int->Prop
  |zero:Fn L 0 0
  |old {k:Nat} {n:Int} (j:Nat):Fn L k n->j<k->gI L (j:Int)=gI L (k:Int)->Fn L (k+1) n
  |new {k:Nat} {n:Int}:Fn L k n->(∀j:Nat,j<k->gI L (j:Int)≠gI L (k:Int))->gI L (k:Int)=n->Fn L (k+1) (n+1)
theorem Fn.congr(h:Fn L k n):(∀i:Nat,i<k->gI L (i:Int)=gI M (i:Int))->Fn M k n:=by
 induction h with
 |zero=>intro _;exact .zero
 | @old k n j h1 h2 h3 ih=>
   intro hh
   exact .old j (ih λi q=>hh i (by omega)) h2 (by rw[<-hh j (by omega),<-hh k (by omega),h3])
 | @new k n h1 h2 h3 ih=>
   intro hh
   exact .new (ih λi q=>hh i (by omega)) (λj q=>by rw[<-hh j (by omega),<-hh k (by omega)];exact h2 j q) (by rw[<-hh k (by omega),h3])
theorem Fn.uniq(h:Fn L k n):∀n',Fn M k n'->(∀i j:Nat,i<k->j<k->(gI L (i:Int)=gI L (j:Int)↔gI M (i:Int)=gI M (j:Int)))->n=n'/\∀i:Nat,i<k->gI L (i:Int)=gI M (i:Int):=by
 induction h with
 |zero=>intro n' h' _;cases h';exact⟨rfl,λi q=>by omega⟩
 | @old k n j h1 h2 h3 ih=>
   intro n' h' hh
   cases h' with
   |old j' h1' h2' h3'=>
     obtain⟨e1,e2⟩:=ih _ h1' (λi j a b=>hh i j (by omega) (by omega))
     refine⟨e1,λi q=>?_⟩
     by_cases c:i=k
     · rw[c,<-h3,e2 j h2]
       exact(hh j k (by omega) (by omega)).1 h3
     · exact e2 i (by omega)
   |new h1' h2' h3'=>exact absurd ((hh j k (by omega) (by omega)).1 h3) (h2' j h2)
 | @new k n h1 h2 h3 ih=>
   intro n' h' hh
   cases h' with
   |old j' h1' h2' h3'=>exact absurd ((hh j' k (by omega) (by omega)).2 h3') (h2 j' h2')
   |new h1' h2' h3'=>
     obtain⟨e1,e2⟩:=ih _ h1' (λi j a b=>hh i j (by omega) (by omega))
     refine⟨by omega,λi q=>?_⟩
     by_cases c:i=k
     · rw[c,h3,h3',e1]
     · exact e2 i (by omega)
theorem Fn.top(h:Fn L k n):0<=n/\(0<n->∃i:Nat,i<k/\gI L (i:Int)=n-1):=by
 induction h with
 |zero=>exact⟨Int.le_refl _,λq=>by omega⟩
 |old j h1 h2 h3 ih=>
   refine⟨ih.1,λq=>?_⟩
   obtain⟨i,i1,i2⟩:=ih.2 q
   exact⟨i,by omega,i2⟩
 | @new k n h1 h2 h3 ih=>exact⟨by omega,λ_=>⟨k,by omega,by omega⟩⟩
theorem pp(l:List Int):∀(k:Nat) (x:Int),x∈(aK l k).1->∃j:Nat,j<k/\gI l (j:Int)=x
 |0,x,hx=>absurd hx List.not_mem_nil
 |k+1,x,hx=>by
   have hx2:x∈(if gI l (k:Int)∈(aK l k).1 then(aK l k).1 else(aK l k).1++[gI l (k:Int)]):=hx
   have:x∈(aK l k).1\/x=gI l (k:Int):=by
     split at hx2
     · exact .inl hx2
     · exact(List.mem_append.1 hx2).imp id List.mem_singleton.1
   rcases this with q|q
   · obtain⟨j,j1,j2⟩:=pp l k x q
     exact⟨j,by omega,j2⟩
   · exact⟨k,by omega,q.symm⟩
theorem rO(l:List Int):∀k:Nat,Fn (aK l k).2 k ((aK l k).1.length:Int)
 |0=>.zero
 |k+1=>by
   have hl:=(hX l k).1
   have hlast:=(i5 l (k+1) k (by omega)).1
   have hpre:∀i:Nat,i<k->gI (aK l k).2 (i:Int)=gI (aK l (k+1)).2 (i:Int):=λi q=>by
     conv=>rhs;unfold aK
     exact(kV (by omega) (by omega)).symm
   have hc:=(rO l k).congr hpre
   by_cases c:gI l (k:Int)∈(aK l k).1
   · have e:(aK l (k+1)).1=(aK l k).1:=by conv=>lhs;unfold aK;simp only[if_pos c]
     obtain⟨j,j1,j2⟩:=pp l k _ c
     rw[e]
     refine .old j hc j1 ?_
     rw[hlast,e,<-hpre j j1,(i5 l k j j1).1,j2]
   · have e:(aK l (k+1)).1=(aK l k).1++[gI l (k:Int)]:=by conv=>lhs;unfold aK;simp only[if_neg c]
     have elast:gI (aK l (k+1)).2 (k:Int)=((aK l k).1.length:Int):=by
       rw[hlast,e,List.idxOf_append,if_neg c];simp
     have e3:(((aK l (k+1)).1.length:Nat):Int)=((aK l k).1.length:Int)+1:=by rw[e,List.length_append,List.length_singleton];omega
     rw[e3]
     refine .new hc (λj q=>?_) elast
     rw[elast,<-hpre j q]
     have:=lY l k _ (bP (xs:=(aK l k).2) (i:=(j:Int)) (by omega) (by omega))
     omega
theorem og(g:bK):Fn (dq g) g.2.length (cx g):=rO _ _
def gX(of:List Int)(k:Nat):Int:=(((bJ k).filter λj=>decide (gI of j=j)).length:Int)
theorem iW(h:gI of (k:Int)=(k:Int)):gX of (k+1)=gX of k+1:=by
 unfold gX
 rw[cz,List.filter_append]
 simp[h]
theorem mr(h:¬gI of (k:Int)=(k:Int)):gX of (k+1)=gX of k:=by
 unfold gX
 rw[cz,List.filter_append]
 simp[h]
theorem li:∀d:Nat,gX of k<=gX of (k+d)
 |0=>Int.le_refl _
 |d+1=>by
   have:=li d
   by_cases c:gI of ((k+d:Nat):Int)=((k+d:Nat):Int)
   · have:=iW c
     rw[show k+(d+1)=k+d+1 by omega];omega
   · have:=mr c
     rw[show k+(d+1)=k+d+1 by omega];omega
theorem lJ{j:Nat}(h:gI of (j:Int)=(j:Int))(hj:j<k):gX of j<gX of k:=by
 have h1:=iW h
 have h2:=li (of:=of) (k:=j+1) (k-(j+1))
 rw[show j+1+(k-(j+1))=k by omega] at h2
 omega
theorem ss:0<=gX of k/\gX of k<=(k:Int):=by
 unfold gX
 have:((bJ k).filter λj=>decide (gI of j=j)).length<=(bJ k).length:=List.length_filter_le ..
 have h2:(bJ k).length=k:=by simp[bJ]
 omega
structure nI(of nu:List Int)(ct:Int)(k:Nat):Prop where
 lo:(nu.length:Int)=of.length
 ct:ct=gX of k
 nu:∀j:Nat,j<k->gI of (j:Int)=(j:Int)->gI nu (j:Int)=gX of j
theorem nI.start{m:Int}(hl:(of.length:Int)=m):nI of (List.replicate (Int.toNat m) 0) 0 0:=⟨by simp;omega,rfl,λj q=>by omega⟩
theorem nI.cb(h:nI of nu ct k):0<=ct/\ct<=(k:Int):=by rw[h.ct];exact ss
theorem nI.yes(h:nI of nu ct k)(hk:(k:Int)<of.length)(hc:gI of (k:Int)=(k:Int)):nI of (nu.set (Int.toNat (k:Int)) ct) (ct+1) (k+1):=by
 have hl:=h.lo
 refine⟨by rw[List.length_set];exact hl,by rw[iW hc,h.ct],λj q e=>?_⟩
 rw[bY (by omega) (by omega) (by omega)]
 by_cases c:j=k
 · subst c;rw[if_pos rfl];exact h.ct
 · rw[if_neg (by omega)];exact h.nu j (by omega) e
theorem nI.no(h:nI of nu ct k)(hc:¬gI of (k:Int)=(k:Int)):nI of nu ct (k+1):=by
 refine⟨h.lo,by rw[mr hc,h.ct],λj q e=>?_⟩
 by_cases c:j=k
 · subst c;exact absurd e hc
 · exact h.nu j (by omega) e
structure tA(of nu bo:List Int)(k:Nat):Prop where
  lo:(bo.length:Int)=of.length
  at_:∀j:Nat,j<k->gI bo (j:Int)=gI nu (gI of (j:Int))
theorem tA.start{m:Int}(hl:(of.length:Int)=m):tA of nu (List.replicate (Int.toNat m) 0) 0:=⟨by simp;omega,λj q=>by omega⟩
theorem tA.next(h:tA of nu bo k)(hk:(k:Int)<of.length):tA of nu (bo.set (Int.toNat (k:Int)) (gI nu (gI of (k:Int)))) (k+1):=by
 have hl:=h.lo
 refine⟨by rw[List.length_set];exact hl,λj q=>?_⟩
 rw[bY (by omega) (by omega) (by omega)]
 by_cases c:j=k
 · subst c;rw[if_pos rfl]
 · rw[if_neg (by omega)];exact h.at_ j (by omega)
theorem u5(hm:bg g){q:Nat}(hd:qq g of q)(hq:(q:Int)=g.1){k1 k2:Nat}(hn:nI of nu ct k1)(h1:(k1:Int)=g.2.length)(hb:tA of nu bo k2)(h2:(k2:Int)=g.2.length):bo=dq g/\ct=cx g:=by
 have hlo:=hd.le.lo
 have e1:k1=g.2.length:=by omega
 have e2:k2=g.2.length:=by omega
 subst e1 e2
 have hob:∀i:Nat,i<g.2.length->0<=gI of (i:Int)/\gI of (i:Int)<=(i:Int):=λi q=>hd.le.ob i (by omega) (by omega)
 have hat:∀i:Nat,i<g.2.length->gI bo (i:Int)=gX of (gI of (i:Int)).toNat:=λi q=>by
   obtain⟨a,b⟩:=hob i q
   rw[hb.at_ i q]
   have hid:=hd.le.id i (by omega) (by omega)
   have:=hn.nu (gI of (i:Int)).toNat (by omega) (by rw[show(((gI of (i:Int)).toNat:Nat):Int)=gI of (i:Int) by omega];exact hid)
   rwa[show(((gI of (i:Int)).toNat:Nat):Int)=gI of (i:Int) by omega] at this
 have hfn:∀k:Nat,k<=g.2.length->Fn bo k (gX of k):=by
   intro k
   induction k with
   |zero=>intro _;exact .zero
   |succ k ih=>
     intro hk
     obtain⟨a,b⟩:=hob k (by omega)
     by_cases c:gI of (k:Int)=(k:Int)
     · rw[iW c]
       refine .new (ih (by omega)) (λj q=>?_) (by rw[hat k (by omega),c];rfl)
       obtain⟨a2,b2⟩:=hob j (by omega)
       have hid:=hd.le.id j (by omega) (by omega)
       have:=lJ (of:=of) (j:=(gI of (j:Int)).toNat) (k:=k) (by rw[show(((gI of (j:Int)).toNat:Nat):Int)=gI of (j:Int) by omega];exact hid) (by omega)
       rw[hat j (by omega),hat k (by omega),c,Int.toNat_natCast]
       omega
     · rw[mr c]
       refine .old (gI of (k:Int)).toNat (ih (by omega)) (by omega) ?_
       have hid:=hd.le.id k (by omega) (by omega)
       have h3:=hat (gI of (k:Int)).toNat (by omega)
       rw[show(((gI of (k:Int)).toNat:Nat):Int)=gI of (k:Int) by omega] at h3 ⊢
       rw[h3,hat k (by omega),hid]
 have hall:∀i j:Nat,i<g.2.length->j<g.2.length->(gI bo (i:Int)=gI bo (j:Int)↔gI (dq g) (i:Int)=gI (dq g) (j:Int)):=λi j hi hj=>by
   rw[m8 hm (by omega) (by omega) (by omega) (by omega),<-hd.all hm hq (by omega) (by omega) (by omega) (by omega),hat i hi,hat j hj]
   obtain⟨a,b⟩:=hob i hi
   obtain⟨a2,b2⟩:=hob j hj
   have hid:=hd.le.id i (by omega) (by omega)
   have hid2:=hd.le.id j (by omega) (by omega)
   constructor
   · intro e
     rcases Int.lt_trichotomy (gI of (i:Int)) (gI of (j:Int)) with q|q|q
     · have:=lJ (of:=of) (j:=(gI of (i:Int)).toNat) (k:=(gI of (j:Int)).toNat) (by rw[show(((gI of (i:Int)).toNat:Nat):Int)=gI of (i:Int) by omega];exact hid) (by omega)
       omega
     · exact q
     · have:=lJ (of:=of) (j:=(gI of (j:Int)).toNat) (k:=(gI of (i:Int)).toNat) (by rw[show(((gI of (j:Int)).toNat:Nat):Int)=gI of (j:Int) by omega];exact hid2) (by omega)
       omega
   · intro e;rw[e]
 obtain⟨u1,u2⟩:=(hfn g.2.length (Nat.le_refl _)).uniq _ (og g) hall
 have hbl:=hb.lo
 have hol:=fT g
 exact⟨eV (by omega) (λi hi=>u2 i (by omega)),by rw[hn.ct];exact u1⟩
def vr(g:bK)(of:List Int)(v:Int)(k:Int):Prop:=∃x y,hf g x/\hf g y/\x<k/\y<k/\aw g x=v/\aw g y=v/\gI of (x/2)≠gI of (y/2)
theorem pm(hm:bg g)(ho:∀e,0<=e->e<(g.2.length:Int)->0<=gI of e)(v0:0<=v)(v1:v<g.1):∀k:Nat,(k:Int)<=2*(g.2.length:Int)->
   (eN of g k).1.length=g.1.toNat/\(eN of g k).2.length=g.1.toNat/\
   ((gI (eN of g k).1 v=0/\∀x,hf g x->x<k->aw g x≠v)\/∃x,hf g x/\x<k/\aw g x=v/\gI (eN of g k).1 v=gI of (x/2)+1)/\(gI (eN of g k).2 v=true↔vr g of v k)
 |0,_=>by
   have r0:gI (eN of g 0).1 v=0:=fm v0 (by omega)
   have r1:gI (eN of g 0).2 v=false:=fm v0 (by omega)
   refine⟨by simp[eN,bJ],by simp[eN,bJ],.inl ⟨r0,λx hx q=>by have:=hx.1;omega⟩,?_⟩
   rw[r1]
   exact⟨λq=>absurd q (by decide),λ⟨x,_,hx,_,q,_⟩=>(by have:=hx.1;omega)⟩
 |k+1,hk=>by
   obtain⟨l1,l2,h1,h2⟩:=pm hm ho v0 v1 k (by omega)
   have e:eN of g (k+1)=rn of g (eN of g k) (k:Int):=by
     unfold eN
     rw[cz,List.foldl_append];rfl
   have hkf:hf g (k:Int):=⟨by clear h1;omega,by clear h1;omega⟩
   have hup:∀z:Int,z<(k:Int)->z<((k+1:Nat):Int):=λz q=>by clear h1;omega
   have hkk:(k:Int)<((k+1:Nat):Int):=by clear h1;omega
   obtain⟨f0,f1⟩:=c8 hm hkf
   have hok:=ho _ (fM hkf) (eP hkf)
   have s1:gI (eN of g (k+1)).1 v=if v=aw g (k:Int) then gI of ((k:Int)/2)+1 else gI (eN of g k).1 v:=by
     rw[e];exact bY f0 (by clear h1;omega) v0
   have s2:gI (eN of g (k+1)).2 v=if v=aw g (k:Int) then(gI (eN of g k).2 (aw g (k:Int))||(decide (0<gI (eN of g k).1 (aw g (k:Int)))&& !decide (gI (eN of g k).1 (aw g (k:Int))=gI of ((k:Int)/2)+1))) else gI (eN of g k).2 v:=by
     rw[e];exact bY f0 (by clear h1;omega) v0
   refine⟨by rw[e];unfold rn;rw[List.length_set];exact l1,by rw[e];unfold rn;rw[List.length_set];exact l2,?_,?_⟩
   · rw[s1]
     by_cases c:v=aw g (k:Int)
     · rw[if_pos c]
       exact .inr ⟨_,hkf,hkk,c.symm,rfl⟩
     · rw[if_neg c]
       rcases h1 with⟨p,q⟩|⟨x,x1,x2,x3,x4⟩
       · refine .inl ⟨p,λx hx hlt hv=>?_⟩
         by_cases d:x=(k:Int)
         · rw[d] at hv;exact c hv.symm
         · exact q x hx (by omega) hv
       · exact .inr ⟨x,x1,hup x x2,x3,x4⟩
   · rw[s2]
     by_cases c:v=aw g (k:Int)
     · rw[if_pos c,<-c]
       rw[Bool.or_eq_true,Bool.and_eq_true,decide_eq_true_iff,Bool.not_eq_true',decide_eq_false_iff_not]
       constructor
       · rintro(q|⟨q1,q2⟩)
         · obtain⟨x,y,a1,a2,a3,a4,a5⟩:=h2.1 q
           exact⟨x,y,a1,a2,hup x a3,hup y a4,a5⟩
         · rcases h1 with⟨p,_⟩|⟨x,x1,x2,x3,x4⟩
           · omega
           · exact⟨x,(k:Int),x1,hkf,hup x x2,hkk,x3,c.symm,λj=>q2 (by rw[x4,j])⟩
       · rintro⟨x,y,a1,a2,a3,a4,a5,a6,a7⟩
         by_cases d:gI (eN of g k).2 v=true
         · exact .inl d
         · right
           have same:∀x y,hf g x->hf g y->x<(k:Int)->y<(k:Int)->aw g x=v->aw g y=v->gI of (x/2)=gI of (y/2):=λx y p1 p2 p3 p4 p5 p6=>Classical.byContradiction λj=>d (h2.2 ⟨x,y,p1,p2,p3,p4,p5,p6,j⟩)
           have hz:∃z,hf g z/\z<(k:Int)/\aw g z=v/\gI of (z/2)≠gI of ((k:Int)/2):=by
             by_cases dx:x=(k:Int)
             · by_cases dy:y=(k:Int)
               · rw[dx,dy] at a7;exact absurd rfl a7
               · exact⟨y,a2,(by clear h1;omega),a6,by rw[dx] at a7;exact a7.symm⟩
             · by_cases dy:y=(k:Int)
               · exact⟨x,a1,(by clear h1;omega),a5,by rw[dy] at a7;exact a7⟩
               · exact absurd (same x y a1 a2 (by clear h1;omega) (by clear h1;omega) a5 a6) a7
           obtain⟨z,z1,z2,z3,z4⟩:=hz
           rcases h1 with⟨p,q⟩|⟨w,w1,w2,w3,w4⟩
           · exact absurd z3 (q z z1 z2)
           · have:=same w z w1 z1 w2 z2 w3 z3
             have h5:=ho _ (fM w1) (eP w1)
             exact⟨by omega,λj=>z4 (by omega)⟩
     · rw[if_neg c,h2]
       constructor
       · rintro⟨x,y,a1,a2,a3,a4,a5⟩
         exact⟨x,y,a1,a2,hup x a3,hup y a4,a5⟩
       · rintro⟨x,y,a1,a2,a3,a4,a5,a6,a7⟩
         refine⟨x,y,a1,a2,?_,?_,a5,a6,a7⟩
         · have:x≠(k:Int):=λj=>by rw[j] at a5;exact c a5.symm
           clear h1;omega
         · have:y≠(k:Int):=λj=>by rw[j] at a6;exact c a6.symm
           clear h1;omega
def gH(g:bK):List Bool:=(eN (dq g) g (2*g.2.length)).2
theorem jw(hm:bg g)(v0:0<=v)(v1:v<g.1):gI (gH g) v=true↔∃x∈bL g v,∃y∈bL g v,gI (dq g) (x/2)≠gI (dq g) (y/2):=by
 rw[show gI (gH g) v=gI (eN (dq g) g (2*g.2.length)).2 v from rfl,(pm hm (λe a b=>(eR g a b).1) v0 v1 (2*g.2.length) (by omega)).2.2.2]
 constructor
 · rintro⟨x,y,a1,a2,_,_,a5,a6,a7⟩
   refine⟨x,?_,y,?_,a7⟩
   · rw[<-a5];exact fh a1
   · rw[<-a6];exact fh a2
 · rintro⟨x,x1,y,y1,q⟩
   obtain⟨a1,a2⟩:=cJ x1
   obtain⟨b1,b2⟩:=cJ y1
   exact⟨x,y,a1,b1,by have:=a1.2;omega,by have:=b1.2;omega,a2,b2,q⟩
theorem sH(hm:bg g)(v0:0<=v)(v1:v<g.1)(hi:0<=i)(hj:i<((bL g v).length:Int))(h:¬gI (dq g) (gI (bL g v) i/2)=gI (dq g) (gI (bL g v) 0/2)):gI (gH g) v=true:=
 (jw hm v0 v1).2 ⟨_,bP hi hj,_,bP (by omega) (by omega),h⟩
theorem qP(hm:bg g)(v0:0<=v)(v1:v<g.1)(h:∀j:Int,1<=j->j<((bL g v).length:Int)->gI (dq g) (gI (bL g v) j/2)=gI (dq g) (gI (bL g v) 0/2)):¬gI (gH g) v=true:=λq=>by
 obtain⟨x,x1,y,y1,hne⟩:=(jw hm v0 v1).1 q
 have key:∀x,x∈bL g v->gI (dq g) (x/2)=gI (dq g) (gI (bL g v) 0/2):=λx hx=>by
   obtain⟨i,hi,rfl⟩:=List.mem_iff_getElem.1 hx
   have e:gI (bL g v) (i:Int)=(bL g v)[i]:=by simp[gI,hi]
   rw[<-e]
   by_cases c:i=0
   · subst c;rfl
   · exact h i (by omega) (by omega)
 exact hne (by rw[key x x1,key y y1])
theorem sk(hc:cu=(bJ k).filter λv=>gI (gH g) v)(hk:(k:Int)=g.1):cu=de g:=by
 have:k=g.1.toNat:=by omega
 rw[hc,this];rfl
structure rT(m:Int)(of:List Int)(k:Nat):Prop where
  lo:(of.length:Int)=m
  at_:∀j:Nat,j<k->gI of (j:Int)=(j:Int)
theorem rT.start{m:Int}(h0:0<=m):rT m (List.replicate (Int.toNat m) 0) 0:=⟨by simp;omega,λj q=>by omega⟩
theorem rT.next{m:Int}(h:rT m of k)(hk:(k:Int)<m):rT m (of.set (Int.toNat (k:Int)) (k:Int)) (k+1):=by
 have hl:=h.lo
 refine⟨by rw[List.length_set];exact hl,λj q=>?_⟩
 rw[bY (by omega) (by omega) (by omega)]
 by_cases c:j=k
 · subst c;rw[if_pos rfl]
 · rw[if_neg (by omega)];exact h.at_ j (by omega)
theorem rT.done(h:rT (g.2.length:Int) of k)(hk:¬(k:Int)<(g.2.length:Int)):qq g of 0:=by
 have hl:=h.lo
 have:of=bJ g.2.length:=by
   apply eV
   · simp[bJ];omega
   · intro i hi
     rw[h.at_ i (by omega),pC (by omega) (by omega)]
 rw[this];exact qq.start
def fW(g:bK)(bo:List Int)(v j:Int):Prop:=1<=j/\∀i:Int,1<=i->i<j->gI bo (gI (bL g v) i/2)=gI bo (gI (bL g v) 0/2)
theorem fW.start:fW g bo v 1:=⟨Int.le_refl _,λi a b=>by omega⟩
theorem fW.next(h:fW g bo v j)(he:gI bo (gI (bL g v) j/2)=gI bo (gI (bL g v) 0/2)):fW g bo v (j+1):=by
 have:=h.1
 refine⟨by omega,λi a b=>?_⟩
 by_cases c:i=j
 · rw[c];exact he
 · exact h.2 i a (by omega)
theorem fW.yes(hm:bg g)(hb:bo=dq g)(hc:cu=(bJ k).filter λv=>gI (gH g) v)(hk:(k:Int)<g.1)(h:fW g bo (k:Int) j)(hj:j<((bL g (k:Int)).length:Int))(he:¬gI bo (gI (bL g (k:Int)) j/2)=gI bo (gI (bL g (k:Int)) 0/2)):cu++[(k:Int)]=(bJ (k+1)).filter λv=>gI (gH g) v:=by
 rw[hb] at he
 exact mU hc (sH hm (by omega) hk (by have:=h.1;omega) hj he)
theorem fW.no(hm:bg g)(hb:bo=dq g)(hc:cu=(bJ k).filter λv=>gI (gH g) v)(hk:(k:Int)<g.1)(h:fW g bo (k:Int) j)(hj:¬j<((bL g (k:Int)).length:Int)):cu=(bJ (k+1)).filter λv=>gI (gH g) v:=by
 refine oJ hc (qP hm (by omega) hk λi a b=>?_)
 have:=h.2 i a (by omega)
 rwa[hb] at this
end TL
/-
  TlDocD: biconnected, as the document has it; ears, as its check goes over them.
  By an AI agent.
-/
set_option linter.all false
namespace TL
variable{g:bK}{of cu l:List Int}{E:List (List Int)}{eb nb eb1 nb1:List Bool}{a b v w h i j x y e:Int}{k m q:Nat}{round_:Bool}
theorem uh(hm:bg g){pl by_:List Int}{r:Int}(ht:ux g pl by_)(hp:∀x,0<=x->x<g.1->gI pl x≠0)(h:AncB g by_ a x)(x0:0<=x)(x1:x<g.1):Cn (cV g [] []) a x:=by
 have hP:=hG (gone:=[]) (cut:=[]) hm
 induction h with
 |refl=>exact(Cn.eqv _).rfl _ ⟨x0,x1⟩
 |step p q ih=>
   obtain⟨t1,t2,t3,t4⟩:=ht.up _ x0 x1 (hp _ x0 x1) q
   obtain⟨f0,f1⟩:=c8 hm t1
   obtain⟨⟨a0,a1⟩,_⟩:=p.le hm ht ⟨f0,f1⟩ (hp _ f0 f1)
   have:=hP.one _ t1 ⟨by simp[gI],by simp[gI],by simp[gI]⟩
   rw[t2] at this
   exact(Cn.eqv (cV g [] [])).trans _ _ _ ⟨a0,a1⟩ ⟨f0,f1⟩ ⟨x0,x1⟩ (ih f0 f1) this
theorem qI(hm:bg g)(hn:1<=g.1):(b7 g [] []).2=1↔∀x y,eE g x->eE g y->Cn (cV g [] []) x y:=by
 obtain⟨l,hi⟩:=jx (gone:=[]) (cut:=[]) hm
 have hq:=Cn.eqv (cV g [] [])
 have hall:∀x,eE g x->∃y∈l,Cn (cV g [] []) x y:=λx hx=>by
   have h0:=hx.1
   have h1:=hx.2
   have:=hi.all x.toNat (by omega) (by omega) (by simp[gI])
   rwa[show((x.toNat:Nat):Int)=x by omega] at this
 rw[hi.num]
 constructor
 · intro h x y hx hy
   match l,h,hall,hi with
   |[z],_,hall,hi=>
     obtain⟨u,u1,u2⟩:=hall x hx
     obtain⟨w,w1,w2⟩:=hall y hy
     rw[List.mem_singleton.1 u1] at u2
     rw[List.mem_singleton.1 w1] at w2
     have hz:=(hi.dom z (by simp)).1
     exact hq.trans _ _ _ hx hz hy u2 (hq.symm _ _ hy hz w2)
   |[],h,_,_=>simp at h
   |_::_::_,h,_,_=>simp at h;omega
 · intro h
   have h1:l≠[]:=λe=>by
     obtain⟨y,y1,_⟩:=hall 0 ⟨Int.le_refl _,by omega⟩
     rw[e] at y1;cases y1
   match l,h1,hi with
   |[z],_,_=>rfl
   |a::b::t,_,hi=>
     have:=hi.one a (by simp) b (by simp) (h a b (hi.dom a (by simp)).1 (hi.dom b (by simp)).1)
     have hn:=hi.nd
     rw[this] at hn
     simp at hn
theorem nh(hm:bg g)(hh:hf g h):∀k:Nat,k<=g.2.length->h/2<(k:Int)->gI (dK g k) (aw g h)=true
 |0,_,hk=>by have:=hh.1;omega
 |k+1,hk,hlt=>by
   have hl:=(iI hm (c8 hm hh).1 (c8 hm hh).2 k (by omega)).1
   have hkl:k<g.2.length:=by omega
   have e:dK g (k+1)=((dK g k).set (g.2[k]).1.toNat true).set (g.2[k]).2.toNat true:=by
     unfold dK
     rw[List.take_succ_eq_append_getElem hkl,List.foldl_append];rfl
   have eg:gI g.2 (k:Int)=g.2[k]:=by simp[gI,hkl]
   obtain⟨⟨a0,a1⟩,b0,b1⟩:=hm.2.2.2 _ (List.getElem_mem hkl)
   obtain⟨f0,f1⟩:=c8 hm hh
   rw[e,cS b0 (by rw[List.length_set,hl];omega) f0,cS a0 (by rw[hl];omega) f0]
   by_cases c:h/2=(k:Int)
   · rcases gO (g:=g) hh.1 with⟨p,_⟩|⟨p,_⟩
     · rw[c,eg] at p
       rw[if_pos p];split<;>rfl
     · rw[c,eg] at p
       rw[if_pos p]
   · have:=nh hm hh k (by omega) (by omega)
     split
     · rfl
     · split
       · rfl
       · exact this
theorem k8(hm:bg g):c9 g=true↔2<=g.1/\(b7 g [] []).2=1/\(∀e∈g.2,¬e.1=e.2)/\de g=[]:=by
 have hq:=Cn.eqv (cV g [] [])
 have hP:=hG (gone:=[]) (cut:=[]) hm
 constructor
 · intro hb
   obtain⟨h1,h2,h3,h4⟩:=of_decide_eq_true hb
   have h0:=hm.1
   have ht:=rr hm g.1.toNat (by omega)
   obtain⟨hd,hu,hp⟩:=kE hm g.1.toNat (by omega)
   have hpp:∀x,0<=x->x<g.1->gI (cM g g.1.toNat).place x≠0:=λx a b=>hp x a (by omega)
   obtain⟨r,r1,r3⟩:=mC hm ht.tb (λx a b=>⟨(hd.se.pl x a b).1,hpp x a b⟩) _ 0 (Int.le_refl _) (by omega) (Nat.le_refl _)
   obtain⟨⟨r4,r5⟩,_⟩:=r1.le hm ht.tb ⟨Int.le_refl _,by omega⟩ (hpp 0 (by omega) (by omega))
   have hrx:∀x,eE g x->Cn (cV g [] []) r x:=λx hx=>uh (r:=r) hm ht.tb hpp (pQ hm hb r4 r5 hx.1 hx.2 r3) hx.1 hx.2
   refine⟨h1,(qI hm (by omega)).2 λx y hx hy=>hq.trans _ _ _ hx ⟨r4,r5⟩ hy (hq.symm _ _ ⟨r4,r5⟩ hx (hrx x hx)) (hrx y hy),h2,?_⟩
   unfold de
   rw[List.filter_eq_nil_iff]
   intro v hv
   obtain⟨v0,v1⟩:=fa.1 hv
   refine qP hm v0 (by omega) λj j1 j2=>?_
   have a1:=(cJ (bP (xs:=bL g v) (i:=j) (by omega) j2)).1
   have a2:=(cJ (bP (xs:=bL g v) (i:=0) (by omega) (by omega))).1
   have b1:=eR g (i:=gI (bL g v) j/2) (by have:=a1.1;omega) (by have:=a1.2;omega)
   have b2:=eR g (i:=gI (bL g v) 0/2) (by have:=a2.1;omega) (by have:=a2.2;omega)
   omega
 · rintro⟨h1,h2,h3,h4⟩
   have hc:=(qI hm (by omega)).1 h2
   have htch:∀v,eE g v->∃h,hf g h/\aw g h=v:=λv hv=>Classical.byContradiction λhn=>by
     obtain⟨w,hw,hne⟩:∃w,eE g w/\w≠v:=by
       by_cases c:v=0
       · exact⟨1,⟨by omega,by omega⟩,by omega⟩
       · exact⟨0,⟨by omega,by omega⟩,λj=>c j.symm⟩
     exact hne (hP.cl (λz=>z=v) (λh hh _ e=>absurd ⟨h,hh,e⟩ hn) v w (hc v w hv hw) rfl)
   have hrow:∀x y,hf g x->hf g y->aw g x=aw g y->gI (dq g) (x/2)=gI (dq g) (y/2):=λx y hx hy e=>Classical.byContradiction λhn=>by
     obtain⟨f0,f1⟩:=c8 hm hx
     have:aw g x∈de g:=by
       unfold de
       rw[List.mem_filter]
       exact⟨fa.2 ⟨f0,by omega⟩,(jw hm f0 f1).2 ⟨x,fh hx,y,by rw[e];exact fh hy,hn⟩⟩
     rw[h4] at this;cases this
   obtain⟨x0,hx0,_⟩:=htch 0 ⟨Int.le_refl _,by omega⟩
   have hsame:∀y,hf g y->gI (dq g) (y/2)=gI (dq g) (x0/2):=λy hy=>by
     have hS:=hP.cl (λz=>∀k,hf g k->aw g k=z->gI (dq g) (k/2)=gI (dq g) (x0/2)) (λh hh _ hs k hk e=>by
       obtain⟨t1,t2,t3,t4⟩:=dl (g:=g) hh
       rw[hrow k (dN h) hk t1 (by rw[e,t3]),t2]
       exact hs h hh rfl) _ _ (hc (aw g x0) (aw g y) (c8 hm hx0) (c8 hm hy)) (λk hk e=>hrow k x0 hk hx0 e)
     exact hS y hy rfl
   have hcnt:cx g=1:=by
     obtain⟨a,b⟩:=(og g).top
     have r0:=eR g (i:=x0/2) (fM hx0) (eP hx0)
     obtain⟨i,i1,i2⟩:=b (by omega)
     have e1:=hsame (2*(i:Int)) ⟨by omega,by omega⟩
     rw[show 2*(i:Int)/2=(i:Int) by omega] at e1
     have h6:=(i5 (cM g g.1.toNat).block g.2.length 0 (by omega)).1
     have e2:=hsame 0 ⟨Int.le_refl _,by omega⟩
     -- the first edge's number is 0
     have hfirst:gI (dq g) 0=0:=by
       have hfn:=og g
       have key:∀(L:List Int) (k:Nat) (n:Int),Fn L k n->0<k->gI L 0=0:=by
         intro L k n h
         induction h with
         |zero=>intro q;omega
         | @old k n j p1 p2 p3 ih=>
           intro _
           exact ih (by omega)
         | @new k n p1 p2 p3 ih=>
           intro _
           by_cases c:k=0
           · subst c
             cases p1
             exact p3
           · exact ih (by omega)
       exact key _ _ _ hfn (by omega)
     rw[show(0:Int)/2=0 by omega] at e2
     omega
   refine decide_eq_true ⟨h1,h3,λhf=>?_,hcnt⟩
   obtain⟨i,hi,e⟩:=List.mem_iff_getElem.1 hf
   have hl:=(iI hm (v:=0) (Int.le_refl _) (by omega) g.2.length (Nat.le_refl _)).1
   obtain⟨h,hh,e2⟩:=htch (i:Int) ⟨by omega,by omega⟩
   have:=nh hm hh g.2.length (Nat.le_refl _) (eP hh)
   rw[e2] at this
   have e3:gI (dK g g.2.length) (i:Int)=(dK g g.2.length)[i]:=by
     unfold gI
     rw[List.getD_eq_getElem?_getD,List.getElem?_eq_getElem (by simpa using hi)];rfl
   rw[e3,e] at this;cases this
theorem uM(hm:bg g)(h:¬2<=g.1):false=c9 g:=(Bool.eq_false_iff.2 λc=>h ((k8 hm).1 c).1).symm
theorem uL(hm:bg g)(h:¬(b7 g [] []).2=1):false=c9 g:=(Bool.eq_false_iff.2 λc=>h ((k8 hm).1 c).2.1).symm
theorem uU(hm:bg g)(h:¬∀e∈g.2,¬e.1=e.2):false=c9 g:=(Bool.eq_false_iff.2 λc=>h ((k8 hm).1 c).2.2.1).symm
theorem uB(hm:bg g)(h1:2<=g.1)(h2:(b7 g [] []).2=1)(h3:∀e∈g.2,¬e.1=e.2):decide (((aa g).2.1.length:Int)=0)=c9 g:=by
 have:(((aa g).2.1.length:Int)=0)↔c9 g=true:=by
   rw[k8 hm]
   constructor
   · intro h
     exact⟨h1,h2,h3,List.eq_nil_of_length_eq_zero (by have:((de g).length:Int)=0:=h;omega)⟩
   · rintro⟨_,_,_,h⟩
     show((de g).length:Int)=0
     rw[h];rfl
 rw[Bool.eq_iff_iff,decide_eq_true_iff]
 exact this
theorem qU(hk:(k:Int)<g.2.length)(h:(gI g.2 (k:Int)).1=(gI g.2 (k:Int)).2):false=decide (∀e∈g.2,¬e.1=e.2):=(decide_eq_false λq=>q _ (bP (by omega) hk) h).symm
theorem sw(hk:¬(k:Int)<g.2.length)(h:∀j:Nat,j<k->¬(gI g.2 (j:Int)).1=(gI g.2 (j:Int)).2):true=decide (∀e∈g.2,¬e.1=e.2):=(decide_eq_true λe he=>by
 obtain⟨i,hi,rfl⟩:=List.mem_iff_getElem.1 he
 have:=h i (by omega)
 have e3:gI g.2 (i:Int)=g.2[i]:=by simp[gI,hi]
 rwa[e3] at this).symm
theorem pM(h:∀j:Nat,j<k->¬(gI g.2 (j:Int)).1=(gI g.2 (j:Int)).2)(hk:¬(gI g.2 (k:Int)).1=(gI g.2 (k:Int)).2):∀j:Nat,j<k+1->¬(gI g.2 (j:Int)).1=(gI g.2 (j:Int)).2:=λj hj=>by
 by_cases c:j=k
 · subst c;exact hk
 · exact h j (by omega)
end TL
/-
  TlSortP: the library's sort by a function, of pairs, met in this frame; pairs in order.
  By an AI agent.
-/
set_option linter.all false
namespace TL
open Go Go.Proofs Go.Shelf Go.Sort Go.Lib
theorem dT.grown2{w w':World}(h:dT w.heap.size w w'):∃q os,w'=grow (w.drewN q) os:=by
 obtain⟨h1,h2,h3,h4,h5,h6⟩:=h
 refine⟨w'.drawn-w.drawn,w'.heap.extract w.heap.size w'.heap.size,?_⟩
 have hh:w'.heap=w.heap++w'.heap.extract w.heap.size w'.heap.size:=by
   apply Array.ext_getElem?
   intro k
   rw[Array.getElem?_append]
   by_cases hk:k<w.heap.size
   · rw[if_pos hk];exact h5 k hk
   · rw[if_neg hk,Array.getElem?_extract]
     split
     · rw[show w.heap.size+(k-w.heap.size)=k by omega]
     · exact Array.getElem?_eq_none (by omega)
 have hd:w'.drawn=w.drawn+(w'.drawn-w.drawn):=by omega
 cases w with
 |mk a b c d e=>
   cases w' with
   |mk a' b' c' d' e'=>
     simp only[grow,World.drewN] at*
     subst h1 h2 h3
     simp only[World.mk.injEq,true_and,and_true]
     exact⟨hh,hd⟩
def fO(x:Int×Int):List Value:=[.int .i64 x.1,.int .i64 x.2]
section
variable{γ:aJ}{w:World}{j b:Nat}
theorem lA(hb:is j (γ b))(m:Nat)(d:Array (Int×Int))(os:Array Obj):bp (is j) γ w γ (sortWorldK fO 2 w b 0 m d os):=by
 refine⟨rfl,rfl,rfl,?_,λ_ _ _=>rfl,λk hk hn=>?_,?_⟩
 · unfold sortWorldK putRowK;rw[size_grow,Go.Sort.size_putRow];simp only[heap_ahead];omega
 · unfold sortWorldK putRowK
   rw[heap_grow_old _ _ (by rw[Go.Sort.size_putRow];exact hk)]
   have:b≠k:=λe=>hn (by subst e;exact hb)
   simp[putRow,mapBlock,Array.getElem?_modify,this]
 · show w.drawn<=w.drawn+m
   omega
theorem nG{c:Array Value}{e:TypeId}{fr:Nat×Nat}(h:w.heap[b]? =some (.cells c e fr))(m:Nat)(d:Array (Int×Int))(os:Array Obj):(sortWorldK fO 2 w b 0 m d os).heap[b]? =some (.cells (putCells id 0 (flatK fO 2 d) c) e fr):=by
 unfold sortWorldK putRowK
 rw[heap_grow_old _ _ (by rw[Go.Sort.size_putRow];exact cT h)]
 simp[putRow,mapBlock,Array.getElem?_modify,h,onCells]
theorem ml{d:Array Value}{c:Array Value}{k:Nat}(h:k<d.size)(hc:k<c.size):(putCells id 0 d c)[k]? =some d[k]! :=by
 simp[putCells,h,hc]
theorem oP{d:Array (Int×Int)}{i q:Nat}(hi:i<d.size)(hq:q<2):(flatK fO 2 d)[i*2+q]! =(fO d[i]!)[q]! :=by
 rw[get_flatK _ _ _ _ (by omega),show(i*2+q)/2=i by omega,show(i*2+q)%2=q by omega]
end
theorem nR{P:Program}{ρ:Ren}(L:SlLaysF0.n6 P ρ)(aE:∀w,(isAgg (ρ.t 24)).run P w= .ok true w)(zE:∀w,(Go.sizeOf (ρ.t 24)).run P w= .ok 2 w)(cf:Int×Int->Int×Int->Int)(hO:SWO (ltOf cf))(g:Nat)(cb:Array Value)(eg:∀args w,(callFunc g args).run P w= .ok (.enter g args) w)
   {γ:aJ}{w:World}{j:Nat}{v:Value}{ds:List (Int×Int)}(hne:ds≠[])(hl:Ow γ (is j) (is j) w v ds)
   (hc:∀W,bp (is j) γ w γ W->∀x y,Calls P g (#[.agg (fO x).toArray,.agg (fO y).toArray]++cb) W λe w'=>e= .returned (.int .i64 (cf x y))/\dT W.heap.size W w'):
   Calls P (ρ.f 6) #[v,.func (.func g) #[] cb] w λe w'=>e= .returned (.tuple #[])/\∃ds':List (Int×Int),ds'.Perm ds/\ds'.Pairwise (λx y=>ltOf cf y x=false)/\bp (is j) γ w γ w'/\Ow γ (is j) (is j) w' v ds':=by
 rcases hl with⟨_,h⟩|⟨b,cap,c,e,rfl,hcap,hm,hJ,hb,hcs,hx⟩
 · exact absurd h hne
 · have hsz1:Rp.sz (Int×Int)=2:=rfl
   rw[hsz1] at hcs
   have hbs:=cT hb
   have hlen:ds.length=ds.toArray.size:=by simp
   have hget:∀i,i<ds.length->∀q,q<2->c[i*2+q]? =some (fO ds.toArray[i]!)[q]! :=λi hi q hq=>by
     obtain⟨cs,h1,h2⟩:=hx i ds[i] (by simp[hi])
     have h2:cs=fO ds[i]:=by
       obtain⟨c1,c2,e0,e1,e2⟩:=h2
       have e1:c1=[Value.int .i64 ds[i].1]:=e1
       have e2:c2=[Value.int .i64 ds[i].2]:=e2
       rw[e0,e1,e2];rfl
     have h1:=h1 q hq
     rw[h2] at h1
     rw[hsz1] at h1
     rw[h1]
     have e3:ds.toArray[i]! =ds[i]:=by simp[hi]
     rw[e3]
     have:q<(fO ds[i]).length:=hq
     rw[List.getElem?_eq_getElem this,getElem!_pos (fO ds[i]) q this]
   have hH:HoldsK fO 2 w b 0 ds.toArray:=λt ht=>by
     have ht:t<ds.length*2:=by simpa using ht
     constructor
     · have:=hget (t/2) (by omega) (t%2) (by omega)
       rw[show t/2*2+t%2=t by omega] at this
       simp only[World.cell?,hb,Nat.zero_add]
       rw[this]
       have e4:=oP (d:=ds.toArray) (i:=t/2) (q:=t%2) (by simp;omega) (by omega)
       rw[show t/2*2+t%2=t by omega] at e4
       rw[e4];rfl
     · simp[World.frozen?,hb]
   have hcmp:CmpLays P g cb fO 2 cf b 0 ds.toArray.size w:=λm os dk hs x y=>
     (hc _ (lA hJ m dk os) x y).mono λe w' ⟨h1,h2⟩=>⟨h1,h2.grown2⟩
   have key:=AnyQ.slices_SortFunc L 2 aE zE fO (λ_=>rfl) (λx v hv=>by
     unfold fO at hv
     rcases List.mem_cons.1 hv with q|q
     · rw[q];rfl
     · rw[List.mem_singleton.1 q];rfl) cf hO g cb b 0 cap ds.toArray w eg hcmp hH hbs (by simp;omega)
   rw[hlen]
   refine key.mono λe' w' ⟨h1,d',n,os,hp,hs,hw⟩=>⟨h1,d'.toList,?_,?_,?_,?_⟩
   · obtain⟨q1,_,q3⟩:=hp
     rw[<-q1] at q3
     have e1:(d'.extract 0 d'.size)=d':=by simp
     rw[e1,q1] at q3
     have e2:(ds.toArray.extract 0 ds.toArray.size)=ds.toArray:=Array.extract_size
     rw[e2] at q3
     simpa using q3
   · rw[List.pairwise_iff_getElem]
     intro i k hi hk hik
     have hi:i<d'.size:=by simpa using hi
     have hk:k<d'.size:=by simpa using hk
     have:=hs i k (Nat.zero_le _) hik (by rw[<-hp.1];exact hk)
     rw[getElem!_pos d' k hk,getElem!_pos d' i hi] at this
     simpa using this
   · rw[hw];exact lA hJ n d' os
   · have hs':d'.size=ds.length:=by rw[hp.1];simp
     have hd:d'.toList.length=ds.length:=by simpa using hs'
     refine .inr ⟨b,cap,_,e,by rw[hd];simp,by rw[hd];exact hcap,hm,hJ,by rw[hw];exact nG hb n d' os,by rw[hsz1];simpa[putCells] using hcs,λi x hi=>?_⟩
     have hi':i<d'.size:=by
       have:=(List.getElem?_eq_some_iff.1 hi).1
       simpa using this
     have hx':d'[i]! =x:=by
       rw[getElem!_pos d' i hi']
       have:=List.getElem?_eq_some_iff.1 hi
       obtain⟨p1,p2⟩:=this
       simpa using p2
     refine⟨fO x,λq hq=>?_,⟨[.int .i64 x.1],[.int .i64 x.2],rfl,rfl,rfl⟩⟩
     have hq2:q<2:=hq
     have hl2:q<(fO x).length:=hq2
     rw[hsz1,ml (by rw[size_flatK];omega) (by rw[hcs];omega),oP hi' hq2,hx',List.getElem?_eq_getElem hl2,getElem!_pos (fO x) q hl2]
def jf(x y:Int×Int):Prop:=x.1<y.1\/(x.1=y.1/\x.2<y.2)
instance (x y:Int×Int):Decidable (jf x y):=by unfold jf;infer_instance
def o7(x:Int×Int):List (Int×Int)->List (Int×Int)
 |[]=>[x]
 |y::t=>if jf y x then y::o7 x t else x::y::t
def gM(l:List (Int×Int)):List (Int×Int):=l.foldr o7 []
theorem oe{x y z:Int×Int}(h:jf x y)(h2:jf y z):jf x z:=by unfold jf at*;omega
theorem iV{x:Int×Int}:¬jf x x:=by unfold jf;omega
theorem sY{x y:Int×Int}(h:¬jf x y)(h2:¬jf y x):x=y:=by
 unfold jf at*
 exact Prod.ext (by omega) (by omega)
theorem oZ{x y z:Int×Int}(h:¬jf y x)(h2:¬jf z y):¬jf z x:=by unfold jf at*;omega
theorem jA(x:Int×Int):∀l,(o7 x l).Perm (x::l)
 |[]=>List.Perm.refl _
 |y::t=>by
   unfold o7
   split
   · exact((jA x t).cons y).trans (List.Perm.swap x y t)
   · exact List.Perm.refl _
theorem jt:∀l,(gM l).Perm l
 |[]=>List.Perm.refl _
 |x::t=>(jA x (gM t)).trans ((jt t).cons x)
theorem jG(x:Int×Int):∀l,l.Pairwise (λa b=>¬jf b a)->(o7 x l).Pairwise λa b=>¬jf b a
 |[],_=>by simp[o7]
 |y::t,h=>by
   obtain⟨h1,h2⟩:=List.pairwise_cons.1 h
   unfold o7
   split
   · rename_i c
     refine List.pairwise_cons.2 ⟨λz hz=>?_,jG x t h2⟩
     rcases List.mem_cons.1 ((jA x t).mem_iff.1 hz) with q|q
     · rw[q];exact λk=>iV (oe c k)
     · exact h1 z q
   · rename_i c
     refine List.pairwise_cons.2 ⟨λz hz=>?_,h⟩
     rcases List.mem_cons.1 hz with q|q
     · rw[q];exact c
     · exact oZ c (h1 z q)
theorem jH:∀l,(gM l).Pairwise λa b=>¬jf b a
 |[]=>.nil
 |x::t=>jG x _ (jH t)
theorem nA:∀(l m:List (Int×Int)),l.Perm m->l.Pairwise (λa b=>¬jf b a)->m.Pairwise (λa b=>¬jf b a)->l=m
 |[],m,hp,_,_=>(List.nil_perm.1 hp).symm▸rfl
 |x::t,[],hp,_,_=>absurd (List.perm_nil.1 hp) (by simp)
 |x::t,y::u,hp,h1,h2=>by
   obtain⟨a1,a2⟩:=List.pairwise_cons.1 h1
   obtain⟨b1,b2⟩:=List.pairwise_cons.1 h2
   have e:x=y:=by
     have hx:x∈y::u:=hp.mem_iff.1 (List.mem_cons_self ..)
     have hy:y∈x::t:=hp.mem_iff.2 (List.mem_cons_self ..)
     rcases List.mem_cons.1 hx with q|q
     · exact q
     · rcases List.mem_cons.1 hy with q2|q2
       · exact q2.symm
       · exact sY (b1 x q) (a1 y q2)
   subst e
   rw[nA t u (List.Perm.cons_inv hp) a2 b2]
theorem pB{l m:List (Int×Int)}(hp:m.Perm l)(hs:m.Pairwise λa b=>¬jf b a):m=gM l:=
 nA m (gM l) (hp.trans (jt l).symm) hs (jH l)
end TL
/-
  TlLess: edges taken away never raise the genus.
  By an AI agent.
-/
set_option linter.all false
namespace TL
theorem ln.ext{D D':Int->Prop}{R R':Int->Int->Prop}{k:Nat}(f:Int->Int)(E:List Int)(h:ln D' R' k)(he:rK D R)(hd:∀x,D' x->D (f x))(hr:∀x y,D' x->D' y->(R' x y↔R (f x) (f y)))(hEn:E.Nodup)(hE:∀e∈E,D e)(h1:∀e∈E,∀x,D' x->¬R (f x) e)(h2:∀a∈E,∀b∈E,R a b->a=b)(hs:∀z,D z->(∃x,D' x/\R z (f x))\/∃e∈E,R z e):ln D R (k+E.length):=by
  obtain⟨l,hl,rfl⟩:=h
  refine⟨l.map f++E,⟨List.nodup_append.2 ⟨gy hl.nd (λx hx y hy e=>hl.one x hx y hy ((hr x y (hl.dom x hx) (hl.dom y hy)).2 (by rw[e];exact he.rfl _ (hd y (hl.dom y hy))))),hEn,λa ha b hb e=>?_⟩,λx hx=>?_,λz hz=>?_,λa ha b hb hab=>?_⟩,by simp⟩
  · obtain⟨x,hx,rfl⟩:=List.mem_map.1 ha
    exact h1 b hb x (hl.dom x hx) (by rw[e];exact he.rfl b (hE b hb))
  · rcases List.mem_append.1 hx with h|h
    · obtain⟨y,hy,rfl⟩:=List.mem_map.1 h;exact hd y (hl.dom y hy)
    · exact hE x h
  · rcases hs z hz with⟨x,hx,hzx⟩|⟨e,he',hze⟩
    · obtain⟨y,hy,hxy⟩:=hl.all x hx
      exact⟨f y,by simp;exact .inl ⟨y,hy,rfl⟩,he.trans _ _ _ hz (hd x hx) (hd y (hl.dom y hy)) hzx ((hr x y hx (hl.dom y hy)).1 hxy)⟩
    · exact⟨e,by simp[he'],hze⟩
  · rcases List.mem_append.1 ha with h|h
    · obtain⟨x,hx,rfl⟩:=List.mem_map.1 h
      have hxd:=hl.dom x hx
      rcases List.mem_append.1 hb with h'|h'
      · obtain⟨y,hy,rfl⟩:=List.mem_map.1 h'
        rw[hl.one x hx y hy ((hr x y hxd (hl.dom y hy)).2 hab)]
      · exact absurd hab (h1 b h' x hxd)
    · rcases List.mem_append.1 hb with h'|h'
      · obtain⟨y,hy,rfl⟩:=List.mem_map.1 h'
        exact absurd (he.symm _ _ (hE a h) (hd y (hl.dom y hy)) hab) (h1 a h y (hl.dom y hy))
      · exact h2 a h b h' hab
section
variable{m K:Nat}{f s s':Int->Int}{E:List Int}
end
end TL
/-
  TlLess2: a rotation's part: its half-edges among the whole's, and its genus.
  By an AI agent.
-/
set_option linter.all false
namespace TL
section
variable{g:bK}{r:gC}{keep:List Int}
def gone(m:Nat)(keep:List Int):List Int:=(bJ (2*m)).filter λh=>decide (h/2∉keep)
end
end TL
/-
  TlDual: faces as nodes: the dual, corners' faces, edges laid, taken and split, ways over faces, as plain functions.
  By an AI agent.
-/
set_option linter.all false
namespace TL
def tJ(g:bK)(r:gC)(c:Int×Int):Prop:=(0<=c.1/\c.1<g.1)/\if((gI r c.1).length:Int)=0 then c.2= -1 else c.2∈gI r c.1
instance (g:bK)(r:gC)(c:Int×Int):Decidable (tJ g r c):=by unfold tJ;infer_instance
end TL
namespace TL
end TL
namespace TL
end TL
namespace TL
section
variable{g:bK}{r:gC}{a b:Int×Int}
end
end TL
/-
  TlTake2: labels of components; components, faces and the genus of a net with one edge less.
  By an AI agent.
-/
set_option linter.all false
namespace TL
theorem px{g h:bK}{a b:Int}(hn:h.1=g.1)(ha:eE h a)(hb:eE h b)(he:∀e,e∈g.2↔e∈h.2\/e=(a,b)){u v:Int}(hu:eE h u)(hv:eE h v):Cn g u v↔Jn (Cn h) a b u v:=by
 have hd:eE g=eE h:=by unfold eE;rw[hn]
 have hle:=Cn.eqv h
 have hg:=Cn.eqv g
 rw[hd] at hg
 have hup:∀{u v:Int},Cn h u v->Cn g u v:=λ {u v} hc R hR h2=>hc R (by rw[<-hd];exact hR) λe hh=>h2 e ((he e).2 (.inl hh))
 have hab:Cn g a b:=Cn.edge ((he (a,b)).2 (.inr rfl))
 constructor
 · intro hc
   refine hc (Jn (Cn h) a b) (by rw[hd];exact Jn.eqv hle ha hb) (λe h2=>?_)
   rcases(he e).1 h2 with h3|h3
   · exact .inl (Cn.edge h3)
   · subst h3;exact .inr (.inl ⟨hle.rfl _ ha,hle.rfl _ hb⟩)
 · rintro(e|⟨e1,e2⟩|⟨e1,e2⟩)
   · exact hup e
   · exact hg.trans _ _ _ hu ha hv (hup e1) (hg.trans _ _ _ ha hb hv hab (hup e2))
   · exact hg.trans _ _ _ hu hb hv (hup e1) (hg.trans _ _ _ hb ha hv (hg.symm _ _ ha hb hab) (hup e2))
theorem nK{g h:bK}{a b:Int}(hm:bg g)(hm':bg h)(hn:h.1=g.1)(ha:eE h a)(hb:eE h b)(he:∀e,e∈g.2↔e∈h.2\/e=(a,b)):
   (Cn h a b/\(fY g).2.1=(fY h).2.1)\/(¬Cn h a b/\(fY g).2.1+1=(fY h).2.1):=by
 obtain⟨k,e1,h1⟩:=lE hm
 obtain⟨k',e2,h2⟩:=lE hm'
 have hd:eE g=eE h:=by unfold eE;rw[hn]
 have hle:=Cn.eqv h
 have hge:=Cn.eqv g
 rw[hd] at h1 hge
 by_cases c:Cn h a b
 · left
   have h3:ln (eE h) (Cn g) k':=h2.iff λx y hx hy=>by
     rw[px hn ha hb he hx hy]
     constructor
     · exact λe=>.inl e
     · rintro(e|⟨f1,f2⟩|⟨f1,f2⟩)
       · exact e
       · exact hle.trans _ _ _ hx ha hy f1 (hle.trans _ _ _ ha hb hy c f2)
       · exact hle.trans _ _ _ hx hb hy f1 (hle.trans _ _ _ hb ha hy (hle.symm _ _ ha hb c) f2)
   have:=h1.eq hge h3
   exact⟨c,by omega⟩
 · right
   obtain⟨k2,h3,e3⟩:=h2.join hle ha hb c
   have h4:ln (eE h) (Cn g) k2:=h3.iff λx y hx hy=>(px hn ha hb he hx hy).symm
   have:=h1.eq hge h4
   exact⟨c,by omega⟩
section
variable{g:bK}{r:gC}
end
end TL
/-
  TlArr2: a variable that holds two numbers, as a list; lengths of small numbers in bits.
  By an AI agent.
-/
set_option linter.all false
namespace TL
open Go
section
variable{P:Program}{f:Fr}{w:World}{dst:Option Tmp}{ty:TypeId}{pos:String}{after:Array Edge}{g:Option (Nat×Bool)}{t e:TypeId}{x y:Operand}
theorem kN{b:Nat}(ht:P.underlying t=some (.array 2 e))(hs:(P.info? e).map (·.size)=some 1)(hx:ev f x= .pointer (some ⟨b,0,none⟩)):
   (execOp (ev f) ⟨dst,.slice t x none none none,ty,pos,after,g⟩).run P w= .ok (.value (.slice (some ⟨b,0,none⟩) 2 2)) w:=by
 cases hq:P.info? e with
 |none=>simp[hq] at hs
 |some q=>
   have hsub:execOp (ev f) ⟨dst,.slice t x none none none,ty,pos,after,g⟩=(do pure (.value (<-Instr.sliceAt t (.pointer (some ⟨b,0,none⟩)) none none none))):=by
     simp[execOp,hx]
   rw[hsub]
   have ha:(⟨b,0,none⟩:Addr).add 0=⟨b,0,none⟩:=rfl
   simp[Instr.sliceAt,Instr.sureAddr,Instr.sliceBounds,aW ht,cL hq,ha]
end
theorem tL{γ:aJ}{S:cI->Prop}{w:World}{b:Nat}{x y:Int}(h:Bx γ S w b [.int .i64 x,.int .i64 y]):Sl (α:=Int) γ S w (.slice (some ⟨b,0,none⟩) 2 2) [x,y]:=by
 obtain⟨h1,e,h2⟩:=h
 refine .inr ⟨b,0,2,rfl,⟨by simp,by simp⟩,λi z hi=>⟨cT h2,h1,[.int .i64 z],λj hj=>?_,rfl⟩⟩
 have hj0:j=0:=by have:j<1:=hj;omega
 subst hj0
 have hl:=(List.getElem?_eq_some_iff.1 hi).1
 have hi2:i=0\/i=1:=by simp at hl;omega
 have hs:Rp.sz Int=1:=rfl
 rcases hi2 with rfl|rfl
 · simp at hi
   simp[World.cell?,h2,hs,hi]
 · simp at hi
   simp[World.cell?,h2,hs,hi]
def uT(i:Int):Int:=gI [0,1,2,2,3,3,3,3,4,4,4,4,4] i
end TL
/-
  TlBlk7: the tree of blocks, as the program makes it, with the library's sort of few elements.
  By an AI agent.
-/
set_option linter.all false
namespace TL
def eu:List Int->List Int->Int
  |[],[]=>0
  |[],_::_=> -1
  |_::_,[]=>1
  |a::l,b::m=>if eQ a b=0 then eu l m else eQ a b
section
variable{s t:List Int}{k:Nat}
theorem gg{l:List Int}(h:(k:Int)<l.length):l.drop k=gI l (k:Int)::l.drop (k+1):=by
 have h':k<l.length:=by omega
 rw[List.drop_eq_getElem_cons h']
 have e:gI l (k:Int)=l[k]:=by simp[gI,h']
 rw[e]
theorem qC(hi:eu (s.drop k) (t.drop k)=eu s t)(h1:(k:Int)<s.length)(h2:(k:Int)<t.length)(h:eQ (gI s (k:Int)) (gI t (k:Int))=0):eu (s.drop (k+1)) (t.drop (k+1))=eu s t:=by
 rw[<-hi,gg h1,gg h2]
 show _=if eQ _ _=0 then _ else _
 rw[if_pos h]
theorem tV(hi:eu (s.drop k) (t.drop k)=eu s t)(h1:(k:Int)<s.length)(h2:(k:Int)<t.length)(h:¬eQ (gI s (k:Int)) (gI t (k:Int))=0):eQ (gI s (k:Int)) (gI t (k:Int))=eu s t:=by
 rw[<-hi,gg h1,gg h2]
 show _=if eQ _ _=0 then _ else _
 rw[if_neg h]
theorem qQ(hi:eu (s.drop k) (t.drop k)=eu s t)(h1:(k:Int)<s.length)(h2:(t.length:Int)<=k):1=eu s t:=by
 have e:t.drop k=[]:=List.drop_eq_nil_of_le (by omega)
 rw[<-hi,gg h1,e];rfl
theorem qE(hi:eu (s.drop k) (t.drop k)=eu s t)(h1:¬(k:Int)<s.length)(hk:(k:Int)<=s.length)(h2:(s.length:Int)<t.length): -1=eu s t:=by
 rw[<-hi,List.drop_eq_nil_of_le (by omega),gg (by omega)];rfl
theorem rL(hi:eu (s.drop k) (t.drop k)=eu s t)(h1:¬(k:Int)<s.length)(hk:(k:Int)<=s.length)(h2:¬(s.length:Int)<t.length):0=eu s t:=by
 rw[<-hi,List.drop_eq_nil_of_le (by omega),List.drop_eq_nil_of_le (by omega)];rfl
end
def mI(x y:Int×Int):Int:=eu [x.1,x.2] [y.1,y.2]
section
variable{x0 xs:List (Int×Int)}{i j:Int}
end
section
variable{g:bK}
def gD(g:bK)(k:Nat):Int->Int:=(bJ k).foldl (λF j=>λq=>if q=gI (aa g).2.1 j then(aa g).2.2+j else F q) (λ_=>0)
theorem qe{F:Int->Int}{k:Nat}(h:F=gD g k):(λq=>if q=gI (aa g).2.1 (k:Int) then(aa g).2.2+(k:Int) else F q)=gD g (k+1):=by
 unfold gD
 rw[cz,List.foldl_append,h];rfl
def qn(g:bK)(F:Int->Int)(s:List (Int×Int)×(Int×Int->Int))(h:Int):List (Int×Int)×(Int×Int->Int):=
 (if 0<F (aw g h)/\s.2 (gI (aa g).1 (h/2),F (aw g h))=0 then s.1++[(gI (aa g).1 (h/2),F (aw g h))] else s.1,λq=>if q=(gI (aa g).1 (h/2),F (aw g h)) then s.2 (gI (aa g).1 (h/2),F (aw g h))+1 else s.2 q)
def fR(g:bK)(F:Int->Int)(n:Nat):List (Int×Int)×(Int×Int->Int):=(bJ n).foldl (qn g F) ([],λ_=>0)
def ii(g:bK):List (Int×Int):=(fR g (gD g (aa g).2.1.length) (2*g.2.length)).1
structure gj(g:bK)(F:Int->Int)(ed:List (Int×Int))(sn:Int×Int->Int)(n:Nat):Prop where
 eq:(ed,sn)=fR g F n
 le:(ed.length:Int)<=n
 s0:∀q,0<=sn q/\sn q<=n
theorem gj.start{F:Int->Int}:gj g F [] (λ_=>0) 0:=⟨rfl,by simp,λq=>⟨by omega,by omega⟩⟩
theorem gj.next{F:Int->Int}{ed ed':List (Int×Int)}{sn sn':Int×Int->Int}{n:Nat}(h:gj g F ed sn n){v e:Int}{K:Int×Int}(hv:aw g (n:Int)=v)(he:(n:Int)/2=e)(hK:K=(gI (aa g).1 e,F v))(hs:sn'=λq=>if q=K then sn K+1 else sn q)(hd:ed'=if 0<F v/\sn K=0 then ed++[K] else ed):gj g F ed' sn' (n+1):=by
 subst hv he hK hs hd
 have h1:=h.le
 refine⟨?_,?_,λq=>?_⟩
 · unfold fR
   rw[cz,List.foldl_append]
   show _=qn g F (fR g F n) (n:Int)
   rw[<-h.eq];rfl
 · split
   · rw[List.length_append,List.length_singleton];omega
   · omega
 · have h2:=h.s0 q
   have h3:=h.s0 (gI (aa g).1 ((n:Int)/2),F (aw g (n:Int)))
   by_cases c:q=(gI (aa g).1 ((n:Int)/2),F (aw g (n:Int)))
   · simp only[if_pos c];omega
   · simp only[if_neg c];omega
theorem gj.two{F:Int->Int}{ed ed1 ed2:List (Int×Int)}{sn sn1 sn2:Int×Int->Int}{k:Nat}(h:gj g F ed sn (2*k)){v v2:Int}{K K2:Int×Int}(hv:(gI g.2 (k:Int)).1=v)(hv2:(gI g.2 (k:Int)).2=v2)(hK:K=(gI (aa g).1 (k:Int),F v))(hK2:K2=(gI (aa g).1 (k:Int),F v2))
   (hs:sn1=λq=>if q=K then sn K+1 else sn q)(hs2:sn2=λq=>if q=K2 then sn1 K2+1 else sn1 q)(hd:ed1=if 0<F v/\sn K=0 then ed++[K] else ed)(hd2:ed2=if 0<F v2/\sn1 K2=0 then ed1++[K2] else ed1):gj g F ed2 sn2 (2*(k+1)):=by
 have e1:((2*k:Nat):Int)/2=(k:Int):=by omega
 have e2:((2*k+1:Nat):Int)/2=(k:Int):=by omega
 have f1:aw g ((2*k:Nat):Int)=v:=by
   rw[<-hv];unfold aw;rw[e1,show((2*k:Nat):Int)%2=0 by omega];rfl
 have f2:aw g ((2*k+1:Nat):Int)=v2:=by
   rw[<-hv2];unfold aw;rw[e2,show((2*k+1:Nat):Int)%2=1 by omega];rfl
 exact(h.next f1 e1 hK hs hd).next f2 e2 hK2 hs2 hd2
theorem lm{a b:Int}{x y:List (Int×Int)}(h:0<a)(h2:b=0):y=if 0<a/\b=0 then y else x:=(if_pos ⟨h,h2⟩).symm
theorem jj{a b:Int}{x y:List (Int×Int)}(h:¬0<a):x=if 0<a/\b=0 then y else x:=(if_neg λk=>h k.1).symm
theorem jr{a b:Int}{x y:List (Int×Int)}(h:¬b=0):x=if 0<a/\b=0 then y else x:=(if_neg λk=>h k.2).symm
theorem rm{F:Int->Int}{ed:List (Int×Int)}{sn:Int×Int->Int}{e k:Nat}(h:gj g F ed sn (2*e))(hF:F=gD g k)(hk:(k:Int)=((aa g).2.1.length:Int))(he:(e:Int)=(g.2.length:Int)):ed=ii g:=by
 have e1:k=(aa g).2.1.length:=by omega
 have e2:e=g.2.length:=by omega
 have h1:=h.eq
 rw[hF,e1,e2] at h1
 unfold ii
 rw[<-h1]
theorem jo(h0:0<=g.1):((aa g).2.1.length:Int)<=g.1:=by
 have:=kw (a:=de g) (l:=(eN (dq g) g (2*g.2.length)).2) (k:=g.1.toNat) rfl
 show((de g).length:Int)<=g.1
 omega
end
end TL
