/- Plain texts of this claim, part 3. By an AI agent. -/
import Derived.Test.YtmakonaaojadbaaBeTlP2
/-
  TlCls6: a node left: its edges go to the one ahead, or are a block.
  By an AI agent.
-/
set_option linter.all false
namespace TL
variable{g:bB}{s:Bs}{fr:Fm}{path:List Int}{A B A0:Fm}{S U:List Int}{u v w e b h:Int}
theorem fD.ahead(hm:bf g)(hd:fD g s (A0++[(u,U),(v,S)])){k:Int}(hk:hf g k)(hlk:gI s.laid (k/2)=true)(h1:gI s.place v<=gI s.place (ak g k))(h2:gI s.place (aL g k)<gI s.place v):aL g k=u\/(aL g k∈A0.map Prod.fst/\gI s.place (aL g k)<gI s.place u):=by
  have hvf:=hd.fra (A0++[(u,U)]) v S [] (by simp)
  have huf:=hd.fra A0 u U [(v,S)] rfl
  obtain⟨t1,t2,t3,t4⟩:=cz (g:=g) hk
  have hp:aL g k∈(A0++[(u,U),(v,S)]).map Prod.fst:=by
    by_cases c:aL g k∈(A0++[(u,U),(v,S)]).map Prod.fst
    · exact c
    · have:=hvf.cross (dB k) t1 (by rw[t3];exact hd.lot hk hlk) (by rw[t3];exact c) (by rw[t3];exact h2)
      rw[t4] at this;omega
  simp only[List.map_append,List.map_cons,List.map_nil,List.mem_append,List.mem_cons] at hp
  rcases hp with c|c|c|c
  · refine .inr ⟨c,?_⟩
    obtain⟨p,hp,e⟩:=List.mem_map.1 c
    rw[<-e];exact huf.asc p hp
  · exact .inl c
  · rw[c] at h2;omega
  · exact absurd c List.not_mem_nil
theorem fD.offA(hm:bf g)(hd:fD g s (A0++[(u,U),(v,S)])){U2:List Int}{A B:Fm}{x:Int}{Sx:List Int}(he:A0++[(u,U2)]=A++(x,Sx)::B)
    (h2:(∀e∈U2,EqB g e (gI s.by_ u/2))/\(∀e∈U2,∃h,hf g h/\h/2=e/\gI s.place u<=gI s.place (ak g h))/\((A0=[]/\U2=[]/\gI s.by_ u= -1)\/(∃A' u' U' S',A0=A'++[(u',U')]/\U2=gI s.by_ u/2::S'/\ak g (gI s.by_ u)=u'/\0<=gI s.by_ u))):
    pY g s.place (s.low.set u.toNat (min (gI s.low u) (gI s.low v))) s.by_ s.laid ((A0++[(u,U2)]).map Prod.fst) A x Sx B:=by
  have hmap:(A0++[(u,U2)]).map Prod.fst=(A0++[(u,U)]).map Prod.fst:=by simp
  rw[hmap]
  rcases fO he with⟨k1,k2,k3⟩|⟨B0,k1,k2⟩
  · obtain⟨rfl,rfl⟩:x=u/\Sx=U2:=by simpa using k2
    subst k1 k3
    exact pY.off hm hd (B1:=[]) (Sx:=U) (hd.fra A x U [(v,S)] rfl) (by simp) (λy hy=>by
      have:y=x:=by simpa using hy
      rw[this];simp) (by simp) rfl h2.1 h2.2.1 h2.2.2
  · subst k2
    have hold:=hd.fra A x Sx (B0++[(u,U)]++[(v,S)]) (by rw[k1];simp)
    refine pY.off hm hd (B1:=B0++[(u,U)]) hold (by rw[k1];simp) (λy hy=>?_) (by simp) (by simp) hold.eqb hold.end_ hold.own
    rw[k1]
    simp only[List.map_append,List.map_cons,List.map_nil,List.mem_append,List.mem_cons] at hy ⊢
    rcases hy with r|r|r
    · exact .inl (.inr (.inl r))
    · exact .inl (.inr (.inr r))
    · exact .inr r
theorem fD.off1(hm:bf g)(hd:fD g s (A0++[(u,U),(v,S)]))(hc:gI s.low v<gI s.place u)
    (hse:ek g {s with low:=s.low.set u.toNat (min (gI s.low u) (gI s.low v))} ((A0++[(u,U++S)]).map Prod.fst)):
    fD g {s with low:=s.low.set u.toNat (min (gI s.low u) (gI s.low v))} (A0++[(u,U++S)]):=by
  have hvf:=hd.fra (A0++[(u,U)]) v S [] (by simp)
  have huf:=hd.fra A0 u U [(v,S)] rfl
  have hum:=hd.mem (p:=(u,U)) (by simp)
  have huv:gI s.place u<gI s.place v:=hvf.asc (u,U) (by simp)
  -- an edge from behind to one ahead of u
  obtain⟨k,k1,k2,k3,k4⟩:=hvf.l3 (by omega)
  have hka:=(hd.ahead hm k1 k2 k3 (by omega)).resolve_left (λj=>by rw[j] at k4;omega)
  obtain⟨q,Q,A',S',ha1,ha2,ha3,ha4⟩:∃q Q A' S',A0=A'++[(q,Q)]/\U=gI s.by_ u/2::S'/\ak g (gI s.by_ u)=q/\0<=gI s.by_ u:=by
    rcases huf.own with⟨j,_⟩|⟨A',q,Q,S',a,b,c,d⟩
    · rw[j] at hka;exact absurd hka.1 List.not_mem_nil
    · exact⟨q,Q,A',S',a,b,c,d⟩
  obtain⟨hb0,hb1⟩:0<=gI s.by_ v/\ak g (gI s.by_ v)=u:=by
    rcases hvf.own with⟨j,_⟩|⟨A2,u2,U2,S2,a,_,c,d⟩
    · simp at j
    · have:=(List.append_inj' a rfl).2
      have:u=u2:=by have:=(List.cons.inj this).1;exact congrArg Prod.fst this
      exact⟨d,by rw[c,this]⟩
  have hbv:=hd.to (v,S) (by simp) hb0
  have hbu:=hd.to (u,U) (by simp) ha4
  have huA:u∉A0.map Prod.fst:=λj=>by
    obtain⟨p,hp,e⟩:=List.mem_map.1 j
    have:=huf.asc p hp
    rw[e] at this;omega
  have hqA:q∈A0.map Prod.fst:=by rw[ha1];simp
  have hrel:EqB g (gI s.by_ v/2) (gI s.by_ u/2):=by
    obtain⟨b1,b2,b3,b4⟩:=cz (g:=g) hbu.1
    refine .rel ⟨gI s.by_ v,dB (gI s.by_ u),hbv.1,b1,rfl,b2,?_,?_,?_,?_⟩
    · rw[hb1,b3,hbu.2]
    · rw[hbv.2,hb1];exact(k9 huv).symm
    · rw[b4,b3,hbu.2,ha3];exact λj=>huA (by have j:q=u:=j;rw[<-j];exact hqA)
    · rw[hb1,hbv.2,b4,ha3]
      have w1:=(hvf.conn (ak g k) (bz hm k1).1 (bz hm k1).2 k3).mono (B:=λz=>z≠u) (λz hz j=>by rw[j] at hz;omega)
      have w2:=Wy.one (g:=g) (A:=λz=>z≠u) k1 w1.right (λj=>huA (by rw[<-j];exact hka.1))
      have w3:=(hd.wy (A:=A0) (B:=[(u,U),(v,S)]) rfl _ hka.1 _ hqA).mono (B:=λz=>z≠u) (λz hz j=>huA (by rw[<-j];exact hz))
      exact(w1.trans w2).trans w3
  refine⟨hse,?_,hd.inj,hd.lof,λA x Sx B he=>hd.offA hm he ⟨λy hy=>?_,λy hy=>?_,.inr ⟨A',q,Q,S'++S,ha1,by rw[ha2];rfl,ha3,ha4⟩⟩,hd.clr,hd.clb⟩
  · show s.edges=_
    rw[hd.stk];simp
  · rcases List.mem_append.1 hy with j|j
    · exact huf.eqb y j
    · exact(hvf.eqb y j).trans hrel
  · rcases List.mem_append.1 hy with j|j
    · exact huf.end_ y j
    · obtain⟨r,c1,c2,c3⟩:=hvf.end_ y j
      exact⟨r,c1,c2,by omega⟩
theorem fD.off2(hm:bf g)(hd:fD g s (A0++[(u,U),(v,S)]))(hu:kB g s ((A0++[(u,U)]).map Prod.fst))(hc:gI s.place u<=gI s.low v)
    (hse:ek g (dM {s with low:=s.low.set u.toNat (min (gI s.low u) (gI s.low v))} (gI s.by_ v/2)) ((A0++[(u,U)]).map Prod.fst)):
    fD g (dM {s with low:=s.low.set u.toNat (min (gI s.low u) (gI s.low v))} (gI s.by_ v/2)) (A0++[(u,U)]):=by
  have hvf:=hd.fra (A0++[(u,U)]) v S [] (by simp)
  have huf:=hd.fra A0 u U [(v,S)] rfl
  have huv:gI s.place u<gI s.place v:=hvf.asc (u,U) (by simp)
  obtain⟨S',hS,hb0,hb1⟩:∃S',S=gI s.by_ v/2::S'/\0<=gI s.by_ v/\ak g (gI s.by_ v)=u:=by
    rcases hvf.own with⟨j,_⟩|⟨A2,u2,U2,S2,a,b,c,d⟩
    · simp at j
    · have:=(List.append_inj' a rfl).2
      have:u=u2:=by have:=(List.cons.inj this).1;exact congrArg Prod.fst this
      exact⟨S2,b,d,by rw[c,this]⟩
  have hbv:=hd.to (v,S) (by simp) hb0
  have hpre:s.edges=((A0++[(u,U)]).map Prod.snd).flatten++gI s.by_ v/2::S':=by rw[hd.stk,<-hS];simp
  rw[mW (s:={s with low:=s.low.set u.toNat (min (gI s.low u) (gI s.low v))}) hpre hd.se.en] at hse ⊢
  have hpre':s.edges=((A0++[(u,U)]).map Prod.snd).flatten++S:=by rw[hpre,hS]
  have hvout:v∉(A0++[(u,U)]).map Prod.fst:=λj=>by
    obtain⟨p,hp,e⟩:=List.mem_map.1 j
    have:=hvf.asc p hp
    rw[e] at this;omega
  -- nodes behind v are done
  have hT:∀k,hf g k->gI s.place v<=gI s.place (ak g k)->gI s.laid (k/2)=true:=λk hk a=>by
    refine hu.all hm hk (λj=>?_) (λj=>?_)
    · have h9:=(hd.mem (p:=(v,S)) (by simp))
      have h3:0<=gI s.place v:=(hd.se.pl v h9.1.1 h9.1.2).1
      have h4:gI s.place v≠0:=h9.2
      omega
    · obtain⟨p,hp,e⟩:=List.mem_map.1 j
      have:=hvf.asc p hp
      rw[e] at this;omega
  have hcl:=qQ (g:=g) (la:=s.laid) (ed:=s.edges) (bl:=s.block) (pre:=((A0++[(u,U)]).map Prod.snd).flatten) (P:=gI s.by_ v/2::S') (c:=s.count) hpre hd.se.en hd.se.el hd.se.l6 hd.se.ct hd.clr hd.clb (λhin hle=>.inr ⟨λz=>(0<=z/\z<g.1)/\gI s.place v<=gI s.place z,u,λk=>by have:=k.2;omega,λk hk ht=>?_,λx hx hb=>?_,λx y hx hy hbx hby=>?_⟩)
  · refine⟨hse,rfl,hd.inj,hd.lof,λA x Sx B he=>hd.offA hm he ⟨huf.eqb,huf.end_,huf.own⟩,hcl.1,hcl.2⟩
  · have hlk:=hT k hk ht.2
    have hclo:jt g s.laid ((A0++[(u,U)]).map Prod.snd).flatten (k/2):=by
      refine⟨⟨fE hk,ea hk⟩,hlk,λj=>?_⟩
      obtain⟨l,hl,hkl⟩:=List.mem_flatten.1 j
      obtain⟨p,hp,rfl⟩:=List.mem_map.1 hl
      have:=hvf.low p hp _ hkl k hk rfl
      have:=ht.2
      omega
    refine⟨?_,hclo,hle _ hclo⟩
    by_cases c:gI s.place v<=gI s.place (aL g k)
    · exact .inl ⟨cm hm hk,c⟩
    · by_cases d:k/2=gI s.by_ v/2
      · rcases dR hk.1 hbv.1.1 d with r|r
        · rw[r,hbv.2] at c;exact absurd (Int.le_refl _) c
        · obtain⟨_,_,_,t4⟩:=cz (g:=g) hbv.1
          rw[r,t4];exact .inr hb1
      · obtain⟨y,hy,hy2⟩:=hvf.l1 k hk hlk ht.2 (by omega) d
        have:y=v:=by simpa using hy
        rw[this] at hy2
        rcases hd.ahead hm hk hlk ht.2 (by omega) with r|⟨_,r⟩
        · exact .inr r
        · omega
  · have:=hin x hx hb
    rw[<-hS] at this
    obtain⟨k,c1,c2,c3⟩:=hvf.end_ x this
    exact⟨k,c1,c2,bz hm c1,c3⟩
  · have h1:=hin x hx hbx
    have h2:=hin y hy hby
    rw[<-hS] at h1 h2
    exact(hvf.eqb x h1).trans (hvf.eqb y h2).symm
end TL
/-
  TlCls7: the walk as a whole.
  By an AI agent.
-/
set_option linter.all false
namespace TL
variable{g:bB}{s:Bs}{fr:Fm}{path:List Int}{A B A0:Fm}{S U:List Int}{u v w e b h:Int}
theorem oY(hne:fr≠[]):∃A0 v S,fr=A0++[(v,S)]/\gI (fr.map Prod.fst) (((fr.map Prod.fst).length:Int)-1)=v:=by
 refine⟨fr.dropLast,(fr.getLast hne).1,(fr.getLast hne).2,(List.dropLast_concat_getLast hne).symm,?_⟩
 have h1:fr=fr.dropLast++[fr.getLast hne]:=(List.dropLast_concat_getLast hne).symm
 generalize fr.dropLast=X at h1
 generalize fr.getLast hne=p at h1 ⊢
 subst h1
 have e1:(((X++[p]).map Prod.fst).length:Int)-1=((X.length:Nat):Int):=by simp
 rw[e1]
 simp[gI]
theorem ku:(di g s v).laid=s.laid:=by
 unfold di;split
 · rfl
 · simp only;split<;>rfl
theorem gO:(di g s v).place=s.place:=by
 unfold di;split
 · rfl
 · simp only;split<;>rfl
theorem kB.leave(h:kB g s (path++[v]))(hn:gI s.next v=((gI (aq g) v).length:Int)):kB g s path/\kB g (di g s v) path:=by
 have h1:kB g s path:=⟨h.use,λx x0 x1 hx hxp=>by
   by_cases c:x=v
   · rw[c];exact hn
   · exact h.exh x x0 x1 hx (λk=>(List.mem_append.1 k).elim hxp (λj=>c (List.mem_singleton.1 j)))⟩
 refine⟨h1,⟨λx x0 x1 j j0 j1=>?_,λx x0 x1 hx hxp=>?_⟩⟩
 · rw[ku];rw[im] at j1;exact h1.use x x0 x1 j j0 j1
 · rw[im];rw[gO] at hx;exact h1.exh x x0 x1 hx hxp
theorem kB.take{s':Bs}{path':List Int}(hu:kB g s path)(hse:ek g s path)(u0:0<=u)(u1:u<g.1)(hup:u∈path)(hh:gI (gI (aq g) u) (gI s.next u)=h)(hnx:s'.next=s.next.set u.toNat (gI s.next u+1))(hla:∀e,0<=e->e<(g.2.length:Int)->gI s.laid e=true->gI s'.laid e=true)(hlh:gI s'.laid (h/2)=true)(hin:∀x,0<=x->x<g.1->∀j:Int,0<=j->j<((gI (aq g) x).length:Int)->0<=gI (gI (aq g) x) j/2/\gI (gI (aq g) x) j/2<(g.2.length:Int))
    (hp:∀x∈path,x∈path')(hpl:∀x,0<=x->x<g.1->gI s'.place x≠0->gI s.place x≠0\/x∈path'):kB g s' path':=by
  have hl4:=hse.l4
  have hnn:∀x,0<=x->gI s'.next x=if x=u then gI s.next u+1 else gI s.next x:=λx a=>by rw[hnx];exact bV u0 (by omega) a
  refine⟨λx x0 x1 j j0 j1=>?_,λx x0 x1 hx hxp=>?_⟩
  · rw[hnn x x0] at j1
    have hold:∀x,0<=x->x<g.1->∀j:Int,0<=j->j<gI s.next x->gI s'.laid (gI (gI (aq g) x) j/2)=true:=λx x0 x1 j j0 j1=>by
      have:=hse.nx x x0 x1
      obtain⟨a,c⟩:=hin x x0 x1 j j0 (by omega)
      exact hla _ a c (hu.use x x0 x1 j j0 j1)
    by_cases c:x=u
    · rw[if_pos c] at j1
      by_cases d:j=gI s.next u
      · rw[c,d,hh];exact hlh
      · exact hold x x0 x1 j j0 (by rw[c];omega)
    · rw[if_neg c] at j1
      exact hold x x0 x1 j j0 j1
  · rcases hpl x x0 x1 hx with k|k
    · have hne:x≠u:=λj=>hxp (hp x (by rw[j];exact hup))
      rw[hnn x x0,if_neg hne]
      exact hu.exh x x0 x1 k (λj=>hxp (hp x j))
    · exact absurd k hxp
theorem hG{x j:Int}(x0:0<=x)(x1:x<g.1)(j0:0<=j)(j1:j<((gI (aq g) x).length:Int)):hf g (gI (gI (aq g) x) j)/\ak g (gI (gI (aq g) x) j)=x:=by
 have hin:gI (gI (aq g) x) j∈gI (aq g) x:=bD j0 j1
 rw[cW x0 x1] at hin ⊢
 exact ck hin
theorem qI(hm:bf g)(hd:fD g s fr)(hu:kB g s (fr.map Prod.fst))(hne:fr≠[])(hv:v=gI (fr.map Prod.fst) (((fr.map Prod.fst).length:Int)-1)):
   ∃fr',fr'.map Prod.fst=(de g s (fr.map Prod.fst) v).2/\fD g (de g s (fr.map Prod.fst) v).1 fr'/\kB g (de g s (fr.map Prod.fst) v).1 (de g s (fr.map Prod.fst) v).2:=by
 have hpne:fr.map Prod.fst≠[]:=λk=>hne (List.map_eq_nil_iff.1 k)
 have hse:=hd.se.step hm hpne hv
 obtain⟨A0,v',S,rfl,hv'⟩:=oY hne
 have:v'=v:=by rw[hv];exact hv'.symm
 subst this
 clear hv hv'
 have hvm:(0<=v'/\v'<g.1)/\gI s.place v'≠0:=hd.mem (p:=(v',S)) (by simp)
 have hmap:(A0++[(v',S)]).map Prod.fst=A0.map Prod.fst++[v']:=by simp
 have hl2:=hd.se.l2
 have hl5:=hd.se.l5
 have hlast:=hd.fra A0 v' S [] rfl
 by_cases hn:gI s.next v'=((gI (aq g) v').length:Int)
 · -- left
   have hst:de g s ((A0++[(v',S)]).map Prod.fst) v'=(di g s v',A0.map Prod.fst):=by
     unfold de;rw[if_pos hn,hmap,List.dropLast_concat]
   rw[hst] at hse ⊢
   rw[hmap] at hu
   obtain⟨hu1,hu2⟩:=hu.leave hn
   by_cases hb:gI s.by_ v'<0
   · have hlv:di g s v'=s:=by unfold di;rw[if_pos hb]
     rcases hlast.own with⟨k1,k2,_⟩|⟨A',q,Q,S',_,_,_,k4⟩
     · subst k1 k2
       rw[hlv] at hse ⊢
       exact⟨[],rfl,hd.off0 hse,by rw[hlv] at hu2;exact hu2⟩
     · omega
   · obtain⟨A',q,Q,S',k1,k2,k3,k4⟩:=hlast.own.resolve_left (λk=>by omega)
     subst k1
     have hq:=hd.mem (p:=(q,Q)) (by simp)
     have hqv:gI s.place q<gI s.place v':=hlast.asc (q,Q) (by simp)
     have hqn:v'≠q:=(k9 hqv).symm
     have hlow:gI (s.low.set q.toNat (min (gI s.low q) (gI s.low v'))) v'=gI s.low v':=by
       rw[bV hq.1.1 (by omega) hvm.1.1,if_neg hqn]
     have hd':fD g s (A'++[(q,Q),(v',S)]):=by simpa using hd
     have hm2:(A'++[(q,Q)]).map Prod.fst=A'.map Prod.fst++[q]:=by simp
     by_cases hc:gI s.place q<=gI s.low v'
     · have hlv:di g s v'=dM {s with low:=s.low.set q.toNat (min (gI s.low q) (gI s.low v'))} (gI s.by_ v'/2):=by
         unfold di;rw[if_neg hb];simp only[k3];rw[if_pos (by rw[hlow];exact hc)]
       rw[hlv] at hse hu2 ⊢
       exact⟨A'++[(q,Q)],rfl,hd'.off2 hm hu1 hc hse,hu2⟩
     · have hlv:di g s v'={s with low:=s.low.set q.toNat (min (gI s.low q) (gI s.low v'))}:=by
         unfold di;rw[if_neg hb];simp only[k3];rw[if_neg (by rw[hlow];exact hc)]
       rw[hlv] at hse hu2 ⊢
       refine⟨A'++[(q,Q++S)],by simp,hd'.off1 hm (by omega) (by rw[show(A'++[(q,Q++S)]).map Prod.fst=(A'++[(q,Q)]).map Prod.fst by simp];exact hse),hu2⟩
 · -- a half-edge more
   obtain⟨n0,n1⟩:=hd.se.nx v' hvm.1.1 hvm.1.2
   have n1':gI s.next v'<=((gI (aq g) v').length:Int):=n1
   obtain⟨hh,hfv⟩:=hG hvm.1.1 hvm.1.2 n0 (by omega)
   generalize hhe:gI (gI (aq g) v') (gI s.next v')=h at hh hfv
   have hd1:=hd.nexts hvm.1.1 hvm.1.2 hn
   have e0:=fE hh
   have e1:=ea hh
   have hvp:v'∈(A0++[(v',S)]).map Prod.fst:=by simp
   have hin:∀x,0<=x->x<g.1->∀j:Int,0<=j->j<((gI (aq g) x).length:Int)->0<=gI (gI (aq g) x) j/2/\gI (gI (aq g) x) j/2<(g.2.length:Int):=λx x0 x1 j j0 j1=>⟨fE (hG x0 x1 j0 j1).1,ea (hG x0 x1 j0 j1).1⟩
   have hlam:∀e,0<=e->e<(g.2.length:Int)->gI s.laid e=true->gI (s.laid.set (h/2).toNat true) e=true:=λe a c d=>by
     rw[cr e0 (by omega) a];split
     · rfl
     · exact d
   have hlah:gI (s.laid.set (h/2).toNat true) (h/2)=true:=by rw[cr e0 (by omega) e0,if_pos rfl]
   have hst:de g s ((A0++[(v',S)]).map Prod.fst) v'=((dO g {s with next:=s.next.set v'.toNat (gI s.next v'+1)} v' h).1,if(dO g {s with next:=s.next.set v'.toNat (gI s.next v'+1)} v' h).2.2=true then(A0++[(v',S)]).map Prod.fst++[(dO g {s with next:=s.next.set v'.toNat (gI s.next v'+1)} v' h).2.1] else(A0++[(v',S)]).map Prod.fst):=by
     unfold de;rw[if_neg hn,hhe]
   by_cases hl:gI s.laid (h/2)=true
   · have ht:dO g {s with next:=s.next.set v'.toNat (gI s.next v'+1)} v' h=({s with next:=s.next.set v'.toNat (gI s.next v'+1)},0,false):=by unfold dO;rw[if_pos hl]
     rw[hst,ht]
     exact⟨_,rfl,hd1,hu.take hd.se hvm.1.1 hvm.1.2 hvp hhe rfl (λe _ _ d=>d) hl hin (λx hx=>hx) (λx _ _ k=>.inl k)⟩
   · by_cases hw:aL g h=v'
     · have ht:dO g {s with next:=s.next.set v'.toNat (gI s.next v'+1)} v' h=(dM (gH {s with next:=s.next.set v'.toNat (gI s.next v'+1)} (h/2)) (h/2),0,false):=by unfold dO;rw[if_neg hl,if_pos hw]
       rw[hst,ht] at hse ⊢
       exact⟨_,rfl,hd1.loop hm hh hl (by rw[hfv];exact hvm.2) (by rw[hw,hfv]) hse,hu.take hd.se hvm.1.1 hvm.1.2 hvp hhe rfl hlam hlah hin (λx hx=>hx) (λx _ _ k=>.inl k)⟩
     · by_cases hp:gI s.place (aL g h)=0
       · have ht:dO g {s with next:=s.next.set v'.toNat (gI s.next v'+1)} v' h=(fj {gH {s with next:=s.next.set v'.toNat (gI s.next v'+1)} (h/2) with by_:=s.by_.set (aL g h).toNat h} (aL g h),aL g h,true):=by unfold dO;rw[if_neg hl,if_neg hw,if_pos hp]
         rw[hst,ht] at hse ⊢
         have hse':ek g (fj {gH {s with next:=s.next.set v'.toNat (gI s.next v'+1)} (h/2) with by_:=s.by_.set (aL g h).toNat h} (aL g h)) ((A0++[(v',S)]++[(aL g h,[h/2])]).map Prod.fst):=by
           rw[List.map_append];exact hse
         refine⟨A0++[(v',S)]++[(aL g h,[h/2])],by rw[List.map_append];rfl,?_,?_⟩
         · exact hd1.new hm (λk hk a c=>hu.all hm hk a c) hh hfv hl hp hse'
         · obtain⟨w0,w1⟩:=cm hm hh
           have hl1:=hd.se.l1
           refine hu.take hd.se hvm.1.1 hvm.1.2 hvp hhe rfl hlam hlah hin (λx hx=>List.mem_append_left _ hx) (λx x0 x1 k=>?_)
           by_cases c:x=aL g h
           · exact .inr (by rw[c];simp)
           · have k:gI (s.place.set (aL g h).toNat (s.found+1)) x≠0:=k
             rw[bV w0 (by omega) x0,if_neg c] at k
             exact .inl k
       · have ht:dO g {s with next:=s.next.set v'.toNat (gI s.next v'+1)} v' h=({gH {s with next:=s.next.set v'.toNat (gI s.next v'+1)} (h/2) with low:=s.low.set v'.toNat (min (gI s.low v') (gI s.place (aL g h)))},0,false):=by unfold dO;rw[if_neg hl,if_neg hw,if_neg hp]
         rw[hst,ht] at hse ⊢
         have hse':ek g {gH {s with next:=s.next.set v'.toNat (gI s.next v'+1)} (h/2) with low:=s.low.set v'.toNat (min (gI s.low v') (gI s.place (aL g h)))} ((A0++[(v',S++[h/2])]).map Prod.fst):=by
           rw[show(A0++[(v',S++[h/2])]).map Prod.fst=(A0++[(v',S)]).map Prod.fst by simp];exact hse
         refine⟨A0++[(v',S++[h/2])],by simp,?_,?_⟩
         · exact hd1.back hm (λk hk a c=>hu.all hm hk a c) hh hfv hl hw hp hse'
         · exact hu.take hd.se hvm.1.1 hvm.1.2 hvp hhe rfl hlam hlah hin (λx hx=>hx) (λx _ _ k=>.inl k)
end TL
/-
  TlCls8: what the blocks of a net are: edges are in one block just if a chain of edges joins them, each two at a node whose other ends are joined without it.
  By an AI agent.
-/
set_option linter.all false
namespace TL
variable{g:bB}{s:Bs}{fr:Fm}{path:List Int}{u v w e f b h x:Int}
theorem nM(hx:gI s.place x≠0)(hs:ek g s path)(x0:0<=x)(hm:bf g)(hp:path≠[])(hu:u=gI path ((path.length:Int)-1)):gI (de g s path u).1.place x≠0:=by
 unfold de
 split
 · rw[gO];exact hx
 · rename_i hn
   simp only
   unfold dO
   split
   · exact hx
   · split
     · exact hx
     · split
       · rename_i c
         have hup:=hs.pr u (by rw[hu,hX hp];simp[gI])
         obtain⟨n0,n1⟩:=hs.nx u hup.1.1 hup.1.2
         have n1':gI s.next u<=((gI (aq g) u).length:Int):=n1
         obtain⟨hh,_⟩:=hG hup.1.1 hup.1.2 n0 (by omega)
         obtain⟨w0,w1⟩:=cm hm hh
         have hl:=hs.l1
         have hf:=hs.f0
         show gI (s.place.set _ (s.found+1)) x≠0
         rw[bV w0 (by omega) x0]
         split
         · omega
         · exact hx
       · exact hx
theorem uR(hm:bf g):∀(n:Nat) (s:Bs) (fr:Fm),fD g s fr->kB g s (fr.map Prod.fst)->bF g s (fr.map Prod.fst)<=n->
   fD g (nh g n s (fr.map Prod.fst)) []/\kB g (nh g n s (fr.map Prod.fst)) []/\∀x,0<=x->gI s.place x≠0->gI (nh g n s (fr.map Prod.fst)).place x≠0
 |0,s,fr,hd,hu,hl=>by
   have:fr.map Prod.fst=[]:=List.length_eq_zero_iff.1 (by unfold bF at hl;omega)
   have:fr=[]:=List.map_eq_nil_iff.1 this
   subst this
   exact⟨hd,hu,λx _ h=>h⟩
 |n+1,s,fr,hd,hu,hl=>by
   by_cases c:fr=[]
   · subst c
     unfold nh
     exact⟨hd,hu,λx _ h=>h⟩
   · have hp:fr.map Prod.fst≠[]:=λk=>c (List.map_eq_nil_iff.1 k)
     obtain⟨fr',h1,h2,h3⟩:=qI hm hd hu c rfl
     have hless:=ib hd.se hp rfl
     unfold nh
     rw[if_neg hp,<-h1]
     rw[<-h1] at h3 hless
     obtain⟨a1,a2,a3⟩:=uR hm n _ fr' h2 h3 (by omega)
     exact⟨a1,a2,λx x0 hx=>a3 x x0 (nM hx hd.se x0 hm hp rfl)⟩
theorem kB.begin_(hu:kB g s [])(hse:ek g s [])(v0:0<=v)(v1:v<g.1):kB g (fj s v) [v]:=by
 have hl:=hse.l1
 refine⟨hu.use,λx x0 x1 hx hxp=>?_⟩
 have hx:gI (s.place.set v.toNat (s.found+1)) x≠0:=hx
 have hne:x≠v:=λk=>hxp (by rw[k];simp)
 rw[bV v0 (by omega) x0,if_neg hne] at hx
 exact hu.exh x x0 x1 hx (by simp)
theorem ik(hm:bf g):∀k:Nat,(k:Int)<=g.1->fD g (bW g k) []/\kB g (bW g k) []/\∀v:Int,0<=v->v<k->gI (bW g k).place v≠0
 |0,hk=>by
   have h0:=hm.1
   have r0:∀{x:Int} {v:Int},0<=v->v<g.1->gI (List.replicate g.1.toNat x) v=x:=λa b=>kd a (by omega)
   have rb:∀{v:Int},0<=v->v<(g.2.length:Int)->gI (List.replicate g.2.length false) v=false:=λ {v} a b=>by
     obtain⟨k,rfl⟩:∃k:Nat,v=(k:Int):=⟨v.toNat,by omega⟩
     have:k<g.2.length:=by omega
     simp[gI,this]
   have hse:ek g (fZ g) []:=ek.start hm
   refine⟨⟨hse,rfl,λx y x0 x1 y0 y1 hx _=>absurd (r0 x0 x1) hx,λk hk hl=>?_,λA v S B he=>?_,λe he=>?_,λb b0 b1=>?_⟩,⟨λx x0 x1 j j0 j1=>?_,λx x0 x1 hx _=>absurd (r0 x0 x1) hx⟩,λv v0 v1=>by omega⟩
   · have hl:gI (List.replicate g.2.length false) (k/2)=true:=hl
     rw[rb (fE hk) (ea hk)] at hl;cases hl
   · simp at he
   · have hl:gI (List.replicate g.2.length false) e=true:=he.2.1
     rw[rb he.1.1 he.1.2] at hl;cases hl
   · have b1:b<0:=b1
     omega
   · have j1:j<gI (List.replicate g.1.toNat (0:Int)) x:=j1
     rw[r0 x0 x1] at j1;omega
 |k+1,hk=>by
   obtain⟨h1,h2,h3⟩:=ik hm k (by omega)
   rw[gk]
   by_cases c:gI (bW g k).place (k:Int)=0
   · rw[if_pos c]
     have hse:=h1.se.first (v:=(k:Int)) (by omega) (by omega) c
     have hd:=h1.begin_ hm h2 (by omega) (by omega) c hse
     have hu:=h2.begin_ (v:=(k:Int)) h1.se (by omega) (by omega)
     obtain⟨a1,a2,a3⟩:=uR hm _ (fj (bW g k) k) [((k:Int),[])] hd hu (Nat.le_refl _)
     refine⟨a1,a2,λv v0 v1=>a3 v v0 ?_⟩
     have hl:=h1.se.l1
     have hf:=h1.se.f0
     show gI ((bW g k).place.set _ ((bW g k).found+1)) v≠0
     rw[bV (by omega) (by omega) v0]
     split
     · omega
     · exact h3 v v0 (by omega)
   · rw[if_neg c]
     refine⟨h1,h2,λv v0 v1=>?_⟩
     by_cases d:v=(k:Int)
     · rw[d];exact c
     · exact h3 v v0 (by omega)
theorem gJ(hm:bf g)(e0:0<=e)(e1:e<(g.2.length:Int)):jt g (bW g g.1.toNat).laid (bW g g.1.toNat).edges e:=by
  have h0:=hm.1
  obtain⟨h1,h2,h3⟩:=ik hm g.1.toNat (by omega)
  have hed:(bW g g.1.toNat).edges=[]:=h1.stk
  refine⟨⟨e0,e1⟩,?_,by rw[hed];simp⟩
  have hh:hf g (2*e):=⟨by omega,by omega⟩
  obtain⟨f0,f1⟩:=bz hm hh
  have:=h2.all hm hh (h3 _ f0 (by omega)) (by simp)
  rwa[show 2*e/2=e by omega] at this
def jW(g:bB)(e:Int):Int:=gI (bW g g.1.toNat).block e
theorem pA{k:Int}(hk:hf g k)(he:k/2=e)(hl:(gI g.2 e).1=(gI g.2 e).2):aL g k=ak g k:=by
 unfold aL ak
 rw[he]
 have h2:k%2=0\/k%2=1:=by omega
 rcases h2 with q|q
 · rw[q];exact hl.symm
 · rw[q];exact hl
theorem qn(hm:bf g)(hr:jS g e f):jW g f<=jW g e:=by
 have h0:=hm.1
 obtain⟨h,k,hh,hk,he,hkf,hx,hne,hnk,hw⟩:=hr
 obtain⟨h1,h2,h3⟩:=ik hm g.1.toNat (by omega)
 have hce:=gJ hm (e:=e) (by rw[<-he];exact fE hh) (by rw[<-he];exact ea hh)
 obtain⟨c0,c1⟩:=h1.clr e hce
 rcases h1.clb _ c0 c1 with⟨e0,l1,l2⟩|⟨T,u,t1,t2,t3,t4⟩
 · have:=l2 e hce rfl
   rw[<-this] at l1
   exact absurd (pA hh he l1) hne
 · obtain⟨h',q1,q2,q3⟩:=t3 e hce rfl
   by_cases c:T (ak g h)
   · have:=(t2 k hk (by rw[<-hx];exact c)).2.2
     rw[hkf] at this;exact this
   · obtain⟨a1,a2,a3,a4⟩:=cz (g:=g) hh
     have hq:h'=dB h:=by
       rcases dR q1.1 hh.1 (by rw[q2,he]) with r|r
       · rw[r] at q3;exact absurd q3 c
       · exact r
     rw[hq,a3] at q3
     have hxu:ak g h=u:=by
       have:=(t2 (dB h) a1 (by rw[a3];exact q3)).1
       rw[a4] at this
       exact this.resolve_left c
     have key:∀y,Wy g (λz=>z≠ak g h) (aL g h) y->T y:=by
       intro y hy
       generalize hz:aL g h=z0 at hy q3
       clear hw
       induction hy with
       |refl _=>exact q3
       |step p1 p2 p3 ih=>
         have:=(t2 _ p2 ih).1
         exact this.resolve_right (λr=>p3 (by rw[hxu];exact r))
     obtain⟨b1,b2,b3,b4⟩:=cz (g:=g) hk
     have:=(t2 (dB k) b1 (by rw[b3];exact key _ hw)).2.2
     rw[b2,hkf] at this;exact this
theorem jS.symm(hr:jS g e f):jS g f e:=by
 obtain⟨h,k,hh,hk,he,hkf,hx,hne,hnk,hw⟩:=hr
 exact⟨k,h,hk,hh,hkf,he,hx.symm,hnk,hne,by rw[<-hx];exact hw.symm⟩
theorem tt(hm:bf g)(hr:jS g e f):jW g e=jW g f:=Int.le_antisymm (qn hm hr.symm) (qn hm hr)
theorem rY(hm:bf g)(hr:EqB g e f):jW g e=jW g f:=by
 induction hr with
 |refl=>rfl
 |rel h=>exact tt hm h
 |symm _ ih=>exact ih.symm
 |trans _ _ i1 i2=>exact i1.trans i2
theorem tA(hm:bf g)(e0:0<=e)(e1:e<(g.2.length:Int))(f0:0<=f)(f1:f<(g.2.length:Int))(h:jW g e=jW g f):EqB g e f:=by
  have h0:=hm.1
  obtain⟨h1,h2,h3⟩:=ik hm g.1.toNat (by omega)
  have hce:=gJ hm e0 e1
  have hcf:=gJ hm f0 f1
  obtain⟨c0,c1⟩:=h1.clr e hce
  rcases h1.clb _ c0 c1 with⟨q,_,l2⟩|⟨T,u,t1,t2,t3,t4⟩
  · rw[l2 e hce rfl,l2 f hcf h.symm];exact .refl _
  · exact t4 e f hce hcf rfl h.symm
end TL
/-
  TlJoin: an edge more within a component: what becomes of blocks.
  By an AI agent.
-/
set_option linter.all false
namespace TL
variable{g:bB}{u v w x y z h k e f:Int}{A B:Int->Prop}
def fB(g:bB)(u v:Int):bB:=(g.1,g.2++[(u,v)])
theorem iE:((fB g u v).2.length:Int)=(g.2.length:Int)+1:=by simp[fB]
theorem ko{α:Type}[Inhabited α]{l:List α}{a:α}{i:Int}(h1:i<(l.length:Int))(h0:0<=i):gI (l++[a]) i=gI l i:=by
 have h:i.toNat<l.length:=by omega
 simp[gI,List.getElem?_append_left h]
theorem kz{α:Type}[Inhabited α]{l:List α}{a:α}:gI (l++[a]) (l.length:Int)=a:=by simp[gI]
theorem qS(hk:hf g k):hf (fB g u v) k/\ak (fB g u v) k=ak g k/\aL (fB g u v) k=aL g k:=by
 have h2:=hk.2
 have h1:=hk.1
 have e:gI (fB g u v).2 (k/2)=gI g.2 (k/2):=ko (by omega) (by omega)
 refine⟨⟨h1,by rw[iE];omega⟩,?_,?_⟩
 · unfold ak;rw[e]
 · unfold aL;rw[e]
theorem pL:hf (fB g u v) (2*(g.2.length:Int))/\ak (fB g u v) (2*(g.2.length:Int))=u/\aL (fB g u v) (2*(g.2.length:Int))=v:=by
 have e:gI (fB g u v).2 (2*(g.2.length:Int)/2)=(u,v):=by
   rw[show 2*(g.2.length:Int)/2=(g.2.length:Int) by omega];exact kz
 refine⟨⟨by omega,by rw[iE];omega⟩,?_,?_⟩
 · unfold ak;rw[e,show 2*(g.2.length:Int)%2=0 by omega];rfl
 · unfold aL;rw[e,show 2*(g.2.length:Int)%2=0 by omega];rfl
theorem pP:hf (fB g u v) (2*(g.2.length:Int)+1)/\ak (fB g u v) (2*(g.2.length:Int)+1)=v/\aL (fB g u v) (2*(g.2.length:Int)+1)=u:=by
 have e:gI (fB g u v).2 ((2*(g.2.length:Int)+1)/2)=(u,v):=by
   rw[show(2*(g.2.length:Int)+1)/2=(g.2.length:Int) by omega];exact kz
 refine⟨⟨by omega,by rw[iE];omega⟩,?_,?_⟩
 · unfold ak;rw[e,show(2*(g.2.length:Int)+1)%2=1 by omega];rfl
 · unfold aL;rw[e,show(2*(g.2.length:Int)+1)%2=1 by omega];rfl
theorem nA(hk:hf (fB g u v) k):hf g k\/k=2*(g.2.length:Int)\/k=2*(g.2.length:Int)+1:=by
 have h1:=hk.1
 have h2:=hk.2
 rw[iE] at h2
 by_cases c:k<2*(g.2.length:Int)
 · exact .inl ⟨h1,c⟩
 · right;omega
theorem Wy.split(hw:Wy (fB g u v) A x y):Wy g A x y\/(A u/\A v/\((Wy g A x u/\Wy g A v y)\/(Wy g A x v/\Wy g A u y))):=by
  induction hw with
  |refl a=>exact .inl (.refl a)
  |step p q r ih=>
    rename_i k
    rcases nA q with c|c|c
    · obtain⟨_,b1,b2⟩:=qS (u:=u) (v:=v) c
      rw[b1] at ih
      rw[b2] at r ⊢
      rcases ih with d|⟨a1,a2,d|d⟩
      · exact .inl (.step d c r)
      · exact .inr ⟨a1,a2,.inl ⟨d.1,.step d.2 c r⟩⟩
      · exact .inr ⟨a1,a2,.inr ⟨d.1,.step d.2 c r⟩⟩
    · obtain⟨_,b1,b2⟩:=pL (g:=g) (u:=u) (v:=v)
      subst c
      rw[b1] at ih
      rw[b2] at r ⊢
      rcases ih with d|⟨a1,a2,d|d⟩
      · exact .inr ⟨d.right,r,.inl ⟨d,.refl r⟩⟩
      · exact .inl (d.1.trans d.2.symm)
      · exact .inl d.1
    · obtain⟨_,b1,b2⟩:=pP (g:=g) (u:=u) (v:=v)
      subst c
      rw[b1] at ih
      rw[b2] at r ⊢
      rcases ih with d|⟨a1,a2,d|d⟩
      · exact .inr ⟨r,d.right,.inr ⟨d,.refl r⟩⟩
      · exact .inl d.1
      · exact .inl (d.1.trans d.2.symm)
end TL
/-
  TlJoin3: numbers of blocks; the law on an edge more.
  By an AI agent.
-/
set_option linter.all false
namespace TL
variable{g:bB}{u v w s x e f i k:Int}{by_ far:List Int}{O:Int->Prop}
theorem i8(l:List Int):∀n (i:Nat),i<n->gI (aG l n).2 (i:Int)=((aG l n).1.idxOf (gI l (i:Int)):Int)/\gI l (i:Int)∈(aG l n).1
 |0,i,h=>by omega
 |n+1,i,h=>by
   have hl:=(hZ l n).1
   unfold aG
   simp only
   by_cases c:i=n
   · subst c
     refine⟨?_,?_⟩
     · have:gI ((aG l i).2++[((List.idxOf (gI l (i:Int)) (if gI l (i:Int)∈(aG l i).1 then(aG l i).1 else(aG l i).1++[gI l (i:Int)]):Nat):Int)]) (i:Int)=((List.idxOf (gI l (i:Int)) (if gI l (i:Int)∈(aG l i).1 then(aG l i).1 else(aG l i).1++[gI l (i:Int)]):Nat):Int):=by
         have h2:=kz (l:=(aG l i).2) (a:=((List.idxOf (gI l (i:Int)) (if gI l (i:Int)∈(aG l i).1 then(aG l i).1 else(aG l i).1++[gI l (i:Int)]):Nat):Int))
         rwa[hl] at h2
       exact this
     · split
       · assumption
       · simp
   · obtain⟨h1,h2⟩:=i8 l n i (by omega)
     have h3:gI ((aG l n).2++[((List.idxOf (gI l (n:Int)) (if gI l (n:Int)∈(aG l n).1 then(aG l n).1 else(aG l n).1++[gI l (n:Int)]):Nat):Int)]) (i:Int)=gI (aG l n).2 (i:Int):=ko (by omega) (by omega)
     rw[h3,h1]
     split
     · exact⟨rfl,h2⟩
     · refine⟨?_,List.mem_append_left _ h2⟩
       rw[List.idxOf_append,if_pos h2]
theorem tB(e0:0<=e)(e1:e<(g.2.length:Int))(f0:0<=f)(f1:f<(g.2.length:Int)):gI (eF g) e=gI (eF g) f↔jW g e=jW g f:=by
  obtain⟨a,rfl⟩:∃a:Nat,e=(a:Int):=⟨e.toNat,by omega⟩
  obtain⟨b,rfl⟩:∃b:Nat,f=(b:Int):=⟨f.toNat,by omega⟩
  obtain⟨h1,h2⟩:=i8 (bW g g.1.toNat).block g.2.length a (by omega)
  obtain⟨h3,h4⟩:=i8 (bW g g.1.toNat).block g.2.length b (by omega)
  unfold eF jW
  rw[h1,h3]
  constructor
  · intro h
    have h:List.idxOf (gI (bW g g.1.toNat).block (a:Int)) (aG (bW g g.1.toNat).block g.2.length).1=List.idxOf (gI (bW g g.1.toNat).block (b:Int)) (aG (bW g g.1.toNat).block g.2.length).1:=by omega
    have k1:=List.getElem_idxOf (List.idxOf_lt_length_of_mem h2)
    have k2:=List.getElem_idxOf (List.idxOf_lt_length_of_mem h4)
    rw[<-k1,<-k2]
    simp only[h]
  · intro h;rw[h]
theorem lj(hm:bf g)(e0:0<=e)(e1:e<(g.2.length:Int))(f0:0<=f)(f1:f<(g.2.length:Int)):gI (eF g) e=gI (eF g) f↔EqB g e f:=by
  rw[tB e0 e1 f0 f1]
  exact⟨tA hm e0 e1 f0 f1,rY hm⟩
end TL
/-
  TlKap: edges of one block, a node taken out: what is left of them stays joined.
  By an AI agent.
-/
set_option linter.all false
namespace TL
variable{g:bB}{e f x y z:Int}
def iW(g:bB)(e y:Int):Prop:=∃h,hf g h/\h/2=e/\aL g h=y
theorem lB{h k:Int}(hh:hf g h)(hk:hf g k)(he:h/2=k/2):aL g k=aL g h\/aL g k=ak g h:=by
 rcases dR hk.1 hh.1 he.symm with q|q
 · exact .inl (by rw[q])
 · obtain⟨_,_,_,t4⟩:=cz (g:=g) hh
   exact .inr (by rw[q,t4])
theorem iA(hy:iW g e y)(hz:iW g e z)(hyx:y≠x)(hzx:z≠x):Wy g (λw=>w≠x) y z:=by
 obtain⟨h,h1,h2,h3⟩:=hy
 obtain⟨k,k1,k2,k3⟩:=hz
 rcases lB h1 k1 (by rw[h2,k2]) with q|q
 · rw[<-k3,q,h3];exact .refl hyx
 · rw[k3] at q
   have:=Wy.one (g:=g) (A:=λw=>w≠x) h1 (by rw[<-q];exact hzx) (by rw[h3];exact hyx)
   rw[<-q,h3] at this
   exact this.symm
def pf(g:bB)(e:Int):Prop:=∃h,hf g h/\h/2=e/\aL g h≠ak g h
theorem pf.end_(h:pf g e)(x:Int):∃y,iW g e y/\y≠x:=by
 obtain⟨k,k1,k2,k3⟩:=h
 obtain⟨t1,t2,t3,t4⟩:=cz (g:=g) k1
 by_cases c:aL g k=x
 · exact⟨ak g k,⟨dB k,t1,by rw[t2,k2],t4⟩,λj=>k3 (by rw[c,j])⟩
 · exact⟨aL g k,⟨k,k1,k2,rfl⟩,c⟩
theorem oq(h:jS g e f):pf g e/\pf g f:=by
 obtain⟨h,k,hh,hk,he,hkf,hx,hne,hnk,hw⟩:=h
 exact⟨⟨h,hh,he,hne⟩,⟨k,hk,hkf,hnk⟩⟩
theorem tG(hr:jS g e f)(hy:iW g e y)(hz:iW g f z)(hyx:y≠x)(hzx:z≠x):Wy g (λw=>w≠x) y z:=by
 obtain⟨h,k,hh,hk,he,hkf,hx,hne,hnk,hw⟩:=hr
 obtain⟨t1,t2,t3,t4⟩:=cz (g:=g) hh
 obtain⟨s1,s2,s3,s4⟩:=cz (g:=g) hk
 by_cases c:ak g h=x
 · have ey:y=aL g h:=by
     obtain⟨q,q1,q2,q3⟩:=hy
     rcases lB hh q1 (by rw[he,q2]) with r|r
     · rw[<-q3,r]
     · exact absurd (by rw[<-q3,r,c]) hyx
   have ez:z=aL g k:=by
     obtain⟨q,q1,q2,q3⟩:=hz
     rcases lB hk q1 (by rw[hkf,q2]) with r|r
     · rw[<-q3,r]
     · exact absurd (by rw[<-q3,r,<-hx,c]) hzx
   rw[ey,ez,<-c];exact hw
 · have e1:iW g e (ak g h):=⟨dB h,t1,by rw[t2,he],t4⟩
   have e2:iW g f (ak g h):=⟨dB k,s1,by rw[s2,hkf],by rw[s4,hx]⟩
   exact(iA hy e1 hyx c).trans (iA e2 hz c hzx)
theorem oe(hr:EqB g e f):e=f\/(pf g e/\pf g f/\∀x y z,iW g e y->iW g f z->y≠x->z≠x->Wy g (λw=>w≠x) y z):=by
  induction hr with
  |refl=>exact .inl rfl
  |rel h=>exact .inr ⟨(oq h).1,(oq h).2,λx y z a b c d=>tG h a b c d⟩
  |symm _ ih=>
    rcases ih with a|⟨a,b,c⟩
    · exact .inl a.symm
    · exact .inr ⟨b,a,λx y z p q r s=>(c x z y q p s r).symm⟩
  |trans _ _ i1 i2=>
    rcases i1 with a|⟨a,b,c⟩
    · rw[a];exact i2
    · rcases i2 with d|⟨d,k,q⟩
      · rw[<-d];exact .inr ⟨a,b,c⟩
      · refine .inr ⟨a,k,λx y z p r s t=>?_⟩
        obtain⟨w,w1,w2⟩:=b.end_ x
        exact(c x y w p w1 s w2).trans (q x w z w1 r w2 t)
end TL
/-
  TlAnc: the tree that a walk depth first leaves.
  By an AI agent.
-/
set_option linter.all false
namespace TL
inductive AncB (g:bB) (by_:List Int) (a:Int):Int->Prop
  |refl:AncB g by_ a a
  |step {x:Int}:AncB g by_ a (ak g (gI by_ x))->0<=gI by_ x->AncB g by_ a x
variable{g:bB}{s:Bs}{fr:Fm}{A B A0:Fm}{S:List Int}{by_ by' pl:List Int}{a v w x y h k:Int}
theorem AncB.trans(h1:AncB g by_ a x)(h2:AncB g by_ x y):AncB g by_ a y:=by
 induction h2 with
 |refl=>exact h1
 |step _ q ih=>exact .step ih q
structure uQ(g:bB)(pl by_:List Int):Prop where
  up:∀x,0<=x->x<g.1->gI pl x≠0->0<=gI by_ x->hf g (gI by_ x)/\aL g (gI by_ x)=x/\gI pl (ak g (gI by_ x))≠0/\gI pl (ak g (gI by_ x))<gI pl x
theorem AncB.le(hm:bf g)(ht:uQ g pl by_)(h:AncB g by_ a x)(hx:0<=x/\x<g.1)(hp:gI pl x≠0):(0<=a/\a<g.1)/\gI pl a≠0/\gI pl a<=gI pl x:=by
 induction h with
 |refl=>exact⟨hx,hp,Int.le_refl _⟩
 |step p q ih=>
   obtain⟨t1,t2,t3,t4⟩:=ht.up _ hx.1 hx.2 hp q
   have:=ih (bz hm t1) t3
   exact⟨this.1,this.2.1,by omega⟩
theorem AncB.congr(hm:bf g)(ht:uQ g pl by_)(h:AncB g by_ a x)(hx:0<=x/\x<g.1)(hp:gI pl x≠0)(hb:∀z,0<=z->z<g.1->gI pl z≠0->gI by' z=gI by_ z):AncB g by' a x:=by
  induction h with
  |refl=>exact .refl
  |step p q ih=>
    obtain⟨t1,t2,t3,t4⟩:=ht.up _ hx.1 hx.2 hp q
    have e:=hb _ hx.1 hx.2 hp
    exact .step (by rw[e];exact ih (bz hm t1) t3) (by rw[e];exact q)
theorem fD.anc(hd:fD g s fr):∀(n:Nat) (A B:Fm),A.length=n->∀v S,fr=A++(v,S)::B->∀p∈A,AncB g s.by_ p.1 v
  |0,A,B,hl,v,S,he,p,hp=>by rw[List.length_eq_zero_iff.1 hl] at hp;exact absurd hp List.not_mem_nil
  |n+1,A,B,hl,v,S,he,p,hp=>by
    rcases(hd.fra A v S B he).own with⟨k,_⟩|⟨A',u,U,S',k1,_,k3,k4⟩
    · rw[k] at hp;exact absurd hp List.not_mem_nil
    · subst k1
      have hl':A'.length=n:=by simpa using hl
      have he':fr=A'++(u,U)::((v,S)::B):=by rw[he];simp
      rcases List.mem_append.1 hp with c|c
      · exact .step (by rw[k3];exact hd.anc n A' _ hl' u U he' p c) k4
      · rw[List.mem_singleton.1 c]
        exact .step (by rw[k3];exact .refl) k4
end TL
/-
  TlAnc2: each step keeps the tree.
  By an AI agent.
-/
set_option linter.all false
namespace TL
variable{g:bB}{s:Bs}{fr:Fm}{A B A0:Fm}{S:List Int}{a v w x y h k:Int}
structure rR(g:bB)(s:Bs):Prop where
 tb:uQ g s.place s.by_
 cmp:∀h,hf g h->gI s.laid (h/2)=true->AncB g s.by_ (ak g h) (aL g h)\/AncB g s.by_ (aL g h) (ak g h)
theorem mY:(di g s v).by_=s.by_:=by
 unfold di;split
 · rfl
 · simp only;split<;>rfl
theorem rR.lay(ht:rR g s){la:List Bool}(hh:hf g h)(hl:h/2<(s.laid.length:Int))(hc:AncB g s.by_ (ak g h) (aL g h)\/AncB g s.by_ (aL g h) (ak g h))(k:Int)(hk:hf g k)(hlk:gI (s.laid.set (h/2).toNat true) (k/2)=true):AncB g s.by_ (ak g k) (aL g k)\/AncB g s.by_ (aL g k) (ak g k):=by
  rw[cr (fE hh) hl (fE hk)] at hlk
  by_cases c:k/2=h/2
  · rcases dR hk.1 hh.1 c with q|q
    · rw[q];exact hc
    · obtain⟨_,_,t3,t4⟩:=cz (g:=g) hh
      rw[q,t3,t4];exact hc.symm
  · rw[if_neg c] at hlk;exact ht.cmp k hk hlk
theorem rR.begin_(hm:bf g)(ht:rR g s)(hl:(s.place.length:Int)=g.1)(hf0:0<=s.found)(hub:∀x,0<=x->x<g.1->gI s.place x<=s.found)(v0:0<=v)(v1:v<g.1)(hv:gI s.place v=0)(hb:gI s.by_ v= -1):rR g (fj s v):=by
 refine⟨⟨λx x0 x1 hx hbx=>?_⟩,ht.cmp⟩
 have hx:gI (s.place.set v.toNat (s.found+1)) x≠0:=hx
 have hbx:0<=gI s.by_ x:=hbx
 show hf g (gI s.by_ x)/\aL g (gI s.by_ x)=x/\gI (s.place.set v.toNat (s.found+1)) (ak g (gI s.by_ x))≠0/\gI (s.place.set v.toNat (s.found+1)) (ak g (gI s.by_ x))<gI (s.place.set v.toNat (s.found+1)) x
 have hne:x≠v:=λk=>by rw[k] at hbx;omega
 rw[bV v0 (by omega) x0,if_neg hne] at hx ⊢
 obtain⟨t1,t2,t3,t4⟩:=ht.tb.up x x0 x1 hx hbx
 have hf':=bz hm t1
 rw[bV v0 (by omega) hf'.1,if_neg (λk=>t3 (by rw[k];exact hv))]
 exact⟨t1,t2,t3,t4⟩
theorem uG(hm:bf g)(hd:fD g s fr)(hu:kB g s (fr.map Prod.fst))(ht:rR g s)(hne:fr≠[])(hv:v=gI (fr.map Prod.fst) (((fr.map Prod.fst).length:Int)-1)):rR g (de g s (fr.map Prod.fst) v).1:=by
 obtain⟨A0,v',S,rfl,hv'⟩:=oY hne
 have:v'=v:=by rw[hv];exact hv'.symm
 subst this
 clear hv hv'
 have hvm:(0<=v'/\v'<g.1)/\gI s.place v'≠0:=hd.mem (p:=(v',S)) (by simp)
 have hl5:=hd.se.l5
 unfold de
 by_cases hn:gI s.next v'=((gI (aq g) v').length:Int)
 · rw[if_pos hn]
   refine⟨⟨λx x0 x1 hx hbx=>?_⟩,λk hk hlk=>?_⟩
   · rw[gO] at hx ⊢;rw[mY] at hbx ⊢
     exact ht.tb.up x x0 x1 hx hbx
   · rw[ku] at hlk;rw[mY];exact ht.cmp k hk hlk
 · rw[if_neg hn]
   obtain⟨n0,n1⟩:=hd.se.nx v' hvm.1.1 hvm.1.2
   have n1':gI s.next v'<=((gI (aq g) v').length:Int):=n1
   obtain⟨hh,hfv⟩:=hG hvm.1.1 hvm.1.2 n0 (by omega)
   simp only
   generalize hhe:gI (gI (aq g) v') (gI s.next v')=h at hh hfv ⊢
   obtain⟨t1,t2,t3,t4⟩:=cz (g:=g) hh
   have e1:=ea hh
   unfold dO
   by_cases hl:gI s.laid (h/2)=true
   · rw[if_pos hl];exact⟨ht.tb,ht.cmp⟩
   · rw[if_neg hl]
     by_cases hw:aL g h=v'
     · rw[if_pos hw]
       exact⟨ht.tb,λk hk hlk=>ht.lay (la:=[]) hh (by omega) (.inl (by rw[hfv,hw];exact .refl)) k hk hlk⟩
     · rw[if_neg hw]
       by_cases hp:gI s.place (aL g h)=0
       · rw[if_pos hp]
         obtain⟨w0,w1⟩:=cm hm hh
         have hl1:=hd.se.l1
         have hl3:=hd.se.l3
         have hf0:=hd.se.f0
         have hby:∀x,0<=x->gI (s.by_.set (aL g h).toNat h) x=if x=aL g h then h else gI s.by_ x:=λx a=>bV w0 (by omega) a
         have hpl:∀x,0<=x->gI (s.place.set (aL g h).toNat (s.found+1)) x=if x=aL g h then s.found+1 else gI s.place x:=λx a=>bV w0 (by omega) a
         have hcg:∀{a x:Int},AncB g s.by_ a x->0<=x/\x<g.1->gI s.place x≠0->AncB g (s.by_.set (aL g h).toNat h) a x:=λ {a x} q r t=>q.congr hm ht.tb r t (λz z0 z1 hz=>by rw[hby z z0,if_neg (λj=>hz (by rw[j];exact hp))])
         have hvw:AncB g (s.by_.set (aL g h).toNat h) v' (aL g h):=.step (by rw[hby _ w0,if_pos rfl,hfv];exact .refl) (by rw[hby _ w0,if_pos rfl];exact hh.1)
         refine⟨⟨λx x0 x1 hx hbx=>?_⟩,λk hk hlk=>?_⟩
         · have hx:gI (s.place.set (aL g h).toNat (s.found+1)) x≠0:=hx
           have hbx:0<=gI (s.by_.set (aL g h).toNat h) x:=hbx
           show hf g (gI (s.by_.set (aL g h).toNat h) x)/\aL g (gI (s.by_.set (aL g h).toNat h) x)=x/\gI (s.place.set (aL g h).toNat (s.found+1)) (ak g (gI (s.by_.set (aL g h).toNat h) x))≠0/\gI (s.place.set (aL g h).toNat (s.found+1)) (ak g (gI (s.by_.set (aL g h).toNat h) x))<gI (s.place.set (aL g h).toNat (s.found+1)) x
           rw[hby x x0] at hbx ⊢
           rw[hpl x x0] at hx ⊢
           by_cases c:x=aL g h
           · rw[if_pos c,if_pos c,hfv,hpl v' hvm.1.1,if_neg (λj=>hw j.symm)]
             have:=(hd.se.pl v' hvm.1.1 hvm.1.2).2
             exact⟨hh,c.symm,hvm.2,by omega⟩
           · rw[if_neg c] at hbx hx
             rw[if_neg c,if_neg c]
             obtain⟨u1,u2,u3,u4⟩:=ht.tb.up x x0 x1 hx hbx
             rw[hpl _ (bz hm u1).1,if_neg (λj=>u3 (by rw[j];exact hp))]
             exact⟨u1,u2,u3,u4⟩
         · have hlk:gI (s.laid.set (h/2).toNat true) (k/2)=true:=hlk
           show AncB g (s.by_.set (aL g h).toNat h) (ak g k) (aL g k)\/AncB g (s.by_.set (aL g h).toNat h) (aL g k) (ak g k)
           by_cases c:k/2=h/2
           · rcases dR hk.1 hh.1 c with q|q
             · rw[q,hfv];exact .inl hvw
             · rw[q,t3,t4,hfv];exact .inr hvw
           · rw[cr (fE hh) (by omega) (fE hk),if_neg c] at hlk
             have f1:=hd.lof k hk hlk
             have f2:=hd.lot hk hlk
             rcases ht.cmp k hk hlk with q|q
             · exact .inl (hcg q (cm hm hk) f2)
             · exact .inr (hcg q (bz hm hk) f1)
       · rw[if_neg hp]
         have hwp:aL g h∈A0.map Prod.fst:=by
           by_cases c:aL g h∈(A0++[(v',S)]).map Prod.fst
           · rw[List.map_append,List.mem_append] at c
             exact c.resolve_right (λk=>hw (by simpa using k))
           · exfalso
             have:=hu.all hm t1 (by rw[t3];exact hp) (by rw[t3];exact c)
             rw[t2] at this;exact hl this
         obtain⟨p,p1,p2⟩:=List.mem_map.1 hwp
         have:=hd.anc A0.length A0 [] rfl v' S rfl p p1
         rw[p2] at this
         exact⟨ht.tb,λk hk hlk=>ht.lay (la:=[]) hh (by omega) (.inr (by rw[hfv];exact this)) k hk hlk⟩
end TL
/-
  TlAnc3: the tree that the whole walk leaves.
  By an AI agent.
-/
set_option linter.all false
namespace TL
variable{g:bB}{s:Bs}{fr:Fm}{v x y h k:Int}
theorem vv(hm:bf g):∀(n:Nat) (s:Bs) (fr:Fm),fD g s fr->kB g s (fr.map Prod.fst)->rR g s->bF g s (fr.map Prod.fst)<=n->rR g (nh g n s (fr.map Prod.fst))
 |0,s,fr,hd,hu,ht,hl=>ht
 |n+1,s,fr,hd,hu,ht,hl=>by
   by_cases c:fr=[]
   · subst c;unfold nh;exact ht
   · have hp:fr.map Prod.fst≠[]:=λk=>c (List.map_eq_nil_iff.1 k)
     obtain⟨fr',h1,h2,h3⟩:=qI hm hd hu c rfl
     have ht':=uG hm hd hu ht c rfl
     have hless:=ib hd.se hp rfl
     unfold nh
     rw[if_neg hp,<-h1]
     rw[<-h1] at h3 hless
     exact vv hm n _ fr' h2 h3 ht' (by omega)
theorem kQ(hm:bf g):∀k:Nat,(k:Int)<=g.1->rR g (bW g k)
 |0,hk=>by
   have h0:=hm.1
   have r0:∀{x:Int} {v:Int},0<=v->v<g.1->gI (List.replicate g.1.toNat x) v=x:=λa b=>kd a (by omega)
   obtain⟨hd,_,_⟩:=ik hm 0 (by omega)
   exact⟨⟨λx x0 x1 hx _=>absurd (r0 x0 x1) hx⟩,λk hk hl=>absurd (hd.lof k hk hl) (λj=>j (r0 (bz hm hk).1 (bz hm hk).2))⟩
 |k+1,hk=>by
   obtain⟨h1,h2,h3⟩:=ik hm k (by omega)
   have ih:=kQ hm k (by omega)
   rw[gk]
   by_cases c:gI (bW g k).place (k:Int)=0
   · rw[if_pos c]
     have hse:=h1.se.first (v:=(k:Int)) (by omega) (by omega) c
     have hd:=h1.begin_ hm h2 (by omega) (by omega) c hse
     have hu:=h2.begin_ (v:=(k:Int)) h1.se (by omega) (by omega)
     have hb:gI (bW g k).by_ (k:Int)= -1:=by
       rcases h1.se.by_ (k:Int) (by omega) (by omega) with q|⟨_,_,q⟩
       · exact q
       · exact absurd c q
     have ht:=ih.begin_ hm h1.se.l1 h1.se.f0 (λx a b=>(h1.se.pl x a b).2) (by omega) (by omega) c hb
     exact vv hm _ (fj (bW g k) k) [((k:Int),[])] hd hu ht (Nat.le_refl _)
   · rw[if_neg c];exact ih
end TL
/-
  TlBlk5: bridges, and whether a net is biconnected, as the program does it.
  By an AI agent.
-/
set_option linter.all false
namespace TL
variable{g:bB}{of:List Int}{n k:Nat}
theorem rZ(l:List Int)(i:Nat)(x b:Int):gI (l.set i x) b=if b.toNat=i/\i<l.length then x else gI l b:=by
 unfold gI
 rw[List.getD_eq_getElem?_getD,List.getD_eq_getElem?_getD,List.getElem?_set]
 by_cases h1:i=b.toNat
 · rw[if_pos h1]
   by_cases h2:i<l.length
   · rw[if_pos h2,if_pos ⟨h1.symm,h2⟩];rfl
   · rw[if_neg h2,if_neg (λh=>h2 h.2),List.getElem?_eq_none (by omega)]
 · rw[if_neg h1,if_neg (λh=>h1 h.1.symm)]
theorem nZ(of:List Int)(n:Nat):∀k:Nat,(k:Int)<=of.length->∀b:Int,0<=gI (eY of n k) b/\gI (eY of n k) b<=k
 |0,_,b=>by
   have:gI (eY of n 0) b=0:=by
     show gI (List.replicate n (0:Int)) b=0
     by_cases c:b.toNat<n
     · simp[gI,c]
     · simp[gI,c]
   omega
 |k+1,hk,b=>by
   have ih:=nZ of n k (by omega)
   rw[kS (by omega),rZ]
   have h1:=ih (gI of (k:Int))
   have h2:=ih b
   split<;>omega
theorem mG{l:List Int}(h:l=d6 g k):(l.length:Int)<=k:=by
 have h1:=List.length_filter_le (λe=>decide (gI (eY (eF g) (dS g).toNat g.2.length) (gI (eF g) e)=1)&& !decide ((gI g.2 e).1=(gI g.2 e).2)) (bK k)
 have h2:(bK k).length=k:=by simp[bK]
 rw[h]
 show(((bK k).filter _).length:Int)<=k
 omega
theorem qV{l size:List Int}{j:Nat}(hs:size=eY (a9 g).1 (Int.toNat (a9 g).2.2) k)(hk:(k:Int)=g.2.length)(hl:l=d6 g j)(q:gI size (gI (a9 g).1 (j:Int))=1)(p:¬(gI g.2 (j:Int)).1=(gI g.2 (j:Int)).2):l++[(j:Int)]=d6 g (j+1):=by
 have e:k=g.2.length:=by omega
 subst e
 rw[mO (decide_eq_true (by rw[hs] at q;exact q)) p,hl]
theorem oK{l size:List Int}{j:Nat}(hs:size=eY (a9 g).1 (Int.toNat (a9 g).2.2) k)(hk:(k:Int)=g.2.length)(hl:l=d6 g j)(q:¬gI size (gI (a9 g).1 (j:Int))=1\/(gI g.2 (j:Int)).1=(gI g.2 (j:Int)).2):l=d6 g (j+1):=by
 have e:k=g.2.length:=by omega
 subst e
 rw[nB (q.imp_left λh=>by rw[hs] at h;exact h),hl]
def dP(g:bB)(k:Nat):List Bool:=(g.2.take k).foldl (λb e=>(b.set e.1.toNat true).set e.2.toNat true) (List.replicate g.1.toNat false)
structure kE(g:bB)(at_:List Bool)(k:Nat):Prop where
 eq:at_=dP g k
 lo:(at_.length:Int)=g.1
 no:∀j:Int,0<=j->j<k->¬(gI g.2 j).1=(gI g.2 j).2
theorem kE.start(h0:0<=g.1):kE g (List.replicate (Int.toNat g.1) false) 0:=⟨rfl,by simp;omega,λj a b=>by omega⟩
theorem kE.next{at_:List Bool}(h:kE g at_ k)(hk:(k:Int)<g.2.length)(hn:¬(gI g.2 (k:Int)).1=(gI g.2 (k:Int)).2):kE g ((at_.set (Int.toNat (gI g.2 (k:Int)).1) true).set (Int.toNat (gI g.2 (k:Int)).2) true) (k+1):=by
 have hk':k<g.2.length:=by omega
 refine⟨?_,by simp only[List.length_set];exact h.lo,λj a b=>?_⟩
 · unfold dP
   rw[List.take_succ_eq_append_getElem hk',List.foldl_append]
   have e:gI g.2 (k:Int)=g.2[k]:=by simp[gI,hk']
   rw[e,h.eq];rfl
 · by_cases c:j=(k:Int)
   · rw[c];exact hn
   · exact h.no j a (by omega)
def bL(g:bB):Bool:=decide (2<=g.1/\(∀e∈g.2,¬e.1=e.2)/\¬false∈dP g g.2.length/\dS g=1)
theorem mq(h:g.1<2):false=bL g:=by
 unfold bL;rw[decide_eq_false];rintro⟨a,_⟩;omega
theorem np(hk:(k:Int)<g.2.length)(h:(gI g.2 (k:Int)).1=(gI g.2 (k:Int)).2):false=bL g:=by
 unfold bL;rw[decide_eq_false];rintro⟨_,a,_⟩
 exact a _ (bD (xs:=g.2) (i:=(k:Int)) (by omega) hk) h
theorem pS{at_:List Bool}(h:kE g at_ k)(hk:k=g.2.length)(hf:false∈at_):false=bL g:=by
 subst hk
 unfold bL;rw[decide_eq_false];rintro⟨_,_,a,_⟩
 rw[h.eq] at hf;exact a hf
theorem qa{at_:List Bool}(h:kE g at_ k)(hk:k=g.2.length)(h2:¬g.1<2)(hf:¬false∈at_):decide ((a9 g).2.2=1)=bL g:=by
 subst hk
 unfold bL
 rw[decide_eq_decide]
 refine⟨λhc=>⟨by omega,λe he=>?_,by rw[<-h.eq];exact hf,hc⟩,λhc=>hc.2.2.2⟩
 obtain⟨i,hi,rfl⟩:=List.mem_iff_getElem.1 he
 have:=h.no (i:Int) (by omega) (by omega)
 have e:gI g.2 (i:Int)=g.2[i]:=by simp[gI,hi]
 rwa[e] at this
def cX(g:bB):Bool×Int:=if bf g then(bL g,0) else(false,1)
def iq(s:List Bool)(v:Bool):Int:=if v∈s then(s.idxOf v:Int) else-1
theorem qp{s:List Bool}{v:Bool}{i:Nat}(h:∀j:Nat,j<i->¬v=gI s (j:Int))(hi:(i:Int)<s.length)(he:v=gI s (i:Int)):(i:Int)=iq s v:=by
 have hlt:i<s.length:=by omega
 have e:gI s (i:Int)=s[i]:=by simp[gI,hlt]
 have hm:v∈s:=by rw[he];exact bD (by omega) hi
 unfold iq
 rw[if_pos hm]
 have hlt2:=List.idxOf_lt_length_iff.2 hm
 have h1:¬s.idxOf v<i:=λhlt'=>h _ hlt' (by simp[gI,hlt2])
 have h2:¬i<s.idxOf v:=λhlt'=>by
   have:=List.not_of_lt_findIdx (xs:=s) (p:=(· ==v)) (i:=i) hlt'
   simp at this
   exact this (by rw[<-e,<-he])
 omega
theorem sX{s:List Bool}{v:Bool}{i:Nat}(h:∀j:Nat,j<i->¬v=gI s (j:Int))(hi:¬(i:Int)<s.length): -1=iq s v:=by
 unfold iq
 rw[if_neg]
 intro hm
 obtain⟨j,hj,e⟩:=List.mem_iff_getElem.1 hm
 apply h j (by omega)
 rw[<-e];simp[gI,hj]
theorem pw{l:List Bool}{x:Bool}:decide (0<=iq l x)=decide (x∈l):=by
 unfold iq
 by_cases h:x∈l
 · rw[if_pos h,decide_eq_true h,decide_eq_true (by omega)]
 · rw[if_neg h,decide_eq_false h];rfl
end TL
/-
  TlAnc4: in a net of one block, an edge leads from behind a node to one ahead of its parent.
  By an AI agent.
-/
set_option linter.all false
namespace TL
variable{g:bB}{pl by_:List Int}{a b c x y h k:Int}
theorem AncB.cmp(h1:AncB g by_ a x)(h2:AncB g by_ b x):AncB g by_ a b\/AncB g by_ b a:=by
  induction h1 with
  |refl=>exact .inr h2
  |step p q ih=>
    cases h2 with
    |refl=>exact .inl (.step p q)
    |step p2 q2=>exact ih p2
theorem qT{A T:Int->Prop}(hw:Wy g A x y)(hx:T x)(hy:¬T y):∃k,hf g k/\T (ak g k)/\¬T (aL g k)/\A (aL g k):=by
  induction hw with
  |refl _=>exact absurd hx hy
  |step p q r ih=>
    rename_i h'
    by_cases c:T (ak g h')
    · exact⟨h',q,c,hy,r⟩
    · exact ih c
theorem rp(hm:bf g)(hb:bL g=true)(c0:0<=c)(c1:c<g.1)(hc:0<=gI (bW g g.1.toNat).by_ c)(ha:ak g (gI (bW g g.1.toNat).by_ c)=a)(hr:0<=gI (bW g g.1.toNat).by_ a):
   ∃k,hf g k/\AncB g (bW g g.1.toNat).by_ c (ak g k)/\AncB g (bW g g.1.toNat).by_ (aL g k) a/\aL g k≠a:=by
 have h0:=hm.1
 obtain⟨hd,hu,hp⟩:=ik hm g.1.toNat (by omega)
 have ht:=kQ hm g.1.toNat (by omega)
 obtain⟨t1,t2,t3,t4⟩:=ht.tb.up c c0 c1 (hp c c0 (by omega)) hc
 rw[ha] at t3 t4
 obtain⟨a0,a1⟩:0<=a/\a<g.1:=by rw[<-ha];exact bz hm t1
 obtain⟨s1,s2,s3,s4⟩:=ht.tb.up a a0 a1 t3 hr
 obtain⟨b1,b2,b3,b4⟩:=cz (g:=g) s1
 have hcnt:dS g=1:=(of_decide_eq_true hb).2.2.2
 have hof:gI (eF g) (gI (bW g g.1.toNat).by_ c/2)=gI (eF g) (gI (bW g g.1.toNat).by_ a/2):=by
   have r1:=fa g (fE t1) (ea t1)
   have r2:=fa g (fE s1) (ea s1)
   omega
 have heq:=(lj hm (fE t1) (ea t1) (fE s1) (ea s1)).1 hof
 have hpa:ak g (gI (bW g g.1.toNat).by_ a)≠a:=λk=>by rw[k] at s4;omega
 have hca:c≠a:=λk=>by rw[k] at t4;omega
 have hwy:Wy g (λz=>z≠a) c (ak g (gI (bW g g.1.toNat).by_ a)):=by
   have ec:iW g (gI (bW g g.1.toNat).by_ c/2) c:=⟨_,t1,rfl,t2⟩
   have ep:iW g (gI (bW g g.1.toNat).by_ a/2) (ak g (gI (bW g g.1.toNat).by_ a)):=⟨_,b1,b2,b4⟩
   rcases oe heq with q|⟨_,_,q⟩
   · rw[q] at ec;exact iA ec ep hca hpa
   · exact q a _ _ ec ep hca hpa
 obtain⟨k,k1,k2,k3,k4⟩:=qT (T:=λz=>AncB g (bW g g.1.toNat).by_ c z) hwy .refl (λq=>by
   have:=(q.le hm ht.tb (bz hm s1) s3).2.2
   omega)
 have hlk:=(gJ hm (e:=k/2) (fE k1) (ea k1)).2.1
 refine⟨k,k1,k2,?_,k4⟩
 rcases ht.cmp k k1 hlk with q|q
 · exact absurd (k2.trans q) k3
 · rcases q.cmp k2 with r|r
   · cases r with
     |refl=>exact absurd .refl k3
     |step r1 _=>rw[ha] at r1;exact r1
   · exact absurd r k3
theorem AncB.root(h:AncB g by_ a x)(hr:gI by_ x<0):a=x:=by
 cases h with
 |refl=>rfl
 |step _ q=>omega
theorem nt(hm:bf g)(hb:bL g=true)(c0:0<=c)(c1:c<g.1)(b0:0<=b)(b1:b<g.1)(hc:0<=gI (bW g g.1.toNat).by_ c)(hbb:0<=gI (bW g g.1.toNat).by_ b)(ha:ak g (gI (bW g g.1.toNat).by_ c)=a)(ha2:ak g (gI (bW g g.1.toNat).by_ b)=a)(hr:gI (bW g g.1.toNat).by_ a<0):b=c:=by
  have h0:=hm.1
  obtain⟨hd,hu,hp⟩:=ik hm g.1.toNat (by omega)
  have ht:=kQ hm g.1.toNat (by omega)
  obtain⟨t1,t2,t3,t4⟩:=ht.tb.up c c0 c1 (hp c c0 (by omega)) hc
  obtain⟨s1,s2,s3,s4⟩:=ht.tb.up b b0 b1 (hp b b0 (by omega)) hbb
  rw[ha] at t3 t4
  rw[ha2] at s3 s4
  have hcnt:dS g=1:=(of_decide_eq_true hb).2.2.2
  have hof:gI (eF g) (gI (bW g g.1.toNat).by_ c/2)=gI (eF g) (gI (bW g g.1.toNat).by_ b/2):=by
    have r1:=fa g (fE t1) (ea t1)
    have r2:=fa g (fE s1) (ea s1)
    omega
  have heq:=(lj hm (fE t1) (ea t1) (fE s1) (ea s1)).1 hof
  have hca:c≠a:=λk=>by rw[k] at t4;omega
  have hba:b≠a:=λk=>by rw[k] at s4;omega
  have ec:iW g (gI (bW g g.1.toNat).by_ c/2) c:=⟨_,t1,rfl,t2⟩
  have eb:iW g (gI (bW g g.1.toNat).by_ b/2) b:=⟨_,s1,rfl,s2⟩
  have hwy:Wy g (λz=>z≠a) c b:=by
    rcases oe heq with q|⟨_,_,q⟩
    · rw[q] at ec;exact iA ec eb hca hba
    · exact q a _ _ ec eb hca hba
  have hT:AncB g (bW g g.1.toNat).by_ c b:=by
    by_cases d:AncB g (bW g g.1.toNat).by_ c b
    · exact d
    · exfalso
      obtain⟨k,k1,k2,k3,k4⟩:=qT (T:=λz=>AncB g (bW g g.1.toNat).by_ c z) hwy .refl d
      have hlk:=(gJ hm (e:=k/2) (fE k1) (ea k1)).2.1
      rcases ht.cmp k k1 hlk with q|q
      · exact k3 (k2.trans q)
      · rcases q.cmp k2 with r|r
        · cases r with
          |refl=>exact k3 .refl
          |step r1 _=>rw[ha] at r1;exact k4 (r1.root hr)
        · exact k3 r
  cases hT with
  |refl=>rfl
  |step r1 _=>rw[ha2] at r1;exact absurd (r1.root hr) hca
end TL
/-
  TlAnc5: one root alone.
  By an AI agent.
-/
set_option linter.all false
namespace TL
variable{g:bB}{pl by_:List Int}{a b c x y h k e f r:Int}
theorem ky(hm:bf g)(ht:uQ g pl by_)(hpl:∀x,0<=x->x<g.1->0<=gI pl x/\gI pl x≠0):∀(n:Nat) (x:Int),0<=x->x<g.1->(gI pl x).toNat<=n->∃r,AncB g by_ r x/\gI by_ r<0
 |0,x,x0,x1,hn=>by have:=hpl x x0 x1;omega
 |n+1,x,x0,x1,hn=>by
   by_cases c:gI by_ x<0
   · exact⟨x,.refl,c⟩
   · obtain⟨t1,t2,t3,t4⟩:=ht.up x x0 x1 (hpl x x0 x1).2 (by omega)
     obtain⟨f0,f1⟩:=bz hm t1
     obtain⟨r,h1,h2⟩:=ky hm ht hpl n _ f0 f1 (by have:=hpl _ f0 f1;have:=hpl x x0 x1;omega)
     exact⟨r,.step h1 (by omega),h2⟩
def uN(g:bB)(by_:List Int)(r e:Int):Prop:=∀h,hf g h->h/2=e->AncB g by_ r (ak g h)
theorem rf(hc:AncB g by_ (ak g h) (aL g h)\/AncB g by_ (aL g h) (ak g h))(hh:hf g h)(hr:AncB g by_ r (ak g h))(hb:gI by_ r<0):uN g by_ r (h/2):=by
 have hto:AncB g by_ r (aL g h):=by
   rcases hc with q|q
   · exact hr.trans q
   · rcases hr.cmp q with p|p
     · exact p
     · have:=p.root hb
       rw[this];exact .refl
 intro k hk he
 rcases dR hk.1 hh.1 he with q|q
 · rw[q];exact hr
 · obtain⟨_,_,t3,_⟩:=cz (g:=g) hh
   rw[q,t3];exact hto
theorem uq(hc:∀h,hf g h->AncB g by_ (ak g h) (aL g h)\/AncB g by_ (aL g h) (ak g h))(he:EqB g e f)(hb:gI by_ r<0):uN g by_ r e↔uN g by_ r f:=by
 have one:∀{e f},jS g e f->uN g by_ r e->uN g by_ r f:=by
   rintro e f ⟨h,k,hh,hk,rfl,rfl,hx,_,_,_⟩ hr
   exact rf (hc k hk) hk (by rw[<-hx];exact hr h hh rfl) hb
 induction he with
 |refl=>exact Iff.rfl
 |rel h=>exact⟨one h,one h.symm⟩
 |symm _ ih=>exact ih.symm
 |trans _ _ i1 i2=>exact i1.trans i2
theorem iK{v:Int}(hm:bf g)(v0:0<=v)(v1:v<g.1):∀k:Nat,k<=g.2.length->(dP g k).length=g.1.toNat/\(gI (dP g k) v=true->∃h,hf g h/\ak g h=v)
 |0,_=>by
   refine⟨by simp[dP],λh=>?_⟩
   obtain⟨j,rfl⟩:∃j:Nat,v=(j:Int):=⟨v.toNat,by omega⟩
   have:j<g.1.toNat:=by omega
   simp[dP,gI,this] at h
 |k+1,hk=>by
   obtain⟨h1,h2⟩:=iK hm v0 v1 k (by omega)
   have hlt:k<g.2.length:=by omega
   have e:dP g (k+1)=((dP g k).set (g.2[k]).1.toNat true).set (g.2[k]).2.toNat true:=by
     unfold dP
     rw[List.take_succ_eq_append_getElem hlt,List.foldl_append];rfl
   obtain⟨⟨a0,a1⟩,b0,b1⟩:=hm.2.2.2 _ (List.getElem_mem hlt)
   have eg:gI g.2 (k:Int)=g.2[k]:=by simp[gI,hlt]
   refine⟨by rw[e];simp[h1],λh=>?_⟩
   rw[e,cr b0 (by rw[List.length_set,h1];omega) v0,cr a0 (by rw[h1];omega) v0] at h
   by_cases c1:v=(g.2[k]).2
   · refine⟨2*(k:Int)+1,⟨by omega,by omega⟩,?_⟩
     unfold ak
     rw[show(2*(k:Int)+1)/2=(k:Int) by omega,show(2*(k:Int)+1)%2=1 by omega,eg,c1];rfl
   · rw[if_neg c1] at h
     by_cases c2:v=(g.2[k]).1
     · refine⟨2*(k:Int),⟨by omega,by omega⟩,?_⟩
       unfold ak
       rw[show(2*(k:Int))/2=(k:Int) by omega,show(2*(k:Int))%2=0 by omega,eg,c2];rfl
     · rw[if_neg c2] at h
       exact h2 h
theorem jw(hm:bf g)(hb:bL g=true){v:Int}(v0:0<=v)(v1:v<g.1):∃h,hf g h/\ak g h=v:=by
 obtain⟨h1,h2⟩:=iK hm v0 v1 g.2.length (Nat.le_refl _)
 apply h2
 have hnf:=(of_decide_eq_true hb).2.2.1
 have hmem:gI (dP g g.2.length) v∈dP g g.2.length:=bD v0 (by rw[h1];omega)
 cases c:gI (dP g g.2.length) v with
 |true=>rfl
 |false=>rw[c] at hmem;exact absurd hmem hnf
theorem kZ(hm:bf g)(hb:bL g=true)(a0:0<=a)(a1:a<g.1)(x0:0<=x)(x1:x<g.1)(ha:gI (bW g g.1.toNat).by_ a<0):AncB g (bW g g.1.toNat).by_ a x:=by
  have h0:=hm.1
  have ht:=kQ hm g.1.toNat (by omega)
  have hc:∀h,hf g h->AncB g (bW g g.1.toNat).by_ (ak g h) (aL g h)\/AncB g (bW g g.1.toNat).by_ (aL g h) (ak g h):=λh hh=>ht.cmp h hh (gJ hm (fE hh) (ea hh)).2.1
  obtain⟨h,h1,h2⟩:=jw hm hb a0 a1
  obtain⟨k,k1,k2⟩:=jw hm hb x0 x1
  have hcnt:dS g=1:=(of_decide_eq_true hb).2.2.2
  have hof:gI (eF g) (h/2)=gI (eF g) (k/2):=by
    have r1:=fa g (fE h1) (ea h1)
    have r2:=fa g (fE k1) (ea k1)
    omega
  have heq:=(lj hm (fE h1) (ea h1) (fE k1) (ea k1)).1 hof
  have r1:uN g (bW g g.1.toNat).by_ a (h/2):=rf (hc h h1) h1 (by rw[h2];exact .refl) ha
  have:=(uq hc heq ha).1 r1 k k1 rfl
  rwa[k2] at this
end TL
/-
  TlBlk6: ears, as the program makes them.
  By an AI agent.
-/
set_option linter.all false
namespace TL
variable{g:bB}{pl by_:List Int}{R ears:List (List Int)}{rest:List (Int×Int)}{u:List Bool}{w v h:Int}{ear:List Int}
def px(g:bB)(by_:List Int):Nat->List Bool->Int->List Int->Option (List Bool×List Int)
 |0,u,w,ear=>if gI u w=true then some (u,ear) else none
 |n+1,u,w,ear=>if gI u w=true then some (u,ear) else if gI by_ w<0 then none else px g by_ n (u.set w.toNat true) (aL g (dB (gI by_ w))) (ear++[dB (gI by_ w)])
def eT(g:bB)(pl by_:List Int):List (Int×Int)->List Bool->List (List Int)->Option (List (List Int))
 |[],_,ears=>some ears
 |(v,h)::r,u,ears=>
   if gI by_ (aL g h)=h\/gI pl (aL g h)<gI pl v then eT g pl by_ r u ears
   else match px g by_ g.1.toNat (u.set v.toNat true) (aL g h) [h] with
     |none=>none
     |some p=>eT g pl by_ r p.1 (ears++[p.2])
def eE(O:List (List Int))(l:List Int):List (Int×Int):=l.flatMap λv=>(gI O v).map λh=>(v,h)
def f5(pl:List Int)(n k:Nat):List Int:=(bK k).foldl (λo v=>o.set (gI pl v-1).toNat v) (List.replicate n 0)
def fV(g:bB):Option (List (List Int)):=eT g (bW g g.1.toNat).place (bW g g.1.toNat).by_ (eE (aq g) (f5 (bW g g.1.toNat).place g.1.toNat g.1.toNat)) (List.replicate g.1.toNat false) []
def nW(g:bB):Prop:=bf g->bL g=true->2<=g.2.length->(∀v∈bK g.1.toNat,1<=gI (bW g g.1.toNat).place v/\gI (bW g g.1.toNat).place v<=g.1)/\(eE (aq g) (f5 (bW g g.1.toNat).place g.1.toNat g.1.toNat)).length<=100000/\(fV g).isSome=true
def bI(g:bB):List (List Int)×Int:=if bf g then if bL g=true then if 2<=g.2.length then((fV g).getD [],0) else([],9) else([],7) else([],1)
structure ln(pl:List Int)(n:Int)(o:List Int)(k:Nat):Prop where
 eq:o=f5 pl (Int.toNat n) k
 lo:(o.length:Int)=n
 rg:∀x∈o,0<=x/\x<n
theorem ln.start{n:Int}(h0:0<n):ln pl n (List.replicate (Int.toNat n) 0) 0:=⟨rfl,by simp;omega,λx hx=>by rw[(List.mem_replicate.1 hx).2];omega⟩
theorem ln.next{n:Int}{o:List Int}{k:Nat}(h:ln pl n o k)(hk:(k:Int)<n):ln pl n (o.set (Int.toNat (gI pl (k:Int)-1)) (k:Int)) (k+1):=by
 refine⟨?_,by rw[List.length_set];exact h.lo,λx hx=>?_⟩
 · unfold f5
   rw[cU,List.foldl_append,h.eq];rfl
 · rcases List.mem_or_eq_of_mem_set hx with c|c
   · exact h.rg x c
   · rw[c];omega
structure jO(g:bB)(pl by_:List Int)(R:List (List Int))(rest:List (Int×Int))(u:List Bool)(ears:List (List Int)):Prop where
 len:(u.length:Int)=g.1
 run:eT g pl by_ rest u ears=some R
 few:(ears.length:Int)+rest.length<=100000
structure rN(g:bB)(pl by_:List Int)(R:List (List Int))(rest:List (Int×Int))(ears:List (List Int))(u:List Bool)(w:Int)(ear:List Int):Prop where
 len:(u.length:Int)=g.1
 w0:0<=w
 w1:w<g.1
 run:∃f u2 e2,px g by_ f u w ear=some (u2,e2)/\eT g pl by_ rest u2 (ears++[e2])=some R
 few:(ears.length:Int)+1+rest.length<=100000
 sh:(ear.length:Int)+(u.count false:Int)<=g.1+1
theorem jO.skip(hi:jO g pl by_ R ((v,h)::rest) u ears)(hw:aL g h=w)(hc:gI by_ w=h\/gI pl w<gI pl v):jO g pl by_ R rest u ears:=by
 subst hw
 have h1:=hi.run
 have h2:=hi.few
 rw[List.length_cons] at h2
 unfold eT at h1
 rw[if_pos hc] at h1
 exact⟨hi.len,h1,by omega⟩
theorem jO.up(hi:jO g pl by_ R ((v,h)::rest) u ears)(hw:aL g h=w)(hc:¬(gI by_ w=h\/gI pl w<gI pl v))(w0:0<=w)(w1:w<g.1):rN g pl by_ R rest ears (u.set (Int.toNat v) true) w [h]:=by
 subst hw
 have h1:=hi.run
 have h2:=hi.few
 rw[List.length_cons] at h2
 unfold eT at h1
 rw[if_neg hc] at h1
 have hl:=hi.len
 refine⟨by rw[List.length_set];exact hi.len,w0,w1,?_,by omega,?_⟩
 · cases e:px g by_ g.1.toNat (u.set v.toNat true) (aL g h) [h] with
   |none=>rw[e] at h1;cases h1
   |some p=>rw[e] at h1;exact⟨_,p.1,p.2,e,h1⟩
 · have:(u.set (Int.toNat v) true).count false<=(u.set (Int.toNat v) true).length:=List.count_le_length
   rw[List.length_set] at this
   simp only[List.length_cons,List.length_nil];omega
theorem rN.byp(hi:rN g pl by_ R rest ears u w ear)(hu:¬gI u w=true):0<=gI by_ w:=by
 obtain⟨f,u2,e2,h1,_⟩:=hi.run
 cases f with
 |zero=>unfold px at h1;rw[if_neg hu] at h1;cases h1
 |succ f=>
   unfold px at h1
   rw[if_neg hu] at h1
   by_cases c:gI by_ w<0
   · rw[if_pos c] at h1;cases h1
   · omega
theorem jG{u:List Bool}{w:Int}(w0:0<=w)(w1:w<u.length)(hu:¬gI u w=true):(u.set (Int.toNat w) true).count false+1=u.count false:=by
 have hlt:w.toNat<u.length:=by omega
 have e:u[w.toNat]=false:=by
   have:gI u w=u[w.toNat]:=by simp[gI,hlt]
   rw[this] at hu;simpa using hu
 have hp:0<u.count false:=List.count_pos_iff.2 (e▸List.getElem_mem hlt)
 rw[List.count_set hlt,e]
 simp;omega
theorem rN.next(hi:rN g pl by_ R rest ears u w ear)(hu:¬gI u w=true){x y:Int}(hx:dB (gI by_ w)=x)(hy:aL g x=y)(y0:0<=y)(y1:y<g.1):rN g pl by_ R rest ears (u.set (Int.toNat w) true) y (ear++[x])/\(u.set (Int.toNat w) true).count false<u.count false:=by
 subst hx hy
 have hl:=hi.len
 have w0:=hi.w0
 have w1:=hi.w1
 have hb:=hi.byp hu
 have hc:=jG w0 (by omega) hu
 have hs:=hi.sh
 refine⟨⟨by rw[List.length_set];exact hl,y0,y1,?_,hi.few,by rw[List.length_append,List.length_singleton];omega⟩,by omega⟩
 obtain⟨f,u2,e2,h1,h2⟩:=hi.run
 cases f with
 |zero=>unfold px at h1;rw[if_neg hu] at h1;cases h1
 |succ f=>
   unfold px at h1
   rw[if_neg hu,if_neg (by omega)] at h1
   exact⟨f,u2,e2,h1,h2⟩
theorem rN.done(hi:rN g pl by_ R rest ears u w ear)(hu:gI u w=true):jO g pl by_ R rest u (ears++[ear]):=by
 obtain⟨f,u2,e2,h1,h2⟩:=hi.run
 have e:px g by_ f u w ear=some (u,ear):=by
   cases f with
   |zero=>unfold px;rw[if_pos hu]
   |succ f=>unfold px;rw[if_pos hu]
 rw[e] at h1
 obtain⟨rfl,rfl⟩:u=u2/\ear=e2:=by simpa using h1
 exact⟨hi.len,h2,by have:=hi.few;rw[List.length_append,List.length_singleton];omega⟩
def fm(O:List (List Int))(o:List Int)(k i:Nat):List (Int×Int):=((gI O (gI o (k:Int))).drop i).map (λh=>(gI o (k:Int),h))++eE O (o.drop (k+1))
theorem jO.row{O:List (List Int)}{o:List Int}{k:Nat}(hi:jO g pl by_ R (eE O (o.drop k)) u ears)(hk:(k:Int)<o.length):jO g pl by_ R (fm O o k 0) u ears:=by
 have hk':k<o.length:=by omega
 have e:eE O (o.drop k)=fm O o k 0:=by
   rw[List.drop_eq_getElem_cons hk']
   have e2:gI o (k:Int)=o[k]:=by simp[gI,hk']
   unfold fm eE
   rw[List.flatMap_cons,e2];rfl
 rwa[e] at hi
theorem jO.one{O:List (List Int)}{o:List Int}{k i:Nat}(hi:jO g pl by_ R (fm O o k i) u ears)(hk:(i:Int)<((gI O (gI o (k:Int))).length:Int)):jO g pl by_ R ((gI o (k:Int),gI (gI O (gI o (k:Int))) (i:Int))::fm O o k (i+1)) u ears:=by
 have hk':i<(gI O (gI o (k:Int))).length:=by omega
 have e:fm O o k i=(gI o (k:Int),gI (gI O (gI o (k:Int))) (i:Int))::fm O o k (i+1):=by
   unfold fm
   rw[List.drop_eq_getElem_cons hk']
   have e3:∀(L:List Int) (hL:i<L.length),gI L (i:Int)=L[i]:=λL hL=>by simp[gI,hL]
   have e2:=e3 (gI O (gI o (k:Int))) hk'
   rw[List.map_cons,e2];rfl
 rwa[e] at hi
theorem jO.rowdone{O:List (List Int)}{o:List Int}{k i:Nat}(hi:jO g pl by_ R (fm O o k i) u ears)(hk:¬(i:Int)<((gI O (gI o (k:Int))).length:Int)):jO g pl by_ R (eE O (o.drop (k+1))) u ears:=by
 have e:fm O o k i=eE O (o.drop (k+1)):=by
   unfold fm
   rw[List.drop_eq_nil_of_le (by omega)];rfl
 rwa[e] at hi
theorem jO.done{O:List (List Int)}{o:List Int}{k:Nat}(hi:jO g pl by_ R (eE O (o.drop k)) u ears)(hk:¬(k:Int)<(o.length:Int)):ears=R:=by
 have h1:=hi.run
 rw[List.drop_eq_nil_of_le (by omega)] at h1
 unfold eE eT at h1
 simpa using h1
theorem qf{o:List Int}(hm:bf g)(hok:nW g)(hb:bL g=true)(h2:2<=g.2.length)(hp:pl=(bW g g.1.toNat).place)(hy:by_=(bW g g.1.toNat).by_){O:List (List Int)}(hO:O=aq g){k:Nat}(ho:ln pl g.1 o k)(hk:(k:Int)=g.1):jO g pl by_ ((fV g).getD []) (eE O (o.drop 0)) (List.replicate (Int.toNat g.1) false) []:=by
 obtain⟨_,h3,h4⟩:=hok hm hb h2
 have e:k=g.1.toNat:=by omega
 subst hO
 have eo:o=f5 (bW g g.1.toNat).place g.1.toNat g.1.toNat:=by rw[ho.eq,e,hp]
 have hm0:=hm.1
 refine⟨by simp;omega,?_,?_⟩
 · rw[List.drop_zero,eo,hp,hy]
   show fV g=_
   cases h5:fV g with
   |none=>rw[h5] at h4;cases h4
   |some r=>rfl
 · rw[List.drop_zero,eo]
   simp only[List.length_nil];omega
theorem l9(h:bL g=true):2<=g.1:=(of_decide_eq_true h).1
theorem rv{O:List (List Int)}{i:Int}(hO:O=aq g)(v0:0<=v)(v1:v<g.1)(i0:0<=i)(i1:i<((gI O v).length:Int)):0<=gI (gI O v) i/\gI (gI O v) i<2*(g.2.length:Int):=by
 subst hO
 have hin:gI (gI (aq g) v) i∈gI (aq g) v:=bD i0 i1
 rw[cW v0 v1] at hin
 have ho:=(ck hin).1
 rw[<-cW v0 v1] at ho
 exact ho
end TL
/-
  TlEar: the tree of a biconnected net: where an ear may begin.
  By an AI agent.
-/
set_option linter.all false
namespace TL
variable{g:bB}{pl by_:List Int}{a b c x y z w v h k e f r:Int}
theorem pz(hb:bL g=true)(hh:hf g h):ak g h≠aL g h:=by
 intro c
 have h1:=(of_decide_eq_true hb).2.1
 have hm:gI g.2 (h/2)∈g.2:=bD (fE hh) (ea hh)
 refine h1 _ hm ?_
 unfold ak aL pI at c
 have:h%2=0\/h%2=1:=by omega
 rcases this with q|q
 · rw[q] at c;simpa using c
 · rw[q] at c;simpa using c.symm
structure fv(g:bB)(pl by_:List Int)(r:Int):Prop where
  hm:bf g
  tb:uQ g pl by_
  pos:∀x,0<=x->x<g.1->1<=gI pl x/\gI pl x<=g.1
  inj:∀x y,0<=x->x<g.1->0<=y->y<g.1->gI pl x=gI pl y->x=y
  r0:0<=r
  r1:r<g.1
  rb:gI by_ r<0
  one:∀x,0<=x->x<g.1->AncB g by_ r x
  cmp:∀h,hf g h->AncB g by_ (ak g h) (aL g h)\/AncB g by_ (aL g h) (ak g h)
  nol:∀h,hf g h->ak g h≠aL g h
  up:∀c,0<=c->c<g.1->0<=gI by_ c->0<=gI by_ (ak g (gI by_ c))->∃k,hf g k/\AncB g by_ c (ak g k)/\AncB g by_ (aL g k) (ak g (gI by_ c))/\aL g k≠ak g (gI by_ c)
  ch:∀b c,0<=b->b<g.1->0<=c->c<g.1->0<=gI by_ b->0<=gI by_ c->ak g (gI by_ b)=r->ak g (gI by_ c)=r->b=c
  n2:2<=g.1
  e2:2<=g.2.length
theorem rz(hm:bf g)(hb:bL g=true)(h2:2<=g.2.length):∃r,fv g (bW g g.1.toNat).place (bW g g.1.toNat).by_ r:=by
 have h0:=hm.1
 obtain⟨hd,hu,hp⟩:=ik hm g.1.toNat (by omega)
 have ht:=kQ hm g.1.toNat (by omega)
 have hn2:=l9 hb
 have hpp:∀x,0<=x->x<g.1->gI (bW g g.1.toNat).place x≠0:=λx a b=>hp x a (by omega)
 have hpl:∀x,0<=x->x<g.1->0<=gI (bW g g.1.toNat).place x/\gI (bW g g.1.toNat).place x≠0:=λx a b=>⟨(hd.se.pl x a b).1,hpp x a b⟩
 obtain⟨r,h1,h3⟩:=ky hm ht.tb hpl _ 0 (Int.le_refl _) (by omega) (Nat.le_refl _)
 obtain⟨⟨r0,r1⟩,_,_⟩:=h1.le hm ht.tb ⟨Int.le_refl _,by omega⟩ (hpp 0 (by omega) (by omega))
 refine⟨r,hm,ht.tb,λx a b=>?_,λx y a b c d e=>hd.inj x y a b c d (hpp x a b) e,r0,r1,h3,λx a b=>kZ hm hb r0 r1 a b h3,λh hh=>ht.cmp h hh (gJ hm (fE hh) (ea hh)).2.1,λh hh=>pz hb hh,λc c0 c1 hc hr=>rp hm hb c0 c1 hc rfl hr,λb c b0 b1 c0 c1 hb1 hc1 e1 e2=>nt hm hb c0 c1 b0 b1 hc1 hb1 e2 e1 h3,hn2,h2⟩
 have q1:=hd.se.pl x a b
 have q2:=hpp x a b
 have q3:=hd.se.fn
 omega
def nH(g:bB)(pl by_:List Int)(h:Int):Prop:=hf g h/\¬gI by_ (aL g h)=h/\¬gI pl (aL g h)<gI pl (ak g h)
theorem AncB.child(h:AncB g by_ a x)(hne:a≠x):∃c,0<=gI by_ c/\ak g (gI by_ c)=a/\AncB g by_ c x:=by
 induction h with
 |refl=>exact absurd rfl hne
 |step p q ih=>
   rename_i y
   by_cases c:a=ak g (gI by_ y)
   · exact⟨y,q,c.symm,.refl⟩
   · obtain⟨d,d1,d2,d3⟩:=ih c
     exact⟨d,d1,d2,.step d3 q⟩
theorem fv.rng(ht:fv g pl by_ r)(h:AncB g by_ a x)(x0:0<=x)(x1:x<g.1):(0<=a/\a<g.1)/\gI pl a<=gI pl x:=by
 have:=ht.pos x x0 x1
 obtain⟨h1,_,h2⟩:=h.le ht.hm ht.tb ⟨x0,x1⟩ (by omega)
 exact⟨h1,h2⟩
theorem fv.lt(ht:fv g pl by_ r)(h:AncB g by_ a x)(x0:0<=x)(x1:x<g.1)(hne:a≠x):gI pl a<gI pl x:=by
 obtain⟨⟨a0,a1⟩,h2⟩:=ht.rng h x0 x1
 have:¬gI pl a=gI pl x:=λq=>hne (ht.inj a x a0 a1 x0 x1 q)
 omega
theorem fv.par(ht:fv g pl by_ r)(x0:0<=x)(x1:x<g.1)(hb:0<=gI by_ x):hf g (gI by_ x)/\aL g (gI by_ x)=x/\(0<=ak g (gI by_ x)/\ak g (gI by_ x)<g.1)/\gI pl (ak g (gI by_ x))<gI pl x:=by
 have:=ht.pos x x0 x1
 obtain⟨h1,h2,h3,h4⟩:=ht.tb.up x x0 x1 (by omega) hb
 exact⟨h1,h2,bz ht.hm h1,h4⟩
theorem fv.notr(ht:fv g pl by_ r)(x0:0<=x)(x1:x<g.1)(hne:x≠r):0<=gI by_ x:=by
 have:=ht.one x x0 x1
 cases this with
 |refl=>exact absurd rfl hne
 |step _ q=>exact q
theorem fv.upP(ht:fv g pl by_ r)(c0:0<=c)(c1:c<g.1)(hc:0<=gI by_ c)(ha:ak g (gI by_ c)=a)(hr:0<=gI by_ a):∃h,nH g pl by_ h/\gI pl (ak g h)<gI pl a/\AncB g by_ (ak g h) a/\ak g h≠a/\AncB g by_ c (aL g h):=by
  obtain⟨k,k1,k2,k3,k4⟩:=ht.up c c0 c1 hc (by rw[ha];exact hr)
  rw[ha] at k3 k4
  obtain⟨t1,t2,t3,t4⟩:=cz (g:=g) k1
  obtain⟨_,_,⟨a0,a1⟩,hac⟩:=ht.par c0 c1 hc
  rw[ha] at a0 a1 hac
  obtain⟨y0,y1⟩:=bz ht.hm k1
  have hza:=ht.lt k3 a0 a1 k4
  have hcy:=(ht.rng k2 y0 y1).2
  refine⟨dB k,⟨t1,λq=>?_,by rw[t3,t4];omega⟩,by rw[t3];exact hza,by rw[t3];exact k3,by rw[t3];exact k4,by rw[t4];exact k2⟩
  rw[t4] at q
  have e:ak g (gI by_ (ak g k))=aL g k:=by rw[q,t3]
  have k2':=k2
  generalize ak g k=y at*
  cases k2 with
  |refl=>exact k4 (by rw[<-e,ha])
  |step p1 _=>
    rw[e] at p1
    have:=(ht.rng p1 (cm ht.hm k1).1 (cm ht.hm k1).2).2
    omega
theorem fv.rootP(ht:fv g pl by_ r):∃h,nH g pl by_ h/\ak g h=r:=by
  have hn2:=ht.n2
  obtain⟨x,x0,x1,xr⟩:∃x,0<=x/\x<g.1/\x≠r:=by
    by_cases q:r=0
    · exact⟨1,by omega,by omega,by omega⟩
    · exact⟨0,by omega,by omega,λj=>q j.symm⟩
  obtain⟨c,h1,h2,h3⟩:=(ht.one x x0 x1).child (λq=>xr q.symm)
  obtain⟨⟨c0,c1⟩,_⟩:=ht.rng h3 x0 x1
  have hrc:c≠r:=λq=>by rw[q] at h1;have:=ht.rb;omega
  by_cases hd:∃d,(0<=d/\d<g.1)/\0<=gI by_ d/\ak g (gI by_ d)=c
  · obtain⟨d,⟨d0,d1⟩,d2,d3⟩:=hd
    obtain⟨h,p1,p2,p3,p4,p5⟩:=ht.upP d0 d1 d2 d3 h1
    refine⟨h,p1,?_⟩
    generalize ak g h=z at*
    cases p3 with
    |refl=>exact absurd rfl p4
    |step q1 _=>rw[h2] at q1;exact q1.root ht.rb
  · have two:∀y,0<=y->y<g.1->y=r\/y=c:=λy y0 y1=>by
      by_cases q:y=r
      · exact .inl q
      · obtain⟨c',b1,b2,b3⟩:=(ht.one y y0 y1).child (λj=>q j.symm)
        obtain⟨⟨b4,b5⟩,_⟩:=ht.rng b3 y0 y1
        have:=ht.ch c' c b4 b5 c0 c1 b1 h1 b2 h2
        rw[this] at b3
        by_cases q2:c=y
        · exact .inr q2.symm
        · obtain⟨d,u1,u2,u3⟩:=b3.child q2
          exact absurd ⟨d,(ht.rng u3 y0 y1).1,u1,u2⟩ hd
    obtain⟨h,hh,he⟩:∃h,hf g h/\h/2≠gI by_ c/2:=by
      have e2:=ht.e2
      by_cases q:gI by_ c/2=0
      · exact⟨2,⟨by omega,by omega⟩,by omega⟩
      · exact⟨0,⟨by omega,by omega⟩,by omega⟩
    have main:∀h,hf g h->h/2≠gI by_ c/2->ak g h=r->nH g pl by_ h:=λh hh he hr=>by
      have hto:=cm ht.hm hh
      have e3:aL g h=c:=(two _ hto.1 hto.2).resolve_left λq=>ht.nol h hh (by rw[hr,q])
      have:=(ht.rng (ht.one c c0 c1) c0 c1).2
      exact⟨hh,by rw[e3];exact λq=>he (by rw[q]),by rw[e3,hr];omega⟩
    obtain⟨t1,t2,t3,t4⟩:=cz (g:=g) hh
    by_cases q:ak g h=r
    · exact⟨h,main h hh he q,q⟩
    · have hfr:=bz ht.hm hh
      have hto:=cm ht.hm hh
      have e3:=(two _ hfr.1 hfr.2).resolve_left q
      have e4:aL g h=r:=(two _ hto.1 hto.2).resolve_right λj=>ht.nol h hh (by rw[e3,j])
      exact⟨dB h,main _ t1 (by rw[t2];exact he) (by rw[t3];exact e4),by rw[t3];exact e4⟩
theorem fv.byI(ht:fv g pl by_ r)(x0:0<=x)(x1:x<g.1)(hx:0<=gI by_ x)(y0:0<=y)(y1:y<g.1)(hy:0<=gI by_ y)(he:gI by_ x/2=gI by_ y/2):x=y:=by
  obtain⟨a1,a2,_,a4⟩:=ht.par x0 x1 hx
  obtain⟨b1,b2,_,b4⟩:=ht.par y0 y1 hy
  rcases dR a1.1 b1.1 he with q|q
  · rw[<-a2,q,b2]
  · obtain⟨_,_,t3,t4⟩:=cz (g:=g) b1
    rw[q,t3,b2] at a4
    rw[q,t4] at a2
    rw[a2] at b4
    omega
theorem fv.nsBy(ht:fv g pl by_ r)(hh:nH g pl by_ h)(x0:0<=x)(x1:x<g.1)(hx:0<=gI by_ x):h/2≠gI by_ x/2:=by
 intro he
 obtain⟨n1,n2,n3⟩:=hh
 obtain⟨a1,a2,_,a4⟩:=ht.par x0 x1 hx
 rcases dR n1.1 a1.1 he with q|q
 · exact n2 (by rw[q,a2])
 · obtain⟨_,_,t3,t4⟩:=cz (g:=g) a1
   rw[q,t3,t4,a2] at n3
   omega
theorem fv.nsI(ht:fv g pl by_ r)(hh:nH g pl by_ h)(hk:nH g pl by_ k)(he:h/2=k/2):h=k:=by
 obtain⟨n1,n2,n3⟩:=hh
 obtain⟨m1,m2,m3⟩:=hk
 rcases dR n1.1 m1.1 he with q|q
 · exact q
 · obtain⟨_,_,t3,t4⟩:=cz (g:=g) m1
   rw[q,t3,t4] at n3
   obtain⟨f0,f1⟩:=bz ht.hm m1
   obtain⟨g0,g1⟩:=cm ht.hm m1
   exact absurd (ht.inj _ _ f0 f1 g0 g1 (by omega)) (ht.nol k m1)
theorem fv.nsA(ht:fv g pl by_ r)(hh:nH g pl by_ h):∃c,(0<=c/\c<g.1)/\0<=gI by_ c/\ak g (gI by_ c)=ak g h/\AncB g by_ c (aL g h):=by
  obtain⟨n1,n2,n3⟩:=hh
  obtain⟨f0,f1⟩:=bz ht.hm n1
  obtain⟨g0,g1⟩:=cm ht.hm n1
  have:AncB g by_ (ak g h) (aL g h):=by
    rcases ht.cmp h n1 with q|q
    · exact q
    · have:=(ht.rng q f0 f1).2
      exact absurd (ht.inj _ _ f0 f1 g0 g1 (by omega)) (ht.nol h n1)
  obtain⟨c,c1,c2,c3⟩:=this.child (ht.nol h n1)
  exact⟨c,(ht.rng c3 g0 g1).1,c1,c2,c3⟩
end TL
/-
  TlEar2: the order in which ears begin, and how an ear climbs.
  By an AI agent.
-/
set_option linter.all false
namespace TL
variable{g:bB}{pl by_:List Int}{a b c x y z w v h k e f r:Int}{u u0:List Bool}{ws:List Int}
theorem nL{v:Int}:(bA g v).Nodup:=by
 unfold bA gw
 refine List.Nodup.sublist List.filter_sublist ?_
 unfold List.Nodup
 rw[List.pairwise_map]
 refine List.Pairwise.imp ?_ List.nodup_range
 intro a b h e
 exact h (by omega)
theorem fv.ordK(ht:fv g pl by_ r):∀k:Nat,(k:Int)<=g.1->(f5 pl g.1.toNat k).length=g.1.toNat/\∀v,0<=v->v<(k:Int)->gI (f5 pl g.1.toNat k) (gI pl v-1)=v
 |0,_=>⟨by simp[f5,bK],λv a b=>by omega⟩
 |k+1,hk=>by
   obtain⟨h1,h2⟩:=ht.ordK k (by omega)
   have e:f5 pl g.1.toNat (k+1)=(f5 pl g.1.toNat k).set (gI pl (k:Int)-1).toNat (k:Int):=by
     unfold f5
     rw[cU,List.foldl_append];rfl
   have hp:=ht.pos (k:Int) (by omega) (by omega)
   refine⟨by rw[e,List.length_set];exact h1,λv v0 v1=>?_⟩
   have hq:=ht.pos v v0 (by omega)
   rw[e,bV (by omega) (by omega) (by omega)]
   by_cases q:v=(k:Int)
   · rw[if_pos (by rw[q]),q]
   · have:gI pl v≠gI pl (k:Int):=λj=>q (ht.inj _ _ v0 (by omega) (by omega) (by omega) j)
     rw[if_neg (by omega)]
     exact h2 v v0 (by omega)
abbrev gP(g:bB)(pl:List Int):List Int:=f5 pl g.1.toNat g.1.toNat
theorem fv.ord_pl(ht:fv g pl by_ r){i:Int}(i0:0<=i)(i1:i<g.1):(0<=gI (gP g pl) i/\gI (gP g pl) i<g.1)/\gI pl (gI (gP g pl) i)=i+1:=by
 have hn:=ht.n2
 obtain⟨_,h2⟩:=ht.ordK g.1.toNat (by omega)
 have hin:i∈(bK g.1.toNat).map (λv=>gI pl v-1):=by
   refine po (n:=g.1.toNat) ?_ (λx hx=>?_) (by simp[bK]) i0 (by omega)
   · unfold List.Nodup
     rw[List.pairwise_map]
     refine List.Pairwise.imp_of_mem ?_ (ke _)
     intro a b ha hb hne q
     obtain⟨a0,a1⟩:=dK.1 ha
     obtain⟨b0,b1⟩:=dK.1 hb
     exact hne (ht.inj a b a0 (by omega) b0 (by omega) (by omega))
   · obtain⟨v,v1,rfl⟩:=List.mem_map.1 hx
     obtain⟨a0,a1⟩:=dK.1 v1
     have:=ht.pos v a0 (by omega)
     omega
 obtain⟨v,v1,v2⟩:=List.mem_map.1 hin
 obtain⟨a0,a1⟩:=dK.1 v1
 have:=h2 v a0 (by omega)
 rw[show gI pl v-1=i from v2] at this
 unfold gP
 rw[this]
 exact⟨⟨a0,by omega⟩,by omega⟩
theorem fv.ord_len(ht:fv g pl by_ r):(gP g pl).length=g.1.toNat:=(ht.ordK g.1.toNat (by have:=ht.n2;omega)).1
theorem fv.ord_mem(ht:fv g pl by_ r)(hx:x∈gP g pl):0<=x/\x<g.1:=by
 have hn:=ht.n2
 obtain⟨i,hi,rfl⟩:=List.mem_iff_getElem.1 hx
 have hl:=ht.ord_len
 have:=(ht.ord_pl (i:=(i:Int)) (by omega) (by omega)).1
 have e:gI (gP g pl) (i:Int)=(gP g pl)[i]:=by
   unfold gI
   rw[List.getD_eq_getElem?_getD,List.getElem?_eq_getElem (by simpa using hi)];rfl
 rwa[e] at this
theorem fv.ord_asc(ht:fv g pl by_ r):(gP g pl).Pairwise λa b=>gI pl a<gI pl b:=by
 have hn:=ht.n2
 have hl:=ht.ord_len
 rw[List.pairwise_iff_getElem]
 intro i j hi hj hij
 have e:∀(i:Nat) (hi:i<(gP g pl).length),gI (gP g pl) (i:Int)=(gP g pl)[i]:=λi hi=>by
   unfold gI
   rw[List.getD_eq_getElem?_getD,List.getElem?_eq_getElem (by simpa using hi)];rfl
 have h1:=(ht.ord_pl (i:=(i:Int)) (by omega) (by omega)).2
 have h2:=(ht.ord_pl (i:=(j:Int)) (by omega) (by omega)).2
 rw[e i hi] at h1
 rw[e j hj] at h2
 omega
abbrev k5(g:bB)(pl:List Int):List (Int×Int):=eE (aq g) (gP g pl)
theorem fv.prs_in(ht:fv g pl by_ r){p:Int×Int}(hp:p∈k5 g pl):hf g p.2/\ak g p.2=p.1:=by
 obtain⟨v,v1,v2⟩:=List.mem_flatMap.1 hp
 obtain⟨h,h1,h2⟩:=List.mem_map.1 v2
 subst h2
 obtain⟨v0,v3⟩:=ht.ord_mem v1
 rw[cW v0 v3] at h1
 exact ck h1
theorem fv.prs_all(ht:fv g pl by_ r)(hh:hf g h):(ak g h,h)∈k5 g pl:=by
 have hn:=ht.n2
 obtain⟨f0,f1⟩:=bz ht.hm hh
 have hp:=ht.pos _ f0 f1
 have hl:=ht.ord_len
 have hin:ak g h∈gP g pl:=by
   have e:=(ht.ordK g.1.toNat (by omega)).2 _ f0 (by omega)
   have:gI (gP g pl) (gI pl (ak g h)-1)∈gP g pl:=bD (by omega) (by omega)
   rwa[show gI (gP g pl) (gI pl (ak g h)-1)=ak g h from e] at this
 refine List.mem_flatMap.2 ⟨_,hin,List.mem_map.2 ⟨h,?_,rfl⟩⟩
 rw[cW f0 f1]
 exact eP hh
theorem fv.prs_asc(ht:fv g pl by_ r):(k5 g pl).Pairwise λp q=>gI pl p.1<=gI pl q.1/\p.2≠q.2:=by
 unfold k5 eE
 rw[List.pairwise_flatMap]
 refine⟨λv hv=>?_,List.Pairwise.imp_of_mem ?_ ht.ord_asc⟩
 · obtain⟨v0,v1⟩:=ht.ord_mem hv
   rw[List.pairwise_map,cW v0 v1]
   exact List.Pairwise.imp (λq=>⟨Int.le_refl _,q⟩) nL
 · intro a b ha hb hab x hx y hy
   obtain⟨a0,a1⟩:=ht.ord_mem ha
   obtain⟨b0,b1⟩:=ht.ord_mem hb
   rw[cW a0 a1] at hx
   rw[cW b0 b1] at hy
   obtain⟨h,h1,rfl⟩:=List.mem_map.1 hx
   obtain⟨k,k1,rfl⟩:=List.mem_map.1 hy
   refine⟨by show gI pl a<=gI pl b;omega,λq=>?_⟩
   have e1:=(ck h1).2
   have e2:=(ck k1).2
   rw[show h=k from q,e2] at e1
   rw[e1] at hab;omega
theorem fv.prs_len(ht:fv g pl by_ r):(k5 g pl).length<=100000:=by
 have h1:((k5 g pl).map Prod.snd).Nodup:=by
   unfold List.Nodup
   rw[List.pairwise_map]
   exact List.Pairwise.imp (λq=>q.2) ht.prs_asc
 have:=kx (2*g.2.length) _ h1 (λx hx=>by
   obtain⟨p,p1,rfl⟩:=List.mem_map.1 hx
   have:=(ht.prs_in p1).1
   exact⟨this.1,by have:=this.2;omega⟩)
 rw[List.length_map] at this
 have:=ht.hm.2.2.1
 omega
inductive Clm (g:bB) (by_:List Int) (u:List Bool):Int->List Int->Int->Prop
  |done {w:Int}:gI u w=true->Clm g by_ u w [] w
  |step {w b:Int} {ws:List Int}:¬gI u w=true->0<=gI by_ w->Clm g by_ u (ak g (gI by_ w)) ws b->Clm g by_ u w (w::ws) b
theorem fv.up_run(ht:fv g pl by_ r)(ur:gI u0 r=true):∀(f:Nat) (w:Int) (u:List Bool) (ear:List Int),0<=w->w<g.1->gI pl w<=f->(u.length:Int)=g.1->(∀x,0<=x->x<g.1->gI pl x<=gI pl w->gI u x=gI u0 x)->
   ∃ws b u2,px g by_ f u w ear=some (u2,ear++ws.map λx=>dB (gI by_ x))/\Clm g by_ u0 w ws b/\(u2.length:Int)=g.1/\∀x,0<=x->x<g.1->(gI u2 x=true↔gI u x=true\/x∈ws)
 |0,w,u,ear,w0,w1,hf,hl,hu=>by have:=ht.pos w w0 w1;omega
 |f+1,w,u,ear,w0,w1,hf,hl,hu=>by
   have e:=hu w w0 w1 (Int.le_refl _)
   unfold px
   by_cases c:gI u w=true
   · rw[if_pos c]
     exact⟨[],w,u,by simp,.done (by rw[<-e];exact c),hl,λx _ _=>by simp⟩
   · rw[if_neg c]
     have hne:w≠r:=λq=>c (by rw[e,q];exact ur)
     have hb:=ht.notr w0 w1 hne
     obtain⟨p1,p2,⟨p3,p4⟩,p5⟩:=ht.par w0 w1 hb
     obtain⟨t1,t2,t3,t4⟩:=cz (g:=g) p1
     rw[if_neg (by omega),t4]
     have hs:∀x,0<=x->gI (u.set w.toNat true) x=if x=w then true else gI u x:=λx q=>cr w0 (by omega) q
     obtain⟨ws,b,u2,q1,q2,q3,q4⟩:=ht.up_run ur f (ak g (gI by_ w)) (u.set w.toNat true) (ear++[dB (gI by_ w)]) p3 p4 (by omega) (by rw[List.length_set];exact hl) (λx x0 x1 hx=>by
       rw[hs x x0,if_neg (λq=>by rw[q] at hx;omega)]
       exact hu x x0 x1 (by omega))
     refine⟨w::ws,b,u2,by rw[q1];simp,.step (by rw[<-e];exact c) hb q2,q3,λx x0 x1=>?_⟩
     rw[q4 x x0 x1,hs x x0,List.mem_cons]
     by_cases q:x=w
     · rw[if_pos q];simp[q]
     · rw[if_neg q];simp[q]
theorem Clm.end_(h:Clm g by_ u w ws b):gI u b=true:=by
 induction h with
 |done q=>exact q
 |step _ _ _ ih=>exact ih
theorem Clm.anc(h:Clm g by_ u w ws b):AncB g by_ b w:=by
 induction h with
 |done q=>exact .refl
 |step _ q _ ih=>exact .step ih q
theorem Clm.head(h:Clm g by_ u w ws b):w∈ws\/w=b:=by
 cases h with
 |done _=>exact .inr rfl
 |step _ _ _=>exact .inl (List.mem_cons_self ..)
theorem Clm.inn(ht:fv g pl by_ r)(h:Clm g by_ u w ws b)(w0:0<=w)(w1:w<g.1):∀x∈ws,(0<=x/\x<g.1)/\¬gI u x=true/\0<=gI by_ x/\gI pl x<=gI pl w/\(ak g (gI by_ x)∈ws\/ak g (gI by_ x)=b):=by
 induction h with
 |done _=>intro x hx;cases hx
 |step p q k ih=>
   intro x hx
   obtain⟨_,_,⟨p3,p4⟩,p5⟩:=ht.par w0 w1 q
   rcases List.mem_cons.1 hx with j|j
   · rw[j]
     exact⟨⟨w0,w1⟩,p,q,Int.le_refl _,k.head.imp (λi=>List.mem_cons_of_mem _ i) id⟩
   · obtain⟨a1,a2,a3,a4,a5⟩:=ih p3 p4 x j
     exact⟨a1,a2,a3,by omega,a5.imp (λi=>List.mem_cons_of_mem _ i) id⟩
theorem Clm.desc(ht:fv g pl by_ r)(h:Clm g by_ u w ws b)(w0:0<=w)(w1:w<g.1):ws.Pairwise λx y=>gI pl y<gI pl x:=by
 induction h with
 |done _=>exact .nil
 |step p q k ih=>
   obtain⟨_,_,⟨p3,p4⟩,p5⟩:=ht.par w0 w1 q
   refine List.pairwise_cons.2 ⟨λy hy=>?_,ih p3 p4⟩
   have:=(Clm.inn ht k p3 p4 y hy).2.2.2.1
   omega
theorem Clm.over(h:Clm g by_ u w ws b)(hc:AncB g by_ c w)(hn:c∉ws):AncB g by_ c b:=by
 induction h with
 |done _=>exact hc
 |step p q k ih=>
   cases hc with
   |refl=>exact absurd (List.mem_cons_self ..) hn
   |step hc' _=>exact ih hc' (λj=>hn (List.mem_cons_of_mem _ j))
def u7(g:bB):Int->List Int->Int->Prop
  |x,[],y=>x=y
  |x,h::t,y=>hf g h/\ak g h=x/\u7 g (aL g h) t y
theorem Clm.chain(ht:fv g pl by_ r)(h:Clm g by_ u w ws b)(w0:0<=w)(w1:w<g.1):u7 g w (ws.map λx=>dB (gI by_ x)) b:=by
 induction h with
 |done _=>exact rfl
 |step p q k ih=>
   obtain⟨p1,p2,⟨p3,p4⟩,p5⟩:=ht.par w0 w1 q
   obtain⟨t1,t2,t3,t4⟩:=cz (g:=g) p1
   refine⟨t1,by rw[t3,p2],?_⟩
   rw[t4];exact ih p3 p4
end TL
/-
  TlDocB: blocks, as the document makes them: edges joined at each node by what is joined without it.
  By an AI agent.
-/
set_option linter.all false
namespace TL
variable{g:bB}{of of0 of2 fi c L M:List Int}{a b v h k' i j x y z:Int}{k m:Nat}
def gL(of:List Int)(a b:Int):List Int:=of.map λz=>if z=max (gI of a) (gI of b) then min (gI of a) (gI of b) else z
structure n9(of:List Int)(a b:Int)(of2:List Int)(k:Nat):Prop where
 eq:of2=(of.take k).map (λz=>if z=max (gI of a) (gI of b) then min (gI of a) (gI of b) else z)++of.drop k
 lo:(of2.length:Int)=of.length
theorem n9.start:n9 of a b of 0:=⟨by simp,rfl⟩
theorem n9.at_(h:n9 of a b of2 k)(hk:(k:Int)<of.length):gI of2 (k:Int)=gI of (k:Int):=by
 have hk':k<of.length:=by omega
 rw[h.eq]
 unfold gI
 rw[List.getD_eq_getElem?_getD,List.getD_eq_getElem?_getD,Int.toNat_natCast,List.getElem?_append_right (by simp;omega)]
 simp
 rw[show k+(k-min k of.length)=k by omega]
theorem n9.yes(h:n9 of a b of2 k)(hk:(k:Int)<of.length)(hc:gI of2 (k:Int)=max (gI of a) (gI of b)):n9 of a b (of2.set (Int.toNat (k:Int)) (min (gI of a) (gI of b))) (k+1):=by
 have hk':k<of.length:=by omega
 have e:=h.at_ hk
 rw[hc] at e
 refine⟨?_,by rw[List.length_set];exact h.lo⟩
 rw[h.eq,Int.toNat_natCast,List.set_append_right _ _ (by simp;omega),List.take_succ_eq_append_getElem hk',List.map_append]
 rw[show k-((of.take k).map (λz=>if z=max (gI of a) (gI of b) then min (gI of a) (gI of b) else z)).length=0 by simp;omega,List.drop_eq_getElem_cons hk']
 have e2:of[k]=max (gI of a) (gI of b):=by rw[e];simp[gI,hk']
 simp[e2]
theorem n9.no(h:n9 of a b of2 k)(hk:(k:Int)<of.length)(hc:¬gI of2 (k:Int)=max (gI of a) (gI of b)):n9 of a b of2 (k+1):=by
 have hk':k<of.length:=by omega
 have e:=h.at_ hk
 rw[e] at hc
 refine⟨?_,h.lo⟩
 have e2:¬of[k]=max (gI of a) (gI of b):=by
   have:gI of (k:Int)=of[k]:=by simp[gI,hk']
   rw[<-this];exact hc
 rw[h.eq,List.take_succ_eq_append_getElem hk',List.map_append,List.drop_eq_getElem_cons hk']
 simp[e2]
theorem n9.done(h:n9 of a b of2 k)(hk:¬(k:Int)<of2.length):of2=gL of a b:=by
 have hl:=h.lo
 rw[h.eq,List.take_of_length_le (by omega),List.drop_eq_nil_of_le (by omega),List.append_nil];rfl
theorem pU:(gL of a b).length=of.length:=by unfold gL;simp
theorem qR(h0:0<=i)(h1:i<(of.length:Int)):gI (gL of a b) i=if gI of i=max (gI of a) (gI of b) then min (gI of a) (gI of b) else gI of i:=by
 have hi:i.toNat<of.length:=by omega
 unfold gL
 generalize gI of a=p
 generalize gI of b=q
 unfold gI
 rw[List.getD_eq_getElem?_getD,List.getD_eq_getElem?_getD,List.getElem?_map,List.getElem?_eq_getElem hi];rfl
structure uP(g:bB)(of:List Int):Prop where
  lo:(of.length:Int)=g.2.length
  ob:∀i,0<=i->i<(g.2.length:Int)->0<=gI of i/\gI of i<=i
  id:∀i,0<=i->i<(g.2.length:Int)->gI of (gI of i)=gI of i
  snd:∀i j,0<=i->i<(g.2.length:Int)->0<=j->j<(g.2.length:Int)->gI of i=gI of j->EqB g i j
theorem uP.join(h:uP g of)(a0:0<=a)(a1:a<(g.2.length:Int))(b0:0<=b)(b1:b<(g.2.length:Int))(he:EqB g a b):uP g (gL of a b)/\gI (gL of a b) a=gI (gL of a b) b/\∀i j,0<=i->i<(g.2.length:Int)->0<=j->j<(g.2.length:Int)->gI of i=gI of j->gI (gL of a b) i=gI (gL of a b) j:=by
 have hl:=h.lo
 have ja:∀i,0<=i->i<(g.2.length:Int)->gI (gL of a b) i=if gI of i=max (gI of a) (gI of b) then min (gI of a) (gI of b) else gI of i:=λi p q=>qR p (by omega)
 have ba:=h.ob a a0 a1
 have bb:=h.ob b b0 b1
 have ida:=h.id a a0 a1
 have idb:=h.id b b0 b1
 have hmin:min (gI of a) (gI of b)=gI of a\/min (gI of a) (gI of b)=gI of b:=by omega
 have hmax:max (gI of a) (gI of b)=gI of a\/max (gI of a) (gI of b)=gI of b:=by omega
 have emin:gI of (min (gI of a) (gI of b))=min (gI of a) (gI of b):=by rcases hmin with q|q<;>rw[q]<;>assumption
 -- of what is named by the greater, or the lesser, of the two
 have hcl:∀i,0<=i->i<(g.2.length:Int)->(gI of i=max (gI of a) (gI of b)\/gI of i=min (gI of a) (gI of b))->EqB g i a:=λi i0 i1 q=>by
   have:gI of i=gI of a\/gI of i=gI of b:=by omega
   rcases this with q|q
   · exact h.snd i a i0 i1 a0 a1 q
   · exact(h.snd i b i0 i1 b0 b1 q).trans he.symm
 refine⟨⟨by rw[pU];exact hl,λi i0 i1=>?_,λi i0 i1=>?_,λi j i0 i1 j0 j1 hij=>?_⟩,?_,λi j i0 i1 j0 j1 hij=>?_⟩
 · have:=h.ob i i0 i1
   rw[ja i i0 i1]
   split<;>omega
 · have bi:=h.ob i i0 i1
   rw[ja i i0 i1]
   by_cases q:gI of i=max (gI of a) (gI of b)
   · rw[if_pos q,ja _ (by omega) (by omega),emin]
     split<;>rfl
   · rw[if_neg q,ja _ (by omega) (by omega),h.id i i0 i1,if_neg q]
 · rw[ja i i0 i1,ja j j0 j1] at hij
   by_cases q:gI of i=max (gI of a) (gI of b)
   · rw[if_pos q] at hij
     by_cases q2:gI of j=max (gI of a) (gI of b)
     · exact h.snd i j i0 i1 j0 j1 (by rw[q,q2])
     · rw[if_neg q2] at hij
       exact(hcl i i0 i1 (.inl q)).trans (hcl j j0 j1 (.inr hij.symm)).symm
   · rw[if_neg q] at hij
     by_cases q2:gI of j=max (gI of a) (gI of b)
     · rw[if_pos q2] at hij
       exact(hcl i i0 i1 (.inr hij)).trans (hcl j j0 j1 (.inl q2)).symm
     · rw[if_neg q2] at hij
       exact h.snd i j i0 i1 j0 j1 hij
 · rw[ja a a0 a1,ja b b0 b1]
   split<;>split<;>omega
 · rw[ja i i0 i1,ja j j0 j1,hij]
def iu(g:bB)(v:Int):List Bool:=(List.replicate g.1.toNat false).set v.toNat true
theorem oS(hm:bf g)(v0:0<=v)(v1:v<g.1)(x0:0<=x):gI (iu g v) x=true↔x=v:=by
 unfold iu
 rw[cr v0 (by simp;omega) x0]
 by_cases q:x=v
 · rw[if_pos q];simp[q]
 · rw[if_neg q]
   constructor
   · intro j
     exfalso
     by_cases c:x<g.1
     · rw[fA x0 (by omega)] at j;cases j
     · have:¬x.toNat<g.1.toNat:=by omega
       simp[gI,this] at j
   · intro j;exact absurd j q
theorem iX(hm:bf g)(v0:0<=v)(v1:v<g.1)(x0:0<=x)(x1:x<g.1)(y0:0<=y)(y1:y<g.1)(hx:x≠v)(hy:y≠v):
    (0<=gI (bq g (iu g v) []).1 x/\gI (bq g (iu g v) []).1 x<g.1)/\(gI (bq g (iu g v) []).1 x=gI (bq g (iu g v) []).1 y↔Wy g (λz=>z≠v) x y):=by
  obtain⟨l,hi⟩:=jb (gone:=iu g v) (cut:=[]) hm
  have hP:=iV (gone:=iu g v) (cut:=[]) hm
  have hno:∀z,0<=z->z≠v->¬gI (iu g v) z=true:=λz z0 q j=>q ((oS hm v0 v1 z0).1 j)
  have hxd:gD g x:=⟨x0,x1⟩
  have hyd:gD g y:=⟨y0,y1⟩
  obtain⟨l1,l2,l3⟩:=ka (gone:=iu g v) (cut:=[]) hm
  have h0:0<=gI (bq g (iu g v) []).1 x:=(hi.iff x hxd).2 (by
    have:=hi.all x.toNat (by omega) (by omega) (by rw[show((x.toNat:Nat):Int)=x by omega];exact hno x x0 hx)
    rwa[show((x.toNat:Nat):Int)=x by omega] at this)
  have h1:=hi.top x hxd
  refine⟨⟨h0,by omega⟩,(hi.lab x y hxd hyd h0).trans ⟨λhc=>?_,λhw=>?_⟩⟩
  · exact hP.cl (λz=>z≠v/\Wy g (λz=>z≠v) x z) (λh hh hp q=>by
      have:=hp.2.1
      have ht:=cm hm hh
      have hne:aL g h≠v:=λj=>this ((oS hm v0 v1 ht.1).2 j)
      exact⟨hne,.step q.2 hh hne⟩) x y hc ⟨hx,.refl hx⟩ |>.2
  · induction hw with
    |refl _=>exact(Cn.eqv _).rfl _ (hP.nd.2 hxd)
    |step p q r ih=>
      rename_i h'
      have hf:=bz hm q
      have hfn:=p.right
      have hc:=ih hf.1 hf.2 hfn ⟨hf.1,hf.2⟩
      have ht:=cm hm q
      exact(Cn.eqv _).trans _ _ _ (hP.nd.2 hxd) (hP.nd.2 hf) (hP.nd.2 ht) hc (hP.one h' q ⟨hno _ hf.1 hfn,hno _ ht.1 r,by simp[gI]⟩)
structure lR(g:bB)(of0:List Int)(v:Int)(c fi of:List Int)(k:Nat):Prop where
 hc:c=(bq g (iu g v) []).1
 v0:0<=v
 v1:v<g.1
 fl:(fi.length:Int)=g.1
 fb:∀x,0<=x->x<g.1->0<=gI fi x/\gI fi x<=(g.2.length:Int)
 le:uP g of
 mono:∀i j,0<=i->i<(g.2.length:Int)->0<=j->j<(g.2.length:Int)->gI of0 i=gI of0 j->gI of i=gI of j
 frs:∀x,0<=x->x<g.1->gI fi x≠0->∃h∈bA g v,aL g h≠v/\h/2=gI fi x-1/\gI c (aL g h)=x
 row:∀h∈(bA g v).take k,aL g h≠v->gI fi (gI c (aL g h))≠0/\gI of (gI fi (gI c (aL g h))-1)=gI of (h/2)
theorem lR.start(hm:bf g)(v0:0<=v)(v1:v<g.1)(hc:c=(bq g (iu g v) []).1)(hl:uP g of):lR g of v c (List.replicate (Int.toNat g.1) 0) of 0:=by
 have hr:∀x,0<=x->x<g.1->gI (List.replicate (Int.toNat g.1) (0:Int)) x=0:=λx a b=>fA a (by omega)
 exact⟨hc,v0,v1,by simp;omega,λx a b=>by rw[hr x a b];omega,hl,λ_ _ _ _ _ _ q=>q,λx a b q=>absurd (hr x a b) q,λh q=>by simp at q⟩
theorem lR.loop(h:lR g of0 v c fi of k)(hk:(k:Int)<(bA g v).length)(hl:aL g (gI (bA g v) (k:Int))=v):lR g of0 v c fi of (k+1):=by
 refine⟨h.hc,h.v0,h.v1,h.fl,h.fb,h.le,h.mono,h.frs,λx hx q=>?_⟩
 rw[cj hk] at hx
 rcases List.mem_append.1 hx with hx|hx
 · exact h.row x hx q
 · rw[List.mem_singleton.1 hx] at q;exact absurd hl q
theorem nr(hk:(k:Int)<(bA g v).length):gI (bA g v) (k:Int)∈bA g v/\hf g (gI (bA g v) (k:Int))/\ak g (gI (bA g v) (k:Int))=v:=by
 have h1:=bD (xs:=bA g v) (i:=(k:Int)) (by omega) hk
 exact⟨h1,ck h1⟩
theorem lR.cb(hm:bf g)(h:lR g of0 v c fi of k)(hx0:0<=x)(hx1:x<g.1)(hx:x≠v):0<=gI c x/\gI c x<g.1:=by
 rw[h.hc]
 exact(iX hm h.v0 h.v1 hx0 hx1 hx0 hx1 hx hx).1
theorem lR.first(hm:bf g)(h:lR g of0 v c fi of k)(hk:(k:Int)<(bA g v).length)(hl:¬aL g (gI (bA g v) (k:Int))=v)(h0:gI fi (gI c (aL g (gI (bA g v) (k:Int))))=0):lR g of0 v c (fi.set (Int.toNat (gI c (aL g (gI (bA g v) (k:Int))))) (gI (bA g v) (k:Int)/2+1)) of (k+1):=by
 obtain⟨r1,r2,r3⟩:=nr hk
 have ht:=cm hm r2
 obtain⟨c0,c1⟩:=h.cb hm ht.1 ht.2 hl
 have hfl:=h.fl
 have hs:∀x,0<=x->gI (fi.set (Int.toNat (gI c (aL g (gI (bA g v) (k:Int))))) (gI (bA g v) (k:Int)/2+1)) x=if x=gI c (aL g (gI (bA g v) (k:Int))) then gI (bA g v) (k:Int)/2+1 else gI fi x:=λx q=>bV c0 (by omega) q
 have b1:=fE r2
 have b2:=ea r2
 refine⟨h.hc,h.v0,h.v1,by rw[List.length_set];exact hfl,λx x0 x1=>?_,h.le,h.mono,λx x0 x1 q=>?_,λy hy q=>?_⟩
 · rw[hs x x0]
   have:=h.fb x x0 x1
   split<;>omega
 · rw[hs x x0] at q ⊢
   by_cases e:x=gI c (aL g (gI (bA g v) (k:Int)))
   · rw[if_pos e]
     exact⟨_,r1,hl,by omega,e.symm⟩
   · rw[if_neg e] at q ⊢
     exact h.frs x x0 x1 q
 · have hyo:y∈bA g v:=List.mem_of_mem_take hy
   have hyt:=cm hm (ck hyo).1
   obtain⟨d0,d1⟩:=h.cb hm hyt.1 hyt.2 q
   rw[hs _ d0]
   rw[cj hk] at hy
   rcases List.mem_append.1 hy with hy|hy
   · obtain⟨p1,p2⟩:=h.row y hy q
     by_cases e:gI c (aL g y)=gI c (aL g (gI (bA g v) (k:Int)))
     · rw[e] at p1;exact absurd h0 p1
     · rw[if_neg e];exact⟨p1,p2⟩
   · rw[List.mem_singleton.1 hy,if_pos rfl]
     exact⟨by omega,by rw[show gI (bA g v) (k:Int)/2+1-1=gI (bA g v) (k:Int)/2 by omega]⟩
theorem lR.join(hm:bf g)(h:lR g of0 v c fi of k)(hk:(k:Int)<(bA g v).length)(hl:¬aL g (gI (bA g v) (k:Int))=v)(h0:¬gI fi (gI c (aL g (gI (bA g v) (k:Int))))=0)(he:of2=gL of (gI fi (gI c (aL g (gI (bA g v) (k:Int))))-1) (gI (bA g v) (k:Int)/2)):lR g of0 v c fi of2 (k+1):=by
 subst he
 obtain⟨r1,r2,r3⟩:=nr hk
 have ht:=cm hm r2
 obtain⟨c0,c1⟩:=h.cb hm ht.1 ht.2 hl
 have b1:=fE r2
 have b2:=ea r2
 obtain⟨f0,f1⟩:=h.fb _ c0 c1
 obtain⟨y,y1,y2,y3,y4⟩:=h.frs _ c0 c1 h0
 obtain⟨yf,yv⟩:=ck y1
 have hyt:=cm hm yf
 have hrel:jS g (gI fi (gI c (aL g (gI (bA g v) (k:Int))))-1) (gI (bA g v) (k:Int)/2):=by
   refine⟨y,_,yf,r2,y3,rfl,by rw[yv,r3],by rw[yv];exact y2,by rw[r3];exact hl,?_⟩
   rw[yv]
   rw[h.hc] at y4
   exact(iX hm h.v0 h.v1 hyt.1 hyt.2 ht.1 ht.2 y2 hl).2.1 y4
 obtain⟨j1,j2,j3⟩:=h.le.join (a:=gI fi (gI c (aL g (gI (bA g v) (k:Int))))-1) (b:=gI (bA g v) (k:Int)/2) (by omega) (by omega) b1 b2 (.rel hrel)
 refine⟨h.hc,h.v0,h.v1,h.fl,h.fb,j1,λi j i0 i1 j0 j1' q=>j3 i j i0 i1 j0 j1' (h.mono i j i0 i1 j0 j1' q),h.frs,λz hz q=>?_⟩
 · have hzo:z∈bA g v:=List.mem_of_mem_take hz
   have hzf:=(ck hzo).1
   have hzt:=cm hm hzf
   obtain⟨d0,d1⟩:=h.cb hm hzt.1 hzt.2 q
   rw[cj hk] at hz
   rcases List.mem_append.1 hz with hz|hz
   · obtain⟨p1,p2⟩:=h.row z hz q
     obtain⟨q1,q2⟩:=h.fb _ d0 d1
     exact⟨p1,j3 _ _ (by omega) (by omega) (fE hzf) (ea hzf) p2⟩
   · rw[List.mem_singleton.1 hz]
     exact⟨h0,j2⟩
structure q5(g:bB)(of:List Int)(k:Nat):Prop where
  le:uP g of
  cmp:∀v:Int,0<=v->v<(k:Int)->∀h∈bA g v,∀h'∈bA g v,aL g h≠v->aL g h'≠v->gI (bq g (iu g v) []).1 (aL g h)=gI (bq g (iu g v) []).1 (aL g h')->gI of (h/2)=gI of (h'/2)
theorem q5.start:q5 g (bK g.2.length) 0:=by
 have hi:∀i,0<=i->i<(g.2.length:Int)->gI (bK g.2.length) i=i:=λi a b=>oL a (by omega)
 refine⟨⟨by simp[bK],λi a b=>by rw[hi i a b];omega,λi a b=>by rw[hi i a b,hi i a b],λi j a b c d q=>by rw[hi i a b,hi j c d] at q;rw[q];exact .refl _⟩,λv a b=>by omega⟩
theorem q5.next(hm:bf g)(h:q5 g of0 k){m:Nat}(hr:lR g of0 (k:Int) c fi of m)(hm2:¬(m:Int)<(bA g (k:Int)).length):q5 g of (k+1):=by
 refine⟨hr.le,λv v0 v1 x hx y hy hxv hyv q=>?_⟩
 by_cases c':v=(k:Int)
 · subst c'
   have hr':=hr.row
   rw[List.take_of_length_le (by omega),hr.hc] at hr'
   obtain⟨p1,p2⟩:=hr' x hx hxv
   obtain⟨q1,q2⟩:=hr' y hy hyv
   rw[<-p2,<-q2,q]
 · have hxf:=(ck hx).1
   have hyf:=(ck hy).1
   exact hr.mono _ _ (fE hxf) (ea hxf) (fE hyf) (ea hyf) (h.cmp v v0 (by omega) x hx y hy hxv hyv q)
theorem q5.all(hm:bf g)(h:q5 g of k)(hk:(k:Int)=g.1)(i0:0<=i)(i1:i<(g.2.length:Int))(j0:0<=j)(j1:j<(g.2.length:Int)):gI of i=gI of j↔EqB g i j:=by
 refine⟨h.le.snd i j i0 i1 j0 j1,λhe=>?_⟩
 have one:∀i j,jS g i j->gI of i=gI of j:=by
   rintro i j ⟨x,y,hx,hy,rfl,rfl,hxy,hx2,hy2,hw⟩
   have hf:=bz hm hx
   have hxt:=cm hm hx
   have hyt:=cm hm hy
   exact h.cmp (ak g x) hf.1 (by omega) x (eP hx) y (by rw[hxy];exact eP hy) hx2 (by rw[hxy];exact hy2) ((iX hm hf.1 hf.2 hxt.1 hxt.2 hyt.1 hyt.2 hx2 (by rw[hxy];exact hy2)).2.2 hw)
 clear i0 i1 j0 j1
 induction he with
 |refl=>rfl
 |rel q=>exact one _ _ q
 |symm _ ih=>exact ih.symm
 |trans _ _ i1 i2=>exact i1.trans i2
end TL
/-
  TlDocC: the document's blocks and cut nodes are the program's.
  By an AI agent.
-/
set_option linter.all false
namespace TL
variable{g:bB}{of nu bo cu L M l:List Int}{a b v h i j x y n n' ct:Int}{k m:Nat}
inductive Fn (L:List Int):Nat->Int->Prop
  |zero:Fn L 0 0
  |old {k:Nat} {n:Int} (j:Nat):Fn L k n->j<k->gI L (j:Int)=gI L (k:Int)->Fn L (k+1) n
  |new {k:Nat} {n:Int}:Fn L k n->(∀j:Nat,j<k->gI L (j:Int)≠gI L (k:Int))->gI L (k:Int)=n->Fn L (k+1) (n+1)
theorem Fn.congr(h:Fn L k n):(∀i:Nat,i<k->gI L (i:Int)=gI M (i:Int))->Fn M k n:=by
 induction h with
 |zero=>intro _;exact .zero
 | @old k n j h1 h2 h3 ih=>
   intro hh
   exact .old j (ih λi q=>hh i (by omega)) h2 (by rw[<-hh j (by omega),<-hh k (by omega),h3])
 | @new k n h1 h2 h3 ih=>
   intro hh
   exact .new (ih λi q=>hh i (by omega)) (λj q=>by rw[<-hh j (by omega),<-hh k (by omega)];exact h2 j q) (by rw[<-hh k (by omega),h3])
theorem Fn.uniq(h:Fn L k n):∀n',Fn M k n'->(∀i j:Nat,i<k->j<k->(gI L (i:Int)=gI L (j:Int)↔gI M (i:Int)=gI M (j:Int)))->n=n'/\∀i:Nat,i<k->gI L (i:Int)=gI M (i:Int):=by
 induction h with
 |zero=>intro n' h' _;cases h';exact⟨rfl,λi q=>by omega⟩
 | @old k n j h1 h2 h3 ih=>
   intro n' h' hh
   cases h' with
   |old j' h1' h2' h3'=>
     obtain⟨e1,e2⟩:=ih _ h1' (λi j a b=>hh i j (by omega) (by omega))
     refine⟨e1,λi q=>?_⟩
     by_cases c:i=k
     · rw[c,<-h3,e2 j h2]
       exact(hh j k (by omega) (by omega)).1 h3
     · exact e2 i (by omega)
   |new h1' h2' h3'=>exact absurd ((hh j k (by omega) (by omega)).1 h3) (h2' j h2)
 | @new k n h1 h2 h3 ih=>
   intro n' h' hh
   cases h' with
   |old j' h1' h2' h3'=>exact absurd ((hh j' k (by omega) (by omega)).2 h3') (h2 j' h2')
   |new h1' h2' h3'=>
     obtain⟨e1,e2⟩:=ih _ h1' (λi j a b=>hh i j (by omega) (by omega))
     refine⟨by omega,λi q=>?_⟩
     by_cases c:i=k
     · rw[c,h3,h3',e1]
     · exact e2 i (by omega)
theorem Fn.top(h:Fn L k n):0<=n/\(0<n->∃i:Nat,i<k/\gI L (i:Int)=n-1):=by
 induction h with
 |zero=>exact⟨Int.le_refl _,λq=>by omega⟩
 |old j h1 h2 h3 ih=>
   refine⟨ih.1,λq=>?_⟩
   obtain⟨i,i1,i2⟩:=ih.2 q
   exact⟨i,by omega,i2⟩
 | @new k n h1 h2 h3 ih=>exact⟨by omega,λ_=>⟨k,by omega,by omega⟩⟩
theorem oH(l:List Int):∀(k:Nat) (x:Int),x∈(aG l k).1->∃j:Nat,j<k/\gI l (j:Int)=x
 |0,x,hx=>absurd hx List.not_mem_nil
 |k+1,x,hx=>by
   have hx2:x∈(if gI l (k:Int)∈(aG l k).1 then(aG l k).1 else(aG l k).1++[gI l (k:Int)]):=hx
   have:x∈(aG l k).1\/x=gI l (k:Int):=by
     split at hx2
     · exact .inl hx2
     · exact(List.mem_append.1 hx2).imp id List.mem_singleton.1
   rcases this with q|q
   · obtain⟨j,j1,j2⟩:=oH l k x q
     exact⟨j,by omega,j2⟩
   · exact⟨k,by omega,q.symm⟩
theorem qC(l:List Int):∀k:Nat,Fn (aG l k).2 k ((aG l k).1.length:Int)
 |0=>.zero
 |k+1=>by
   have hl:=(hZ l k).1
   have hlast:=(i8 l (k+1) k (by omega)).1
   have hpre:∀i:Nat,i<k->gI (aG l k).2 (i:Int)=gI (aG l (k+1)).2 (i:Int):=λi q=>by
     conv=>rhs;unfold aG
     exact(ko (by omega) (by omega)).symm
   have hc:=(qC l k).congr hpre
   by_cases c:gI l (k:Int)∈(aG l k).1
   · have e:(aG l (k+1)).1=(aG l k).1:=by conv=>lhs;unfold aG;simp only[if_pos c]
     obtain⟨j,j1,j2⟩:=oH l k _ c
     rw[e]
     refine .old j hc j1 ?_
     rw[hlast,e,<-hpre j j1,(i8 l k j j1).1,j2]
   · have e:(aG l (k+1)).1=(aG l k).1++[gI l (k:Int)]:=by conv=>lhs;unfold aG;simp only[if_neg c]
     have elast:gI (aG l (k+1)).2 (k:Int)=((aG l k).1.length:Int):=by
       rw[hlast,e,List.idxOf_append,if_neg c];simp
     have e3:(((aG l (k+1)).1.length:Nat):Int)=((aG l k).1.length:Int)+1:=by rw[e,List.length_append,List.length_singleton];omega
     rw[e3]
     refine .new hc (λj q=>?_) elast
     rw[elast,<-hpre j q]
     have:=lZ l k _ (bD (xs:=(aG l k).2) (i:=(j:Int)) (by omega) (by omega))
     omega
theorem nF(g:bB):Fn (eF g) g.2.length (dS g):=qC _ _
def gQ(of:List Int)(k:Nat):Int:=(((bK k).filter λj=>decide (gI of j=j)).length:Int)
theorem iB(h:gI of (k:Int)=(k:Int)):gQ of (k+1)=gQ of k+1:=by
 unfold gQ
 rw[cU,List.filter_append]
 simp[h]
theorem lO(h:¬gI of (k:Int)=(k:Int)):gQ of (k+1)=gQ of k:=by
 unfold gQ
 rw[cU,List.filter_append]
 simp[h]
theorem kU:∀d:Nat,gQ of k<=gQ of (k+d)
 |0=>Int.le_refl _
 |d+1=>by
   have:=kU d
   by_cases c:gI of ((k+d:Nat):Int)=((k+d:Nat):Int)
   · have:=iB c
     rw[show k+(d+1)=k+d+1 by omega];omega
   · have:=lO c
     rw[show k+(d+1)=k+d+1 by omega];omega
theorem lk{j:Nat}(h:gI of (j:Int)=(j:Int))(hj:j<k):gQ of j<gQ of k:=by
 have h1:=iB h
 have h2:=kU (of:=of) (k:=j+1) (k-(j+1))
 rw[show j+1+(k-(j+1))=k by omega] at h2
 omega
theorem sZ:0<=gQ of k/\gQ of k<=(k:Int):=by
 unfold gQ
 have:((bK k).filter λj=>decide (gI of j=j)).length<=(bK k).length:=List.length_filter_le ..
 have h2:(bK k).length=k:=by simp[bK]
 omega
structure nR(of nu:List Int)(ct:Int)(k:Nat):Prop where
 lo:(nu.length:Int)=of.length
 ct:ct=gQ of k
 nu:∀j:Nat,j<k->gI of (j:Int)=(j:Int)->gI nu (j:Int)=gQ of j
theorem nR.start{m:Int}(hl:(of.length:Int)=m):nR of (List.replicate (Int.toNat m) 0) 0 0:=⟨by simp;omega,rfl,λj q=>by omega⟩
theorem nR.cb(h:nR of nu ct k):0<=ct/\ct<=(k:Int):=by rw[h.ct];exact sZ
theorem nR.yes(h:nR of nu ct k)(hk:(k:Int)<of.length)(hc:gI of (k:Int)=(k:Int)):nR of (nu.set (Int.toNat (k:Int)) ct) (ct+1) (k+1):=by
 have hl:=h.lo
 refine⟨by rw[List.length_set];exact hl,by rw[iB hc,h.ct],λj q e=>?_⟩
 rw[bV (by omega) (by omega) (by omega)]
 by_cases c:j=k
 · subst c;rw[if_pos rfl];exact h.ct
 · rw[if_neg (by omega)];exact h.nu j (by omega) e
theorem nR.no(h:nR of nu ct k)(hc:¬gI of (k:Int)=(k:Int)):nR of nu ct (k+1):=by
 refine⟨h.lo,by rw[lO hc,h.ct],λj q e=>?_⟩
 by_cases c:j=k
 · subst c;exact absurd e hc
 · exact h.nu j (by omega) e
structure tD(of nu bo:List Int)(k:Nat):Prop where
  lo:(bo.length:Int)=of.length
  at_:∀j:Nat,j<k->gI bo (j:Int)=gI nu (gI of (j:Int))
theorem tD.start{m:Int}(hl:(of.length:Int)=m):tD of nu (List.replicate (Int.toNat m) 0) 0:=⟨by simp;omega,λj q=>by omega⟩
theorem tD.next(h:tD of nu bo k)(hk:(k:Int)<of.length):tD of nu (bo.set (Int.toNat (k:Int)) (gI nu (gI of (k:Int)))) (k+1):=by
 have hl:=h.lo
 refine⟨by rw[List.length_set];exact hl,λj q=>?_⟩
 rw[bV (by omega) (by omega) (by omega)]
 by_cases c:j=k
 · subst c;rw[if_pos rfl]
 · rw[if_neg (by omega)];exact h.at_ j (by omega)
theorem uy(hm:bf g){q:Nat}(hd:q5 g of q)(hq:(q:Int)=g.1){k1 k2:Nat}(hn:nR of nu ct k1)(h1:(k1:Int)=g.2.length)(hb:tD of nu bo k2)(h2:(k2:Int)=g.2.length):bo=eF g/\ct=dS g:=by
 have hlo:=hd.le.lo
 have e1:k1=g.2.length:=by omega
 have e2:k2=g.2.length:=by omega
 subst e1 e2
 have hob:∀i:Nat,i<g.2.length->0<=gI of (i:Int)/\gI of (i:Int)<=(i:Int):=λi q=>hd.le.ob i (by omega) (by omega)
 have hat:∀i:Nat,i<g.2.length->gI bo (i:Int)=gQ of (gI of (i:Int)).toNat:=λi q=>by
   obtain⟨a,b⟩:=hob i q
   rw[hb.at_ i q]
   have hid:=hd.le.id i (by omega) (by omega)
   have:=hn.nu (gI of (i:Int)).toNat (by omega) (by rw[show(((gI of (i:Int)).toNat:Nat):Int)=gI of (i:Int) by omega];exact hid)
   rwa[show(((gI of (i:Int)).toNat:Nat):Int)=gI of (i:Int) by omega] at this
 have hfn:∀k:Nat,k<=g.2.length->Fn bo k (gQ of k):=by
   intro k
   induction k with
   |zero=>intro _;exact .zero
   |succ k ih=>
     intro hk
     obtain⟨a,b⟩:=hob k (by omega)
     by_cases c:gI of (k:Int)=(k:Int)
     · rw[iB c]
       refine .new (ih (by omega)) (λj q=>?_) (by rw[hat k (by omega),c];rfl)
       obtain⟨a2,b2⟩:=hob j (by omega)
       have hid:=hd.le.id j (by omega) (by omega)
       have:=lk (of:=of) (j:=(gI of (j:Int)).toNat) (k:=k) (by rw[show(((gI of (j:Int)).toNat:Nat):Int)=gI of (j:Int) by omega];exact hid) (by omega)
       rw[hat j (by omega),hat k (by omega),c,Int.toNat_natCast]
       omega
     · rw[lO c]
       refine .old (gI of (k:Int)).toNat (ih (by omega)) (by omega) ?_
       have hid:=hd.le.id k (by omega) (by omega)
       have h3:=hat (gI of (k:Int)).toNat (by omega)
       rw[show(((gI of (k:Int)).toNat:Nat):Int)=gI of (k:Int) by omega] at h3 ⊢
       rw[h3,hat k (by omega),hid]
 have hall:∀i j:Nat,i<g.2.length->j<g.2.length->(gI bo (i:Int)=gI bo (j:Int)↔gI (eF g) (i:Int)=gI (eF g) (j:Int)):=λi j hi hj=>by
   rw[lj hm (by omega) (by omega) (by omega) (by omega),<-hd.all hm hq (by omega) (by omega) (by omega) (by omega),hat i hi,hat j hj]
   obtain⟨a,b⟩:=hob i hi
   obtain⟨a2,b2⟩:=hob j hj
   have hid:=hd.le.id i (by omega) (by omega)
   have hid2:=hd.le.id j (by omega) (by omega)
   constructor
   · intro e
     rcases Int.lt_trichotomy (gI of (i:Int)) (gI of (j:Int)) with q|q|q
     · have:=lk (of:=of) (j:=(gI of (i:Int)).toNat) (k:=(gI of (j:Int)).toNat) (by rw[show(((gI of (i:Int)).toNat:Nat):Int)=gI of (i:Int) by omega];exact hid) (by omega)
       omega
     · exact q
     · have:=lk (of:=of) (j:=(gI of (j:Int)).toNat) (k:=(gI of (i:Int)).toNat) (by rw[show(((gI of (j:Int)).toNat:Nat):Int)=gI of (j:Int) by omega];exact hid2) (by omega)
       omega
   · intro e;rw[e]
 obtain⟨u1,u2⟩:=(hfn g.2.length (Nat.le_refl _)).uniq _ (nF g) hall
 have hbl:=hb.lo
 have hol:=iU g
 exact⟨fp (by omega) (λi hi=>u2 i (by omega)),by rw[hn.ct];exact u1⟩
def vL(g:bB)(of:List Int)(v:Int)(k:Int):Prop:=∃x y,hf g x/\hf g y/\x<k/\y<k/\ak g x=v/\ak g y=v/\gI of (x/2)≠gI of (y/2)
theorem oC(hm:bf g)(ho:∀e,0<=e->e<(g.2.length:Int)->0<=gI of e)(v0:0<=v)(v1:v<g.1):∀k:Nat,(k:Int)<=2*(g.2.length:Int)->
   (eU of g k).1.length=g.1.toNat/\(eU of g k).2.length=g.1.toNat/\
   ((gI (eU of g k).1 v=0/\∀x,hf g x->x<k->ak g x≠v)\/∃x,hf g x/\x<k/\ak g x=v/\gI (eU of g k).1 v=gI of (x/2)+1)/\(gI (eU of g k).2 v=true↔vL g of v k)
 |0,_=>by
   have r0:gI (eU of g 0).1 v=0:=fA v0 (by omega)
   have r1:gI (eU of g 0).2 v=false:=fA v0 (by omega)
   refine⟨by simp[eU,bK],by simp[eU,bK],.inl ⟨r0,λx hx q=>by have:=hx.1;omega⟩,?_⟩
   rw[r1]
   exact⟨λq=>absurd q (by decide),λ⟨x,_,hx,_,q,_⟩=>(by have:=hx.1;omega)⟩
 |k+1,hk=>by
   obtain⟨l1,l2,h1,h2⟩:=oC hm ho v0 v1 k (by omega)
   have e:eU of g (k+1)=rm of g (eU of g k) (k:Int):=by
     unfold eU
     rw[cU,List.foldl_append];rfl
   have hkf:hf g (k:Int):=⟨by clear h1;omega,by clear h1;omega⟩
   have hup:∀z:Int,z<(k:Int)->z<((k+1:Nat):Int):=λz q=>by clear h1;omega
   have hkk:(k:Int)<((k+1:Nat):Int):=by clear h1;omega
   obtain⟨f0,f1⟩:=bz hm hkf
   have hok:=ho _ (fE hkf) (ea hkf)
   have s1:gI (eU of g (k+1)).1 v=if v=ak g (k:Int) then gI of ((k:Int)/2)+1 else gI (eU of g k).1 v:=by
     rw[e];exact bV f0 (by clear h1;omega) v0
   have s2:gI (eU of g (k+1)).2 v=if v=ak g (k:Int) then(gI (eU of g k).2 (ak g (k:Int))||(decide (0<gI (eU of g k).1 (ak g (k:Int)))&& !decide (gI (eU of g k).1 (ak g (k:Int))=gI of ((k:Int)/2)+1))) else gI (eU of g k).2 v:=by
     rw[e];exact bV f0 (by clear h1;omega) v0
   refine⟨by rw[e];unfold rm;rw[List.length_set];exact l1,by rw[e];unfold rm;rw[List.length_set];exact l2,?_,?_⟩
   · rw[s1]
     by_cases c:v=ak g (k:Int)
     · rw[if_pos c]
       exact .inr ⟨_,hkf,hkk,c.symm,rfl⟩
     · rw[if_neg c]
       rcases h1 with⟨p,q⟩|⟨x,x1,x2,x3,x4⟩
       · refine .inl ⟨p,λx hx hlt hv=>?_⟩
         by_cases d:x=(k:Int)
         · rw[d] at hv;exact c hv.symm
         · exact q x hx (by omega) hv
       · exact .inr ⟨x,x1,hup x x2,x3,x4⟩
   · rw[s2]
     by_cases c:v=ak g (k:Int)
     · rw[if_pos c,<-c]
       rw[Bool.or_eq_true,Bool.and_eq_true,decide_eq_true_iff,Bool.not_eq_true',decide_eq_false_iff_not]
       constructor
       · rintro(q|⟨q1,q2⟩)
         · obtain⟨x,y,a1,a2,a3,a4,a5⟩:=h2.1 q
           exact⟨x,y,a1,a2,hup x a3,hup y a4,a5⟩
         · rcases h1 with⟨p,_⟩|⟨x,x1,x2,x3,x4⟩
           · omega
           · exact⟨x,(k:Int),x1,hkf,hup x x2,hkk,x3,c.symm,λj=>q2 (by rw[x4,j])⟩
       · rintro⟨x,y,a1,a2,a3,a4,a5,a6,a7⟩
         by_cases d:gI (eU of g k).2 v=true
         · exact .inl d
         · right
           have same:∀x y,hf g x->hf g y->x<(k:Int)->y<(k:Int)->ak g x=v->ak g y=v->gI of (x/2)=gI of (y/2):=λx y p1 p2 p3 p4 p5 p6=>Classical.byContradiction λj=>d (h2.2 ⟨x,y,p1,p2,p3,p4,p5,p6,j⟩)
           have hz:∃z,hf g z/\z<(k:Int)/\ak g z=v/\gI of (z/2)≠gI of ((k:Int)/2):=by
             by_cases dx:x=(k:Int)
             · by_cases dy:y=(k:Int)
               · rw[dx,dy] at a7;exact absurd rfl a7
               · exact⟨y,a2,(by clear h1;omega),a6,by rw[dx] at a7;exact a7.symm⟩
             · by_cases dy:y=(k:Int)
               · exact⟨x,a1,(by clear h1;omega),a5,by rw[dy] at a7;exact a7⟩
               · exact absurd (same x y a1 a2 (by clear h1;omega) (by clear h1;omega) a5 a6) a7
           obtain⟨z,z1,z2,z3,z4⟩:=hz
           rcases h1 with⟨p,q⟩|⟨w,w1,w2,w3,w4⟩
           · exact absurd z3 (q z z1 z2)
           · have:=same w z w1 z1 w2 z2 w3 z3
             have h5:=ho _ (fE w1) (ea w1)
             exact⟨by omega,λj=>z4 (by omega)⟩
     · rw[if_neg c,h2]
       constructor
       · rintro⟨x,y,a1,a2,a3,a4,a5⟩
         exact⟨x,y,a1,a2,hup x a3,hup y a4,a5⟩
       · rintro⟨x,y,a1,a2,a3,a4,a5,a6,a7⟩
         refine⟨x,y,a1,a2,?_,?_,a5,a6,a7⟩
         · have:x≠(k:Int):=λj=>by rw[j] at a5;exact c a5.symm
           clear h1;omega
         · have:y≠(k:Int):=λj=>by rw[j] at a6;exact c a6.symm
           clear h1;omega
def gM(g:bB):List Bool:=(eU (eF g) g (2*g.2.length)).2
theorem jm(hm:bf g)(v0:0<=v)(v1:v<g.1):gI (gM g) v=true↔∃x∈bA g v,∃y∈bA g v,gI (eF g) (x/2)≠gI (eF g) (y/2):=by
 rw[show gI (gM g) v=gI (eU (eF g) g (2*g.2.length)).2 v from rfl,(oC hm (λe a b=>(fa g a b).1) v0 v1 (2*g.2.length) (by omega)).2.2.2]
 constructor
 · rintro⟨x,y,a1,a2,_,_,a5,a6,a7⟩
   refine⟨x,?_,y,?_,a7⟩
   · rw[<-a5];exact eP a1
   · rw[<-a6];exact eP a2
 · rintro⟨x,x1,y,y1,q⟩
   obtain⟨a1,a2⟩:=ck x1
   obtain⟨b1,b2⟩:=ck y1
   exact⟨x,y,a1,b1,by have:=a1.2;omega,by have:=b1.2;omega,a2,b2,q⟩
theorem tJ(hm:bf g)(v0:0<=v)(v1:v<g.1)(hi:0<=i)(hj:i<((bA g v).length:Int))(h:¬gI (eF g) (gI (bA g v) i/2)=gI (eF g) (gI (bA g v) 0/2)):gI (gM g) v=true:=
 (jm hm v0 v1).2 ⟨_,bD hi hj,_,bD (by omega) (by omega),h⟩
theorem qL(hm:bf g)(v0:0<=v)(v1:v<g.1)(h:∀j:Int,1<=j->j<((bA g v).length:Int)->gI (eF g) (gI (bA g v) j/2)=gI (eF g) (gI (bA g v) 0/2)):¬gI (gM g) v=true:=λq=>by
 obtain⟨x,x1,y,y1,hne⟩:=(jm hm v0 v1).1 q
 have key:∀x,x∈bA g v->gI (eF g) (x/2)=gI (eF g) (gI (bA g v) 0/2):=λx hx=>by
   obtain⟨i,hi,rfl⟩:=List.mem_iff_getElem.1 hx
   have e:gI (bA g v) (i:Int)=(bA g v)[i]:=by simp[gI,hi]
   rw[<-e]
   by_cases c:i=0
   · subst c;rfl
   · exact h i (by omega) (by omega)
 exact hne (by rw[key x x1,key y y1])
theorem tH(hc:cu=(bK k).filter λv=>gI (gM g) v)(hk:(k:Int)=g.1):cu=gV g:=by
 have:k=g.1.toNat:=by omega
 rw[hc,this];rfl
structure rQ(m:Int)(of:List Int)(k:Nat):Prop where
  lo:(of.length:Int)=m
  at_:∀j:Nat,j<k->gI of (j:Int)=(j:Int)
theorem rQ.start{m:Int}(h0:0<=m):rQ m (List.replicate (Int.toNat m) 0) 0:=⟨by simp;omega,λj q=>by omega⟩
theorem rQ.next{m:Int}(h:rQ m of k)(hk:(k:Int)<m):rQ m (of.set (Int.toNat (k:Int)) (k:Int)) (k+1):=by
 have hl:=h.lo
 refine⟨by rw[List.length_set];exact hl,λj q=>?_⟩
 rw[bV (by omega) (by omega) (by omega)]
 by_cases c:j=k
 · subst c;rw[if_pos rfl]
 · rw[if_neg (by omega)];exact h.at_ j (by omega)
theorem rQ.done(h:rQ (g.2.length:Int) of k)(hk:¬(k:Int)<(g.2.length:Int)):q5 g of 0:=by
 have hl:=h.lo
 have:of=bK g.2.length:=by
   apply fp
   · simp[bK];omega
   · intro i hi
     rw[h.at_ i (by omega),oL (by omega) (by omega)]
 rw[this];exact q5.start
def fW(g:bB)(bo:List Int)(v j:Int):Prop:=1<=j/\∀i:Int,1<=i->i<j->gI bo (gI (bA g v) i/2)=gI bo (gI (bA g v) 0/2)
theorem fW.start:fW g bo v 1:=⟨Int.le_refl _,λi a b=>by omega⟩
theorem fW.next(h:fW g bo v j)(he:gI bo (gI (bA g v) j/2)=gI bo (gI (bA g v) 0/2)):fW g bo v (j+1):=by
 have:=h.1
 refine⟨by omega,λi a b=>?_⟩
 by_cases c:i=j
 · rw[c];exact he
 · exact h.2 i a (by omega)
theorem fW.yes(hm:bf g)(hb:bo=eF g)(hc:cu=(bK k).filter λv=>gI (gM g) v)(hk:(k:Int)<g.1)(h:fW g bo (k:Int) j)(hj:j<((bA g (k:Int)).length:Int))(he:¬gI bo (gI (bA g (k:Int)) j/2)=gI bo (gI (bA g (k:Int)) 0/2)):cu++[(k:Int)]=(bK (k+1)).filter λv=>gI (gM g) v:=by
 rw[hb] at he
 exact m7 hc (tJ hm (by omega) hk (by have:=h.1;omega) hj he)
theorem fW.no(hm:bf g)(hb:bo=eF g)(hc:cu=(bK k).filter λv=>gI (gM g) v)(hk:(k:Int)<g.1)(h:fW g bo (k:Int) j)(hj:¬j<((bA g (k:Int)).length:Int)):cu=(bK (k+1)).filter λv=>gI (gM g) v:=by
 refine oX hc (qL hm (by omega) hk λi a b=>?_)
 have:=h.2 i a (by omega)
 rwa[hb] at this
end TL
/-
  TlEar3: ears are made, and fit.
  By an AI agent.
-/
set_option linter.all false
namespace TL
variable{g:bB}{pl by_:List Int}{a b c x y z w v h k e f r:Int}{u u0 u2:List Bool}{ws l:List Int}{E A:List (List Int)}{dn rest:List (Int×Int)}
def pW(g:bB)(E:List (List Int))(x:Int):Prop:=∃l∈E,∃k∈l,ak g k=x\/aL g k=x
def pV(E:List (List Int))(e:Int):Prop:=∃l∈E,∃k∈l,k/2=e
theorem pW.app:pW g (E++[l]) x↔pW g E x\/∃k∈l,ak g k=x\/aL g k=x:=by
 unfold pW
 constructor
 · rintro⟨m,h1,h2⟩
   rcases List.mem_append.1 h1 with q|q
   · exact .inl ⟨m,q,h2⟩
   · rw[List.mem_singleton.1 q] at h2;exact .inr h2
 · rintro(⟨m,h1,h2⟩|h2)
   · exact⟨m,List.mem_append_left _ h1,h2⟩
   · exact⟨l,by simp,h2⟩
theorem pV.app:pV (E++[l]) e↔pV E e\/∃k∈l,k/2=e:=by
 unfold pV
 constructor
 · rintro⟨m,h1,h2⟩
   rcases List.mem_append.1 h1 with q|q
   · exact .inl ⟨m,q,h2⟩
   · rw[List.mem_singleton.1 q] at h2;exact .inr h2
 · rintro(⟨m,h1,h2⟩|h2)
   · exact⟨m,List.mem_append_left _ h1,h2⟩
   · exact⟨l,by simp,h2⟩
structure vI(g:bB)(A:List (List Int))(l:List Int):Prop where
  ne:l≠[]
  ch:∃a b,u7 g a l b/\(A=[]->a=b)/\(A≠[]->a≠b/\pW g A a/\pW g A b)
  one:l.Pairwise λk k'=>k/2≠k'/2/\ak g k≠ak g k'
  new:∀k∈l,¬pV A (k/2)
  inn:A≠[]->∀k∈l.tail,¬pW g A (ak g k)
structure kq(g:bB)(pl by_:List Int)(r:Int)(dn:List (Int×Int))(u:List Bool)(E:List (List Int)):Prop where
 len:(u.length:Int)=g.1
 up:∀x,0<=x->x<g.1->gI u x=true->0<=gI by_ x->gI u (ak g (gI by_ x))=true
 mem:∀p∈dn,nH g pl by_ p.2->gI u (aL g p.2)=true
 beg:E≠[]↔∃p∈dn,nH g pl by_ p.2
 nds:∀x,0<=x->x<g.1->(pW g E x↔gI u x=true)
 eds:∀e,pV E e↔(∃p∈dn,nH g pl by_ p.2/\p.2/2=e)\/∃w,(0<=w/\w<g.1)/\gI u w=true/\0<=gI by_ w/\gI by_ w/2=e
 goo:∀A l B,E=A++l::B->vI g A l
theorem kq.anc(ht:fv g pl by_ r)(hi:kq g pl by_ r dn u E)(h:AncB g by_ a x)(x0:0<=x)(x1:x<g.1)(hx:gI u x=true):gI u a=true:=by
 induction h with
 |refl=>exact hx
 |step p q ih=>
   obtain⟨_,_,⟨p3,p4⟩,_⟩:=ht.par x0 x1 q
   exact ih p3 p4 (hi.up _ x0 x1 hx q)
theorem kq.nil(hi:kq g pl by_ r dn u [])(x0:0<=x)(x1:x<g.1):¬gI u x=true:=λq=>by
 obtain⟨l,h1,_⟩:=(hi.nds x x0 x1).2 q
 cases h1
theorem kq.child(ht:fv g pl by_ r)(hi:kq g pl by_ r dn u E)(hE:E≠[])(c0:0<=c)(c1:c<g.1)(hc:0<=gI by_ c)(hr:ak g (gI by_ c)=r):gI u c=true:=by
  obtain⟨p,p1,p2⟩:=hi.beg.1 hE
  have hu:=hi.mem p p1 p2
  obtain⟨n1,n2,n3⟩:=p2
  obtain⟨g0,g1⟩:=cm ht.hm n1
  obtain⟨f0,f1⟩:=bz ht.hm n1
  have hne:r≠aL g p.2:=λq=>by
    have:=(ht.rng (ht.one _ f0 f1) f0 f1).2
    exact ht.nol _ n1 (ht.inj _ _ f0 f1 g0 g1 (by rw[<-q] at n3 ⊢;omega))
  obtain⟨d,d1,d2,d3⟩:=(ht.one _ g0 g1).child hne
  obtain⟨⟨d4,d5⟩,_⟩:=ht.rng d3 g0 g1
  have:=ht.ch d c d4 d5 c0 c1 d1 hc d2 hr
  rw[<-this]
  exact hi.anc ht d3 g0 g1 hu
theorem kq.used(ht:fv g pl by_ r)(hi:kq g pl by_ r dn u E)(hE:E≠[])(hd:∀h,hf g h->gI pl (ak g h)<gI pl v->(ak g h,h)∈dn)(c0:0<=c)(c1:c<g.1)(hc:0<=gI by_ c)(hv:ak g (gI by_ c)=v):gI u c=true:=by
  by_cases q:v=r
  · exact hi.child ht hE c0 c1 hc (by rw[hv,q])
  · obtain⟨_,_,⟨v0,v1⟩,_⟩:=ht.par c0 c1 hc
    rw[hv] at v0 v1
    obtain⟨h,h1,h2,_,_,h5⟩:=ht.upP c0 c1 hc hv (ht.notr v0 v1 q)
    obtain⟨g0,g1⟩:=cm ht.hm h1.1
    exact hi.anc ht h5 g0 g1 (hi.mem _ (hd h h1.1 h2) h1)
theorem kq.start(ht:fv g pl by_ r):kq g pl by_ r [] (List.replicate g.1.toNat false) []:=by
 have hn:=ht.n2
 have hf:∀x,0<=x->x<g.1->gI (List.replicate g.1.toNat false) x=false:=λx a b=>fA a (by omega)
 refine⟨by simp;omega,λx a b q=>(by rw[hf x a b] at q;cases q),λp q=>(by cases q),⟨λq=>absurd rfl q,λ⟨p,q,_⟩=>by cases q⟩,λx a b=>⟨λ⟨l,q,_⟩=>(by cases q),λq=>(by rw[hf x a b] at q;cases q)⟩,λe=>⟨λ⟨l,q,_⟩=>(by cases q),λq=>?_⟩,λA l B q=>(by cases A<;>cases q)⟩
 rcases q with⟨p,q,_⟩|⟨w,⟨a,b⟩,q,_⟩
 · cases q
 · rw[hf w a b] at q;cases q
theorem kq.skip(ht:fv g pl by_ r)(hi:kq g pl by_ r dn u E)(hn:¬nH g pl by_ h):kq g pl by_ r (dn++[(v,h)]) u E:=by
 have key:∀p∈dn++[(v,h)],nH g pl by_ p.2->p∈dn:=λp hp q=>by
   rcases List.mem_append.1 hp with j|j
   · exact j
   · rw[List.mem_singleton.1 j] at q;exact absurd q hn
 refine⟨hi.len,hi.up,λp hp q=>hi.mem p (key p hp q) q,hi.beg.trans ⟨λ⟨p,p1,p2⟩=>⟨p,List.mem_append_left _ p1,p2⟩,λ⟨p,p1,p2⟩=>⟨p,key p p1 p2,p2⟩⟩,hi.nds,λe=>(hi.eds e).trans ⟨λq=>q.imp (λ⟨p,p1,p2⟩=>⟨p,List.mem_append_left _ p1,p2⟩) id,λq=>q.imp (λ⟨p,p1,p2⟩=>⟨p,key p p1 p2.1,p2⟩) id⟩,hi.goo⟩
theorem kq.ear(ht:fv g pl by_ r)(hi:kq g pl by_ r dn u E)(hn:nH g pl by_ h)(hd:∀h',hf g h'->gI pl (ak g h')<gI pl (ak g h)->(ak g h',h')∈dn)(hw:∀p∈dn,p.2≠h)(hcl:Clm g by_ (u.set (ak g h).toNat true) (aL g h) ws b)(hl:(u2.length:Int)=g.1)(hu:∀x,0<=x->x<g.1->(gI u2 x=true↔gI (u.set (ak g h).toNat true) x=true\/x∈ws)):kq g pl by_ r (dn++[(ak g h,h)]) u2 (E++[h::ws.map λx=>dB (gI by_ x)]):=by
  obtain⟨v0,v1⟩:=bz ht.hm hn.1
  obtain⟨w0,w1⟩:=cm ht.hm hn.1
  have hlen:=hi.len
  have hset:∀x,0<=x->gI (u.set (ak g h).toNat true) x=if x=ak g h then true else gI u x:=λx q=>cr v0 (by omega) q
  have hin:=Clm.inn ht hcl w0 w1
  have hb:=hcl.end_
  have hab:=hcl.anc
  obtain⟨⟨b0,b1⟩,_⟩:=ht.rng hab w0 w1
  obtain⟨c,⟨c0,c1⟩,hc,hcv,hcw⟩:=ht.nsA hn
  -- the first ear begins at the root, and ends there; a further one ends elsewhere
  have hfst:E=[]->ak g h=r/\b=ak g h:=λhE=>by
    subst hE
    have h1:ak g h=r:=by
      refine Classical.byContradiction λq=>?_
      obtain⟨k,k1,k2⟩:=ht.rootP
      have hlt:gI pl (ak g k)<gI pl (ak g h):=by
        rw[k2]
        exact ht.lt (ht.one _ v0 v1) v0 v1 (λj=>q j.symm)
      exact hi.beg.2 ⟨_,hd k k1.1 hlt,k1⟩ rfl
    refine⟨h1,?_⟩
    rw[hset b b0] at hb
    by_cases q:b=ak g h
    · exact q
    · rw[if_neg q] at hb;exact absurd hb (hi.nil b0 b1)
  have hnxt:E≠[]->gI u (ak g h)=true/\gI u b=true/\b≠ak g h:=λhE=>by
    have hcu:=hi.used ht hE hd c0 c1 hc hcv
    have hvu:=hi.up c c0 c1 hcu hc
    rw[hcv] at hvu
    have hcn:c∉ws:=λq=>by
      have:=(hin c q).2.1
      rw[hset c c0] at this
      split at this
      · exact this rfl
      · exact this hcu
    have hcb:=hcl.over hcw hcn
    have h1:=(ht.rng hcb b0 b1).2
    have h2:=(ht.par c0 c1 hc).2.2.2
    rw[hcv] at h2
    have hne:b≠ak g h:=λq=>by rw[q] at h1;omega
    rw[hset b b0,if_neg hne] at hb
    exact⟨hvu,hb,hne⟩
  have hwu:∀x∈ws,x≠ak g h/\¬gI u x=true:=λx hx=>by
    obtain⟨⟨x0,_⟩,q,_⟩:=hin x hx
    rw[hset x x0] at q
    split at q
    · exact absurd rfl q
    · exact⟨by assumption,q⟩
  have hend:gI u2 b=true:=(hu b b0 b1).2 (.inl hb)
  have hold:∀x,0<=x->x<g.1->gI u x=true->gI u2 x=true:=λx a b q=>(hu x a b).2 (.inl (by rw[hset x a];split<;>first|rfl|exact q))
  have hv2:gI u2 (ak g h)=true:=(hu _ v0 v1).2 (.inl (by rw[hset _ v0,if_pos rfl]))
  have hto2:gI u2 (aL g h)=true:=by
    rcases hcl.head with q|q
    · exact(hu _ w0 w1).2 (.inr q)
    · rw[q];exact hend
  have htw:∀x∈ws,hf g (dB (gI by_ x))/\dB (gI by_ x)/2=gI by_ x/2/\ak g (dB (gI by_ x))=x/\aL g (dB (gI by_ x))=ak g (gI by_ x):=λx hx=>by
    obtain⟨⟨x0,x1⟩,_,q,_⟩:=hin x hx
    obtain⟨p1,p2,_,_⟩:=ht.par x0 x1 q
    obtain⟨t1,t2,t3,t4⟩:=cz (g:=g) p1
    exact⟨t1,t2,by rw[t3,p2],t4⟩
  refine⟨hl,λx x0 x1 hx hbx=>?_,λp hp q=>?_,⟨λ_=>⟨(ak g h,h),by simp,hn⟩,λ_=>by simp⟩,λx x0 x1=>?_,λe=>?_,λA l B hE=>?_⟩
  · rcases(hu x x0 x1).1 hx with q|q
    · obtain⟨_,_,⟨p0,p1⟩,_⟩:=ht.par x0 x1 hbx
      refine hold _ p0 p1 ?_
      rw[hset x x0] at q
      by_cases j:x=ak g h
      · by_cases hE:E=[]
        · have:=(hfst hE).1
          have hrb:=ht.rb
          rw[j,this] at hbx;omega
        · rw[j] at hbx ⊢
          exact hi.up _ v0 v1 (hnxt hE).1 hbx
      · rw[if_neg j] at q
        exact hi.up x x0 x1 q hbx
    · obtain⟨_,_,_,_,j⟩:=hin x q
      obtain⟨_,_,⟨p0,p1⟩,_⟩:=ht.par x0 x1 hbx
      rcases j with j|j
      · exact(hu _ p0 p1).2 (.inr j)
      · rw[j];exact hend
  · rcases List.mem_append.1 hp with j|j
    · have:=q.1
      exact hold _ (cm ht.hm this).1 (cm ht.hm this).2 (hi.mem p j q)
    · rw[List.mem_singleton.1 j];exact hto2
  · rw[pW.app,hi.nds x x0 x1,hu x x0 x1,hset x x0]
    constructor
    · rintro(q|⟨k,k1,k2⟩)
      · exact .inl (by split<;>first|rfl|exact q)
      · rcases List.mem_cons.1 k1 with j|j
        · rw[j] at k2
          rcases k2 with k2|k2
          · exact .inl (by rw[if_pos k2.symm])
          · rcases hcl.head with i|i
            · exact .inr (by rw[<-k2];exact i)
            · have:=hb
              rw[hset b b0,<-i,k2] at this
              exact .inl this
        · obtain⟨y,y1,rfl⟩:=List.mem_map.1 j
          obtain⟨_,_,t3,t4⟩:=htw y y1
          rcases k2 with k2|k2
          · exact .inr (by rw[<-k2,t3];exact y1)
          · rw[t4] at k2
            rcases(hin y y1).2.2.2.2 with i|i
            · exact .inr (by rw[<-k2];exact i)
            · have:=hb
              rw[hset b b0,<-i,k2] at this
              exact .inl this
    · rintro(q|q)
      · by_cases j:x=ak g h
        · exact .inr ⟨h,List.mem_cons_self ..,.inl j.symm⟩
        · rw[if_neg j] at q;exact .inl q
      · exact .inr ⟨_,List.mem_cons_of_mem _ (List.mem_map.2 ⟨x,q,rfl⟩),.inl (htw x q).2.2.1⟩
  · rw[pV.app,hi.eds e]
    constructor
    · rintro((⟨p,p1,p2⟩|⟨w,w2,w3,w4⟩)|⟨k,k1,k2⟩)
      · exact .inl ⟨p,List.mem_append_left _ p1,p2⟩
      · exact .inr ⟨w,w2,hold w w2.1 w2.2 w3,w4⟩
      · rcases List.mem_cons.1 k1 with j|j
        · exact .inl ⟨(ak g h,h),by simp,hn,by rw[<-k2,j]⟩
        · obtain⟨y,y1,rfl⟩:=List.mem_map.1 j
          obtain⟨_,t2,_,_⟩:=htw y y1
          obtain⟨y2,_,y3,_⟩:=hin y y1
          exact .inr ⟨y,y2,(hu y y2.1 y2.2).2 (.inr y1),y3,by rw[<-k2,t2]⟩
    · rintro(⟨p,p1,p2,p3⟩|⟨w,w2,w3,w4,w5⟩)
      · rcases List.mem_append.1 p1 with j|j
        · exact .inl (.inl ⟨p,j,p2,p3⟩)
        · exact .inr ⟨h,List.mem_cons_self ..,by rw[<-p3,List.mem_singleton.1 j]⟩
      · rcases(hu w w2.1 w2.2).1 w3 with q|q
        · rw[hset w w2.1] at q
          by_cases j:w=ak g h
          · by_cases hE:E=[]
            · have:=(hfst hE).1
              have hrb:=ht.rb
              rw[j,this] at w4;omega
            · rw[j] at w4 w5
              exact .inl (.inr ⟨_,⟨v0,v1⟩,(hnxt hE).1,w4,w5⟩)
          · rw[if_neg j] at q
            exact .inl (.inr ⟨w,w2,q,w4,w5⟩)
        · exact .inr ⟨_,List.mem_cons_of_mem _ (List.mem_map.2 ⟨w,q,rfl⟩),by rw[(htw w q).2.1,w5]⟩
  · rcases List.eq_nil_or_concat B with hB|⟨B',m,hB⟩
    · subst hB
      obtain⟨rfl,hl'⟩:=List.append_inj' hE rfl
      obtain rfl:h::(ws.map λx=>dB (gI by_ x))=l:=by simpa using hl'
      have hdesc:=Clm.desc ht hcl w0 w1
      refine⟨by simp,⟨ak g h,b,⟨hn.1,rfl,Clm.chain ht hcl w0 w1⟩,λq=>(hfst q).2.symm,λq=>?_⟩,?_,λk hk=>?_,λq k hk=>?_⟩
      · obtain⟨q1,q2,q3⟩:=hnxt q
        exact⟨λj=>q3 j.symm,(hi.nds _ v0 v1).2 q1,(hi.nds _ b0 b1).2 q2⟩
      · refine List.pairwise_cons.2 ⟨λk hk=>?_,?_⟩
        · obtain⟨y,y1,rfl⟩:=List.mem_map.1 hk
          obtain⟨_,t2,t3,_⟩:=htw y y1
          obtain⟨⟨y2,y3⟩,_,y4,_⟩:=hin y y1
          rw[t2,t3]
          exact⟨ht.nsBy hn y2 y3 y4,λq=>(hwu y y1).1 q.symm⟩
        · rw[List.pairwise_map]
          refine List.Pairwise.imp_of_mem ?_ hdesc
          intro y z hy hz hlt
          obtain⟨_,t2,t3,_⟩:=htw y hy
          obtain⟨_,s2,s3,_⟩:=htw z hz
          obtain⟨⟨y2,y3⟩,_,y4,_⟩:=hin y hy
          obtain⟨⟨z2,z3⟩,_,z4,_⟩:=hin z hz
          rw[t2,t3,s2,s3]
          have hne:y≠z:=λq=>by rw[q] at hlt;omega
          exact⟨λq=>hne (ht.byI y2 y3 y4 z2 z3 z4 q),hne⟩
      · intro q
        rcases(hi.eds _).1 q with⟨p,p1,p2,p3⟩|⟨w,w2,w3,w4,w5⟩
        · rcases List.mem_cons.1 hk with j|j
          · rw[j] at p3
            exact hw p p1 (ht.nsI p2 hn p3)
          · obtain⟨y,y1,rfl⟩:=List.mem_map.1 j
            obtain⟨_,t2,_,_⟩:=htw y y1
            obtain⟨⟨y2,y3⟩,_,y4,_⟩:=hin y y1
            exact ht.nsBy p2 y2 y3 y4 (by rw[p3,t2])
        · rcases List.mem_cons.1 hk with j|j
          · rw[j] at w5
            exact ht.nsBy hn w2.1 w2.2 w4 w5.symm
          · obtain⟨y,y1,rfl⟩:=List.mem_map.1 j
            obtain⟨_,t2,_,_⟩:=htw y y1
            obtain⟨⟨y2,y3⟩,_,y4,_⟩:=hin y y1
            have:=ht.byI w2.1 w2.2 w4 y2 y3 y4 (by rw[w5,t2])
            rw[this] at w3
            exact(hwu y y1).2 w3
      · obtain⟨y,y1,rfl⟩:=List.mem_map.1 hk
        obtain⟨_,_,t3,_⟩:=htw y y1
        obtain⟨⟨y2,y3⟩,_⟩:=hin y y1
        rw[t3,hi.nds y y2 y3]
        exact(hwu y y1).2
    · subst hB
      rw[List.concat_eq_append] at hE
      have e:E=A++l::B':=by
        have:E++[h::ws.map λx=>dB (gI by_ x)]=(A++l::B')++[m]:=by rw[hE];simp
        exact(List.append_inj' this rfl).1
      exact hi.goo A l B' e
end TL
