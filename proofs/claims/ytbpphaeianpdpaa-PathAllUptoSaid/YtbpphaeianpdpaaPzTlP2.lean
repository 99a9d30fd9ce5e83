/- Plain texts of this claim, part 2. By an AI agent. -/
import Derived.Test.YtbpphaeianpdpaaPzTlP1
import Derived.Carry
import Derived.Deep.Slices
import Derived.Lib.SmallJoins
import Derived.RowKit
import Derived.Shelf.SlSortCmp.Whole1
import Derived.Shelf.Sort.Plain
/-
  TlWayH: From with a heap: what holds while it runs.
  By an AI agent.
-/
set_option linter.all false
namespace TL
theorem dH{xs:List Pl}{i:Int}(h:0<=i):cD xs i.toNat=gI xs i:=by unfold cD;rw[Int.toNat_of_nonneg h]
theorem kn{xs:List Pl}{i j:Int}(hi:0<=i)(hj:0<=j):(xs.set i.toNat (gI xs j)).set j.toNat (gI xs i)=k9 xs i.toNat j.toNat:=by
 unfold k9;rw[dH hi,dH hj]
-- down
structure k7(q xd:List Pl)(i:Int):Prop where
 len:xd.length=q.length
 perm:xd.Perm q
 i0:0<=i
 i1:i<q.length
 fin:∃f,q.length<=f+i.toNat+1/\dn f xd i.toNat (q.length-1)=cZ q
theorem k7.start{q:List Pl}(h:0<(q.length:Int)):k7 q ((q.set (Int.toNat 0) (gI q ((q.length:Int)-1))).set (Int.toNat ((q.length:Int)-1)) (gI q 0)) 0:=by
 rw[kn (by omega) (by omega)]
 have e:Int.toNat ((q.length:Int)-1)=q.length-1:=by omega
 rw[e]
 exact⟨cC _ _ _,dS (by simp;omega) (by omega),by omega,h,q.length-1,by simp;omega,rfl⟩
theorem k7.end1{q xd:List Pl}{i:Int}(h:k7 q xd i)(hc:((q.length:Int)-1)<=((2*i)+1)):xd=cZ q:=by
 obtain⟨f,h1,h2⟩:=h.fin
 have i0:=h.i0
 rw[<-h2]
 cases f with
 |zero=>rfl
 |succ f=>unfold dn;rw[if_pos (by omega)]
theorem k7.end2{q xd:List Pl}{i c:Int}(h:k7 q xd i)(hn:¬((q.length:Int)-1)<=((2*i)+1))(hc:(im xd i.toNat (q.length-1):Int)=c)(hl:¬(decide (cz (gI xd c) (gI xd i)))=true):xd=cZ q:=by
 obtain⟨f,h1,h2⟩:=h.fin
 have i0:=h.i0
 rw[<-h2]
 cases f with
 |zero=>rfl
 |succ f=>
   unfold dn;rw[if_neg (by omega),if_neg]
   intro k
   apply hl
   rw[dH i0] at k
   rw[<-hc]
   exact decide_eq_true k
theorem k7.next{q xd:List Pl}{i c:Int}(h:k7 q xd i)(hn:¬((q.length:Int)-1)<=((2*i)+1))(hc:(im xd i.toNat (q.length-1):Int)=c)(hl:(decide (cz (gI xd c) (gI xd i)))=true):k7 q ((xd.set i.toNat (gI xd c)).set c.toNat (gI xd i)) c:=by
 obtain⟨f,h1,h2⟩:=h.fin
 have i0:=h.i0
 have hlen:=h.len
 have c0:0<=c:=by omega
 obtain⟨k1,k2,k3,k4⟩:=j6 (xs:=xd) (i:=i.toNat) (n:=q.length-1) (by omega)
 rw[kn i0 c0]
 have e:im xd i.toNat (q.length-1)=c.toNat:=by omega
 refine⟨by rw[cC,hlen],(dS (by omega) (by omega)).trans h.perm,c0,by omega,?_⟩
 cases f with
 |zero=>omega
 |succ f=>
   refine⟨f,by omega,?_⟩
   rw[<-h2]
   conv=>rhs;unfold dn
   rw[if_neg (by omega),if_pos,e]
   rw[dH i0,e,dH c0]
   exact of_decide_eq_true hl
theorem qk{xd:List Pl}{n:Nat}{i:Int}(i0:0<=i)(h:(((2*i)+1)+1)<((n:Int)-1))(hp:(decide (cz (gI xd (((2*i)+1)+1)) (gI xd ((2*i)+1))))=true):(im xd i.toNat (n-1):Int)=((2*i)+1)+1:=by
 unfold im
 have hp:=of_decide_eq_true hp
 have e1:cD xd (2*i.toNat+1+1)=gI xd (((2*i)+1)+1):=by rw[<-dH (by omega)];congr 1;omega
 have e2:cD xd (2*i.toNat+1)=gI xd ((2*i)+1):=by rw[<-dH (by omega)];congr 1;omega
 rw[if_pos ⟨by omega,by rw[e1,e2];exact hp⟩];omega
theorem lS{xd:List Pl}{n:Nat}{i:Int}(i0:0<=i)(h:¬(((2*i)+1)+1)<((n:Int)-1)\/¬(decide (cz (gI xd (((2*i)+1)+1)) (gI xd ((2*i)+1))))=true):(im xd i.toNat (n-1):Int)=(2*i)+1:=by
 unfold im
 have e1:cD xd (2*i.toNat+1+1)=gI xd (((2*i)+1)+1):=by rw[<-dH (by omega)];congr 1;omega
 have e2:cD xd (2*i.toNat+1)=gI xd ((2*i)+1):=by rw[<-dH (by omega)];congr 1;omega
 rw[if_neg,show((2*i.toNat+1:Nat):Int)=2*i+1 by omega]
 rintro⟨a,b⟩
 rw[e1,e2] at b
 rcases h with h|h
 · omega
 · exact h (decide_eq_true b)
theorem k7.nn{q xd:List Pl}{i:Int}(h:k7 q xd i)(hq:∀x∈q,x.1<=aJ):∀x∈xd,x.1<=aJ:=λx hx=>hq x (h.perm.mem_iff.1 hx)
-- up
def pc(l:List Pl):List Pl:=up (l.length-1) l (l.length-1)
theorem oX(q:List Pl)(x:Pl):ir q x=pc (q++[x]):=by unfold ir pc;rw[List.length_append];rfl
structure lQ(l xu:List Pl)(j:Int):Prop where
 len:xu.length=l.length
 perm:xu.Perm l
 j0:0<=j
 j1:j<l.length
 fin:∃f,j.toNat<=f/\up f xu j.toNat=pc l
theorem lQ.start{l:List Pl}(h:0<(l.length:Int)):lQ l l ((l.length:Int)-1):=
 ⟨rfl,List.Perm.refl _,by omega,by omega,l.length-1,by omega,by rw[show((l.length:Int)-1).toNat=l.length-1 by omega];rfl⟩
theorem lQ.end1{l xu:List Pl}{j:Int}(h:lQ l xu j)(hc:Int.tdiv (j-1) 2=j):xu=pc l:=by
 obtain⟨f,h1,h2⟩:=h.fin
 have j0:=h.j0
 have:j=0:=by
   rcases Int.lt_or_le 0 j with c|c
   · rw[Int.tdiv_eq_ediv_of_nonneg (by omega)] at hc;omega
   · omega
 subst this
 rw[<-h2]
 cases f with
 |zero=>rfl
 |succ f=>unfold up;rw[if_pos (.inl (by decide))]
theorem eG{j:Int}(j0:0<=j)(hc:¬Int.tdiv (j-1) 2=j):1<=j/\Int.tdiv (j-1) 2=(j-1)/2:=by
 by_cases c:1<=j
 · exact⟨c,Int.tdiv_eq_ediv_of_nonneg (by omega)⟩
 · have:j=0:=by omega
   subst this
   exact absurd (by decide) hc
theorem lQ.end2{l xu:List Pl}{j:Int}(h:lQ l xu j)(hc:¬Int.tdiv (j-1) 2=j)(hl:¬(decide (cz (gI xu j) (gI xu (Int.tdiv (j-1) 2))))=true):xu=pc l:=by
 obtain⟨f,h1,h2⟩:=h.fin
 have j0:=h.j0
 obtain⟨c1,c2⟩:=eG j0 hc
 rw[<-h2]
 cases f with
 |zero=>rfl
 |succ f=>
   have hh:¬cz (cD xu j.toNat) (cD xu ((j.toNat-1)/2)):=by
     intro k
     apply hl
     rw[c2,<-dH j0,<-dH (by omega),show((j-1)/2).toNat=(j.toNat-1)/2 by omega]
     exact decide_eq_true k
   unfold up;rw[if_pos (.inr hh)]
theorem lQ.next{l xu:List Pl}{j:Int}(h:lQ l xu j)(hc:¬Int.tdiv (j-1) 2=j)(hl:(decide (cz (gI xu j) (gI xu (Int.tdiv (j-1) 2))))=true):lQ l ((xu.set (Int.tdiv (j-1) 2).toNat (gI xu j)).set j.toNat (gI xu (Int.tdiv (j-1) 2))) (Int.tdiv (j-1) 2):=by
 obtain⟨f,h1,h2⟩:=h.fin
 have j0:=h.j0
 have j1:=h.j1
 have hlen:=h.len
 obtain⟨c1,c2⟩:=eG j0 hc
 rw[c2] at hl ⊢
 rw[kn (by omega) j0]
 refine⟨by rw[cC,hlen],(dS (by omega) (by omega)).trans h.perm,by omega,by omega,?_⟩
 cases f with
 |zero=>omega
 |succ f=>
   refine⟨f,by omega,?_⟩
   rw[<-h2]
   conv=>rhs;unfold up
   have e:((j-1)/2).toNat=(j.toNat-1)/2:=by omega
   rw[if_neg,e]
   rintro(k|k)
   · omega
   · apply k
     rw[dH j0,<-e,dH (by omega)]
     exact of_decide_eq_true hl
theorem lQ.nn{l xu:List Pl}{j:Int}(h:lQ l xu j)(hq:∀y∈l,y.1<=aJ):∀y∈xu,y.1<=aJ:=λy hy=>hq y (h.perm.mem_iff.1 hy)
-- all of it
structure rQ(g:b6)(q:List Pl)(far:List Nat)(by_:List Int)(se:List Bool):Prop where
  lf:(far.length:Int)=g.1
  lb:(by_.length:Int)=g.1
  ls:(se.length:Int)=g.1
  hp:fl q q.length
  nn:∀x∈far,x<=aJ
  qin:∀p∈q,(0<=p.2/\p.2<g.1)/\p.1<aJ/\gI far p.2<=p.1
  cov:∀v:Int,0<=v->v<g.1->dI far se v->(gI far v,v)∈q
def i4(g:b6)(q:List Pl)(se:List Bool):Nat:=dz se*(2*g.2.length+1)+q.length
structure WI(g:b6)(ws:List Nat)(s:Int)(q:List Pl)(far:List Nat)(by_:List Int)(se:List Bool):Prop where
 h:rQ g q far by_ se
 res:∃f,dz se<=f/\gx g ws f (far,by_) se=fa g ws s
 sz:i4 g q se<=1024*6145+1
theorem rQ.qn{g:b6}{q:List Pl}{far:List Nat}{by_:List Int}{se:List Bool}(h:rQ g q far by_ se):∀p∈q,p.1<=aJ:=λp hp=>Nat.le_of_lt (h.qin p hp).2.1
theorem WI.ql{g:b6}{ws:List Nat}{s:Int}{q:List Pl}{far:List Nat}{by_:List Int}{se:List Bool}(h:WI g ws s q far by_ se):(q.length:Int)<=6292481:=by
 have:=h.sz;unfold i4 at this;omega
theorem dF{α:Type}[Inhabited α]{n:Nat}{x:α}{v:Int}(h0:0<=v)(h1:v<n):gI (List.replicate n x) v=x:=by
 obtain⟨k,rfl⟩:∃k:Nat,v=(k:Int):=⟨v.toNat,by omega⟩
 have:k<n:=by omega
 simp[gI,this]
theorem WI.start{g:b6}{ws:List Nat}{s:Int}(hm:bU g)(h0:0<=s)(h1:s<g.1):WI g ws s [(0,s)] (cq g.1.toNat s).1 (cq g.1.toNat s).2 (List.replicate g.1.toNat false):=by
 obtain⟨m1,m2,m3,m4⟩:=hm
 have hf:∀v:Int,0<=v->v<g.1->gI (cq g.1.toNat s).1 v=if v=s then 0 else aJ:=by
   intro v v0 v1
   unfold cq
   rw[bX h0 (by simp;omega) v0]
   by_cases e:v=s
   · rw[if_pos e,if_pos e]
   · rw[if_neg e,if_neg e,dF v0 (by omega)]
 refine⟨⟨by simp[cq];omega,by simp[cq];omega,by simp;omega,λk h1 h2=>by simp at h2;omega,?_,?_,?_⟩,⟨g.1.toNat,?_,rfl⟩,?_⟩
 · intro x hx
   unfold cq at hx
   rcases List.mem_or_eq_of_mem_set hx with e|e
   · rw[List.eq_of_mem_replicate e];exact Nat.le_refl _
   · rw[e];exact Nat.zero_le _
 · intro p hp
   rw[List.mem_singleton] at hp
   subst hp
   refine⟨⟨h0,h1⟩,(show 0<aJ by decide),?_⟩
   show gI (cq g.1.toNat s).1 s<=0
   rw[hf s h0 h1,if_pos rfl];exact Nat.le_refl _
 · intro v v0 v1 hw
   have h2:=hw.2
   rw[hf v v0 v1] at h2 ⊢
   by_cases e:v=s
   · subst e;rw[if_pos rfl];exact List.mem_singleton.2 rfl
   · rw[if_neg e] at h2;exact absurd h2 (Nat.lt_irrefl _)
 · unfold dz;rw[List.count_replicate];simp
 · unfold i4 dz;rw[List.count_replicate]
   simp only[beq_self_eq_true,if_true,List.length_singleton]
   have:g.1.toNat*(2*g.2.length+1)<=1024*6145:=Nat.mul_le_mul (by omega) (by omega)
   omega
end TL
/-
  TlWayI: From with a heap: one round.
  By an AI agent.
-/
set_option linter.all false
namespace TL
variable{g:b6}{ws:List Nat}{s:Int}{q r:List Pl}{p:Pl}{far:List Nat}{by_:List Int}{se:List Bool}
structure mq(g:b6)(q:List Pl)(far:List Nat)(p:Pl)(r:List Pl):Prop where
 p2:0<=p.2/\p.2<g.1
 p1:p.1<aJ
 pf:gI far p.2<=p.1
 len:r.length+1=q.length
 hp:fl r r.length
 perm:q.Perm (p::r)
 min:∀x∈q,¬cz x p
theorem WI.pop{xj:List Pl}{L:Int}(h:WI g ws s q far by_ se)(hq:0<(q.length:Int))(hj:xj=cZ q)(hL:L=(q.length:Int)-1):mq g q far (gI xj L) (xj.take L.toNat):=by
 have hq':0<q.length:=by omega
 obtain⟨h1,h2,h3,h4⟩:=gQ h.h.hp hq'
 subst hj hL
 have e0:((q.length:Int)-1).toNat=q.length-1:=by omega
 have e1:gI (cZ q) ((q.length:Int)-1)=cD q 0:=by
   rw[<-h3,<-dH (by omega),e0]
 rw[e1,e0]
 have hm:cD q 0∈q:=by rw[dw hq'];exact List.getElem_mem _
 have hl:((cZ q).take (q.length-1)).length=q.length-1:=by rw[List.length_take,h2];omega
 obtain⟨a1,a2,a3⟩:=h.h.qin _ hm
 refine⟨a1,a2,a3,by rw[hl];omega,by rw[hl];exact h1,h4,λx hx=>?_⟩
 obtain⟨k,hk,e⟩:=List.mem_iff_getElem.1 hx
 have:=nh h.h.hp k hk
 rw[dw hk,e] at this
 exact this
theorem WI.popx{xj:List Pl}(h:WI g ws s q far by_ se)(hq:0<(q.length:Int))(hj:xj=cZ q):mq g q far (gI xj ((xj.length:Int)-1)) (xj.take (Int.toNat ((xj.length:Int)-1)))/\xj.length=q.length:=by
 have hl:xj.length=q.length:=by rw[hj];exact(gQ h.h.hp (by omega)).2.1
 exact⟨h.pop hq hj (by rw[hl]),hl⟩
theorem mq.ne(pd:mq g q far p r){x:Pl}(hx:x∈q)(h:x.2≠p.2):x∈r:=by
 rcases List.mem_cons.1 (pd.perm.mem_iff.1 hx) with e|e
 · rw[e] at h;exact absurd rfl h
 · exact e
theorem WI.skip(h:WI g ws s q far by_ se)(pd:mq g q far p r)(hs:gI se p.2=true):WI g ws s r far by_ se/\i4 g r se<i4 g q se:=by
 have hl:=pd.len
 have hm:i4 g r se<i4 g q se:=by unfold i4;omega
 refine⟨⟨⟨h.h.lf,h.h.lb,h.h.ls,pd.hp,h.h.nn,λx hx=>h.h.qin x (pd.perm.mem_iff.2 (List.mem_cons_of_mem _ hx)),λv v0 v1 hw=>?_⟩,h.res,by have:=h.sz;omega⟩,hm⟩
 refine pd.ne (h.h.cov v v0 v1 hw) (λe=>?_)
 have e:v=p.2:=e
 have:=hw.1
 rw[e,hs] at this
 cases this
structure RI(g:b6)(ws:List Nat)(s:Int)(M:Nat)(u:Int)(d:Nat)(q:List Pl)(far:List Nat)(by_:List Int)(se:List Bool)(k:Nat):Prop where
 h:rQ g q far by_ se
 res:∃f,dz se<=f/\gx g ws f (d5 g ws d ((gI (ab g) u).drop k) (far,by_)) se=fa g ws s
 sz:i4 g q se+2*g.2.length+2<=M+k
 mx:M<=1024*6145+1
theorem WI.settle(h:WI g ws s q far by_ se)(pd:mq g q far p r)(hs:¬gI se p.2=true):RI g ws s (i4 g q se) p.2 p.1 r far by_ (se.set p.2.toNat true) 0:=by
 have hl:=pd.len
 obtain⟨p20,p21⟩:=pd.p2
 have hlf:=h.h.lf
 have hls:=h.h.ls
 have hs':gI se p.2=false:=by simpa using hs
 have hw:dI far se p.2:=⟨hs',Nat.lt_of_le_of_lt pd.pf pd.p1⟩
 have hin:=h.h.cov p.2 p20 p21 hw
 have hd:gI far p.2=p.1:=by
   have:=pd.min _ hin
   have h2:=pd.pf
   unfold cz at this
   simp only at this
   omega
 obtain⟨un,hun⟩:∃un:Nat,p.2=(un:Int):=⟨p.2.toNat,by omega⟩
 have hpk:bc far se g.1.toNat=p.2:=by
   rw[hun]
   refine lW (by rw[<-hun];exact hw) (by omega) (λv hv hwv=>?_)
   have h1:=h.h.cov v (by omega) (by omega) hwv
   have h2:=pd.min _ h1
   rw[<-hun,hd]
   exact h2
 have hu:dz (se.set un true)+1=dz se:=fS (by omega) (by rw[<-hun];exact hs')
 have hT:p.2.toNat=un:=by omega
 rw[hT]
 have gset:∀v:Int,0<=v->gI (se.set un true) v=if v=p.2 then true else gI se v:=by
   intro v v0
   rw[<-hT,bX p20 (by omega) v0]
 refine⟨⟨hlf,h.h.lb,by rw[List.length_set];exact hls,pd.hp,h.h.nn,λx hx=>h.h.qin x (pd.perm.mem_iff.2 (List.mem_cons_of_mem _ hx)),λv v0 v1 hwv=>?_⟩,?_,?_,h.sz⟩
 · have h1:=hwv.1
   rw[gset v v0] at h1
   by_cases e:v=p.2
   · rw[if_pos e] at h1;cases h1
   · rw[if_neg e] at h1
     exact pd.ne (h.h.cov v v0 v1 ⟨h1,hwv.2⟩) e
 · obtain⟨f,f1,f2⟩:=h.res
   cases f with
   |zero=>omega
   |succ f=>
     refine⟨f,by omega,?_⟩
     rw[<-f2]
     conv=>rhs;unfold gx
     rw[show(far,by_).1=far from rfl,hpk,if_neg (by omega),hd,hT,List.drop_zero]
 · unfold i4
   have e:dz se=dz (se.set un true)+1:=hu.symm
   rw[e,Nat.add_mul];omega
theorem i7(d:Nat)(x:Int)(l:List Int)(t:FS):d5 g ws d (x::l) t=d5 g ws d l (c5 g ws d t x):=rfl
variable{M:Nat}{u:Int}{d:Nat}{k:Nat}
theorem RI.same(h:RI g ws s M u d q far by_ se k)(hk:(k:Int)<(gI (ab g) u).length)(e:c5 g ws d (far,by_) (gI (gI (ab g) u) (k:Int))=(far,by_)):RI g ws s M u d q far by_ se (k+1):=by
 refine⟨h.h,?_,by have:=h.sz;omega,h.mx⟩
 have:=h.res
 rw[lE hk,i7,e] at this
 exact this
theorem RI.inf(h:RI g ws s M u d q far by_ se k)(hk:(k:Int)<(gI (ab g) u).length)(e:zf (gI ws (gI (gI (ab g) u) (k:Int)/2))=aJ):RI g ws s M u d q far by_ se (k+1):=
 h.same hk (by unfold c5;rw[if_pos e])
theorem RI.no(h:RI g ws s M u d q far by_ se k)(hk:(k:Int)<(gI (ab g) u).length)(e:¬aT d (zf (gI ws (gI (gI (ab g) u) (k:Int)/2)))<gI far (dc g (gI (gI (ab g) u) (k:Int)))):RI g ws s M u d q far by_ se (k+1):=
 h.same hk (by
   unfold c5
   by_cases c:zf (gI ws (gI (gI (ab g) u) (k:Int)/2))=aJ
   · rw[if_pos c]
   · rw[if_neg c];exact if_neg e)
theorem RI.push(h:RI g ws s M u d q far by_ se k)(hk:(k:Int)<(gI (ab g) u).length){hh t:Int}{x:Nat}(ehh:gI (gI (ab g) u) (k:Int)=hh)(et:dc g hh=t)(ex:aT d (zf (gI ws (hh/2)))=x)(t0:0<=t)(t1:t<g.1)
   (hi:¬zf (gI ws (hh/2))=aJ)(e:x<gI far t):RI g ws s M u d (ir q (x,t)) (far.set t.toNat x) (by_.set t.toNat hh) se (k+1):=by
 have hlf:=h.h.lf
 have hlb:=h.h.lb
 obtain⟨p1,p2,p3⟩:=m6 (x,t) h.h.hp
 have ht:gI far t<=aJ:=h.h.nn _ (bu t0 (by omega))
 have gset:∀v:Int,0<=v->gI (far.set t.toNat x) v=if v=t then x else gI far v:=λv v0=>bX t0 (by omega) v0
 refine⟨⟨by rw[List.length_set];exact hlf,by rw[List.length_set];exact hlb,h.h.ls,by rw[p2];exact p1,λy hy=>?_,λy hy=>?_,λv v0 v1 hw=>?_⟩,?_,?_,h.mx⟩
 · rcases List.mem_or_eq_of_mem_set hy with c|c
   · exact h.h.nn _ c
   · rw[c];omega
 · rcases List.mem_cons.1 (p3.mem_iff.1 hy) with c|c
   · subst c
     refine⟨⟨t0,t1⟩,Nat.lt_of_lt_of_le e ht,?_⟩
     show gI (far.set t.toNat x) t<=x
     rw[gset t t0,if_pos rfl];exact Nat.le_refl _
   · obtain⟨a1,a2,a3⟩:=h.h.qin y c
     refine⟨a1,a2,?_⟩
     rw[gset _ a1.1]
     split
     · rename_i e2;rw[e2] at a3;omega
     · exact a3
 · have h2:=hw.2
   rw[gset v v0] at h2 ⊢
   by_cases e2:v=t
   · rw[if_pos e2,e2];exact p3.mem_iff.2 (List.mem_cons_self ..)
   · rw[if_neg e2] at h2 ⊢
     exact p3.mem_iff.2 (List.mem_cons_of_mem _ (h.h.cov v v0 v1 ⟨hw.1,h2⟩))
 · have:=h.res
   rw[lE hk,i7,ehh] at this
   have e3:c5 g ws d (far,by_) hh=(far.set t.toNat x,by_.set t.toNat hh):=by
     unfold c5
     rw[if_neg hi,et,ex,if_pos e]
   rw[e3] at this
   exact this
 · have:=h.sz
   unfold i4 at this ⊢
   rw[p2];omega
theorem lA(hm:bU g)(u0:0<=u)(u1:u<g.1):(gI (ab g) u).length<=2*g.2.length:=by
 rw[gW u0 u1]
 unfold jQ eI
 refine Nat.le_trans (List.length_filter_le _ _) (by simp)
theorem RI.done(hm:bU g)(u0:0<=u)(u1:u<g.1)(h:RI g ws s M u d q far by_ se k)(hk:¬(k:Int)<(gI (ab g) u).length)(hle:(k:Int)<=(gI (ab g) u).length):WI g ws s q far by_ se/\i4 g q se<M:=by
 have h1:=lA hm u0 u1
 have h2:=h.sz
 have h3:=h.mx
 refine⟨⟨h.h,?_,by omega⟩,by omega⟩
 have:=h.res
 rw[List.drop_eq_nil_of_le (by omega)] at this
 exact this
theorem RI.ql(h:RI g ws s M u d q far by_ se k):(q.length:Int)<=6292481+k:=by
 have:=h.sz;have h2:=h.mx;unfold i4 at this;omega
theorem WI.done(h:WI g ws s q far by_ se)(hq:¬0<(q.length:Int)):(far,by_)=fa g ws s:=by
 obtain⟨f,_,h2⟩:=h.res
 have hq':q=[]:=List.length_eq_zero_iff.1 (by omega)
 have hlf:=h.h.lf
 rw[<-h2]
 cases f with
 |zero=>rfl
 |succ f=>
   unfold gx
   rw[if_pos]
   rw[iq (far:=far) (se:=se)]
   · decide
   · intro v hv hw
     have:=h.h.cov v (by omega) (by omega) hw
     rw[hq'] at this;cases this
theorem ib(hm:bU g)(u0:0<=u)(u1:u<g.1)(hk:(k:Int)<(gI (ab g) u).length):0<=gI (gI (ab g) u) (k:Int)/\gI (gI (ab g) u) (k:Int)<2*(g.2.length:Int)/\aH g (gI (gI (ab g) u) (k:Int))=u:=by
 have h1:=bu (xs:=gI (ab g) u) (i:=(k:Int)) (by omega) hk
 generalize gI (gI (ab g) u) (k:Int)=x at h1 ⊢
 rw[gW u0 u1] at h1
 unfold jQ eI at h1
 obtain⟨a,b⟩:=List.mem_filter.1 h1
 obtain⟨i,hi,rfl⟩:=List.mem_map.1 a
 have:=List.mem_range.1 hi
 exact⟨by omega,by omega,of_decide_eq_true b⟩
end TL
namespace TL
structure dU(g:b6)(f0:List Nat)(b0:List Int)(v:Nat):Prop where
 lf:(f0.length:Int)=g.1
 lb:(b0.length:Int)=g.1
 ff:∀k:Nat,k<v->gI f0 (k:Int)=aJ
 fb:∀k:Nat,k<v->gI b0 (k:Int)= -1
theorem dU.start{g:b6}(hm:bU g):dU g (List.replicate (Int.toNat g.1) (0:Nat)) (List.replicate (Int.toNat g.1) (0:Int)) 0:=by
 have:=hm.1
 exact⟨by simp;omega,by simp;omega,λk h=>by omega,λk h=>by omega⟩
theorem dU.next{g:b6}{f0:List Nat}{b0:List Int}{v:Nat}(h:dU g f0 b0 v)(hv:(v:Int)<g.1):dU g (f0.set (Int.toNat (v:Int)) aJ) (b0.set (Int.toNat (v:Int)) (-1)) (v+1):=by
 have h1:=h.lf
 have h2:=h.lb
 refine⟨by rw[List.length_set];exact h1,by rw[List.length_set];exact h2,λk hk=>?_,λk hk=>?_⟩
 · rw[bX (by omega) (by omega) (by omega)]
   by_cases e:(k:Int)=v
   · rw[if_pos e]
   · rw[if_neg e];exact h.ff k (by omega)
 · rw[bX (by omega) (by omega) (by omega)]
   by_cases e:(k:Int)=v
   · rw[if_pos e]
   · rw[if_neg e];exact h.fb k (by omega)
theorem dU.done{g:b6}{ws:List Nat}{s:Int}{f0:List Nat}{b0:List Int}{v:Nat}(h:dU g f0 b0 v)(hm:bU g)(hv:¬(v:Int)<g.1)(s0:0<=s)(s1:s<g.1):WI g ws s [(0,s)] (f0.set s.toNat 0) b0 (List.replicate (Int.toNat g.1) false):=by
 have h1:=h.lf
 have h2:=h.lb
 have e1:f0=List.replicate g.1.toNat aJ:=by
   apply cU
   · simp;omega
   · intro i hi
     rw[h.ff i (by omega),dF (by omega) (by omega)]
 have e2:b0=List.replicate g.1.toNat (-1):=by
   apply cU
   · simp;omega
   · intro i hi
     rw[h.fb i (by omega),dF (by omega) (by omega)]
 rw[e1,e2]
 exact WI.start hm s0 s1
variable{g:b6}{ws:List Nat}{s:Int}{q:List Pl}{far:List Nat}{by_:List Int}{se:List Bool}{M k:Nat}{u:Int}{d:Nat}
theorem mO(hw:∀x∈ws,ef x)(hl:ws.length=g.2.length){h:Int}(h0:0<=h)(h1:h<2*(g.2.length:Int)):ef (gI ws (h/2)):=hw _ (bu (by omega) (by omega))
theorem RI.inf'(h:RI g ws s M u d q far by_ se k)(hk:(k:Int)<(gI (ab g) u).length)(hg:ef (gI ws (gI (gI (ab g) u) (k:Int)/2)))(e:dx (gI ws (gI (gI (ab g) u) (k:Int)/2)) 9218868437227405311=true):RI g ws s M u d q far by_ se (k+1):=
 h.inf hk (by rw[nS hg] at e;exact of_decide_eq_true e)
theorem RI.push'(h:RI g ws s M u d q far by_ se k)(hk:(k:Int)<(gI (ab g) u).length){hh t:Int}{x:Nat}{qn:List Pl}(ehh:gI (gI (ab g) u) (k:Int)=hh)(et:dc g hh=t)(ex:aT d (zf (gI ws (hh/2)))=x)(t0:0<=t)(t1:t<g.1)(hg:ef (gI ws (hh/2)))
   (hi:¬dx (gI ws (hh/2)) 9218868437227405311=true)(e:x<gI far t)(hq:qn=pc (q++[(x,t)])):RI g ws s M u d qn (far.set t.toNat x) (by_.set t.toNat hh) se (k+1):=by
 rw[hq,<-oX]
 exact h.push hk ehh et ex t0 t1 (λc=>hi (by rw[nS hg];exact decide_eq_true c)) e
end TL
namespace TL
variable{g:b6}{ws:List Nat}{s:Int}{q:List Pl}{far:List Nat}{by_:List Int}{se:List Bool}{M k:Nat}{u:Int}{d:Nat}
theorem RI.fnn(h:RI g ws s M u d q far by_ se k){t:Int}(t0:0<=t)(t1:t<g.1):gI far t<=aJ:=h.h.nn _ (bu t0 (by have:=h.h.lf;omega))
end TL
/-
  TlWayT: the way that leads to a node, from how the nodes were reached (package path's To), as the document has it.
  By an AI agent.
-/
set_option linter.all false
namespace TL
def dG(g:b6)(by_:List Int):Nat->Int->List Int->List Int×Int
 |0,v,l=>if gI by_ v= -1 then(l,0) else([],14)
 |f+1,v,l=>if gI by_ v= -1 then(l,0) else if gI by_ v<0\/2*(g.2.length:Int)<=gI by_ v\/¬dc g (gI by_ v)=v then([],14) else dG g by_ f (aH g (gI by_ v)) (gI by_ v::l)
def dP(fs:FS)(g:b6):Prop:=bU g/\(fs.1.length:Int)=g.1/\(fs.2.length:Int)=g.1
instance (fs:FS)(g:b6):Decidable (dP fs g):=by unfold dP;infer_instance
def bF(fs:FS)(g:b6)(t:Int):List Int×Int:=
 if dP fs g then(if 0<=t/\t<g.1 then(if dx (gI fs.1 t) 9218868437227405311=true then([],14) else dG g fs.2 g.1.toNat t []) else([],2)) else([],1)
variable{fs:FS}{g:b6}{t v:Int}{l:List Int}{n:Nat}
theorem gE(h:¬dP fs g):bF fs g t=([],1):=by unfold bF;rw[if_neg h]
theorem jM(h:dP fs g)(h2:¬(0<=t/\t<g.1)):bF fs g t=([],2):=by unfold bF;rw[if_pos h,if_neg h2]
theorem pM(h:dP fs g)(h2:0<=t/\t<g.1)(h3:dx (gI fs.1 t) 9218868437227405311=true):bF fs g t=([],14):=by unfold bF;rw[if_pos h,if_pos h2,if_pos h3]
theorem dT(h:dP fs g)(h2:0<=t/\t<g.1)(h3:¬dx (gI fs.1 t) 9218868437227405311=true):bF fs g t=dG g fs.2 g.1.toNat t []:=by unfold bF;rw[if_pos h,if_pos h2,if_neg h3]
structure ka(g:b6)(by_:List Int)(t v:Int)(l:List Int)(n:Nat):Prop where
  v0:0<=v
  v1:v<g.1
  ll:l.length=n
  ln:(n:Int)<=g.1
  eq:dG g by_ (g.1.toNat-n) v l=dG g by_ g.1.toNat t []
variable{by_:List Int}
theorem ka.start(t0:0<=t)(t1:t<g.1):ka g by_ t t [] 0:=⟨t0,t1,rfl,by omega,rfl⟩
theorem ka.fin(h:ka g by_ t v l n)(hv:gI by_ v= -1):dG g by_ g.1.toNat t []=(l,0):=by
 rw[<-h.eq]
 cases g.1.toNat-n<;>(unfold dG;rw[if_pos hv])
theorem ka.no(h:ka g by_ t v l n)(hv:¬gI by_ v= -1)(hh:(n:Int)=g.1\/gI by_ v<0\/2*(g.2.length:Int)<=gI by_ v\/¬dc g (gI by_ v)=v):dG g by_ g.1.toNat t []=([],14):=by
 rw[<-h.eq]
 have h1:=h.ln
 cases hc:g.1.toNat-n with
 |zero=>unfold dG;rw[if_neg hv]
 |succ k=>
   unfold dG;rw[if_neg hv,if_pos]
   rcases hh with e|e
   · omega
   · exact e
theorem ka.next(hm:bU g)(h:ka g by_ t v l n)(hv:¬gI by_ v= -1)(hn:¬(n:Int)=g.1)(h0:¬gI by_ v<0)(h1:¬2*(g.2.length:Int)<=gI by_ v)(h2:dc g (gI by_ v)=v):ka g by_ t (aH g (gI by_ v)) (gI by_ v::l) (n+1):=by
 have hl:=h.ln
 obtain⟨a,b⟩:=cH hm (h:=gI by_ v) (by omega) (by omega)
 refine⟨a,b,by rw[List.length_cons,h.ll],by omega,?_⟩
 rw[<-h.eq]
 have e:g.1.toNat-n=(g.1.toNat-(n+1))+1:=by omega
 rw[e]
 conv=>rhs;unfold dG
 rw[if_neg hv,if_neg]
 rintro(c|c|c)
 · exact h0 c
 · exact h1 c
 · exact c h2
end TL
/-
  TlFloat4: a sum of numbers that are at least 0 is not less than either; sums of small whole numbers are the whole numbers' sums.
  By an AI agent.
-/
set_option linter.all false
namespace TL
open Ieee
theorem qH{x:Nat}:x=pl x*4503599627370496+mg x:=by
 unfold mg pl
 split<;>omega
theorem rJ{T x:Nat}(hx:x<aJ)(h:vl x<=T):x<=rd T:=by
 by_cases h0:x=0
 · subst h0;exact Nat.zero_le _
 have hm:mg x≠0:=λe=>h0 (l6.1 e)
 have hv:vl x≠0:=by
   intro e;rcases Nat.mul_eq_zero.1 e with c|c
   · exact hm c
   · have:=Nat.two_pow_pos (pl x);omega
 have hT:T≠0:=by omega
 unfold rd
 rw[if_neg hT]
 refine Nat.le_min.2 ⟨?_,Nat.le_of_lt hx⟩
 have hc:T/2^(T.log2-52)<=iY T (T.log2-52):=Nat.le_add_right _ _
 have hL:=Nat.lt_log2_self (n:=T)
 have hlo:=Nat.log2_self_le hT
 have ex:=qH (x:=x)
 have mlt:=qj x
 by_cases c1:pl x<T.log2-52
 · have h1:4503599627370496<=T/2^(T.log2-52):=by
     refine(Nat.le_div_iff_mul_le (Nat.two_pow_pos _)).2 ?_
     rw[show(4503599627370496:Nat)=2^52 by decide,<-Nat.pow_add]
     exact Nat.le_trans (Nat.pow_le_pow_right (by omega) (by omega)) hlo
   omega
 · by_cases c2:T.log2-52<pl x
   · exfalso
     have hn:¬x<4503599627370496:=by
       intro c;unfold pl at c2;omega
     have e1:4503599627370496<=mg x:=by unfold mg;rw[if_neg hn];omega
     have h2:2^(52+pl x)<=vl x:=by
       unfold vl;rw[Nat.pow_add];exact Nat.mul_le_mul_right _ e1
     have h3:2^(T.log2+1)<=2^(52+pl x):=Nat.pow_le_pow_right (by omega) (by omega)
     omega
   · have e:pl x=T.log2-52:=by omega
     have h1:mg x<=T/2^(T.log2-52):=by
       refine(Nat.le_div_iff_mul_le (Nat.two_pow_pos _)).2 ?_
       rw[<-e];exact h
     omega
theorem mV{x y:Nat}(hx:x<=aJ)(hy:y<=aJ):x<=aT x y:=by
 rcases Nat.lt_or_ge x aJ with c|c
 · rcases Nat.lt_or_ge y aJ with d|d
   · rw[rj c d];exact rJ c (Nat.le_add_right _ _)
   · obtain rfl:y=aJ:=Nat.le_antisymm hy d
     have:aT x aJ=aJ:=by
       unfold aT Format.add
       rw[cM c,dp]
       rfl
     rw[this];exact hx
 · obtain rfl:x=aJ:=Nat.le_antisymm hx c
   have:aT aJ y=aJ:=by
     unfold aT Format.add
     rw[dp]
     rcases gO hy with⟨m,i,e⟩|e<;>rw[e]<;>rfl
   rw[this];exact Nat.le_refl _
end TL
/-
  TlDij: what the document's From comes to: each length is that of the way found; no half-edge of a reached node leads nearer.
  By an AI agent.
-/
set_option linter.all false
namespace TL
abbrev hf(g:b6)(h:Int):Prop:=0<=h/\h<2*(g.2.length:Int)
abbrev nd(g:b6)(v:Int):Prop:=0<=v/\v<g.1
abbrev zw(ws:List Nat)(h:Int):Nat:=zf (gI ws (h/2))
structure kV(g:b6)(ws:List Nat)(s:Int)(far:List Nat)(by_:List Int)(se:List Bool)(rk:Int->Nat)(n:Nat)(p:Int)(done:List Int):Prop where
 lf:(far.length:Int)=g.1
 lb:(by_.length:Int)=g.1
 ls:(se.length:Int)=g.1
 nn:∀v,nd g v->gI far v<=aJ
 s0:gI far s=0
 sb:gI by_ s= -1
 tr:∀v,nd g v->gI by_ v≠-1->hf g (gI by_ v)/\dc g (gI by_ v)=v/\gI se (aH g (gI by_ v))=true/\gI far v=aT (gI far (aH g (gI by_ v))) (zw ws (gI by_ v))/\gI far v<aJ
 rt:∀v,nd g v->gI by_ v= -1->v=s\/gI far v=aJ
 rx:∀h,hf g h->gI se (aH g h)=true->(aH g h=p->h∈done)->zw ws h=aJ\/gI far (dc g h)<=aT (gI far (aH g h)) (zw ws h)
 sp:∀u v,nd g u->nd g v->gI se u=true->gI se v=false->gI far u<=gI far v
 sf:∀u,nd g u->gI se u=true->gI far u<aJ
 ro:∀v,nd g v->gI se v=true->gI by_ v≠-1->rk (aH g (gI by_ v))<rk v
 rn:∀v,nd g v->gI se v=true->rk v<n
 cn:n+dz se=g.1.toNat
variable{g:b6}{ws:List Nat}{s p:Int}{far:List Nat}{by_:List Int}{se:List Bool}{rk:Int->Nat}{n:Nat}{done:List Int}
theorem rz(hw:∀x∈ws,ef x)(hl:ws.length=g.2.length){h:Int}(hh:hf g h):zw ws h<=aJ:=(fA (mO hw hl hh.1 hh.2)).1
theorem kV.start(hm:bU g)(h0:nd g s):kV g ws s (cq g.1.toNat s).1 (cq g.1.toNat s).2 (List.replicate g.1.toNat false) (λ_=>0) 0 (-1) []:=by
 obtain⟨m1,m2,m3,m4⟩:=hm
 obtain⟨s0,s1⟩:=h0
 have hf':∀v:Int,nd g v->gI (cq g.1.toNat s).1 v=if v=s then 0 else aJ:=by
   intro v hv
   unfold cq
   rw[bX s0 (by simp;omega) hv.1]
   by_cases e:v=s
   · rw[if_pos e,if_pos e]
   · rw[if_neg e,if_neg e,dF hv.1 (by have:=hv.2;omega)]
 have hb:∀v:Int,nd g v->gI (cq g.1.toNat s).2 v= -1:=λv hv=>dF hv.1 (by have:=hv.2;omega)
 have hs:∀v:Int,nd g v->gI (List.replicate g.1.toNat false) v=false:=λv hv=>dF hv.1 (by have:=hv.2;omega)
 refine⟨by simp[cq];omega,by simp[cq];omega,by simp;omega,λv hv=>?_,by rw[hf' s ⟨s0,s1⟩,if_pos rfl],hb s ⟨s0,s1⟩,λv hv k=>absurd (hb v hv) k,λv hv _=>?_,λh hh k=>?_,λu v hu _ k=>?_,λu hu k=>?_,λv hv k=>?_,λv hv k=>?_,?_⟩
 · rw[hf' v hv];split
   · exact Nat.zero_le _
   · exact Nat.le_refl _
 · by_cases e:v=s
   · exact .inl e
   · right;rw[hf' v hv,if_neg e]
 · rw[hs _ (cH ⟨m1,m2,m3,m4⟩ hh.1 hh.2)] at k;cases k
 · rw[hs _ hu] at k;cases k
 · rw[hs _ hu] at k;cases k
 · rw[hs _ hv] at k;cases k
 · rw[hs _ hv] at k;cases k
 · unfold dz;rw[List.count_replicate];simp
theorem kV.relax(hm:bU g)(hw:∀x∈ws,ef x)(hl:ws.length=g.2.length){d:Nat}{hh:Int}(h:kV g ws s far by_ se rk n p done)(hp:nd g p)(hps:gI se p=true)(hd:gI far p=d)(mx:∀u,nd g u->gI se u=true->gI far u<=d)
    (h0:hf g hh)(hf':aH g hh=p):kV g ws s (c5 g ws d (far,by_) hh).1 (c5 g ws d (far,by_) hh).2 se rk n p (hh::done)/\∀u,nd g u->gI se u=true->gI (c5 g ws d (far,by_) hh).1 u=gI far u:=by
  have hz:=rz hw hl h0
  have ht:=j7 hm h0.1 h0.2
  by_cases c1:zf (gI ws (hh/2))=aJ
  · have e:c5 g ws d (far,by_) hh=(far,by_):=by unfold c5;rw[if_pos c1]
    rw[e]
    refine⟨{h with rx:=λx hx k1 k2=>?_},λ_ _ _=>rfl⟩
    by_cases c:x=hh
    · subst c;exact .inl c1
    · exact h.rx x hx k1 (λk=>(List.mem_cons.1 (k2 k)).resolve_left c)
  by_cases c2:aT d (zf (gI ws (hh/2)))<gI far (dc g hh)
  · have e:c5 g ws d (far,by_) hh=(far.set (dc g hh).toNat (aT d (zf (gI ws (hh/2)))),by_.set (dc g hh).toNat hh):=by unfold c5;rw[if_neg c1,if_pos c2]
    rw[e]
    show kV g ws s (far.set (dc g hh).toNat (aT d (zw ws hh))) (by_.set (dc g hh).toNat hh) se rk n p (hh::done)/\∀u,nd g u->gI se u=true->gI (far.set (dc g hh).toNat (aT d (zw ws hh))) u=gI far u
    have hdle:d<=aJ:=by rw[<-hd];exact h.nn p hp
    have hge:d<=aT d (zw ws hh):=mV hdle hz
    have hlt:aT d (zw ws hh)<aJ:=Nat.lt_of_lt_of_le c2 (h.nn _ ht)
    obtain⟨t,et⟩:∃t,t=dc g hh:=⟨_,rfl⟩
    obtain⟨x,ex⟩:∃x,x=aT d (zw ws hh):=⟨_,rfl⟩
    rw[<-et] at c2 ht ⊢
    change aT d (zw ws hh)<gI far t at c2
    rw[<-ex] at c2 hge hlt ⊢
    have hts:gI se t=false:=by
      cases hc:gI se t with
      |false=>rfl
      |true=>have:=mx t ht hc;omega
    have gf:∀v,0<=v->gI (far.set t.toNat x) v=if v=t then x else gI far v:=λv v0=>bX ht.1 (by have:=h.lf;have:=ht.2;omega) v0
    have gb:∀v,0<=v->gI (by_.set t.toNat hh) v=if v=t then hh else gI by_ v:=λv v0=>bX ht.1 (by have:=h.lb;have:=ht.2;omega) v0
    have keep:∀u,nd g u->gI se u=true->gI (far.set t.toNat x) u=gI far u:=by
      intro u hu k
      rw[gf u hu.1,if_neg]
      intro c;rw[c,hts] at k;cases k
    have hsne:0<=s->¬s=t:=by
      intro s0 c
      have:=h.s0
      rw[c] at this;omega
    refine⟨⟨by rw[List.length_set];exact h.lf,by rw[List.length_set];exact h.lb,h.ls,λv hv=>?_,?_,?_,λv hv k=>?_,λv hv k=>?_,λy hy k1 k2=>?_,λu v hu hv k1 k2=>?_,λu hu k=>?_,λv hv k1 k2=>?_,h.rn,h.cn⟩,keep⟩
    · rw[gf v hv.1];split
      · omega
      · exact h.nn v hv
    · rcases Int.lt_or_le s 0 with c|c
      · have e1:s.toNat=0:=by omega
        have:gI (far.set t.toNat x) s=gI (far.set t.toNat x) 0:=by unfold gI;rw[e1];rfl
        have e3:gI far s=gI far 0:=by unfold gI;rw[e1];rfl
        have e4:¬(0:Int)=t:=by
          intro c0
          have:=h.s0
          rw[e3,c0] at this;omega
        rw[this,gf 0 (Int.le_refl _),if_neg e4,<-e3];exact h.s0
      · rw[gf s c,if_neg (hsne c)];exact h.s0
    · rcases Int.lt_or_le s 0 with c|c
      · have e1:s.toNat=0:=by omega
        have:gI (by_.set t.toNat hh) s=gI (by_.set t.toNat hh) 0:=by unfold gI;rw[e1];rfl
        have e3:gI far s=gI far 0:=by unfold gI;rw[e1];rfl
        have e5:gI by_ s=gI by_ 0:=by unfold gI;rw[e1];rfl
        have e4:¬(0:Int)=t:=by
          intro c0
          have:=h.s0
          rw[e3,c0] at this;omega
        rw[this,gb 0 (Int.le_refl _),if_neg e4,<-e5];exact h.sb
      · rw[gb s c,if_neg (hsne c)];exact h.sb
    · rw[gb v hv.1] at k ⊢
      rw[gf v hv.1]
      by_cases c:v=t
      · rw[if_pos c,if_pos c]
        refine⟨h0,by rw[c,et],by rw[hf'];exact hps,?_,hlt⟩
        rw[hf',keep p hp hps,hd];exact ex
      · rw[if_neg c] at k ⊢
        rw[if_neg c]
        obtain⟨a1,a2,a3,a4,a5⟩:=h.tr v hv k
        refine⟨a1,a2,a3,?_,a5⟩
        rw[keep _ (cH hm a1.1 a1.2) a3];exact a4
    · rw[gb v hv.1] at k
      rw[gf v hv.1]
      by_cases c:v=t
      · rw[if_pos c] at k;have:=h0.1;omega
      · rw[if_neg c] at k ⊢;exact h.rt v hv k
    · have hfy:=cH hm hy.1 hy.2
      have hty:=j7 hm hy.1 hy.2
      rw[keep _ hfy k1,gf _ hty.1]
      by_cases c:y=hh
      · subst c
        right
        rw[if_pos et.symm,hf',hd,ex];exact Nat.le_refl _
      · rcases h.rx y hy k1 (λk=>(List.mem_cons.1 (k2 k)).resolve_left c) with a|a
        · exact .inl a
        · right
          split
          · rename_i e2;rw[e2] at a;omega
          · exact a
    · rw[keep u hu k1,gf v hv.1]
      split
      · have:=mx u hu k1;omega
      · exact h.sp u v hu hv k1 k2
    · rw[keep u hu k];exact h.sf u hu k
    · have c:¬v=t:=by intro c;rw[c,hts] at k1;cases k1
      rw[gb v hv.1,if_neg c] at k2 ⊢
      exact h.ro v hv k1 k2
  · have e:c5 g ws d (far,by_) hh=(far,by_):=by unfold c5;rw[if_neg c1,if_neg c2]
    rw[e]
    refine⟨{h with rx:=λx hx k1 k2=>?_},λ_ _ _=>rfl⟩
    by_cases c:x=hh
    · subst c
      right
      rw[hf',hd];exact Nat.le_of_not_lt c2
    · exact h.rx x hx k1 (λk=>(List.mem_cons.1 (k2 k)).resolve_left c)
theorem iH(hm:bU g)(hw:∀x∈ws,ef x)(hl:ws.length=g.2.length){d:Nat}(hp:nd g p)(hps:gI se p=true):∀(hs:List Int) (far:List Nat) (by_:List Int) (done:List Int),(∀x∈hs,hf g x/\aH g x=p)->gI far p=d->(∀u,nd g u->gI se u=true->gI far u<=d)->
   kV g ws s far by_ se rk n p done->∃done',kV g ws s (d5 g ws d hs (far,by_)).1 (d5 g ws d hs (far,by_)).2 se rk n p done'/\(∀x∈hs,x∈done')/\∀x∈done,x∈done'
 |[],far,by_,done,_,_,_,h=>⟨done,h,λx hx=>absurd hx List.not_mem_nil,λ_ hx=>hx⟩
 |y::hs,far,by_,done,hx,hd,mx,h=>by
   obtain⟨h1,k1⟩:=h.relax hm hw hl hp hps hd mx (hx y (List.mem_cons_self ..)).1 (hx y (List.mem_cons_self ..)).2
   have e:d5 g ws d (y::hs) (far,by_)=d5 g ws d hs ((c5 g ws d (far,by_) y).1,(c5 g ws d (far,by_) y).2):=rfl
   rw[e]
   obtain⟨done',a,b,c⟩:=iH hm hw hl hp hps hs _ _ (y::done) (λx k=>hx x (List.mem_cons_of_mem _ k)) ((k1 p hp hps).trans hd) (λu hu k=>by rw[k1 u hu k];exact mx u hu k) h1
   exact⟨done',a,λx k=>(List.mem_cons.1 k).elim (λk=>by rw[k];exact c _ (List.mem_cons_self ..)) (b x),λx k=>c x (List.mem_cons_of_mem _ k)⟩
theorem fN{far:List Nat}{se:List Bool}:∀k:Nat,¬bc far se k<0->dI far se (bc far se k)/\∀v:Nat,v<k->dI far se v->gI far (bc far se k)<=gI far v
  |0,h=>absurd (show(-1:Int)<0 by decide) h
  |k+1,h=>by
    unfold bc at h ⊢
    by_cases c:gI se (k:Int)=false/\gI far (k:Int)<aJ/\(bc far se k<0\/gI far (k:Int)<gI far (bc far se k))
    · rw[if_pos c]
      refine⟨⟨c.1,c.2.1⟩,λv hv w=>?_⟩
      by_cases e:v=k
      · rw[e];exact Nat.le_refl _
      by_cases c3:bc far se k<0
      · exfalso
        have h1:∀k:Nat,bc far se k<0->∀v:Nat,v<k->¬dI far se v:=by
          intro k
          induction k with
          |zero=>intro _ v hv;omega
          |succ k ih=>
            intro h v hv w
            unfold bc at h
            split at h
            · omega
            · rename_i d
              by_cases e:v=k
              · subst e;exact d ⟨w.1,w.2,.inl h⟩
              · exact ih h v (by omega) w
        exact h1 k c3 v (by omega) w
      · obtain⟨_,i2⟩:=fN k c3
        have:=i2 v (by omega) w
        have:=c.2.2.resolve_left c3
        omega
    · rw[if_neg c] at h ⊢
      obtain⟨i1,i2⟩:=fN k h
      refine⟨i1,λv hv w=>?_⟩
      by_cases e:v=k
      · subst e
        rcases Nat.lt_or_ge (gI far (v:Int)) (gI far (bc far se v)) with d|d
        · exact absurd ⟨w.1,w.2,.inr d⟩ c
        · exact d
      · exact i2 v (by omega) w
theorem jW{far:List Nat}{se:List Bool}:∀k:Nat,bc far se k<0->∀v:Nat,v<k->¬dI far se v
 |0,_,v,hv=>by omega
 |k+1,h,v,hv=>by
   intro w
   unfold bc at h
   split at h
   · omega
   · rename_i d
     by_cases e:v=k
     · subst e;exact d ⟨w.1,w.2,.inl h⟩
     · exact jW k h v (by omega) w
theorem kV.settle(hm:bU g)(h:kV g ws s far by_ se rk n (-1) [])(hp:nd g p)(hpw:dI far se p)(mn:∀v,nd g v->dI far se v->gI far p<=gI far v):kV g ws s far by_ (se.set p.toNat true) (λv=>if v=p then n else rk v) (n+1) p []/\gI (se.set p.toNat true) p=true/\∀u,nd g u->gI (se.set p.toNat true) u=true->gI far u<=gI far p:=by
 have gs:∀v,0<=v->gI (se.set p.toNat true) v=if v=p then true else gI se v:=λv v0=>bX hp.1 (by have:=h.ls;have:=hp.2;omega) v0
 have hps:gI se p=false:=hpw.1
 refine⟨⟨h.lf,h.lb,by rw[List.length_set];exact h.ls,h.nn,h.s0,h.sb,λv hv k=>?_,h.rt,λy hy k1 k2=>?_,λu v hu hv k1 k2=>?_,λu hu k=>?_,λv hv k1 k2=>?_,λv hv k=>?_,?_⟩,by rw[gs p hp.1,if_pos rfl],λu hu k=>?_⟩
 · obtain⟨a1,a2,a3,a4,a5⟩:=h.tr v hv k
   refine⟨a1,a2,?_,a4,a5⟩
   rw[gs _ (cH hm a1.1 a1.2).1];split
   · rfl
   · exact a3
 · have hfy:=cH hm hy.1 hy.2
   by_cases c:aH g y=p
   · exact absurd (k2 c) (by simp)
   · rw[gs _ hfy.1,if_neg c] at k1
     exact h.rx y hy k1 (λk=>by have:=hfy.1;omega)
 · rw[gs u hu.1] at k1
   rw[gs v hv.1] at k2
   have c2:¬v=p:=by intro c;rw[if_pos c] at k2;cases k2
   rw[if_neg c2] at k2
   by_cases c:u=p
   · rw[c]
     rcases Nat.lt_or_ge (gI far v) aJ with d|d
     · exact mn v hv ⟨k2,d⟩
     · exact Nat.le_trans (h.nn p hp) d
   · rw[if_neg c] at k1
     exact h.sp u v hu hv k1 k2
 · rw[gs u hu.1] at k
   by_cases c:u=p
   · rw[c];exact hpw.2
   · rw[if_neg c] at k;exact h.sf u hu k
 · obtain⟨a1,a2,a3,a4,a5⟩:=h.tr v hv k2
   have hfv:=cH hm a1.1 a1.2
   have c1:¬aH g (gI by_ v)=p:=by intro c;rw[c,hps] at a3;cases a3
   show(if aH g (gI by_ v)=p then n else rk (aH g (gI by_ v)))<if v=p then n else rk v
   rw[if_neg c1]
   by_cases c:v=p
   · rw[if_pos c];exact h.rn _ hfv a3
   · rw[if_neg c]
     rw[gs v hv.1,if_neg c] at k1
     exact h.ro v hv k1 k2
 · show(if v=p then n else rk v)<n+1
   split
   · omega
   · rename_i c
     rw[gs v hv.1,if_neg c] at k
     have:=h.rn v hv k;omega
 · have:=fS (se:=se) (u:=p.toNat) (by have:=h.ls;have:=hp.2;have:=hp.1;omega) (by rw[Int.toNat_of_nonneg hp.1];exact hps)
   have:=h.cn
   omega
 · rw[gs u hu.1] at k
   by_cases c:u=p
   · rw[c];exact Nat.le_refl _
   · rw[if_neg c] at k
     exact h.sp u p hu hp k hps
structure qM(g:b6)(ws:List Nat)(s:Int)(far:List Nat)(by_:List Int)(rk:Int->Nat):Prop where
  lf:(far.length:Int)=g.1
  lb:(by_.length:Int)=g.1
  nn:∀v,nd g v->gI far v<=aJ
  s0:gI far s=0
  sb:gI by_ s= -1
  tr:∀v,nd g v->gI by_ v≠-1->hf g (gI by_ v)/\dc g (gI by_ v)=v/\gI far (aH g (gI by_ v))<aJ/\gI far v=aT (gI far (aH g (gI by_ v))) (zw ws (gI by_ v))/\gI far v<aJ/\rk (aH g (gI by_ v))<rk v
  rt:∀v,nd g v->gI by_ v= -1->v=s\/gI far v=aJ
  rx:∀h,hf g h->gI far (aH g h)<aJ->zw ws h=aJ\/gI far (dc g h)<=aT (gI far (aH g h)) (zw ws h)
  rn:∀v,nd g v->gI far v<aJ->rk v<g.1.toNat
theorem qw(hm:bU g)(hw:∀x∈ws,ef x)(hl:ws.length=g.2.length):∀(f:Nat) (far:List Nat) (by_:List Int) (se:List Bool) (rk:Int->Nat) (n:Nat),dz se<=f->kV g ws s far by_ se rk n (-1) []->∃rk',qM g ws s (gx g ws f (far,by_) se).1 (gx g ws f (far,by_) se).2 rk':=by
 have fin:∀(far:List Nat) (by_:List Int) (se:List Bool) (rk:Int->Nat) (n:Nat),kV g ws s far by_ se rk n (-1) []->(∀v:Nat,v<g.1.toNat->¬dI far se v)->qM g ws s far by_ rk:=by
   intro far by_ se rk n h nw
   have st:∀v,nd g v->gI far v<aJ->gI se v=true:=by
     intro v hv k
     cases hc:gI se v with
     |true=>rfl
     |false=>
       obtain⟨u,hu⟩:∃u:Nat,v=u:=⟨v.toNat,by have:=hv.1;omega⟩
       exact absurd (show dI far se u from⟨by rw[<-hu];exact hc,by rw[<-hu];exact k⟩) (nw u (by have:=hv.2;omega))
   refine⟨h.lf,h.lb,h.nn,h.s0,h.sb,λv hv k=>?_,h.rt,λy hy k=>?_,λv hv k=>?_⟩
   · obtain⟨a1,a2,a3,a4,a5⟩:=h.tr v hv k
     exact⟨a1,a2,h.sf _ (cH hm a1.1 a1.2) a3,a4,a5,h.ro v hv (st v hv a5) k⟩
   · have hfy:=cH hm hy.1 hy.2
     exact h.rx y hy (st _ hfy k) (λk=>by have:=hfy.1;omega)
   · have:=h.rn v hv (st v hv k)
     have:=h.cn;omega
 intro f
 induction f with
 |zero=>
   intro far by_ se rk n hu h
   refine⟨rk,fin far by_ se rk n h (λv hv w=>?_)⟩
   have:=h.ls
   have:=fS (by omega) w.1
   omega
 |succ f ih=>
   intro far by_ se rk n hu h
   unfold gx
   by_cases c:bc (far,by_).1 se g.1.toNat<0
   · rw[if_pos c]
     exact⟨rk,fin far by_ se rk n h (jW _ c)⟩
   · rw[if_neg c]
     show∃rk',qM g ws s (gx g ws f (d5 g ws (gI far (bc far se g.1.toNat)) (gI (ab g) (bc far se g.1.toNat)) (far,by_)) (se.set (bc far se g.1.toNat).toNat true)).1 _ rk'
     change¬bc far se g.1.toNat<0 at c
     obtain⟨w,mn⟩:=fN _ c
     have hlt:=fO far se g.1.toNat
     obtain⟨p,ep⟩:∃p,p=bc far se g.1.toNat:=⟨_,rfl⟩
     rw[<-ep] at c w mn hlt ⊢
     have hp:nd g p:=⟨by omega,by have:=hm.1;omega⟩
     obtain⟨h1,h2,h3⟩:=h.settle hm hp w (λv hv k=>by
       have:=mn v.toNat (by have:=hv.1;have:=hv.2;omega)
       rw[Int.toNat_of_nonneg hv.1] at this
       exact this k)
     obtain⟨done',a,b,_⟩:=iH hm hw hl (d:=gI far p) hp h2 (gI (ab g) p) far by_ [] (λx hx=>by
       obtain⟨k,hk,e⟩:=List.mem_iff_getElem.1 hx
       have:=ib hm hp.1 hp.2 (k:=k) (by omega)
       have e2:gI (gI (ab g) p) (k:Int)=x:=by
         rw[<-e]
         generalize gI (ab g) p=L at hk
         simp[gI,hk]
       rw[e2] at this
       exact⟨⟨this.1,this.2.1⟩,this.2.2⟩) rfl h3 h1
     refine ih _ _ _ (λv=>if v=p then n else rk v) (n+1) ?_ {a with rx:=λy hy k1 _=>a.rx y hy k1 (λk=>b y ?_)}
     · have:=fS (se:=se) (u:=p.toNat) (by have:=h.ls;have:=hp.2;omega) (by rw[Int.toNat_of_nonneg hp.1];exact w.1)
       omega
     · rw[gW hp.1 hp.2]
       unfold jQ eI
       refine List.mem_filter.2 ⟨List.mem_map.2 ⟨y.toNat,List.mem_range.2 (by have:=hy.1;have:=hy.2;omega),Int.toNat_of_nonneg hy.1⟩,decide_eq_true k⟩
theorem oB(hm:bU g)(hw:∀x∈ws,ef x)(hl:ws.length=g.2.length)(hs:nd g s):∃rk,qM g ws s (fa g ws s).1 (fa g ws s).2 rk:=by
 unfold fa
 exact qw hm hw hl g.1.toNat (cq g.1.toNat s).1 (cq g.1.toNat s).2 _ _ 0 (by unfold dz;rw[List.count_replicate];simp) (kV.start hm hs)
end TL
/-
  TlDij2: the ways that lead back: their halves follow one another, and their weights come to the length that is told; no half-edge leads nearer.
  By an AI agent.
-/
set_option linter.all false
namespace TL
variable{g:b6}{ws:List Nat}{s:Int}{far:List Nat}{by_:List Int}{rk:Int->Nat}
theorem pJ{g:b6}{ws:List Nat}{s:Int}(h:(aj g ws s).2=0):bU g/\ws.length=g.2.length/\(∀x∈ws,ef x)/\nd g s/\∃rk,qM g ws s (aj g ws s).1.1 (aj g ws s).1.2 rk:=by
  by_cases c:ci g ws=0
  · by_cases c2:0<=s/\s<g.1
    · obtain⟨m,l,w⟩:=mb c
      rw[gp c c2] at h ⊢
      exact⟨m,l,w,c2,oB m w l c2⟩
    · rw[dM c c2] at h;exact absurd h (by decide)
  · rw[gj c] at h;exact absurd h c
theorem mT{g:b6}{ws:List Nat}{s:Int}(h:¬(aj g ws s).2=0):(aj g ws s).1=([],[]):=by
 by_cases c:ci g ws=0
 · by_cases c2:0<=s/\s<g.1
   · rw[gp c c2] at h;exact absurd rfl h
   · rw[dM c c2]
 · rw[gj c]
theorem qM.byin(E:qM g ws s far by_ rk)(hm:bU g):∀x∈by_,k6 x:=by
 intro x hx
 obtain⟨i,hi,e⟩:=List.mem_iff_getElem.1 hx
 have hv:nd g (i:Int):=⟨by omega,by have:=E.lb;omega⟩
 have e2:gI by_ (i:Int)=x:=by rw[<-e];simp[gI,hi]
 by_cases c:gI by_ (i:Int)= -1
 · rw[<-e2,c];decide
 · have:=(E.tr _ hv c).1
   rw[e2] at this
   obtain⟨_,_,m3,_⟩:=hm
   unfold k6;omega
end TL
namespace TL
variable{g:b6}{ws:List Nat}{s:Int}{far:List Nat}{by_:List Int}{rk:Int->Nat}
theorem mI(h:¬(aj g ws s).2=0):(aj g ws s).1.1=[]/\(aj g ws s).1.2=[]:=by rw[mT h];exact⟨rfl,rfl⟩
end TL
namespace TL
variable{g:b6}{ws:List Nat}{s:Int}{rk:Int->Nat}{x:FS}
end TL
/-
  TlCyc: lists gone round: what stands behind what; rotations turned, and moved.
  By an AI agent.
-/
set_option linter.all false
namespace TL
def sw(l:List Int)(h:Int):Int:=gI l ((((l.idxOf h:Nat):Int)+1)%(l.length:Int))
section
variable{g:b6}{r:fK}{to:List Int}
end
end TL
/-
  TlOrb: going round by a permutation; two places changed; what that does to the numbers of rounds.
  By an AI agent.
-/
set_option linter.all false
namespace TL
def tr(a b x:Int):Int:=if x=a then b else if x=b then a else x
end TL
/-
  TlEul: Euler's count of a rotation.
  By an AI agent.
-/
set_option linter.all false
namespace TL
def cy(r:fK)(x:Int):Int:=match r.find? (λl=>decide (x∈l)) with
  |some l=>sw l x
  |none=>x
end TL
/-
  TlFaces: faces: each half-edge on one, the least ahead, each right behind the twin of the one ahead; and the mirror's faces.
  By an AI agent.
-/
set_option linter.all false
namespace TL
theorem k5(n:Nat):(bz n).Pairwise (· < ·):=by
 unfold bz
 rw[List.pairwise_map]
 exact List.pairwise_lt_range.imp (λh=>by omega)
section
variable{g:b6}{r:fK}
end
end TL
/-
  TlKru: edges of the least weight that join all that is joined (package path's Least): Kruskal's way by labels, and a forest of parents that agrees with the labels.
  By an AI agent.
-/
set_option linter.all false
namespace TL
def jw(ws:List Nat)(i:Int):Pl:=(zf (gI ws i),i)
def fX(ws:List Nat)(i k:Int):Prop:=cz (jw ws i) (jw ws k)
instance (ws:List Nat)(i k:Int):Decidable (fX ws i k):=by unfold fX;infer_instance
def mB(ws:List Nat)(i k:Int):Int:=if fX ws i k then-1 else if fX ws k i then 1 else 0
theorem fy(ws:List Nat)(i:Int):¬fX ws i i:=dY _
theorem nV{ws:List Nat}{i j k:Int}(h:fX ws i j)(h2:fX ws j k):fX ws i k:=by unfold fX cz jw at*;omega
theorem kQ{ws:List Nat}{i j:Int}(h:¬fX ws i j)(h2:¬fX ws j i):i=j:=by
 have:=pL h h2
 exact congrArg Prod.snd this
theorem r5{ws:List Nat}{i j:Int}(h:fX ws i j):¬fX ws j i:=hG h
def j8(ws:List Nat)(x:Int):List Int->List Int
 |[]=>[x]
 |y::l=>if fX ws x y then x::y::l else y::j8 ws x l
def aS(ws:List Nat):List Int:=(bz ws.length).foldr (j8 ws) []
def jY(ws:List Nat)(l:List Int):Prop:=l.Pairwise λx y=>¬fX ws y x
theorem ga(ws:List Nat)(x:Int):∀l,(j8 ws x l).Perm (x::l)
 |[]=>List.Perm.refl _
 |y::l=>by
   unfold j8;split
   · exact List.Perm.refl _
   · exact((ga ws x l).cons y).trans (List.Perm.swap x y l)
theorem jV{ws:List Nat}{x:Int}:∀{l},jY ws l->jY ws (j8 ws x l)
 |[],_=>by unfold j8 jY;simp
 |y::l,h=>by
   unfold jY at h ⊢
   obtain⟨h1,h2⟩:=List.pairwise_cons.1 h
   unfold j8;split
   · rename_i c
     refine List.pairwise_cons.2 ⟨λz hz=>?_,h⟩
     rcases List.mem_cons.1 hz with e|e
     · rw[e];exact r5 c
     · intro k;exact h1 z e (nV k c)
   · rename_i c
     refine List.pairwise_cons.2 ⟨λz hz=>?_,jV h2⟩
     rcases List.mem_cons.1 ((ga ws x l).mem_iff.1 hz) with e|e
     · rw[e];exact c
     · exact h1 z e
theorem gL(ws:List Nat):∀l:List Int,(l.foldr (j8 ws) []).Perm l/\jY ws (l.foldr (j8 ws) [])
 |[]=>⟨List.Perm.refl _,List.Pairwise.nil⟩
 |x::l=>⟨(ga ws x _).trans ((gL ws l).1.cons x),jV (gL ws l).2⟩
theorem fL(ws:List Nat):(aS ws).Perm (bz ws.length):=(gL ws _).1
theorem lB(ws:List Nat):jY ws (aS ws):=(gL ws _).2
theorem q5{ws:List Nat}{l:List Int}(hp:l.Perm (bz ws.length))(hs:jY ws l):l=aS ws:=
 (hp.trans (fL ws).symm).eq_of_pairwise (λa b _ _ h1 h2=>kQ h2 h1) hs (lB ws)
theorem eS(ws:List Nat):(aS ws).length=ws.length:=by rw[(fL ws).length_eq,d9]
theorem fG{ws:List Nat}{i:Int}:i∈aS ws↔0<=i/\i<(ws.length:Int):=by rw[(fL ws).mem_iff,fF]
theorem iG(ws:List Nat):(aS ws).Nodup:=(fL ws).nodup_iff.2 (gS _)
-- by labels
def fU(c:List Int)(a b:Int):List Int:=c.map λx=>if x=b then a else x
def kb(g:b6)(s:List Int×List Int)(i:Int):List Int×List Int:=
 if gI s.1 (gI g.2 i).1=gI s.1 (gI g.2 i).2 then s else(fU s.1 (gI s.1 (gI g.2 i).1) (gI s.1 (gI g.2 i).2),s.2++[i])
def cY(g:b6)(l:List Int):List Int×List Int:=l.foldl (kb g) (bz g.1.toNat,[])
def bv(g:b6)(ws:List Nat):List Int:=(bz g.2.length).filter λi=>decide (i∈(cY g (aS ws)).2)
def fT(ws:List Nat)(l:List Int):Nat:=l.foldl (λs i=>aT s (zf (gI ws i))) 0
def ax(g:b6)(ws:List Nat):List Int×Nat×Int:=if ci g ws=0 then(bv g ws,fT ws (bv g ws),0) else([],0,ci g ws)
theorem eH(g:b6)(l:List Int)(i:Int):cY g (l++[i])=kb g (cY g l) i:=by unfold cY;rw[List.foldl_append];rfl
theorem ji(g:b6):∀(n:Nat) (l:List Int),l.length=n->(cY g l).2.Sublist l
 |0,l,h=>by rw[List.length_eq_zero_iff.1 h];exact List.Sublist.refl _
 |n+1,l,h=>by
   obtain⟨t,i,rfl⟩:∃t i,l=t++[i]:=⟨l.dropLast,l.getLast (by intro e;rw[e] at h;cases h),(List.dropLast_concat_getLast _).symm⟩
   have ih:=ji g n t (by simpa using h)
   rw[eH]
   unfold kb;split
   · exact ih.trans (List.sublist_append_left ..)
   · exact ih.append (List.Sublist.refl _)
theorem jG{c:List Int}{a b v:Int}(v0:0<=v)(v1:v<(c.length:Int)):gI (fU c a b) v=if gI c v=b then a else gI c v:=qY _ v0 v1
structure UF(n:Int)(of c:List Int)(rho:Int->Nat):Prop where
  lo:(of.length:Int)=n
  lc:(c.length:Int)=n
  rg:∀v,0<=v->v<n->0<=gI of v/\gI of v<n
  dn:∀v,0<=v->v<n->gI of v≠v->rho (gI of v)<rho v
  lb:∀v,0<=v->v<n->gI c (gI of v)=gI c v
  uq:∀r s,0<=r->r<n->0<=s->s<n->gI of r=r->gI of s=s->gI c r=gI c s->r=s
def qp(n:Int)(of c:List Int):Prop:=∃rho,UF n of c rho
theorem UF.start{n:Int}(h:0<=n):UF n (bz n.toNat) (bz n.toNat) (λ_=>0):=by
 have e:∀v,0<=v->v<n->gI (bz n.toNat) v=v:=λv h0 h1=>pv h0 (by omega)
 refine⟨by rw[d9];omega,by rw[d9];omega,λv h0 h1=>by rw[e v h0 h1];exact⟨h0,h1⟩,λv h0 h1 h2=>absurd (e v h0 h1) h2,λv h0 h1=>by rw[e v h0 h1,e v h0 h1],λr s r0 r1 s0 s1 _ _ k=>?_⟩
 rw[e r r0 r1,e s s0 s1] at k;exact k
structure mA(n:Int)(of0 of c:List Int)(rho:Int->Nat)(v0 v:Int):Prop where
 kp:∀r,0<=r->r<n->gI of0 r=r->gI of r=r
 u:UF n of c rho
 lo:0<=v
 hi:v<n
 eq:gI c v=gI c v0
structure jF(n:Int)(of0 of c:List Int)(v0 r:Int):Prop where
 kp:∀r,0<=r->r<n->gI of0 r=r->gI of r=r
 u:qp n of c
 lo:0<=r
 hi:r<n
 rt:gI of r=r
 eq:gI c r=gI c v0
variable{n:Int}{of0 of c:List Int}{rho:Int->Nat}{v v0:Int}
theorem mA.start(h:UF n of c rho)(h0:0<=v)(h1:v<n):mA n of of c rho v v:=⟨λ_ _ _ h=>h,h,h0,h1,rfl⟩
theorem mA.fin(h:mA n of0 of c rho v0 v)(e:gI of v=v):jF n of0 of c v0 v:=⟨h.kp,⟨rho,h.u⟩,h.lo,h.hi,e,h.eq⟩
theorem mA.rg(h:mA n of0 of c rho v0 v):(0<=gI of v/\gI of v<n)/\0<=gI of (gI of v)/\gI of (gI of v)<n:=by
 obtain⟨a,b⟩:=h.u.rg v h.lo h.hi
 exact⟨⟨a,b⟩,h.u.rg _ a b⟩
theorem mA.next(h:mA n of0 of c rho v0 v)(hv:¬gI of v=v):mA n of0 (of.set v.toNat (gI of (gI of v))) c rho v0 (gI (of.set v.toNat (gI of (gI of v))) v)/\rho (gI (of.set v.toNat (gI of (gI of v))) v)<rho v:=by
 have lo:=h.lo
 have hi:=h.hi
 have ll:=h.u.lo
 obtain⟨⟨a,b⟩,a2,b2⟩:=h.rg
 have d1:=h.u.dn v lo hi hv
 have d2:gI of (gI of v)≠v:=by
   intro e
   by_cases k:gI of (gI of v)=gI of v
   · exact hv (k.symm.trans e)
   · have:=h.u.dn _ a b k
     rw[e] at this;omega
 have d3:rho (gI of (gI of v))<rho v:=by
   by_cases k:gI of (gI of v)=gI of v
   · rw[k];exact d1
   · have:=h.u.dn _ a b k;omega
 have gs:∀u,0<=u->gI (of.set v.toNat (gI of (gI of v))) u=if u=v then gI of (gI of v) else gI of u:=λu u0=>bX lo (by omega) u0
 have e0:gI (of.set v.toNat (gI of (gI of v))) v=gI of (gI of v):=by rw[gs v lo,if_pos rfl]
 have l1:gI c (gI of (gI of v))=gI c v:=by rw[h.u.lb _ a b,h.u.lb v lo hi]
 rw[e0]
 refine⟨⟨λr r0 r1 hr=>?_,⟨by rw[List.length_set];exact ll,h.u.lc,λu u0 u1=>?_,λu u0 u1 hu=>?_,λu u0 u1=>?_,λr s r0 r1 s0 s1 hr hs k=>?_⟩,a2,b2,by rw[l1];exact h.eq⟩,d3⟩
 · have:=h.kp r r0 r1 hr
   rw[gs r r0,if_neg (λe=>hv (by rw[<-e];exact this))]
   exact this
 · rw[gs u u0];split
   · exact⟨a2,b2⟩
   · exact h.u.rg u u0 u1
 · rw[gs u u0] at hu ⊢
   split
   · rename_i e;rw[e];exact d3
   · rename_i e;rw[if_neg e] at hu;exact h.u.dn u u0 u1 hu
 · rw[gs u u0];split
   · rename_i e;rw[e];exact l1
   · exact h.u.lb u u0 u1
 · rw[gs r r0] at hr
   rw[gs s s0] at hs
   have r':gI of r=r:=by
     split at hr
     · rename_i e;rw[e] at hr;exact absurd hr d2
     · exact hr
   have s':gI of s=s:=by
     split at hs
     · rename_i e;rw[e] at hs;exact absurd hs d2
     · exact hs
   exact h.u.uq r s r0 r1 s0 s1 r' s' k
theorem qp.join{a b:Int}(h:qp n of c)(a0:0<=a)(a1:a<n)(b0:0<=b)(b1:b<n)(ha:gI of a=a)(hb:gI of b=b)(hab:¬a=b):qp n (of.set a.toNat b) (fU c (gI c a) (gI c b)):=by
  obtain⟨rho,u⟩:=h
  have ll:=u.lo
  have lc:=u.lc
  have gs:∀u,0<=u->gI (of.set a.toNat b) u=if u=a then b else gI of u:=λu u0=>bX a0 (by omega) u0
  have gr:∀v,0<=v->v<n->gI (fU c (gI c a) (gI c b)) v=if gI c v=gI c b then gI c a else gI c v:=λv v0 v1=>jG v0 (by omega)
  have hne:gI c a≠gI c b:=λe=>hab (u.uq a b a0 a1 b0 b1 ha hb e)
  refine⟨λv=>if gI c v=gI c a then rho v+rho b+1 else rho v,⟨by rw[List.length_set];exact ll,by unfold fU;rw[List.length_map];exact lc,λv v0 v1=>?_,λv v0 v1 hv=>?_,λv v0 v1=>?_,λr s r0 r1 s0 s1 hr hs k=>?_⟩⟩
  · rw[gs v v0];split
    · exact⟨b0,b1⟩
    · exact u.rg v v0 v1
  · rw[gs v v0] at hv ⊢
    by_cases e:v=a
    · rw[if_pos e]
      rw[if_neg (λk=>hne k.symm),e,if_pos rfl];omega
    · rw[if_neg e] at hv ⊢
      have:=u.dn v v0 v1 hv
      rw[u.lb v v0 v1]
      split<;>omega
  · rw[gs v v0,gr v v0 v1]
    by_cases e:v=a
    · rw[if_pos e,gr b b0 b1,if_pos rfl,e]
      split<;>rfl
    · rw[if_neg e]
      obtain⟨k0,k1⟩:=u.rg v v0 v1
      rw[gr _ k0 k1,u.lb v v0 v1]
  · rw[gs r r0] at hr
    rw[gs s s0] at hs
    rw[gr r r0 r1,gr s s0 s1] at k
    have ra:¬r=a:=λe=>by rw[if_pos e] at hr;exact hab (e.symm.trans hr.symm)
    have sa:¬s=a:=λe=>by rw[if_pos e] at hs;exact hab (e.symm.trans hs.symm)
    rw[if_neg ra] at hr
    rw[if_neg sa] at hs
    by_cases c1:gI c r=gI c b
    · have e1:=u.uq r b r0 r1 b0 b1 hr hb c1
      by_cases c2:gI c s=gI c b
      · rw[e1,u.uq s b s0 s1 b0 b1 hs hb c2]
      · rw[if_pos c1,if_neg c2] at k
        exact absurd (u.uq s a s0 s1 a0 a1 hs ha k.symm) sa
    · rw[if_neg c1] at k
      by_cases c2:gI c s=gI c b
      · rw[if_pos c2] at k
        exact absurd (u.uq r a r0 r1 a0 a1 hr ha k) ra
      · rw[if_neg c2] at k
        exact u.uq r s r0 r1 s0 s1 hr hs k
end TL
namespace TL
structure jp(g:b6)(ws:List Nat)(of l:List Int)(k:Nat):Prop where
  u:qp g.1 of (cY g ((aS ws).take k)).1
  eq:l=(cY g ((aS ws).take k)).2
variable{g:b6}{ws:List Nat}{of l:List Int}{k:Nat}
theorem jp.start(hm:bU g){f0:List Int}(e:f0=bz g.1.toNat):jp g ws f0 [] 0:=⟨⟨_,by rw[e];exact UF.start hm.1⟩,rfl⟩
theorem jp.lab(h:jp g ws of l k):∃c,c=(cY g ((aS ws).take k)).1/\qp g.1 of c:=⟨_,rfl,h.u⟩
theorem jp.ll(h:jp g ws of l k):l.length<=k:=by
 rw[h.eq]
 have:=(ji g _ ((aS ws).take k) rfl).length_le
 rw[List.length_take] at this
 omega
theorem eT{α:Type}[Inhabited α]{xs:List α}{k:Nat}(h:(k:Int)<xs.length):xs.take (k+1)=xs.take k++[gI xs (k:Int)]:=by
 have hk:k<xs.length:=by omega
 rw[List.take_succ_eq_append_getElem hk]
 simp[gI,hk]
theorem jp.same{of1 of2 c:List Int}{i a b:Int}(h:jp g ws of l k)(hk:(k:Int)<(aS ws).length)(hc:c=(cY g ((aS ws).take k)).1)(hi:gI (aS ws) (k:Int)=i)(h1:jF g.1 of of1 c (gI g.2 i).1 a)(h2:jF g.1 of1 of2 c (gI g.2 i).2 b)(e:a=b):jp g ws of2 l (k+1):=by
 subst e
 have e1:gI c (gI g.2 i).1=gI c (gI g.2 i).2:=h1.eq.symm.trans h2.eq
 have e2:cY g ((aS ws).take (k+1))=cY g ((aS ws).take k):=by
   rw[eT hk,eH,hi]
   unfold kb
   rw[<-hc,if_pos e1]
 refine⟨by rw[e2,<-hc];exact h2.u,by rw[e2];exact h.eq⟩
theorem jp.join{of1 of2 c:List Int}{i a b:Int}(h:jp g ws of l k)(hk:(k:Int)<(aS ws).length)(hc:c=(cY g ((aS ws).take k)).1)(hi:gI (aS ws) (k:Int)=i)(h1:jF g.1 of of1 c (gI g.2 i).1 a)(h2:jF g.1 of1 of2 c (gI g.2 i).2 b)(e:¬a=b):jp g ws (of2.set a.toNat b) (l++[i]) (k+1):=by
 have ra:=h2.kp a h1.lo h1.hi h1.rt
 have e1:¬gI c (gI g.2 i).1=gI c (gI g.2 i).2:=by
   intro k
   obtain⟨rho,u⟩:=h2.u
   exact e (u.uq a b h1.lo h1.hi h2.lo h2.hi ra h2.rt (h1.eq.trans (k.trans h2.eq.symm)))
 have e2:cY g ((aS ws).take (k+1))=(fU c (gI c (gI g.2 i).1) (gI c (gI g.2 i).2),l++[i]):=by
   rw[eT hk,eH,hi]
   unfold kb
   rw[<-hc,if_neg e1,<-h.eq]
 refine⟨?_,by rw[e2]⟩
 rw[e2]
 have:=h2.u.join h1.lo h1.hi h2.lo h2.hi ra h2.rt e
 rw[h1.eq,h2.eq] at this
 exact this
theorem jp.done(h:jp g ws of l k)(hk:¬(k:Int)<(aS ws).length):l=(cY g (aS ws)).2:=by
 have:=h.eq
 rw[List.take_of_length_le (by omega)] at this
 exact this
theorem lZ(hw:ws.length=g.2.length)(hl:l=(cY g (aS ws)).2):(l.mergeSort λx y=>decide (x<=y))=bv g ws:=by
 have hsub:=ji g _ (aS ws) rfl
 rw[<-hl] at hsub
 have hnd:l.Nodup:=hsub.nodup (iG ws)
 have htn:(bv g ws).Nodup:=(List.filter_sublist).nodup (gS _)
 have hp:l.Perm (bv g ws):=by
   rw[List.perm_ext_iff_of_nodup hnd htn]
   intro x
   unfold bv
   rw[List.mem_filter,<-hl]
   constructor
   · intro hx
     have:=fG.1 (hsub.subset hx)
     exact⟨fF.2 (by omega),decide_eq_true hx⟩
   · intro hx;exact of_decide_eq_true hx.2
 have hs:(bv g ws).Pairwise (· <= ·):=by
   unfold bv
   exact(((k5 g.2.length).imp (λh=>Int.le_of_lt h)).sublist List.filter_sublist)
 refine List.Perm.eq_of_pairwise (le:=(· <= ·)) (λa b _ _ h1 h2=>Int.le_antisymm h1 h2) ?_ hs ((List.mergeSort_perm _ _).trans hp)
 have:=List.pairwise_mergeSort (le:=λx y:Int=>decide (x<=y)) (λa b c h1 h2=>decide_eq_true (Int.le_trans (of_decide_eq_true h1) (of_decide_eq_true h2))) (λa b=>by
   rcases Int.le_total a b with h|h
   · simp[h]
   · simp[h]) l
 exact this.imp (λh=>of_decide_eq_true h)
theorem ly(hi:(k:Int)<(bv g ws).length):0<=gI (bv g ws) (k:Int)/\gI (bv g ws) (k:Int)<(g.2.length:Int):=by
 have h1:=bu (xs:=bv g ws) (i:=(k:Int)) (by omega) hi
 unfold bv at h1
 have:=fF.1 (List.mem_filter.1 h1).1
 unfold bv;exact this
theorem m5{l:List Int}{s:Nat}(h:s=fT ws (l.take k))(hk:(k:Int)<l.length):aT s (zf (gI ws (gI l (k:Int))))=fT ws (l.take (k+1)):=by
 rw[eT hk,h];unfold fT;rw[List.foldl_append];rfl
theorem gU{xs:List Int}{n k:Nat}(h:xs=bz k++List.replicate (n-k) 0)(hk:k<n):xs.set (Int.toNat (k:Int)) (k:Int)=bz (k+1)++List.replicate (n-(k+1)) 0:=by
 rw[h,Int.toNat_natCast,eW,List.set_append_right _ _ (by rw[d9];exact Nat.le_refl _),d9,Nat.sub_self]
 rw[show n-k=(n-(k+1))+1 by omega,List.replicate_succ]
 simp
end TL
namespace TL
theorem s9{ws:List Nat}{i k:Int}(h:decide (zf (gI ws i)<zf (gI ws k))=true):mB ws i k= -1:=by
 unfold mB;rw[if_pos (.inl (of_decide_eq_true h))]
theorem s6{ws:List Nat}{i k:Int}(h:¬decide (zf (gI ws i)<zf (gI ws k))=true)(h2:decide (zf (gI ws k)<zf (gI ws i))=true):mB ws i k=1:=by
 have h1:=of_decide_eq_true h2
 unfold mB
 rw[if_neg,if_pos (.inl h1)]
 intro c
 unfold fX cz jw at c
 simp only at c
 omega
theorem rX{ws:List Nat}{i k:Int}(h:¬decide (zf (gI ws i)<zf (gI ws k))=true)(h2:¬decide (zf (gI ws k)<zf (gI ws i))=true):mB ws i k=if i<k then-1 else if k<i then 1 else 0:=by
 have h1:¬zf (gI ws i)<zf (gI ws k):=λc=>h (decide_eq_true c)
 have h3:¬zf (gI ws k)<zf (gI ws i):=λc=>h2 (decide_eq_true c)
 have e1:fX ws i k↔i<k:=by unfold fX cz jw;simp only;omega
 have e2:fX ws k i↔k<i:=by unfold fX cz jw;simp only;omega
 unfold mB
 simp only[e1,e2]
end TL
namespace TL
theorem j5{xs:List Int}{n k:Nat}(h:xs=bz k++List.replicate (n-k) 0)(hk:k<=n):xs.length=n:=by
 rw[h,List.length_append,d9,List.length_replicate];omega
theorem ia{xs:List Int}{n k:Nat}(h:xs=bz k++List.replicate (n-k) 0)(hk:k=n):xs=bz n:=by
 rw[h,hk,Nat.sub_self];simp
theorem lk{g:b6}{ws:List Nat}{j:Nat}(hw:∀x∈ws,ef x)(hl:ws.length=g.2.length)(hj:(j:Int)<(bv g ws).length):ef (gI ws (gI (bv g ws) (j:Int))):=by
 obtain⟨a,b⟩:=ly (ws:=ws) (g:=g) hj
 exact hw _ (bu a (by omega))
theorem eX{g:b6}{ws:List Nat}(h:¬ci g ws=0):ax g ws=([],0,ci g ws):=by unfold ax;rw[if_neg h]
theorem eR{g:b6}{ws:List Nat}(h:ci g ws=0):ax g ws=(bv g ws,fT ws (bv g ws),0):=by unfold ax;rw[if_pos h]
theorem nO{ws:List Nat}{l:List Int}{s j:Nat}(h:s=fT ws (l.take j))(hj:¬(j:Int)<l.length):s=fT ws l:=by
 rw[h,List.take_of_length_le (by omega)]
end TL
/-
  TlRef7: the document's own From, step by step: the pick of the nearest, and one node's half-edges.
  By an AI agent.
-/
set_option linter.all false
namespace TL
variable{g:b6}{ws:List Nat}{s:Int}{far far2:List Nat}{by_ by2:List Int}{se:List Bool}{v:Int}{k:Nat}
theorem gC{l:List Nat}(h:∀x∈l,x<=aJ)(i:Int):gI l i<=aJ:=by
 unfold gI
 rw[List.getD_eq_getElem?_getD]
 by_cases c:i.toNat<l.length
 · rw[List.getElem?_eq_getElem c];exact h _ (List.getElem_mem c)
 · rw[List.getElem?_eq_none (by omega)];exact Nat.zero_le _
structure n3(g:b6)(ws:List Nat)(s:Int)(far:List Nat)(by_:List Int)(se:List Bool):Prop where
 lf:(far.length:Int)=g.1
 lb:(by_.length:Int)=g.1
 ls:(se.length:Int)=g.1
 nn:∀x∈far,x<=aJ
 res:∃f,dz se<=f/\gx g ws f (far,by_) se=fa g ws s
theorem n3.of(h:WI g ws s [(0,s)] far by_ se):n3 g ws s far by_ se:=⟨h.h.lf,h.h.lb,h.h.ls,h.h.nn,h.res⟩
theorem jz{u:Nat}(hv:v=bc far se u)(h1:¬gI se (u:Int)=true)(h2:gI far (u:Int)<aJ)(h3:v<0\/gI far (u:Int)<gI far v):(u:Int)=bc far se (u+1):=by
 conv=>rhs;unfold bc
 rw[if_pos ⟨by simpa using h1,h2,by rw[<-hv];exact h3⟩]
theorem iU{u:Nat}(hv:v=bc far se u)(h:gI se (u:Int)=true\/¬gI far (u:Int)<aJ\/(¬v<0/\¬gI far (u:Int)<gI far v)):v=bc far se (u+1):=by
 conv=>rhs;unfold bc
 rw[if_neg,<-hv]
 rintro⟨a,b,c⟩
 rw[<-hv] at c
 rcases h with h|h|h
 · rw[a] at h;cases h
 · exact h b
 · rcases c with c|c
   · exact h.1 c
   · exact h.2 c
theorem n3.done(h:n3 g ws s far by_ se)(hv:v=bc far se g.1.toNat)(hn:v<0):(far,by_)=fa g ws s:=by
 obtain⟨f,_,e⟩:=h.res
 rw[<-e]
 cases f with
 |zero=>rfl
 |succ f=>unfold gx;rw[if_pos (by show bc far se g.1.toNat<0;rw[<-hv];exact hn)]
structure k8(g:b6)(ws:List Nat)(far:List Nat)(by_:List Int)(v:Int)(far2:List Nat)(by2:List Int)(k:Nat):Prop where
 eq:(far2,by2)=d5 g ws (gI far v) ((gI (ab g) v).take k) (far,by_)
 lf:(far2.length:Int)=g.1
 lb:(by2.length:Int)=g.1
 nn:∀x∈far2,x<=aJ
 fv:gI far2 v=gI far v
theorem n3.row(h:n3 g ws s far by_ se):k8 g ws far by_ v far by_ 0:=⟨by rw[List.take_zero];rfl,h.lf,h.lb,h.nn,rfl⟩
theorem i6(hk:(k:Int)<(gI (ab g) v).length)(d:Nat)(t:FS):d5 g ws d ((gI (ab g) v).take (k+1)) t=c5 g ws d (d5 g ws d ((gI (ab g) v).take k) t) (gI (gI (ab g) v) (k:Int)):=by
 have hk':k<(gI (ab g) v).length:=by omega
 rw[List.take_succ_eq_append_getElem hk']
 unfold d5
 rw[List.foldl_append]
 have e:gI (gI (ab g) v) (k:Int)=(gI (ab g) v)[k]:=by
   generalize gI (ab g) v=L at hk'
   simp[gI,hk']
 rw[e];rfl
theorem k8.inf(h:k8 g ws far by_ v far2 by2 k)(hk:(k:Int)<(gI (ab g) v).length)(e:zf (gI ws (gI (gI (ab g) v) (k:Int)/2))=aJ):k8 g ws far by_ v far2 by2 (k+1):=
 {h with eq:=by rw[i6 hk,<-h.eq];unfold c5;rw[if_pos e]}
theorem k8.no(h:k8 g ws far by_ v far2 by2 k)(hk:(k:Int)<(gI (ab g) v).length)(e:¬aT (gI far2 v) (zf (gI ws (gI (gI (ab g) v) (k:Int)/2)))<gI far2 (dc g (gI (gI (ab g) v) (k:Int)))):k8 g ws far by_ v far2 by2 (k+1):=
 ⟨(by
     rw[i6 hk,<-h.eq]
     rw[h.fv] at e
     unfold c5
     by_cases c:zf (gI ws (gI (gI (ab g) v) (k:Int)/2))=aJ
     · rw[if_pos c]
     · rw[if_neg c,if_neg e]),h.lf,h.lb,h.nn,h.fv⟩
theorem k8.yes(h:k8 g ws far by_ v far2 by2 k)(hk:(k:Int)<(gI (ab g) v).length){x:Nat}{hh t:Int}(ehh:gI (gI (ab g) v) (k:Int)=hh)(et:dc g hh=t)(ex:aT (gI far2 v) (zf (gI ws (hh/2)))=x)(t0:0<=t)(t1:t<g.1)(v0:0<=v)(hg:ef (gI ws (hh/2)))
   (c:¬zf (gI ws (hh/2))=aJ)(e:x<gI far2 t):k8 g ws far by_ v (far2.set t.toNat x) (by2.set t.toNat hh) (k+1):=by
 have hlf:=h.lf
 have hle:=gC h.nn v
 have hxl:x<=aJ:=by have:=gC h.nn t;omega
 have hge:gI far2 v<=x:=by rw[<-ex];exact mV hle (fA hg).1
 refine⟨?_,by rw[List.length_set];exact h.lf,by rw[List.length_set];exact h.lb,λy hy=>?_,?_⟩
 · rw[i6 hk,<-h.eq,ehh]
   unfold c5
   rw[if_neg c,et,<-h.fv,ex,if_pos e]
 · rcases List.mem_or_eq_of_mem_set hy with k|k
   · exact h.nn _ k
   · rw[k];exact hxl
 · rw[bX t0 (by omega) v0]
   by_cases e2:v=t
   · rw[if_pos e2]
     rw[e2] at hge;omega
   · rw[if_neg e2];exact h.fv
theorem k8.done(h:k8 g ws far by_ v far2 by2 k)(hk:¬(k:Int)<(gI (ab g) v).length)(hw:n3 g ws s far by_ se)(hv:v=bc far se g.1.toNat)(hn:¬v<0):n3 g ws s far2 by2 (se.set v.toNat true)/\dz (se.set v.toNat true)<dz se:=by
 have hls:=hw.ls
 obtain⟨pw,_⟩:=fN (far:=far) (se:=se) g.1.toNat (by rw[<-hv];exact hn)
 have hlt:=fO far se g.1.toNat
 rw[<-hv] at pw hlt
 have hu:=fS (se:=se) (u:=v.toNat) (by omega) (by rw[Int.toNat_of_nonneg (by omega)];exact pw.1)
 refine⟨⟨h.lf,h.lb,by rw[List.length_set];exact hls,h.nn,?_⟩,by omega⟩
 obtain⟨f,f1,f2⟩:=hw.res
 cases f with
 |zero=>omega
 |succ f=>
   refine⟨f,by omega,?_⟩
   rw[<-f2]
   conv=>rhs;unfold gx
   have e:=h.eq
   rw[List.take_of_length_le (by omega)] at e
   rw[show(far,by_).1=far from rfl,<-hv,if_neg hn,<-e]
end TL
/-
  TlRef7L: the document's own Least, step by step: the least edge not yet seen, labels, and what is told.
  By an AI agent.
-/
set_option linter.all false
namespace TL
variable{g:b6}{ws:List Nat}{c c2:List Int}{seen taken:List Bool}{i k:Nat}{a b at_:Int}
def cF(ws:List Nat)(seen:List Bool):Nat->Int
 |0=> -1
 |k+1=>if gI seen (k:Int)=false/\(cF ws seen k<0\/zf (gI ws (k:Int))<zf (gI ws (cF ws seen k))) then(k:Int) else cF ws seen k
theorem gK(ws:List Nat)(seen:List Bool):∀k,cF ws seen k<k
 |0=>by unfold cF;omega
 |k+1=>by
   have:=gK ws seen k
   unfold cF;split<;>omega
theorem kH(ws:List Nat)(seen:List Bool):∀k,-1<=cF ws seen k
 |0=>by unfold cF;omega
 |k+1=>by
   have:=kH ws seen k
   unfold cF;split<;>omega
theorem jB(h:at_=cF ws seen k)(h1:¬gI seen (k:Int)=true)(h2:at_<0\/decide (zf (gI ws (k:Int))<zf (gI ws at_))=true):(k:Int)=cF ws seen (k+1):=by
 conv=>rhs;unfold cF
 rw[<-h,if_pos ⟨by simpa using h1,h2.elim .inl (λx=>.inr (of_decide_eq_true x))⟩]
theorem lC(h:at_=cF ws seen k)(h1:gI seen (k:Int)=true\/(¬at_<0/\¬decide (zf (gI ws (k:Int))<zf (gI ws at_))=true)):at_=cF ws seen (k+1):=by
 conv=>rhs;unfold cF
 rw[<-h,if_neg]
 rintro⟨x,y⟩
 rcases h1 with h1|h1
 · rw[h1] at x;cases x
 · rcases y with y|y
   · exact h1.1 y
   · exact h1.2 (decide_eq_true y)
theorem i3:∀k,cF ws seen k<0->∀v:Nat,v<k->gI seen (v:Int)=true
 |0,_,v,hv=>by omega
 |k+1,h,v,hv=>by
   unfold cF at h
   split at h
   · omega
   · rename_i d
     by_cases e:v=k
     · subst e
       cases hc:gI seen (v:Int) with
       |true=>rfl
       |false=>exact absurd ⟨hc,.inl h⟩ d
     · exact i3 k h v (by omega)
theorem ie:∀k,¬cF ws seen k<0->gI seen (cF ws seen k)=false/\∀v:Nat,v<k->gI seen (v:Int)=false->¬fX ws v (cF ws seen k)
 |0,h=>absurd (show(-1:Int)<0 by decide) h
 |k+1,h=>by
   unfold cF at h ⊢
   by_cases d:gI seen (k:Int)=false/\(cF ws seen k<0\/zf (gI ws (k:Int))<zf (gI ws (cF ws seen k)))
   · rw[if_pos d]
     refine⟨d.1,λv hv hs=>?_⟩
     by_cases e:v=k
     · rw[e];exact fy _ _
     · by_cases c3:cF ws seen k<0
       · have:=i3 k c3 v (by omega)
         rw[this] at hs;cases hs
       · obtain⟨_,i2⟩:=ie k c3
         have h1:=i2 v (by omega) hs
         have h2:=d.2.resolve_left c3
         unfold fX cz jw at*
         simp only at*
         omega
   · rw[if_neg d] at h ⊢
     obtain⟨i1,i2⟩:=ie k h
     refine⟨i1,λv hv hs=>?_⟩
     by_cases e:v=k
     · subst e
       have h3:¬zf (gI ws (v:Int))<zf (gI ws (cF ws seen v)):=λx=>d ⟨hs,.inr x⟩
       have h4:=gK ws seen v
       unfold fX cz jw
       simp only
       omega
     · exact i2 v (by omega) hs
structure ik(g:b6)(ws:List Nat)(c:List Int)(seen taken:List Bool)(i:Nat):Prop where
 lc:(c.length:Int)=g.1
 ls:(seen.length:Int)=g.2.length
 lt:(taken.length:Int)=g.2.length
 eq:c=(cY g ((aS ws).take i)).1
 sn:∀k:Int,0<=k->k<g.2.length->(gI seen k=true↔k∈(aS ws).take i)
 tk:∀k:Int,0<=k->k<g.2.length->(gI taken k=true↔k∈(cY g ((aS ws).take i)).2)
theorem ik.start(hm:bU g)(hc:c=bz g.1.toNat):ik g ws c (List.replicate (Int.toNat (g.2.length:Int)) false) (List.replicate (Int.toNat (g.2.length:Int)) false) 0:=by
 have h0:=hm.1
 refine⟨by rw[hc,d9];omega,by simp,by simp,by rw[hc,List.take_zero];rfl,λk h0 h1=>?_,λk h0 h1=>?_⟩
 · rw[dF h0 (by omega),List.take_zero];simp
 · rw[dF h0 (by omega),List.take_zero];simp[cY]
theorem ik.at(h:ik g ws c seen taken i)(hwl:ws.length=g.2.length)(hi:(i:Int)<g.2.length):cF ws seen g.2.length=gI (aS ws) (i:Int):=by
 have hol:=eS ws
 have hlt:i<(aS ws).length:=by omega
 obtain⟨x,ex⟩:∃x,x=gI (aS ws) (i:Int):=⟨_,rfl⟩
 have ex2:x=(aS ws)[i]:=by rw[ex];simp[gI,hlt]
 have hx:=fG.1 (show x∈aS ws by rw[ex2];exact List.getElem_mem hlt)
 have hnd:=iG ws
 have hsplit:aS ws=(aS ws).take i++x::(aS ws).drop (i+1):=by
   rw[ex2,<-List.drop_eq_getElem_cons hlt,List.take_append_drop]
 have hxn:x∉(aS ws).take i:=by
   rw[hsplit] at hnd
   intro k
   have:=(List.nodup_append.1 hnd).2.2 x k x (List.mem_cons_self ..)
   exact this rfl
 have hxs:gI seen x=false:=by
   cases hc:gI seen x with
   |false=>rfl
   |true=>exact absurd ((h.sn x hx.1 (by omega)).1 hc) hxn
 obtain⟨n,en⟩:∃n:Nat,x=n:=⟨x.toNat,by omega⟩
 have hneg:¬cF ws seen g.2.length<0:=by
   intro k
   have:=i3 g.2.length k n (by omega)
   rw[<-en,hxs] at this;cases this
 obtain⟨m1,m2⟩:=ie g.2.length hneg
 have hlt2:=gK ws seen g.2.length
 obtain⟨y,ey⟩:∃y,y=cF ws seen g.2.length:=⟨_,rfl⟩
 rw[<-ey] at m1 m2 hlt2 hneg ⊢
 have k1:¬fX ws x y:=by rw[en];exact m2 n (by omega) (by rw[<-en];exact hxs)
 have hy:y∈aS ws:=fG.2 ⟨by omega,by omega⟩
 have hyn:y∉(aS ws).take i:=by
   intro k
   have:=(h.sn y (by omega) (by omega)).2 k
   rw[m1] at this;cases this
 have k2:¬fX ws y x:=by
   rw[hsplit] at hy
   rcases List.mem_append.1 hy with k|k
   · exact absurd k hyn
   · rcases List.mem_cons.1 k with k|k
     · rw[k];exact fy _ _
     · have hs:=lB ws
       unfold jY at hs
       rw[hsplit] at hs
       exact(List.pairwise_cons.1 (List.pairwise_append.1 hs).2.1).1 y k
 rw[<-ex]
 exact kQ k2 k1
theorem gZ(hwl:ws.length=g.2.length)(hi:(i:Int)<g.2.length):(aS ws).take (i+1)=(aS ws).take i++[gI (aS ws) (i:Int)]:=eT (by rw[eS];omega)
theorem ip(h:ik g ws c seen taken i)(hwl:ws.length=g.2.length)(hi:(i:Int)<g.2.length)(ha:at_=gI (aS ws) (i:Int))(a0:0<=at_)(a1:at_<g.2.length)(k:Int)(k0:0<=k)(k1:k<g.2.length):gI (seen.set at_.toNat true) k=true↔k∈(aS ws).take (i+1):=by
 rw[gZ hwl hi,<-ha,List.mem_append,List.mem_singleton,bX a0 (by have:=h.ls;omega) k0]
 by_cases e:k=at_
 · rw[if_pos e];simp[e]
 · rw[if_neg e,h.sn k k0 k1];simp[e]
theorem ik.same(h:ik g ws c seen taken i)(hwl:ws.length=g.2.length)(hi:(i:Int)<g.2.length)(ha:at_=gI (aS ws) (i:Int))(a0:0<=at_)(a1:at_<g.2.length)(e:gI c (gI g.2 at_).1=gI c (gI g.2 at_).2):ik g ws c (seen.set at_.toNat true) taken (i+1):=by
 have e2:cY g ((aS ws).take (i+1))=cY g ((aS ws).take i):=by
   rw[gZ hwl hi,eH,<-ha]
   unfold kb
   rw[<-h.eq,if_pos e]
 exact⟨h.lc,by rw[List.length_set];exact h.ls,h.lt,by rw[e2];exact h.eq,ip h hwl hi ha a0 a1,by rw[e2];exact h.tk⟩
structure ku(n:Int)(c c2:List Int)(a b:Int)(v:Nat):Prop where
 l2:(c2.length:Int)=n
 l1:(c.length:Int)=n
 at_:∀k:Int,0<=k->k<n->gI c2 k=if k<v then(if gI c k=b then a else gI c k) else gI c k
theorem ku.start{n:Int}(h:(c.length:Int)=n):ku n c c a b 0:=⟨h,h,λk k0 k1=>by rw[if_neg (by omega)]⟩
theorem ku.yes{n:Int}{v:Nat}(h:ku n c c2 a b v)(hv:(v:Int)<n)(e:gI c2 (v:Int)=b):ku n c (c2.set (Int.toNat (v:Int)) a) a b (v+1):=by
 refine⟨by rw[List.length_set];exact h.l2,h.l1,λk k0 k1=>?_⟩
 have hvv:=h.at_ v (by omega) hv
 rw[if_neg (by omega)] at hvv
 have hk:=h.at_ k k0 k1
 rw[bX (by omega) (by have:=h.l2;omega) k0]
 by_cases c1:k=v
 · subst c1
   have e1:(v:Int)<((v+1:Nat):Int):=by omega
   have e2:gI c (v:Int)=b:=by rw[<-hvv];exact e
   rw[if_pos rfl,if_pos e1,if_pos e2]
 · rw[if_neg c1]
   by_cases c2:k<v
   · have e1:k<((v+1:Nat):Int):=by omega
     rw[if_pos c2] at hk
     rw[if_pos e1];exact hk
   · have e1:¬k<((v+1:Nat):Int):=by omega
     rw[if_neg c2] at hk
     rw[if_neg e1];exact hk
theorem ku.no{n:Int}{v:Nat}(h:ku n c c2 a b v)(hv:(v:Int)<n)(e:¬gI c2 (v:Int)=b):ku n c c2 a b (v+1):=by
 refine⟨h.l2,h.l1,λk k0 k1=>?_⟩
 have hvv:=h.at_ v (by omega) hv
 rw[if_neg (by omega)] at hvv
 have hk:=h.at_ k k0 k1
 by_cases c1:k=v
 · subst c1
   have e1:(v:Int)<((v+1:Nat):Int):=by omega
   have e2:¬gI c (v:Int)=b:=by rw[<-hvv];exact e
   rw[if_pos e1,if_neg e2];exact hvv
 · by_cases c2:k<v
   · have e1:k<((v+1:Nat):Int):=by omega
     rw[if_pos c2] at hk
     rw[if_pos e1];exact hk
   · have e1:¬k<((v+1:Nat):Int):=by omega
     rw[if_neg c2] at hk
     rw[if_neg e1];exact hk
theorem ku.done{n:Int}{v:Nat}(h:ku n c c2 a b v)(hv:¬(v:Int)<n):c2=fU c a b:=by
 have h1:=h.l1
 have h2:=h.l2
 apply cU
 · unfold fU;rw[List.length_map];omega
 · intro i hi
   rw[h.at_ i (by omega) (by omega),if_pos (by omega),jG (by omega) (by omega)]
theorem ik.join{v:Nat}(h:ik g ws c seen taken i)(hwl:ws.length=g.2.length)(hi:(i:Int)<g.2.length)(ha:at_=gI (aS ws) (i:Int))(a0:0<=at_)(a1:at_<g.2.length)(e:¬gI c (gI g.2 at_).1=gI c (gI g.2 at_).2)
   (hr:ku g.1 c c2 (gI c (gI g.2 at_).1) (gI c (gI g.2 at_).2) v)(hv:¬(v:Int)<g.1):ik g ws c2 (seen.set at_.toNat true) (taken.set at_.toNat true) (i+1):=by
 have e2:cY g ((aS ws).take (i+1))=(fU c (gI c (gI g.2 at_).1) (gI c (gI g.2 at_).2),(cY g ((aS ws).take i)).2++[at_]):=by
   rw[gZ hwl hi,eH,<-ha]
   unfold kb
   rw[<-h.eq,if_neg e]
 refine⟨hr.l2,by rw[List.length_set];exact h.ls,by rw[List.length_set];exact h.lt,by rw[e2];exact hr.done hv,ip h hwl hi ha a0 a1,λk k0 k1=>?_⟩
 rw[e2]
 show _↔k∈(cY g ((aS ws).take i)).2++[at_]
 rw[List.mem_append,List.mem_singleton,bX a0 (by have:=h.lt;omega) k0]
 by_cases e:k=at_
 · rw[if_pos e];simp[e]
 · rw[if_neg e,h.tk k k0 k1];simp[e]
def em(g:b6)(ws:List Nat)(i:Nat):List Int:=(bz i).filter λx=>decide (x∈(cY g (aS ws)).2)
theorem ik.all(h:ik g ws c seen taken i)(hwl:ws.length=g.2.length)(hi:¬(i:Int)<g.2.length)(k:Int)(k0:0<=k)(k1:k<g.2.length):gI taken k=true↔k∈(cY g (aS ws)).2:=by
 have:=h.tk k k0 k1
 rw[List.take_of_length_le (by rw[eS];omega)] at this
 exact this
theorem mh(h:ik g ws c seen taken i)(hwl:ws.length=g.2.length)(hi:¬(i:Int)<g.2.length)(hk:(k:Int)<g.2.length)(ht:gI taken (k:Int)=true):em g ws (k+1)=em g ws k++[(k:Int)]:=by
 unfold em
 have e:decide ((k:Int)∈(cY g (aS ws)).2)=true:=decide_eq_true ((h.all hwl hi k (by omega) hk).1 ht)
 rw[eW,List.filter_append]
 simp only[List.filter_cons,List.filter_nil,e,if_true]
theorem nF(h:ik g ws c seen taken i)(hwl:ws.length=g.2.length)(hi:¬(i:Int)<g.2.length)(hk:(k:Int)<g.2.length)(ht:¬gI taken (k:Int)=true):em g ws (k+1)=em g ws k:=by
 unfold em
 have e:decide ((k:Int)∈(cY g (aS ws)).2)=false:=decide_eq_false (λx=>ht ((h.all hwl hi k (by omega) hk).2 x))
 rw[eW,List.filter_append]
 simp only[List.filter_cons,List.filter_nil,e,Bool.false_eq_true,if_false,List.append_nil]
theorem iE(k:Nat):(em g ws k).length<=k:=by
 unfold em
 exact Nat.le_trans (List.length_filter_le _ _) (by rw[d9];exact Nat.le_refl _)
theorem iR(hk:k=g.2.length):em g ws k=bv g ws:=by rw[hk];rfl
theorem mU{l:List Int}{x:Int}:aT (fT ws l) (zf (gI ws x))=fT ws (l++[x]):=by unfold fT;rw[List.foldl_append];rfl
structure ob(g:b6)(ws:List Nat)(l:List Int)(s:Nat)(k:Nat):Prop where
 el:l=em g ws k
 es:s=fT ws l
 le:s<=aJ
theorem ob.yes{l:List Int}{s:Nat}(f:ob g ws l s k)(h:ik g ws c seen taken i)(hwl:ws.length=g.2.length)(hi:¬(i:Int)<g.2.length)(hk:(k:Int)<g.2.length)(ht:gI taken (k:Int)=true)(hg:ef (gI ws (k:Int))):ob g ws (l++[(k:Int)]) (aT s (zf (gI ws (k:Int)))) (k+1):=
 ⟨by rw[mh h hwl hi hk ht,f.el],by rw[f.es];exact mU,(ek f.le hg).2⟩
theorem ob.no{l:List Int}{s:Nat}(f:ob g ws l s k)(h:ik g ws c seen taken i)(hwl:ws.length=g.2.length)(hi:¬(i:Int)<g.2.length)(hk:(k:Int)<g.2.length)(ht:¬gI taken (k:Int)=true):ob g ws l s (k+1):=
 ⟨by rw[nF h hwl hi hk ht,f.el],f.es,f.le⟩
end TL
/-
  TlPathA: bounds of what package path tells: ways and sets of edges are short, half-edges are numbers of a machine.
  By an AI agent.
-/
set_option linter.all false
namespace TL
variable{g:b6}{ws:List Nat}{s t:Int}
theorem lg:∀x∈(aj g ws s).1.2,k6 x:=by
 by_cases h:(aj g ws s).2=0
 · obtain⟨hm,_,_,_,rk,E⟩:=pJ h
   exact E.byin hm
 · rw[(mI h).2];intro x hx;cases hx
theorem jS(by_:List Int):∀(f:Nat) (v:Int) (l:List Int),(dG g by_ f v l).1.length<=f+l.length
 |0,v,l=>by unfold dG;split<;>simp
 |f+1,v,l=>by
   unfold dG
   split
   · show l.length<=_;omega
   · split
     · simp
     · have:=jS by_ f (aH g (gI by_ v)) (gI by_ v::l)
       rw[List.length_cons] at this;omega
theorem qu{fs:FS}:((bF fs g t).1.length:Int)<=1024:=by
 unfold bF
 by_cases c:dP fs g
 · have h1:=c.1.1
   have h2:=c.1.2.1
   rw[if_pos c]
   split
   · split
     · simp
     · have:=jS (g:=g) fs.2 g.1.toNat t []
       rw[List.length_nil] at this;omega
   · simp
 · rw[if_neg c];simp
theorem mm:((ax g ws).1.length:Int)<=3072:=by
 unfold ax
 by_cases c:ci g ws=0
 · rw[if_pos c]
   obtain⟨hm,_,_⟩:=mb c
   have h3:=hm.2.2.1
   have:=iE (g:=g) (ws:=ws) g.2.length
   show((bv g ws).length:Int)<=3072
   have e:bv g ws=em g ws g.2.length:=rfl
   rw[e];omega
 · rw[if_neg c];simp
theorem qK{w:List Nat}{x:Nat}:List.drop 0 (List.take (Int.toNat (w.length:Int)) (w++[x]))=w:=by simp
theorem r6{w:List Nat}{x:Nat}:List.drop 0 (List.take (Int.toNat ((w.length:Int)+1)) (w++[x]))=w++[x]:=by
 have e:Int.toNat ((w.length:Int)+1)=w.length+1:=by omega
 rw[e,List.drop_zero,List.take_of_length_le (by simp)]
theorem qc{w:List Nat}{x:Nat}:gI (w++[x]) (w.length:Int)=x:=by unfold gI;simp
end TL
namespace TL
theorem cO.one{n:Int}{l:List Int}(h0:0<n)(h1:0+n<=1048576)(hl:(l.length:Int)<=n):cO [l] (0+n):=by
 have:=cO.nil.add (l:=l) h0 h1 hl
 exact this
theorem rO{w:List Nat}:gI (w++[4619567317775286272]) (w.length:Int)<=aJ:=by rw[qc];decide
end TL
/-
  TlOpen: arguments opened: what a law's reader says of a slice is what a walk wants of it.
  By an AI agent.
-/
namespace TL
open Go Go.Proofs Go.ChangeShapes Go.WideShapes Go.Joins Go.Deep
structure iW{H:Type}(f:DataW H->Nat):Prop where
 slice:∀l s:List (DataW H),l.length<=f (.slice l s)
 elem:∀l s:List (DataW H),∀d∈l,f d<=f (.slice l s)
 part:∀l:List (DataW H),∀d∈l,f d<=f (.agg l)
def mc(α:Type)[Rp α](P:Program)(t:TypeId):Prop:=
  ∀{H:Type} (enc:TypeId×Value->H) (w:World) (fuel:Nat) (cs:List Value) (x:DataW H×List MemPlace),DataW.trod enc P w 0 (λ_=>true) true fuel t cs=some x->∃y:α,Rp.rep c0 any w cs y
theorem iT{P:Program}{t:TypeId}(ht:P.underlying t=some (.int .i64)):mc Int P t:=by
 intro H enc w fuel cs x h
 obtain⟨n,rfl,_,_⟩:=DataW.trod_int ht h
 exact⟨n,rfl⟩
theorem jK{H:Type}{enc:TypeId×Value->H}{P:Program}{w:World}{base:Nat}{spare:Nat->Bool}{held:Bool}{t e:TypeId}{fuel:Nat}{cs:List Value}{x:DataW H×List MemPlace}(ht:P.underlying t=some (.array 2 e))(hce:P.cellsOf e=1)(hct:P.cellsOf t=2)
   (h:DataW.trod enc P w base spare held fuel t cs=some x):
   ∃v0 v1 y0 y1 n,cs=[v0,v1]/\x=(.agg [y0.1,y1.1],y0.2++y1.2)/\DataW.trod enc P w base spare held n e [v0]=some y0/\DataW.trod enc P w base spare held n e [v1]=some y1:=by
 cases fuel with
 |zero=>simp[DataW.trod] at h
 |succ n=>
   unfold DataW.trod at h
   rw[ht] at h
   have r2:List.range 2=[0,1]:=rfl
   simp only[hct] at h
   by_cases hl:cs.length=2
   · rw[if_pos hl] at h
     match cs,hl with
     |[v0,v1],_=>
       simp[r2,hce] at h
       cases h0:DataW.trod enc P w base spare held n e [v0] with
       |none=>simp[h0] at h
       |some y0=>
         cases h1:DataW.trod enc P w base spare held n e [v1] with
         |none=>simp[h0,h1] at h
         |some y1=>
           simp[h0,h1] at h
           exact⟨v0,v1,y0,y1,n,rfl,h.symm,h0,h1⟩
   · rw[if_neg hl] at h;cases h
theorem oG{P:Program}{t e:TypeId}(ht:P.underlying t=some (.array 2 e))(he:P.underlying e=some (.int .i64))(hce:P.cellsOf e=1)(hct:P.cellsOf t=2):mc (Int×Int) P t:=by
 intro H enc w fuel cs x h
 obtain⟨v0,v1,y0,y1,n,rfl,_,h0,h1⟩:=jK ht hce hct h
 obtain⟨a,ha⟩:=iT he enc w n [v0] y0 h0
 obtain⟨b,hb⟩:=iT he enc w n [v1] y1 h1
 exact⟨(a,b),[v0],[v1],rfl,ha,hb⟩
theorem iv{α:Type}[Rp α][Inhabited α]{P:Program}{t e:TypeId}(ht:P.underlying t=some (.slice e))(hc:P.cellsOf e=Rp.sz α)(hz:0<Rp.sz α)(he:mc α P e)
    {H:Type}{enc:TypeId×Value->H}{w:World}{f:DataW H->Nat}(hf:iW f){fuel:Nat}{v:Value}{x:DataW H×List MemPlace}
    (hs:∀a len cap,v= .slice (some a) len cap->a.spot=none)(h:DataW.trod enc P w 0 (λ_=>true) true fuel t [v]=some x)(hb:f x.1<=1048576):∃xs:List α,Ro w v xs:=by
  rcases Deep.open_slice ht h with⟨h0,_⟩|⟨a,len,cap,m,n,D,Pl,h0,_,hlc,_,hm,rfl,hx⟩
  · obtain rfl:v= .slice none 0 0:=by simpa using h0
    exact⟨[],.inl ⟨⟨_,rfl⟩,rfl⟩⟩
  · obtain rfl:v= .slice (some a) len cap:=by simpa using h0
    have hsp:=hs a len cap rfl
    obtain⟨b,off,spot⟩:=a
    obtain rfl:spot=none:=hsp
    simp only[if_true] at hm
    subst hm
    obtain⟨Y,hY⟩:=Deep.choose_lt (α:=α) (n:=len) (p:=λi y=>∃cs,(∀j,j<Rp.sz α->w.cell? ⟨b,off+i*Rp.sz α+j,none⟩=cs[j]?)/\Rp.rep c0 any w cs y) (λi hi=>by
      obtain⟨cs',h1,h2⟩:=hx i (by omega)
      obtain⟨y,hy⟩:=he enc w n cs' _ h2
      refine⟨y,cs',λj hj=>?_,hy⟩
      obtain⟨_,hl,hcell⟩:=World.cells?_some h1
      have:=hcell j (by omega)
      rw[Deep.add_add,hc] at this
      rw[<-this]
      unfold Addr.add
      by_cases hij:i*Rp.sz α+j=0
      · rw[if_pos hij,Nat.add_assoc,hij];rfl
      · rw[if_neg hij,Nat.add_assoc])
    have hlen:((List.range len).map Y).length=len:=by simp
    have hbound:=Nat.le_trans (hf.slice _ _) hb
    refine⟨(List.range len).map Y,.inr ⟨b,off,m,by rw[hlen],⟨by omega,by simp at hbound;omega⟩,λi y hi=>?_⟩⟩
    have hil:i<len:=by
      have:=(List.getElem?_eq_some_iff.1 hi).1
      omega
    obtain rfl:Y i=y:=by simpa[hil] using hi
    obtain⟨cs,h1,h2⟩:=hY i hil
    refine⟨?_,trivial,cs,h1,h2⟩
    have h3:=h1 0 hz
    have h4:=Rp.len h2
    have h5:0<cs.length:=by omega
    rw[List.getElem?_eq_getElem h5] at h3
    by_cases hbl:b<w.heap.size
    · exact hbl
    · have:w.heap[b]? =none:=Array.getElem?_eq_none (by omega)
      simp[World.cell?,this] at h3
theorem fH{P:Program}{w:World}{base:Nat}{t e:TypeId}{v:Value}(ht:P.underlying t=some (.slice e))(h:Cell.okWide P w .any base t v):∀a len cap,v= .slice (some a) len cap->a.spot=none:=by
 rintro a len cap rfl
 simp only[Cell.okWide,Cell.ok,ht] at h
 exact h.2.2.2.1
theorem iF{α:Type}[Rp α][Inhabited α]{P:Program}{t e:TypeId}(ht:P.underlying t=some (.slice e))(hc:P.cellsOf e=Rp.sz α)(hz:0<Rp.sz α)(he:mc α P e)
    {H:Type}{enc:TypeId×Value->H}{w:World}{f:DataW H->Nat}(hf:iW f){base:Nat}{v:Value}{d:DataW H}{p:List MemPlace}
    (hval:Value.okWide P w .any base t v)(h:DataW.Trod enc P w 0 (λ_=>true) true t v d p)(hb:f d<=1048576):∃xs:List α,Ro w v xs:=by
  obtain⟨a,len,cap,rfl⟩:=okWide_slice ht hval
  obtain⟨fuel,hfu⟩:=h
  refine iv ht hc hz he hf (fH (w:=w) (base:=base) ht ?_) (x:=(d,p)) hfu hb
  simpa[Value.okWide,ht] using hval
theorem pi{α:Type}[Rp α][Inhabited α]{P:Program}{t t0 t1 e:TypeId}{f0 f1:Field}(hs:P.underlying t=some (.struct #[f0,f1]))(hone:oneCellFields P #[f0,f1]=true)(hC:P.cellsOf t=2)(hts:P.cellTypes P.depth t=some [t0,t1])
    (h0:f0.type=t0)(h1:f1.type=t1)(hi:P.underlying t0=some (.int .i64))(ht:P.underlying t1=some (.slice e))(hc:P.cellsOf e=Rp.sz α)(hz:0<Rp.sz α)(he:mc α P e)
    {H:Type}{enc:TypeId×Value->H}{w:World}{f:DataW H->Nat}(hf:iW f){base:Nat}{v:Value}{d:DataW H}{p:List MemPlace}
    (hval:Value.okWide P w .any base t v)(h:DataW.Trod enc P w 0 (λ_=>true) true t v d p)(hb:f d<=1048576):∃(n:Int) (u:Value) (xs:List α),v= .agg #[.int .i64 n,u]/\Ro w u xs:=by
  obtain⟨v0,v1,y0,y1,n,rfl,rfl,rfl,r0,r1⟩:=open_agg2 hs hone hC hval h
  subst h0 h1
  obtain⟨k,hk,_,_⟩:=DataW.trod_int hi r0
  obtain rfl:v0= .int .i64 k:=by simpa using hk
  have hcell:Cell.okWide P w .any base f1.type v1:=by
    simp only[Value.okWide,hs] at hval
    obtain⟨cs,hcs,_,ts,h3,_,h4⟩:=hval
    rw[hts] at h3
    obtain rfl:=Option.some.inj h3
    obtain rfl: #[Value.int .i64 k,v1]=cs:=by simpa using hcs
    obtain⟨u,hu,hk⟩:=h4 1 v1 rfl
    simp at hu
    subst hu
    exact hk
  obtain⟨xs,hx⟩:=iv ht hc hz he hf (fH ht hcell) (x:=y1) r1 (Nat.le_trans (hf.part _ _ (by simp)) hb)
  exact⟨k,v1,xs,rfl,hx⟩
end TL
/-
  TlJudge4: directions around a point; a plot turned by a quarter; the example's rotation.
  By an AI agent.
-/
set_option linter.all false
namespace TL
section
variable{u v w:Pt}
end
section
variable{p:ii}{o:Pt}{l:List Int}
end
section
variable{u v:Pt}{i k:Int}
def rr(u:Pt):Prop:=0<=u.1/\0<u.2
instance (u:Pt):Decidable (rr u):=by unfold rr;infer_instance
end
section
variable{o:Pt}{ps:List Pt}
end
end TL
/-
  TlJTr: plots moved as a whole: their flaws.
  By an AI agent.
-/
set_option linter.all false
namespace TL
section
variable{T:Pt->Pt}{D:Pt->Prop}{g:b6}{p:ii}{l a b but:List Pt}{q:Pt}{i k:Nat}
end
section
variable{g:b6}{p:ii}
end
def rI(p:ii):Nat->Int
 |0=>(p.1.length:Int)
 |k+1=>rI p k+((gI p.2 (k:Int)).length:Int)+1
def nM(g:b6)(p:ii):Prop:=rI p p.2.length<=400/\(¬bU g\/g.1<=30/\(g.2.length:Int)<=40)
instance (g:b6)(p:ii):Decidable (nM g p):=by unfold nM;infer_instance
end TL
namespace TL
section
variable{g:b6}{p:ii}{l r:List Pt}{L:List (List Pt)}{k e:Nat}
end
end TL
namespace TL
section
variable{α:Type}[Inhabited α][DecidableEq α]{a b:List α}{k:Nat}
end
section
variable{g:b6}{p:ii}{n:Int}{e:Nat}
end
end TL
/-
  TlWord: words and bytes in memory (a list of uint64, a list of uint8), and how a statement's argument of them is opened.
  By an AI agent.
-/
set_option linter.all false
namespace TL
open Go Go.Proofs Go.ChangeShapes Go.WideShapes Go.Joins Go.Deep
structure Wd where
  n:Nat
  lt:n<18446744073709551616
instance:Inhabited Wd:=⟨⟨0,by decide⟩⟩
instance:Rp Wd where
 sz:=1
 rep _ _ _ cs x:=cs=[.int .u64 (x.n:Int)]
 len h:=by subst h;rfl
 one h:=by subst h;simp[Value.oneCell']
 tr _ _ h:=h
instance:Fl Wd where
 cells x:=[.int .u64 (x.n:Int)]
 rep_iff:=Iff.rfl
structure Bt where
  n:Nat
  lt:n<256
instance:Inhabited Bt:=⟨⟨0,by decide⟩⟩
instance:Rp Bt where
 sz:=1
 rep _ _ _ cs x:=cs=[.int .u8 (x.n:Int)]
 len h:=by subst h;rfl
 one h:=by subst h;simp[Value.oneCell']
 tr _ _ h:=h
instance:Fl Bt where
 cells x:=[.int .u8 (x.n:Int)]
 rep_iff:=Iff.rfl
theorem nH{P:Program}{t:TypeId}(ht:P.underlying t=some (.int .u64)):mc Wd P t:=by
 intro H enc w fuel cs x h
 obtain⟨n,rfl,_,hw⟩:=DataW.trod_int ht h
 simp only[Lit.wf,Bool.and_eq_true,decide_eq_true_eq] at hw
 have e1:IntKind.u64.min=0:=by decide
 have e2:IntKind.u64.max=18446744073709551615:=by decide
 exact⟨⟨n.toNat,by omega⟩,by show[_]=[_];rw[Int.toNat_of_nonneg (by omega)]⟩
def am(us:List Wd):List Nat:=us.map (·.n)
theorem od{us:List Wd}{l:List Nat}{k:Nat}(h:l=am (us.take k))(hk:(k:Int)<us.length):l++[(gI us (k:Int)).n]=am (us.take (k+1)):=by
 have hk':k<us.length:=by omega
 unfold am at*
 rw[List.take_succ_eq_append_getElem hk',List.map_append,<-h]
 simp[gI,hk']
theorem oM{us:List Wd}{l:List Nat}{k:Nat}(h:l=am (us.take k))(hk:¬(k:Int)<us.length):l=am us:=by
 rw[List.take_of_length_le (by omega)] at h;exact h
theorem nt(us:List Wd):(am us).length=us.length:=by unfold am;rw[List.length_map]
end TL
namespace TL
open Go Go.Proofs Go.ChangeShapes Go.WideShapes Go.Joins Go.Deep
end TL
namespace TL
open Go
end TL
/-
  TlIface: a method of an interface value that holds a pointer; values in an interface.
  By an AI agent.
-/
set_option linter.all false
namespace TL
open Go
def j3(P:Program)(T:TypeId)(name:String):Option (Nat×Bool×TypeId):=
  match P.info? T,P.underlying T with
  |some i,some (.pointer e)=>
    match i.methods.find? (·.name==name) with
    |some m=>if m.path.isEmpty then m.func.map (λq=>(q.1,q.2,e)) else none
    |none=>none
  |_,_=>none
theorem n9{P:Program}{T e:TypeId}{name:String}{f:Nat}{b:Bool}(h:j3 P T name=some (f,b,e)):∃i m,P.info? T=some i/\P.underlying T=some (.pointer e)/\i.methods.find? (·.name==name)=some m/\m.path= #[]/\m.func=some (f,b):=by
 unfold j3 at h
 split at h
 · rename_i i e' hi hu
   split at h
   · rename_i m hm
     split at h
     · rename_i hp
       cases hf:m.func with
       |none=>rw[hf] at h;cases h
       |some q=>
         rw[hf] at h
         simp only[Option.map_some,Option.some.injEq,Prod.mk.injEq] at h
         obtain⟨h1,h2,h3⟩:=h
         refine⟨i,m,hi,h3▸hu,hm,by simpa using hp,?_⟩
         rw[hf,<-h1,<-h2]
     · cases h
   · cases h
 · cases h
section
variable{P:Program}{f:Fr}{w:World}{dst:Option Tmp}{ty:TypeId}{pos:String}{after:Array Edge}{g:Option (Nat×Bool)}{T e:TypeId}{name:String}{fid n:Nat}{a:Addr}{v u:Value}
theorem jL{i:TypeInfo}{t:TypeId}(h:P.info? t=some i):(typeInfo t).run P w= .ok i w:=by simp[typeInfo,h]
theorem fV(h:j3 P T name=some (fid,true,e)):(method (n+1) T v name).run P w= .ok (fid,v) w:=by
 obtain⟨i,m,hi,hu,hm,hp,hf⟩:=n9 h
 simp[method,jL hi,hm,hp,hf,follow,receiverAt,aM hu,Place.get]
theorem om(t:TypeId)(nm:String):(Builtin.ssaWrapNilChk_ #[t] t #[.pointer (some a),strVal "",strVal nm]).run P w= .ok (.pointer (some a)) w:=rfl
theorem bA(h:j3 P T name=some (fid,false,e))(hl:(loadVar e a).run P w= .ok u w):(method (n+1) T (.pointer (some a)) name).run P w= .ok (fid,u) w:=by
 obtain⟨i,m,hi,hu,hm,hp,hf⟩:=n9 h
 simp[method,jL hi,hm,hp,hf,follow,receiverAt,aM hu,Place.get,om,asAddr,hl]
theorem mE:∃n,P.types.size+Made.depth=n+1:=by
 have h:0<Made.depth:=by decide
 exact⟨P.types.size+Made.depth-1,by omega⟩
variable{x:Operand}{args:List Operand}{at_:Array TypeId}{vals:List Value}{fn:Func}
theorem c9(hx:ev f x= .iface T v)(hm:∀n,(method (n+1) T v name).run P w= .ok (fid,u) w)(hf:P.funcs[fid]? =some fn)(hb:fn.body.isNone=false)(hn:(fn.name== "runtime.NumGoroutine")=false)(ha:args.map (ev f)=vals):
   (execOp (ev f) ⟨dst,.call {callee:=.invoke x name,args:=args.toArray,argTypes:=at_},ty,pos,after,g⟩).run P w= .ok (.enter fid (u::vals).toArray) w:=by
 have ha:args.toArray.map (ev f)=vals.toArray:=by rw[<-ha];simp
 obtain⟨n,hn2⟩:=mE (P:=P)
 have hm':=hm n
 rw[<-hn2] at hm'
 have h1:fn.name≠ "runtime.NumGoroutine" :=by simpa using hn
 have h2:fn.body≠none:=λe=>by rw[e] at hb;cases hb
 simp[execOp,resolve,invoke,callMethod,callFunc,hx,ha,hm',hf,h1,h2]
theorem jh{t:TypeId}{us:TypeDesc}(hs:P.underlying t=some us)(hi:(match us with| .interface _=>true|_=>false)=false)(hx:ev f x=v):(execOp (ev f) ⟨dst,.makeInterface t x,ty,pos,after,g⟩).run P w= .ok (.value (.iface t v)) w:=by
 subst hx
 cases us<;>first|(cases hi;done)|simp[execOp,Instr.makeInterface,aM hs]
theorem js{s t:TypeId}{us:TypeDesc}(hs:P.underlying t=some us)(hi:(match us with| .interface _=>true|_=>false)=false)(hx:ev f x= .iface t v):(execOp (ev f) ⟨dst,.typeAssert x s t false,ty,pos,after,g⟩).run P w= .ok (.value v) w:=by
 cases us<;>first|(cases hi;done)|simp[execOp,Instr.typeAssert,aM hs,hx]
end
end TL
/-
  TlNil: a list that is none, compared.
  By an AI agent.
-/
set_option linter.all false
namespace TL
open Go
section
variable{P:Program}{w:World}{t t':TypeId}{f:Fr}{x y:Operand}{dst:Option Tmp}{ty:TypeId}{pos:String}{after:Array Edge}{g:Option (Nat×Bool)}
end
theorem r8{α:Type}[Rp α]{γ:aA}{J S:bS->Prop}{w:World}{v:Value}{xs:List α}{hi:Nat}(h:Ow γ J S w v xs)(h2:hi<=xs.length):Ow γ J S w (cR v (Rp.sz α) 0 hi) (xs.take hi):=by
  rcases h with⟨rfl,rfl⟩|⟨b,cap,c,e,rfl,hc,hm,hJ,hb,hcs,hx⟩
  · simp only[List.length_nil] at h2
    have:hi=0:=by omega
    subst this
    exact .inl ⟨rfl,rfl⟩
  · have hl:(xs.take hi).length=hi:=by simp;omega
    refine .inr ⟨b,cap,c,e,?_,⟨by omega,by omega⟩,hm,hJ,hb,hcs,λi x hi'=>hx i x ?_⟩
    · rw[gv]
      simp only[hl]
    · rw[List.getElem?_take] at hi'
      split at hi'
      · exact hi'
      · cases hi'
end TL
/-
  TlRoot: a function that changes a list which its caller owns.
  By an AI agent.
-/
set_option linter.all false
namespace TL
open Go
def qr(γ0:aA)(w0:World)(γ:aA)(w:World):Prop:=bi (is 1) γ0 w0 γ w
class JOk (J:bS->Prop):Prop where
 ok:∀c,J c->is 1 c
instance:JOk no:=⟨λ_ h=>h.elim⟩
instance:JOk (is 1):=⟨λ_ h=>h⟩
instance:JOk (inl []):=⟨λ_ h=>by unfold inl at h;simp at h⟩
instance:JOk (inl [1]):=⟨λc h=>by unfold inl at h;unfold is;simpa using h⟩
theorem qr.start{γ0:aA}(w0:World):qr γ0 w0 γ0 w0:=bi.refl _ _ _
theorem qr.chgC{J:bS->Prop}{γ0 γ γ':aA}{w0 w w':World}[JOk J](h:qr γ0 w0 γ w)(h':bi J γ w γ' w')(_:∀c,is 0 c->¬J c):qr γ0 w0 γ' w':=by
 unfold qr at*
 refine⟨h'.os.trans h.os,h'.tape.trans h.tape,h'.output.trans h.output,Nat.le_trans h.size h'.size,λb hb hn=>?_,λb hb hn=>?_,Nat.le_trans h.drawn h'.drawn⟩
 · have e:=h.col b hb hn
   rw[h'.col b (Nat.lt_of_lt_of_le hb h.size) (λk=>hn (by rw[<-e];exact JOk.ok _ k)),e]
 · have e:=h.col b hb hn
   rw[h'.keep b (Nat.lt_of_lt_of_le hb h.size) (λk=>hn (by rw[<-e];exact JOk.ok _ k)),h.keep b hb hn]
def rcK(γ:aA)(k:Nat):aA:=λb=>if(γ b).1=k then(1,0) else(0,0)
theorem Ow.rcK{γ:aA}{k:Nat}{w:World}{v:Value}{xs:List Int}(h:Ow γ (is k) (is k) w v xs):Ow (rcK γ k) (is 1) (is 1) w v xs:=by
 rcases h with h|⟨b,cap,c,e,h1,h2,h3,h4,h5,h6,h7⟩
 · exact .inl h
 · refine .inr ⟨b,cap,c,e,h1,h2,h3,?_,h5,h6,λi x hi=>h7 i x hi⟩
   have h4:(γ b).1=k:=h4
   unfold TL.rcK is;rw[if_pos h4]
theorem Ow.uncol{γ γ':aA}{k:Nat}{w w':World}{v:Value}{xs ys:List Int}(h:Ow γ (is k) (is k) w v xs)(h':Ow γ' (is 1) (is 1) w' v ys):Ow γ (is k) (is k) w' v ys:=by
 rcases h' with h'|⟨b,cap,c,e,h1,h2,h3,h4,h5,h6,h7⟩
 · exact .inl h'
 · refine .inr ⟨b,cap,c,e,h1,h2,h3,?_,h5,h6,λi x hi=>h7 i x hi⟩
   rcases h with h|⟨b',cap',c',e',g1,g2,g3,g4,_⟩
   · rw[h.1] at h1;cases h1
   · rw[g1] at h1
     have e1:b'=b:=by injection h1 with a _ _;injection a with a;injection a
     rw[<-e1];exact g4
theorem bi.uncol{γ γ':aA}{k:Nat}{w w':World}(h:bi (is 1) (rcK γ k) w γ' w'):bi (is k) γ w γ w':=by
 refine⟨h.os,h.tape,h.output,h.size,λ_ _ _=>rfl,λb hb hn=>h.keep b hb (λc=>hn ?_),h.drawn⟩
 unfold is TL.rcK at c
 by_cases e:(γ b).1=k
 · exact e
 · rw[if_neg e] at c;exact absurd c (by decide)
theorem cV{P:Program}{fid:Nat}{args:Array Value}{γ:aA}{k:Nat}{w:World}{v:Value}{xs:List Int}{Q:Int->List Int->Prop}(ho:Ow γ (is k) (is k) w v xs)
   (h:Calls P fid args w λe w'=>∃x:Int×List Int,e= .returned ((λx:Int×List Int=>Value.int .i64 x.1) x)/\∃γ',bi (is 1) (rcK γ k) w γ' w'/\Ow γ' (is 1) (is 1) w' v x.2/\Q x.1 x.2):
   Calls P fid args w λe w'=>∃x:Int×List Int,e= .returned ((λx:Int×List Int=>Value.int .i64 x.1) x)/\(λ(x:Int×List Int) (w':World)=>bi (is k) γ w γ w'/\Ow γ (is k) (is k) w' v x.2/\Q x.1 x.2) x w':=
 h.mono λe w' ⟨x,e1,γ',h1,h2,h3⟩=>⟨x,e1,h1.uncol,ho.uncol h2,h3⟩
end TL
/-
  TlSort: the library's sort by a function, met in this frame.
  By an AI agent.
-/
set_option linter.all false
namespace TL
open Go Go.Proofs Go.Shelf Go.Sort Go.Lib
theorem cl.grown{w w':World}(h:cl w.heap.size w w'):∃q os,w'=grow (w.drewN q) os:=by
 obtain⟨h1,h2,h3,h4,h5,h6⟩:=h
 refine⟨w'.drawn-w.drawn,w'.heap.extract w.heap.size w'.heap.size,?_⟩
 have hh:w'.heap=w.heap++w'.heap.extract w.heap.size w'.heap.size:=by
   apply Array.ext_getElem?
   intro k
   rw[Array.getElem?_append]
   by_cases hk:k<w.heap.size
   · rw[if_pos hk];exact h5 k hk
   · rw[if_neg hk,Array.getElem?_extract]
     split
     · rw[show w.heap.size+(k-w.heap.size)=k by omega]
     · exact Array.getElem?_eq_none (by omega)
 have hd:w'.drawn=w.drawn+(w'.drawn-w.drawn):=by omega
 cases w with
 |mk a b c d e=>
   cases w' with
   |mk a' b' c' d' e'=>
     simp only[grow,World.drewN] at*
     subst h1 h2 h3
     simp only[World.mk.injEq,true_and,and_true]
     exact⟨hh,hd⟩
section
variable{α:Type}[Inhabited α]{γ:aA}{w:World}{j b:Nat}
theorem hZ(enc:α->Value)(hb:is j (γ b))(m:Nat)(d:Array α)(os:Array Obj):bi (is j) γ w γ (sortWorld enc w b 0 m d os):=by
 refine⟨rfl,rfl,rfl,?_,λ_ _ _=>rfl,λk hk hn=>?_,?_⟩
 · unfold sortWorld;rw[size_grow,Go.Sort.size_putRow];simp only[heap_ahead];omega
 · unfold sortWorld
   rw[heap_grow_old _ _ (by rw[Go.Sort.size_putRow];exact hk)]
   have:b≠k:=λe=>hn (by subst e;exact hb)
   simp[putRow,mapBlock,Array.getElem?_modify,this]
 · show w.drawn<=w.drawn+m
   omega
theorem iK(enc:α->Value){c:Array Value}{e:TypeId}{fr:Nat×Nat}(h:w.heap[b]? =some (.cells c e fr))(m:Nat)(d:Array α)(os:Array Obj):(sortWorld enc w b 0 m d os).heap[b]? =some (.cells (putCells enc 0 d c) e fr):=by
 unfold sortWorld
 rw[heap_grow_old _ _ (by rw[Go.Sort.size_putRow];exact cB h)]
 simp[putRow,mapBlock,Array.getElem?_modify,h,onCells]
theorem gB(enc:α->Value){d:Array α}{c:Array Value}{k:Nat}(h:k<d.size)(hc:k<c.size):(putCells enc 0 d c)[k]? =some (enc d[k]!):=by
 simp[putCells,h,hc]
end
theorem mw{P:Program}{ρ:Ren}(L:SlLaysF.n6 P ρ){α:Type}[Inhabited α](fe:α->Int)(cf:α->α->Int)(hO:SWO (ltOf cf))(g:Nat)(cb:Array Value)(eg:∀args w,(callFunc g args).run P w= .ok (.enter g args) w)
   {γ:aA}{w:World}{j:Nat}{v:Value}{ds:List α}(hne:ds≠[])(hl:Ow γ (is j) (is j) w v (ds.map fe))
   (hc:∀W,bi (is j) γ w γ W->∀x y,Calls P g (#[.int .i64 (fe x),.int .i64 (fe y)]++cb) W λe w'=>e= .returned (.int .i64 (cf x y))/\cl W.heap.size W w'):
   Calls P (ρ.f 6) #[v,.func (.func g) #[] cb] w λe w'=>e= .returned (.tuple #[])/\∃ds':List α,ds'.Perm ds/\ds'.Pairwise (λx y=>ltOf cf y x=false)/\bi (is j) γ w γ w'/\Ow γ (is j) (is j) w' v (ds'.map fe):=by
 rcases hl with⟨_,h⟩|⟨b,cap,c,e,rfl,hcap,hm,hJ,hb,hcs,hx⟩
 · simp at h;exact absurd h hne
 · simp only[List.length_map] at hcap
   have hsz1:Rp.sz Int=1:=rfl
   rw[hsz1,Nat.mul_one] at hcs
   have hbs:=cB hb
   have hlen:(ds.map fe).length=ds.toArray.size:=by simp
   have hget:∀i,i<ds.length->c[i]? =some (Value.int .i64 (fe ds.toArray[i]!)):=λi hi=>by
     obtain⟨cs,h1,h2⟩:=hx i (fe ds[i]) (by simp[hi])
     have h2:cs=[Value.int .i64 (fe ds[i])]:=h2
     have h1:=h1 0 (by decide)
     rw[h2] at h1
     simp only[hsz1,Nat.mul_one,Nat.add_zero] at h1
     rw[h1]
     simp[hi]
   have hH:Holds (λx:α=>Value.int .i64 (fe x)) w b 0 ds.toArray:=λi hi=>by
     have hi:i<ds.length:=by simpa using hi
     constructor
     · have:=hget i hi
       simp only[World.cell?,hb,Nat.zero_add]
       exact this
     · simp[World.frozen?,hb]
   have hcmp:CmpLays1 P g cb (λx:α=>Value.int .i64 (fe x)) cf b 0 ds.toArray.size w:=λm os dk hs x y=>
     (hc _ (hZ _ hJ m dk os) x y).mono λe w' ⟨h1,h2⟩=>⟨h1,h2.grown⟩
   have il:=Any.slices_SortFunc L (λx:α=>Value.int .i64 (fe x)) (λ_=>rfl) cf hO g cb b 0 cap ds.toArray w eg hcmp hH hbs (by simp;omega)
   rw[hlen]
   refine il.mono λe' w' ⟨h1,d',n,os,hp,hs,hw⟩=>⟨h1,d'.toList,?_,?_,?_,?_⟩
   · obtain⟨q1,_,q3⟩:=hp
     rw[<-q1] at q3
     have e1:(d'.extract 0 d'.size)=d':=by simp
     rw[e1,q1] at q3
     have e2:(ds.toArray.extract 0 ds.toArray.size)=ds.toArray:=Array.extract_size
     rw[e2] at q3
     simpa using q3
   · rw[List.pairwise_iff_getElem]
     intro i k hi hk hik
     have hi:i<d'.size:=by simpa using hi
     have hk:k<d'.size:=by simpa using hk
     have:=hs i k (Nat.zero_le _) hik (by rw[<-hp.1];exact hk)
     rw[getElem!_pos d' k hk,getElem!_pos d' i hi] at this
     simpa using this
   · rw[hw];exact hZ _ hJ n d' os
   · have hs':d'.size=ds.length:=by rw[hp.1];simp
     have hd:d'.toList.length=ds.length:=by simpa using hs'
     refine .inr ⟨b,cap,_,e,by rw[List.length_map,hd];simp,by rw[List.length_map,hd];exact hcap,hm,hJ,by rw[hw];exact iK _ hb n d' os,by rw[hsz1,Nat.mul_one];simpa[putCells] using hcs,λi x hi=>?_⟩
     have hi':i<d'.size:=by
       have:=(List.getElem?_eq_some_iff.1 hi).1
       simpa using this
     refine⟨[Value.int .i64 x],λq hq=>?_,rfl⟩
     have:q=0:=by have:q<1:=hq;omega
     subst this
     rw[hsz1,Nat.mul_one,Nat.add_zero,gB _ hi' (by rw[hcs];omega),getElem!_pos d' _ hi']
     simp[hi'] at hi
     simp[hi]
end TL
/-
  TlSort2: the library's sort of numbers, met in this frame.
  By an AI agent.
-/
set_option linter.all false
namespace TL
open Go Go.Proofs Go.Shelf Go.Sort Go.Lib
theorem kd{P:Program}{ρ:Ren}(L:Lays.n189 P ρ)(hN:∀w:World,Calls P (ρ.f 189) #[.slice none 0 0] w λe w'=>e= .returned (.tuple #[])/\cl w.heap.size w w')
   {γ:aA}{w:World}{j:Nat}{v:Value}{zs:List Int}(hl:Ow γ (is j) (is j) w v zs):
   Calls P (ρ.f 189) #[v] w λe w'=>e= .returned (.tuple #[])/\bi (is j) γ w γ w'/\Ow γ (is j) (is j) w' v (zs.mergeSort λx y=>decide (x<=y)):=by
 rcases hl with⟨rfl,rfl⟩|⟨b,cap,c,e,rfl,hcap,hm,hJ,hb,hcs,hx⟩
 · refine(hN w).mono λe w' ⟨h1,h2⟩=>⟨h1,?_,?_⟩
   · exact⟨h2.os,h2.tape,h2.output,h2.size,λ_ _ _=>rfl,λk hk _=>h2.block k hk,h2.drawn⟩
   · rw[show([]:List Int).mergeSort (λx y=>decide (x<=y))=[] from by simp]
     exact .inl ⟨rfl,rfl⟩
 · have hsz1:Rp.sz Int=1:=rfl
   rw[hsz1,Nat.mul_one] at hcs
   have hbs:=cB hb
   have hget:∀i,i<zs.length->c[i]? =some (Value.int .i64 zs.toArray[i]!):=λi hi=>by
     obtain⟨cs,h1,h2⟩:=hx i zs[i] (by simp[hi])
     have h2:cs=[Value.int .i64 zs[i]]:=h2
     have h1:=h1 0 (by decide)
     rw[h2] at h1
     simp only[hsz1,Nat.mul_one,Nat.add_zero] at h1
     rw[h1]
     simp[hi]
   have hH:Holds (Value.int .i64) w b 0 zs.toArray:=λi hi=>by
     have hi:i<zs.length:=by simpa using hi
     constructor
     · have:=hget i hi
       simp only[World.cell?,hb,Nat.zero_add]
       exact this
     · simp[World.frozen?,hb]
   have il:=Any.slices_Sort_int L b 0 cap zs w hH hbs (by omega)
   refine il.mono λe' w' ⟨h1,n,os,hw⟩=>⟨h1,?_,?_⟩
   · rw[hw];exact hZ _ hJ n _ os
   · have hd:(zs.mergeSort λx y=>decide (x<=y)).length=zs.length:=List.length_mergeSort _
     generalize(zs.mergeSort λx y=>decide (x<=y))=ds at hd hw
     refine .inr ⟨b,cap,_,e,by rw[hd],by rw[hd];exact hcap,hm,hJ,by rw[hw];exact iK (Value.int .i64) hb n ds.toArray os,by rw[hsz1,Nat.mul_one];simpa[putCells] using hcs,λi x hi=>?_⟩
     have hi':i<ds.length:=(List.getElem?_eq_some_iff.1 hi).1
     refine⟨[Value.int .i64 x],λq hq=>?_,rfl⟩
     have:q=0:=by have:q<1:=hq;omega
     subst this
     rw[hsz1,Nat.mul_one,Nat.add_zero,gB _ (by simpa using hi') (by rw[hcs];omega),getElem!_pos ds.toArray _ (by simpa using hi')]
     simp[hi'] at hi
     simp[hi]
end TL
/-
  TlPost: what is owed behind a law that returns true and writes nothing of the caller's.
  By an AI agent.
-/
namespace TL
open Go Go.Proofs Go.ChangeShapes Go.WideShapes Go.RowKit
def kF(P:Program)(ts:List TypeId):Bool:=ts.all λt=>P.readableRec t&&decide (t<P.types.size)
theorem io{H:Type}{enc:TypeId×Value->H}{P:Program}(hl:laidOutB P=true){W W':World}(hb:Below W.heap.size W W')(sp:Nat->Bool):
   ∀{ts:List TypeId} {vs:List Value} {ds:List (DataW H)} {ps:List MemPlace},kF P ts=true->DataW.TrodAll enc P W 0 (λ_=>true) true ts vs ds ps->(∀p∈ps,p.block<W.heap.size)->(∀p∈ps,sp p.block=true)->DataW.TrodAll enc P W' 0 sp true ts vs ds ps
 |[],[],[],_,_,h,_,_=>h
 |[],[],_::_,_,_,h,_,_=>h.elim
 |[],_::_,_,_,_,h,_,_=>by cases‹List (DataW H)›<;>exact h.elim
 |_::_,[],_,_,_,h,_,_=>by cases‹List (DataW H)›<;>exact h.elim
 |_::_,_::_,[],_,_,h,_,_=>h.elim
 |t::ts,v::vs,d::ds,ps,hr,h,hlt,hsp=>by
   obtain⟨p,q,h1,h2,rfl⟩:=h
   simp only[kF,List.all_cons,Bool.and_eq_true,decide_eq_true_eq] at hr
   exact⟨p,q,WideElems.Trod_stays hl hr.1.1 hr.1.2 h1 (λx hx=>hb.same (hlt x (by simp[hx]))) (λx hx=>hsp x (by simp[hx])),
     io hl hb sp hr.2 h2 (λx hx=>hlt x (by simp[hx])) (λx hx=>hsp x (by simp[hx])),rfl⟩
theorem nL{H:Type}{enc:TypeId×Value->H}{P:Program}{f:Func}{s:ChangeSpec}{W W':World}{args:Array Value}{ds gs:List (DataW H)}{before:List MemPlace}{tb:TypeId}
   (hl:laidOutB P=true)(hr:kF P f.params.toList=true)(hv:s.vars=[])(hrt:f.resultTypes= #[tb])(htb:P.underlying tb=some .bool)
   (hW:DataW.Whole enc P f.params.toList s.vars false W args.toList ds gs before)(hfn:s.fn H (ds++gs)={results:=[.lit (.bool true)],args:=ds})(hB:Below W.heap.size W W'):
   s.post enc P f false true false false W args (.bool true) W':=by
 have hlt:=hW.lt
 have hW0:=hW
 obtain⟨p,q,hA,hV,rfl,hfz,_⟩:=hW
 rw[hv] at hV
 obtain⟨rfl,rfl⟩:=trodVars_none hV
 simp only[List.append_nil] at hlt hfz hW0 hfn
 have hres:∀(b:Nat) (sp:Nat->Bool) (hd:Bool),DataW.TrodAll enc P W' b sp hd f.resultTypes.toList ((Value.bool true).resultList f.resultTypes.size) (s.fn H (ds++[])).results []:=λb sp hd=>by
   rw[hrt,List.append_nil,hfn]
   exact trodAll_cons_mk (shut_bool htb true) trodAll_mk0
 have hargs:∀sp:Nat->Bool,(∀x∈p,sp x.block=true)->DataW.TrodAll enc P W' 0 sp true f.params.toList args.toList (s.fn H (ds++[])).args p:=λsp hsp=>by
   rw[List.append_nil,hfn]
   exact io hl hB sp hr hA hlt hsp
 have hvars:∀sp:Nat->Bool,DataW.TrodVars enc P W' sp s.vars (s.fn H (ds++[])).vars []:=λsp=>by
   rw[List.append_nil,hfn,hv]
   rfl
 refine⟨ds,[],p,[],p,[],hW0,hres _ _ _,hargs _ (λx hx=>by simpa using hlt x hx),hvars _,World.keptBut_mono (λx hx=>⟨hx,Or.inr (by simpa using hx)⟩) (hB.frame _),λ_=>?_⟩
 refine⟨?_,_,_,([]++p)++[],⟨[]++p,[],trodAll_append (hargs _ (λ_ _=>rfl)) (hres _ _ _),hvars _,rfl,?_,?_⟩,?_⟩
 · exact ok_one hrt rfl (okWide_bool_mk htb true)
 · intro b off hp
   have hp':MemPlace.cell b off∈p:=by simpa using hp
   rw[hB.frozen (p:=⟨b,off,none⟩) (hlt _ hp')]
   exact hfz b off hp'
 · intro ha;cases ha
 · intro x hx _
   simpa using hx
end TL
