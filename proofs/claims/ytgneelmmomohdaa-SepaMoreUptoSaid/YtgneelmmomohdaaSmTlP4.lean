/- Plain texts of this claim, part 4. By an AI agent. -/
import Derived.Test.YtgneelmmomohdaaSmTlP3
import Derived.RowKit
/-
  TlSepS: split pairs, put in order.
  By an AI agent.
-/
set_option linter.all false
namespace TL
section
variable{l:List Int}{k:Nat}{g:bh}
theorem wg(x y:Int×Int):pd [ec x.1 y.1,ec x.2 y.2]=lK x y:=by
 unfold lK
 simp only[pd,uQ]
structure nC(g:bh)(l:List (Int×Int))(D:List (Int×Int))(k n:Nat)(m:(Int×Int->Int)×List (Int×Int)):Prop where
 eq:m.2=eB l D k
 bd:∀q,0<=m.1 q/\m.1 q<=(n:Int)
variable{L D:List (Int×Int)}{n:Nat}{m m2:(Int×Int->Int)×List (Int×Int)}
theorem nC.next(h:nC g L D k n m)(hk:(k:Int)<(L.length:Int)){p:Int×Int}(hp:p=gI L (k:Int))(e1:m2.1=λq=>if q=p then m.1 p+1 else m.1 q)(e2:m2.2=i4 m.2 p):nC g L D (k+1) (n+1) m2:=by
 subst hp
 refine⟨by rw[e2];exact iK h.eq hk,λq=>?_⟩
 rw[e1]
 show 0<=(if q=_ then _ else _)/\(if q=_ then _ else _)<=_
 have h1:=h.bd q
 have h2:=h.bd (gI L (k:Int))
 split<;>omega
def qG(g:bh):List (Int×Int):=iz ((gL g).filter λp=>ft g p.1 p.2)
def bN(g:bh):List (Int×Int)×Int:=if aV g then if dm g=true then(qG g,0) else([],7) else([],1)
theorem un{S:List (Int×Int)}(hn:S.Nodup)(hd:(gL g).Nodup)(h1:∀q∈S,q∈gL g)(h2:∀q∈gL g,q∈S):iz (S.filter λp=>ft g p.1 p.2)=qG g:=by
  have hp:S.Perm (gL g):=(List.perm_ext_iff_of_nodup hn hd).2 λq=>⟨h1 q,h2 q⟩
  exact kY _ _ ((ic _).trans ((hp.filter _).trans (ic _).symm)) (fT _) (fT _)
theorem ui{S:List (Int×Int)}{q:Int×Int}(h:ft g q.1 q.2=true):(S.filter λp=>ft g p.1 p.2)++[q]=(S++[q]).filter λp=>ft g p.1 p.2:=by
 rw[List.filter_append,List.filter_cons_of_pos (p:=λp:Int×Int=>ft g p.1 p.2) (a:=q) h];rfl
theorem ww{S:List (Int×Int)}{q:Int×Int}(h:¬ft g q.1 q.2=true):(S.filter λp=>ft g p.1 p.2)=(S++[q]).filter λp=>ft g p.1 p.2:=by
 rw[List.filter_append,List.filter_cons_of_neg (p:=λp:Int×Int=>ft g p.1 p.2) (a:=q) h,List.filter_nil,List.append_nil]
theorem jC{l:List (Int×Int)}{D:List (Int×Int)}:∀k:Nat,(k:Int)<=(l.length:Int)->(eB l D k).length<=D.length+k
 |0,_=>by simp[eB]
 |k+1,h=>by
   have ih:=jC (l:=l) (D:=D) k (by omega)
   rw[<-iK rfl (by omega)]
   unfold i4
   split
   · omega
   · rw[List.length_append];simp;omega
theorem jD{K:Type}{nb:Bool}{q:K}{D S:List K}(h:nb=true->q∈D/\q∉S/\S.length+1<=D.length)(hb:nb=true):S.length+1<=D.length:=(h hb).2.2
theorem nC.base(h:nC g (bZ g (g.1*g.1)) [] k k m)(h1:(k:Int)<=((bZ g (g.1*g.1)).length:Int))(hk:¬(k:Int)<((bZ g (g.1*g.1)).length:Int))(hm:aV g)(hN:2<g.1):nC g (g.2.map fO) (eB (du g) [] (du g).length) 0 1048576 m:=by
 have e:k=(bZ g (g.1*g.1)).length:=by omega
 have hb:du g=bZ g (g.1*g.1):=if_pos hN
 have hl:=l8 (most:=g.1*g.1) hm
 refine⟨by rw[h.eq,hb,e];rfl,λq=>?_⟩
 have:=h.bd q
 omega
theorem nC.none(hN:¬2<g.1):nC g (g.2.map fO) (eB (du g) [] (du g).length) 0 1048576 (λ_=>0,[]):=by
 have hb:du g=[]:=if_neg hN
 exact⟨by rw[hb];rfl,λq=>⟨Int.le_refl _,by show(0:Int)<=_;omega⟩⟩
theorem nC.done(h:nC g (g.2.map fO) (eB (du g) [] (du g).length) k n m)(h1:(k:Int)<=(g.2.length:Int))(hk:¬(k:Int)<(g.2.length:Int)):m.2=gL g:=by
 have e:k=g.2.length:=by omega
 rw[h.eq,e];rfl
theorem gX{l D:List (Int×Int)}(h:D.Nodup):∀k:Nat,(k:Int)<=(l.length:Int)->(eB l D k).Nodup
 |0,_=>by simpa[eB] using h
 |k+1,hk=>by
   have ih:=gX (l:=l) h k (by omega)
   rw[<-iK rfl (by omega)]
   unfold i4
   split
   · exact ih
   · rw[List.nodup_append]
     refine⟨ih,by simp,λa ha b hb=>?_⟩
     rw[List.mem_singleton.1 hb]
     intro e;rw[e] at ha;exact absurd ha (by assumption)
theorem oc:(gL g).Nodup:=gX (gX List.nodup_nil _ (Int.le_refl _)) _ (by rw[List.length_map];omega)
theorem r5(hm:aV g):((gL g).length:Int)<=1051648:=by
 have h1:=jC (l:=g.2.map fO) (D:=eB (du g) [] (du g).length) g.2.length (by rw[List.length_map];omega)
 have h2:=jC (l:=du g) (D:=[]) (du g).length (Int.le_refl _)
 have h3:((du g).length:Int)<=1048576:=by
   unfold du
   split
   · exact l8 hm
   · simp
 have h4:=hm.2.2.1
 have h5:(gL g).length=(eB (g.2.map fO) (eB (du g) [] (du g).length) g.2.length).length:=rfl
 simp at h2
 omega
structure lC(g:bh)(D S l:List (Int×Int)):Prop where
  eq:l=S.filter λp=>ft g p.1 p.2
  nd:S.Nodup
  sub:∀q∈S,q∈D
variable{S ll:List (Int×Int)}{nb:Bool}{q:Int×Int}
theorem lC.start:lC g D [] []:=⟨rfl,List.nodup_nil,λq h=>absurd h List.not_mem_nil⟩
theorem lC.nd'(h:lC g D S ll)(hy:nb=true->q∈D/\q∉S/\S.length+1<=D.length)(hb:nb=true):(S++[q]).Nodup/\∀z∈S++[q],z∈D:=by
 refine⟨?_,λz hz=>?_⟩
 · rw[List.nodup_append]
   exact⟨h.nd,by simp,λa ha b hb'=>by rw[List.mem_singleton.1 hb'];intro e;exact(hy hb).2.1 (e▸ha)⟩
 · rcases List.mem_append.1 hz with hz|hz
   · exact h.sub z hz
   · rw[List.mem_singleton.1 hz];exact(hy hb).1
theorem lC.yes(h:lC g D S ll)(hy:nb=true->q∈D/\q∉S/\S.length+1<=D.length)(hb:nb=true)(hh:ft g q.1 q.2=true):lC g D (n4 nb S q) (ll++[q]):=by
 rw[kx hb]
 exact⟨by rw[h.eq];exact ui hh,(h.nd' hy hb).1,(h.nd' hy hb).2⟩
theorem lC.no(h:lC g D S ll)(hy:nb=true->q∈D/\q∉S/\S.length+1<=D.length)(hb:nb=true)(hh:¬ft g q.1 q.2=true):lC g D (n4 nb S q) ll:=by
 rw[kx hb]
 exact⟨by rw[h.eq];exact ww hh,(h.nd' hy hb).1,(h.nd' hy hb).2⟩
theorem lC.len(h:lC g D S ll):ll.length<=S.length:=by rw[h.eq];exact List.length_filter_le _ _
theorem lC.done(h:lC g D S ll)(hD:D=gL g)(hz:nb=false->∀q∈D,q∈S)(hb:¬nb=true):iz ll=qG g:=by
 subst hD
 rw[h.eq]
 exact un h.nd oc h.sub (hz (by cases nb;rfl;exact absurd rfl hb))
theorem mN(h:(bW g).2=0):aV g:=by
 unfold bW at h
 by_cases c:aV g
 · exact c
 · rw[if_neg c] at h;exact absurd h (by decide)
theorem tQ(h:¬(bW g).2=0):bN g=([],(bW g).2):=by
 unfold bW at h ⊢
 unfold bN
 by_cases c:aV g
 · rw[if_pos c] at h;exact absurd rfl h
 · rw[if_neg c,if_neg c]
theorem vC(h:(bW g).2=0)(h2:¬(bW g).1=true):bN g=([],7):=by
 have hm:=mN h
 unfold bW at h2
 rw[if_pos hm] at h2
 unfold bN;rw[if_pos hm,if_neg h2]
theorem mm(h:(bW g).2=0)(h2:(bW g).1=true):bN g=(qG g,0):=by
 have hm:=mN h
 unfold bW at h2
 rw[if_pos hm] at h2
 unfold bN;rw[if_pos hm,if_pos h2]
end
end TL
/-
  TlSepM: nets that are well known.
  By an AI agent.
-/
set_option linter.all false
namespace TL
def jq(k:Nat):List (Int×Int):=(List.range k).map λ(i:Nat)=>((i:Int),(i:Int)+1)
def bU(n:Int):bh:=(n,jq (n-1).toNat++[(n-1,0)])
section
variable{n kk:Int}{i j k:Nat}{E:List (Int×Int)}
theorem kI:(jq k).length=k:=by simp[jq]
theorem jM(h:E=jq k):E++[((k:Int),(k:Int)+1)]=jq (k+1):=by
 rw[h];simp[jq,List.range_succ]
theorem kR(h:E=jq k)(h0:(k:Int)<=n-1)(hk:¬(k:Int)<n-1):(n,E++[(n-1,0)])=bU n:=by
 unfold bU;rw[h,show k=(n-1).toNat by omega]
def fg(i j:Nat):List (Int×Int):=(List.range j).map λ(q:Nat)=>((i:Int),(i:Int)+1+(q:Int))
def dC(n:Int)(i:Nat):List (Int×Int):=(List.range i).flatMap λa=>fg a (n-1-(a:Int)).toNat
def dX(n:Int):bh:=(n,dC n n.toNat)
theorem ff(hn:n<=20):∀i:Nat,(dC n i).length<=i*20
 |0=>by simp[dC]
 |i+1=>by
   have h1:=ff hn i
   have e:dC n (i+1)=dC n i++fg i (n-1-(i:Int)).toNat:=by
     unfold dC
     rw[List.range_succ,List.flatMap_append,List.flatMap_cons,List.flatMap_nil,List.append_nil]
   have e2:(fg i (n-1-(i:Int)).toNat).length=(n-1-(i:Int)).toNat:=by simp only[fg,List.length_map,List.length_range]
   rw[e,List.length_append,e2]
   omega
theorem fB:dC n i=dC n i++fg i ((i:Int)+1-1-(i:Int)).toNat:=by
 rw[show((i:Int)+1-1-(i:Int)).toNat=0 by omega];simp[fg]
theorem gm(h:E=dC n i++fg i (kk-1-(i:Int)).toNat)(h1:(i:Int)+1<=kk):E++[((i:Int),kk)]=dC n i++fg i (kk+1-1-(i:Int)).toNat:=by
 rw[h,show(kk+1-1-(i:Int)).toNat=(kk-1-(i:Int)).toNat+1 by omega,List.append_assoc]
 congr 1
 simp only[fg,List.range_succ,List.map_append,List.map_cons,List.map_nil]
 congr 2
 refine congrArg (λz=>((i:Int),z)) ?_
 omega
theorem ir(h:E=dC n i++fg i (kk-1-(i:Int)).toNat)(h1:kk<=n)(h2:¬kk<n):E=dC n (i+1):=by
 rw[h,show kk=n by omega]
 unfold dC
 rw[List.range_succ,List.flatMap_append]
 simp
theorem io(hn:n<=20)(hi:(i:Int)<n)(h:E=dC n i++fg i (kk-1-(i:Int)).toNat)(h1:kk<=n):E.length<=1000:=by
 have h3:=ff hn i
 have e2:(fg i (kk-1-(i:Int)).toNat).length=(kk-1-(i:Int)).toNat:=by simp only[fg,List.length_map,List.length_range]
 rw[h,List.length_append,e2]
 omega
theorem ga(h:E=dC n i)(h0:(i:Int)<=n)(hi:¬(i:Int)<n):(n,E)=dX n:=by
 unfold dX;rw[h,show i=n.toNat by omega]
theorem wI(h0:1<=n)(h1:n<=20):0<=n*(n-1)/\n*(n-1)<=400:=⟨Int.mul_nonneg (by omega) (by omega),Int.le_trans (Int.mul_le_mul_of_nonneg_right h1 (by omega)) (by omega)⟩
end
end TL
/-
  TlSepB: what layer 15 answers of two nets.
  By an AI agent.
-/
set_option linter.all false
namespace TL
theorem vx:aX (dX 4)=(3,0):=by decide+kernel
theorem rt:b6 (bU 4)=([(0,2),(1,3)],0):=by decide+kernel
theorem vE:((bq (bU 4) 0 2).1.length:Int)=2/\(bq (bU 4) 0 2).2=0:=by decide+kernel
theorem vw:((bN (bU 4)).1.length:Int)=2/\(bN (bU 4)).2=0:=by decide+kernel
theorem vk:(aX (dX 4)).1=3/\(aX (dX 4)).2=0/\((b6 (bU 4)).1.length:Int)=2/\gI (b6 (bU 4)).1 1=(1,3)/\(b6 (bU 4)).2=0/\((bq (bU 4) 0 2).1.length:Int)=2/\(bq (bU 4) 0 2).2=0/\((bN (bU 4)).1.length:Int)=2/\(bN (bU 4)).2=0:=
 ⟨by rw[vx],by rw[vx],by rw[rt];rfl,by rw[rt];rfl,by rw[rt],vE.1,vE.2,vw.1,vw.2⟩
end TL
/-
  TlNil: a list that is none, compared.
  By an AI agent.
-/
set_option linter.all false
namespace TL
open Go
section
variable{P:Program}{w:World}{t t':TypeId}{f:Fr}{x y:Operand}{dst:Option Tmp}{ty:TypeId}{pos:String}{after:Array Edge}{g:Option (Nat×Bool)}
end
theorem kB{α:Type}[Rp α]{γ:aG}{J S:cj->Prop}{w:World}{v:Value}{xs:List α}{hi:Nat}(h:Ow γ J S w v xs)(h2:hi<=xs.length):Ow γ J S w (dR v (Rp.sz α) 0 hi) (xs.take hi):=by
  rcases h with⟨rfl,rfl⟩|⟨b,cap,c,e,rfl,hc,hm,hJ,hb,hcs,hx⟩
  · simp only[List.length_nil] at h2
    have:hi=0:=by omega
    subst this
    exact .inl ⟨rfl,rfl⟩
  · have hl:(xs.take hi).length=hi:=by simp;omega
    refine .inr ⟨b,cap,c,e,?_,⟨by omega,by omega⟩,hm,hJ,hb,hcs,λi x hi'=>hx i x ?_⟩
    · rw[qr]
      simp only[hl]
    · rw[List.getElem?_take] at hi'
      split at hi'
      · exact hi'
      · cases hi'
end TL
/-
  TlKru: edges of the gg weight that join all that is joined (package path's Least): Kruskal's way by labels, and a forest of parents that agrees with the labels.
  By an AI agent.
-/
set_option linter.all false
namespace TL
def rx(ws:List Nat)(i:Int):Pl:=(zf (gI ws i),i)
def mY(ws:List Nat)(i k:Int):Prop:=qc (rx ws i) (rx ws k)
instance (ws:List Nat)(i k:Int):Decidable (mY ws i k):=by unfold mY;infer_instance
theorem ky(ws:List Nat)(i:Int):¬mY ws i i:=pu _
theorem vS{ws:List Nat}{i j k:Int}(h:mY ws i j)(h2:mY ws j k):mY ws i k:=by unfold mY qc rx at*;omega
theorem uG{ws:List Nat}{i j:Int}(h:¬mY ws i j)(h2:¬mY ws j i):i=j:=by
 have:=uf h h2
 exact congrArg Prod.snd this
theorem wh{ws:List Nat}{i j:Int}(h:mY ws i j):¬mY ws j i:=wu h
def mE(ws:List Nat)(x:Int):List Int->List Int
 |[]=>[x]
 |y::l=>if mY ws x y then x::y::l else y::mE ws x l
def eT(ws:List Nat):List Int:=(bG ws.length).foldr (mE ws) []
def pq(ws:List Nat)(l:List Int):Prop:=l.Pairwise λx y=>¬mY ws y x
theorem jK(ws:List Nat)(x:Int):∀l,(mE ws x l).Perm (x::l)
 |[]=>List.Perm.refl _
 |y::l=>by
   unfold mE;split
   · exact List.Perm.refl _
   · exact((jK ws x l).cons y).trans (List.Perm.swap x y l)
theorem nO{ws:List Nat}{x:Int}:∀{l},pq ws l->pq ws (mE ws x l)
 |[],_=>by unfold mE pq;simp
 |y::l,h=>by
   unfold pq at h ⊢
   obtain⟨h1,h2⟩:=List.pairwise_cons.1 h
   unfold mE;split
   · rename_i c
     refine List.pairwise_cons.2 ⟨λz hz=>?_,h⟩
     rcases List.mem_cons.1 hz with e|e
     · rw[e];exact wh c
     · intro k;exact h1 z e (vS k c)
   · rename_i c
     refine List.pairwise_cons.2 ⟨λz hz=>?_,nO h2⟩
     rcases List.mem_cons.1 ((jK ws x l).mem_iff.1 hz) with e|e
     · rw[e];exact c
     · exact h1 z e
theorem kg(ws:List Nat):∀l:List Int,(l.foldr (mE ws) []).Perm l/\pq ws (l.foldr (mE ws) [])
 |[]=>⟨List.Perm.refl _,List.Pairwise.nil⟩
 |x::l=>⟨(jK ws x _).trans ((kg ws l).1.cons x),nO (kg ws l).2⟩
theorem kZ(ws:List Nat):(eT ws).Perm (bG ws.length):=(kg ws _).1
theorem v6(ws:List Nat):pq ws (eT ws):=(kg ws _).2
theorem mt(ws:List Nat):(eT ws).length=ws.length:=by rw[(kZ ws).length_eq,gu]
theorem pZ{ws:List Nat}{i:Int}:i∈eT ws↔0<=i/\i<(ws.length:Int):=by rw[(kZ ws).mem_iff,ck]
theorem rf(ws:List Nat):(eT ws).Nodup:=(kZ ws).nodup_iff.2 (gG _)
-- by labels
def wG(c:List Int)(a b:Int):List Int:=c.map λx=>if x=b then a else x
def vP(g:bh)(s:List Int×List Int)(i:Int):List Int×List Int:=
 if gI s.1 (gI g.2 i).1=gI s.1 (gI g.2 i).2 then s else(wG s.1 (gI s.1 (gI g.2 i).1) (gI s.1 (gI g.2 i).2),s.2++[i])
def mD(g:bh)(l:List Int):List Int×List Int:=l.foldl (vP g) (bG g.1.toNat,[])
theorem rG(g:bh)(l:List Int)(i:Int):mD g (l++[i])=vP g (mD g l) i:=by unfold mD;rw[List.foldl_append];rfl
variable{n:Int}{of0 of c:List Int}{rho:Int->Nat}{v v0:Int}
end TL
namespace TL
variable{g:bh}{ws:List Nat}{of l:List Int}{k:Nat}
theorem qI{α:Type}[Inhabited α]{xs:List α}{k:Nat}(h:(k:Int)<xs.length):xs.take (k+1)=xs.take k++[gI xs (k:Int)]:=by
 have hk:k<xs.length:=by omega
 rw[List.take_succ_eq_append_getElem hk]
 simp[gI,hk]
end TL
namespace TL
end TL
namespace TL
end TL
/-
  TlRef7L: the document's own Least, step by step: the gg edge not yet seen, labels, and what is told.
  By an AI agent.
-/
set_option linter.all false
namespace TL
variable{g:bh}{ws:List Nat}{c c2:List Int}{seen taken:List Bool}{i k:Nat}{a b at_:Int}
def gy(ws:List Nat)(seen:List Bool):Nat->Int
 |0=> -1
 |k+1=>if gI seen (k:Int)=false/\(gy ws seen k<0\/zf (gI ws (k:Int))<zf (gI ws (gy ws seen k))) then(k:Int) else gy ws seen k
theorem mU(ws:List Nat)(seen:List Bool):∀k,gy ws seen k<k
 |0=>by unfold gy;omega
 |k+1=>by
   have:=mU ws seen k
   unfold gy;split<;>omega
theorem kT:∀k,gy ws seen k<0->∀v:Nat,v<k->gI seen (v:Int)=true
 |0,_,v,hv=>by omega
 |k+1,h,v,hv=>by
   unfold gy at h
   split at h
   · omega
   · rename_i d
     by_cases e:v=k
     · subst e
       cases hc:gI seen (v:Int) with
       |true=>rfl
       |false=>exact absurd ⟨hc,.inl h⟩ d
     · exact kT k h v (by omega)
theorem kr:∀k,¬gy ws seen k<0->gI seen (gy ws seen k)=false/\∀v:Nat,v<k->gI seen (v:Int)=false->¬mY ws v (gy ws seen k)
 |0,h=>absurd (show(-1:Int)<0 by decide) h
 |k+1,h=>by
   unfold gy at h ⊢
   by_cases d:gI seen (k:Int)=false/\(gy ws seen k<0\/zf (gI ws (k:Int))<zf (gI ws (gy ws seen k)))
   · rw[if_pos d]
     refine⟨d.1,λv hv hs=>?_⟩
     by_cases e:v=k
     · rw[e];exact ky _ _
     · by_cases c3:gy ws seen k<0
       · have:=kT k c3 v (by omega)
         rw[this] at hs;cases hs
       · obtain⟨_,i2⟩:=kr k c3
         have h1:=i2 v (by omega) hs
         have h2:=d.2.resolve_left c3
         unfold mY qc rx at*
         simp only at*
         omega
   · rw[if_neg d] at h ⊢
     obtain⟨i1,i2⟩:=kr k h
     refine⟨i1,λv hv hs=>?_⟩
     by_cases e:v=k
     · subst e
       have h3:¬zf (gI ws (v:Int))<zf (gI ws (gy ws seen v)):=λx=>d ⟨hs,.inr x⟩
       have h4:=mU ws seen v
       unfold mY qc rx
       simp only
       omega
     · exact i2 v (by omega) hs
structure tU(g:bh)(ws:List Nat)(c:List Int)(seen taken:List Bool)(i:Nat):Prop where
 lc:(c.length:Int)=g.1
 ls:(seen.length:Int)=g.2.length
 lt:(taken.length:Int)=g.2.length
 eq:c=(mD g ((eT ws).take i)).1
 sn:∀k:Int,0<=k->k<g.2.length->(gI seen k=true↔k∈(eT ws).take i)
 tk:∀k:Int,0<=k->k<g.2.length->(gI taken k=true↔k∈(mD g ((eT ws).take i)).2)
theorem tU.start(hm:aV g)(hc:c=bG g.1.toNat):tU g ws c (List.replicate (Int.toNat (g.2.length:Int)) false) (List.replicate (Int.toNat (g.2.length:Int)) false) 0:=by
 have h0:=hm.1
 refine⟨by rw[hc,gu];omega,by simp,by simp,by rw[hc,List.take_zero];rfl,λk h0 h1=>?_,λk h0 h1=>?_⟩
 · rw[pV h0 (by omega),List.take_zero];simp
 · rw[pV h0 (by omega),List.take_zero];simp[mD]
theorem tU.at(h:tU g ws c seen taken i)(hwl:ws.length=g.2.length)(hi:(i:Int)<g.2.length):gy ws seen g.2.length=gI (eT ws) (i:Int):=by
 have hol:=mt ws
 have hlt:i<(eT ws).length:=by omega
 obtain⟨x,ex⟩:∃x,x=gI (eT ws) (i:Int):=⟨_,rfl⟩
 have ex2:x=(eT ws)[i]:=by rw[ex];simp[gI,hlt]
 have hx:=pZ.1 (show x∈eT ws by rw[ex2];exact List.getElem_mem hlt)
 have hnd:=rf ws
 have hsplit:eT ws=(eT ws).take i++x::(eT ws).drop (i+1):=by
   rw[ex2,<-List.drop_eq_getElem_cons hlt,List.take_append_drop]
 have hxn:x∉(eT ws).take i:=by
   rw[hsplit] at hnd
   intro k
   have:=(List.nodup_append.1 hnd).2.2 x k x (List.mem_cons_self ..)
   exact this rfl
 have hxs:gI seen x=false:=by
   cases hc:gI seen x with
   |false=>rfl
   |true=>exact absurd ((h.sn x hx.1 (by omega)).1 hc) hxn
 obtain⟨n,en⟩:∃n:Nat,x=n:=⟨x.toNat,by omega⟩
 have hneg:¬gy ws seen g.2.length<0:=by
   intro k
   have:=kT g.2.length k n (by omega)
   rw[<-en,hxs] at this;cases this
 obtain⟨m1,m2⟩:=kr g.2.length hneg
 have hlt2:=mU ws seen g.2.length
 obtain⟨y,ey⟩:∃y,y=gy ws seen g.2.length:=⟨_,rfl⟩
 rw[<-ey] at m1 m2 hlt2 hneg ⊢
 have k1:¬mY ws x y:=by rw[en];exact m2 n (by omega) (by rw[<-en];exact hxs)
 have hy:y∈eT ws:=pZ.2 ⟨by omega,by omega⟩
 have hyn:y∉(eT ws).take i:=by
   intro k
   have:=(h.sn y (by omega) (by omega)).2 k
   rw[m1] at this;cases this
 have k2:¬mY ws y x:=by
   rw[hsplit] at hy
   rcases List.mem_append.1 hy with k|k
   · exact absurd k hyn
   · rcases List.mem_cons.1 k with k|k
     · rw[k];exact ky _ _
     · have hs:=v6 ws
       unfold pq at hs
       rw[hsplit] at hs
       exact(List.pairwise_cons.1 (List.pairwise_append.1 hs).2.1).1 y k
 rw[<-ex]
 exact uG k2 k1
theorem nQ(hwl:ws.length=g.2.length)(hi:(i:Int)<g.2.length):(eT ws).take (i+1)=(eT ws).take i++[gI (eT ws) (i:Int)]:=qI (by rw[mt];omega)
theorem seen_next(h:tU g ws c seen taken i)(hwl:ws.length=g.2.length)(hi:(i:Int)<g.2.length)(ha:at_=gI (eT ws) (i:Int))(a0:0<=at_)(a1:at_<g.2.length)(k:Int)(k0:0<=k)(k1:k<g.2.length):gI (seen.set at_.toNat true) k=true↔k∈(eT ws).take (i+1):=by
 rw[nQ hwl hi,<-ha,List.mem_append,List.mem_singleton,c5 a0 (by have:=h.ls;omega) k0]
 by_cases e:k=at_
 · rw[if_pos e];simp[e]
 · rw[if_neg e,h.sn k k0 k1];simp[e]
theorem tU.same(h:tU g ws c seen taken i)(hwl:ws.length=g.2.length)(hi:(i:Int)<g.2.length)(ha:at_=gI (eT ws) (i:Int))(a0:0<=at_)(a1:at_<g.2.length)(e:gI c (gI g.2 at_).1=gI c (gI g.2 at_).2):tU g ws c (seen.set at_.toNat true) taken (i+1):=by
 have e2:mD g ((eT ws).take (i+1))=mD g ((eT ws).take i):=by
   rw[nQ hwl hi,rG,<-ha]
   unfold vP
   rw[<-h.eq,if_pos e]
 exact⟨h.lc,by rw[List.length_set];exact h.ls,h.lt,by rw[e2];exact h.eq,seen_next h hwl hi ha a0 a1,by rw[e2];exact h.tk⟩
theorem tU.all(h:tU g ws c seen taken i)(hwl:ws.length=g.2.length)(hi:¬(i:Int)<g.2.length)(k:Int)(k0:0<=k)(k1:k<g.2.length):gI taken k=true↔k∈(mD g (eT ws)).2:=by
 have:=h.tk k k0 k1
 rw[List.take_of_length_le (by rw[mt];omega)] at this
 exact this
end TL
/-
  TlOnes: ways of weights 1, 0 and of none: as a walk breadth first goes.
  By an AI agent.
-/
set_option linter.all false
namespace TL
variable{g g1 g2:bh}{ws w1 w2:List Nat}{s v:Int}{f1 f2 far:List Nat}{b1 b2 by_:List Int}{r1 r2 rk:Int->Nat}{C:Nat}
end TL
namespace TL
variable{g:bh}{s:Int}
end TL
namespace TL
open Go
theorem wA{P:Program}{f:Fr}{w:World}{dst:Option Tmp}{ty:TypeId}{pos:String}{after:Array Edge}{g:Option (Nat×Bool)}{t t':TypeId}{x y:Operand}{op:BinOp}{k:IntKind}{m n r:Int}(hx:ev f x= .int k m)(hy:ev f y= .int k n)(h:binOp op t (.int k m) (.int k n)=pure (.int k r)):(execOp (ev f) ⟨dst,.binOp op t x y t',ty,pos,after,g⟩).run P w= .ok (.value (.int k r)) w:=
 cD op x y hx hy (by rw[h];rfl)
end TL
namespace TL
variable{g:bh}{s v:Int}{on ze so:List Nat}{op:List Int}{i:Nat}
end TL
/-
  TlPerm: several new objects that are made in whatever order is drawn: all orders end alike.
  By an AI agent.
-/
set_option linter.all false
namespace TL
open Go
def lH(f:Fr)(val:Nat->Value)(S:List Nat):Fr:=λt=>bif S.contains t then val t else f t
theorem r9{f:Fr}{val:Nat->Value}{S S':List Nat}(h:∀t,t∈S↔t∈S'):lH f val S=lH f val S':=by
 funext t
 unfold lH
 have:S.contains t=S'.contains t:=by
   rw[Bool.eq_iff_iff]
   simp only[List.contains_iff_mem];exact h t
 rw[this]
theorem vf{f:Fr}{val:Nat->Value}{S:List Nat}{d:Nat}{v:Value}(hd:d∉S):fM (lH f val S) (some d) v=lH f (λt=>if t=d then v else val t) (d::S):=by
 funext t
 unfold fM lH
 simp only
 by_cases c:t=d
 · subst c
   have e1:(t::S).contains t=true:=by simp
   rw[e1,Nat.beq_refl];simp
 · have e1:Nat.beq t d=false:=by
     cases h:Nat.beq t d with
     |false=>rfl
     |true=>exact absurd (Nat.eq_of_beq_eq_true h) c
   have e2:(d::S).contains t=S.contains t:=by
     rw[Bool.eq_iff_iff]
     simp[c]
   rw[e1,e2,if_neg c];rfl
def nP{α:Type}:List α->List (List α)
 |[]=>[[]]
 |a::l=>nP l++(nP l).map (a:: ·)
theorem jW{α:Type}(p:α->Bool):∀l:List α,l.filter p∈nP l
 |[]=>List.mem_singleton.2 rfl
 |a::l=>by
   have ih:=jW p l
   unfold nP
   rw[List.filter_cons]
   split
   · exact List.mem_append_right _ (List.mem_map.2 ⟨_,ih,rfl⟩)
   · exact List.mem_append_left _ ih
theorem iS:∀(D A:List (Nat×Nat)),D.Nodup->(∀p∈D,p∈A)->D.length<=A.length
 |[],A,_,_=>Nat.zero_le _
 |a::D,A,hn,hs=>by
   have hn':=List.nodup_cons.1 hn
   have ha:=hs a (List.mem_cons_self ..)
   have h3:=iS D (A.erase a) hn'.2 (λx hx=>by
     have hne:x≠a:=λe=>hn'.1 (by rw[<-e];exact hx)
     exact(List.mem_erase_of_ne hne).2 (hs x (List.mem_cons_of_mem _ hx)))
   have h4:=List.length_erase_of_mem ha
   have h5:=List.length_pos_of_mem ha
   rw[List.length_cons];omega
theorem km:∀{A:List (Nat×Nat)},(A.map Prod.fst).Nodup->A.Nodup
 |[],_=>List.nodup_nil
 |a::A,h=>by
   rw[List.map_cons,List.nodup_cons] at h
   exact List.nodup_cons.2 ⟨λk=>h.1 (List.mem_map.2 ⟨a,k,rfl⟩),km h.2⟩
theorem lJ{A:List (Nat×Nat)}(h:(A.map Prod.snd).Nodup){p q:Nat×Nat}(hp:p∈A)(hq:q∈A)(e:p.2=q.2):p=q:=by
 induction A with
 |nil=>exact absurd hp List.not_mem_nil
 |cons a A ih=>
   rw[List.map_cons,List.nodup_cons] at h
   rcases List.mem_cons.1 hp with e1|e1
   · rcases List.mem_cons.1 hq with e2|e2
     · rw[e1,e2]
     · exact absurd (List.mem_map.2 ⟨q,e2,by rw[<-e,e1]⟩) h.1
   · rcases List.mem_cons.1 hq with e2|e2
     · exact absurd (List.mem_map.2 ⟨p,e1,by rw[e,e2]⟩) h.1
     · exact ih h.2 e1 e2
section
variable{P:Program}{n:Nat}{l:List Oper}{qs:List Nat}{K:Fr->World->Prop}{f:Fr}{w:World}{done:List Nat}{fuel:Nat}
theorem kJ{n:Nat}{d d':List Nat}(h:∀t,t∈d↔t∈d'):bY n d=bY n d':=by
 unfold bY
 congr 1
 apply List.map_congr_left
 intro t _
 rw[decide_eq_decide];exact h t
theorem qE{done':List Nat}(h:∀t,t∈done↔t∈done')(hw:iW P n l qs K fuel done f w):iW P n l qs K fuel done' f w:=by
 unfold iW at*
 rw[<-kJ h];exact hw
def rv(dep:Nat->List Nat)(D:List (Nat×Nat)):Bool:=D.all λp=>(dep p.2).all λt=>(D.map Prod.snd).contains t
def n8(dep:Nat->List Nat)(A D:List (Nat×Nat)):List (Nat×Nat):=A.filter λp=> !(D.map Prod.fst).contains p.1&&(dep p.2).all λt=>(D.map Prod.snd).contains t
def xE(l:List Oper)(done:List Nat)(dep:Nat->List Nat)(A:List (Nat×Nat)):Bool:=(nP A).all λD=>decide (D.length=A.length)||(rv dep D).not||(decide (Region.ready .any l.toArray (bY l.length (D.map Prod.fst++done))=(n8 dep A D).map Prod.fst)&& !(n8 dep A D).isEmpty)
theorem wc(A:List (Nat×Nat))(dep:Nat->List Nat)(Φ:Nat->List Value->aG->World->Value->Prop)(γ:aG)
    (hst:∀p∈A,∀vs γ w γ' w' v,bv no γ w γ' w'->Φ p.2 vs γ w v->Φ p.2 vs γ' w' v)
    (hnd:(A.map Prod.snd).Nodup)(hnf:(A.map Prod.fst).Nodup)
    (hrd:xE l done dep A=true)
    (hop:∀p∈A,qs.contains p.1=false/\∃o,l[p.1]? =some o/\o.dst=some p.2/\jY n o=true/\∀(f':Fr) (val:Nat->Value),(∀t,(A.map Prod.snd).contains t=false->f' t=f t)->(∀t∈dep p.2,f' t=val t)->cM l o f'=true/\∀γ w,(∀t∈dep p.2,Φ t ((dep t).map val) γ w (val t))->eZ P o f' w λv w'=>∃γ',bv no γ w γ' w'/\Φ p.2 ((dep p.2).map val) γ' w' v)
    (hk:∀val γ' w',bv no γ w γ' w'->(∀p∈A,Φ p.2 ((dep p.2).map val) γ' w' (val p.2))->iW P n l qs K fuel (A.map Prod.fst++done) (lH f val (A.map Prod.snd)) w'):iW P n l qs K (fuel+A.length) done f w:=by
  have main:∀(m:Nat) (D:List (Nat×Nat)) (val:Nat->Value) (γ':aG) (w':World),D.Nodup->(∀p∈D,p∈A)->(∀p∈D,∀t∈dep p.2,t∈D.map Prod.snd)->D.length+m=A.length->bv no γ w γ' w'->(∀p∈D,Φ p.2 ((dep p.2).map val) γ' w' (val p.2))->iW P n l qs K (fuel+m) (D.map Prod.fst++done) (lH f val (D.map Prod.snd)) w':=by
    have hAn:A.Nodup:=km hnf
    intro m
    induction m with
    |zero=>
      intro D val γ' w' hD hsub hcl hl hc hF
      have hmem:∀p,p∈A↔p∈D:=by
        intro p
        refine⟨λhp=>?_,hsub p⟩
        by_cases c:p∈D
        · exact c
        · exfalso
          have:=iS (p::D) A (List.nodup_cons.2 ⟨c,hD⟩) (λq hq=>(List.mem_cons.1 hq).elim (λe=>by rw[e];exact hp) (hsub q))
          rw[List.length_cons] at this;omega
      have h1:=hk val γ' w' hc (λp hp=>hF p ((hmem p).1 hp))
      have e1:∀t,t∈A.map Prod.fst++done↔t∈D.map Prod.fst++done:=λt=>by
        simp only[List.mem_append,List.mem_map]
        constructor
        · rintro(⟨p,hp,rfl⟩|h)
          · exact .inl ⟨p,(hmem p).1 hp,rfl⟩
          · exact .inr h
        · rintro(⟨p,hp,rfl⟩|h)
          · exact .inl ⟨p,(hmem p).2 hp,rfl⟩
          · exact .inr h
      have e2:lH f val (A.map Prod.snd)=lH f val (D.map Prod.snd):=r9 λt=>by
        simp only[List.mem_map]
        constructor
        · rintro⟨p,hp,rfl⟩;exact⟨p,(hmem p).1 hp,rfl⟩
        · rintro⟨p,hp,rfl⟩;exact⟨p,(hmem p).2 hp,rfl⟩
      rw[e2] at h1
      exact qE e1 h1
    |succ m ih=>
      intro D val γ' w' hD hsub hcl hl hc hF
      let D':=A.filter λp=>decide (p∈D)
      have hD':∀p,p∈D'↔p∈D:=λp=>by
        show p∈A.filter _↔_
        rw[List.mem_filter,decide_eq_true_iff]
        exact⟨λh=>h.2,λh=>⟨hsub p h,h⟩⟩
      have hD1:∀t,t∈D'.map Prod.fst↔t∈D.map Prod.fst:=λt=>by
        simp only[List.mem_map]
        exact⟨λ⟨p,hp,e⟩=>⟨p,(hD' p).1 hp,e⟩,λ⟨p,hp,e⟩=>⟨p,(hD' p).2 hp,e⟩⟩
      have hD2:∀t,t∈D'.map Prod.snd↔t∈D.map Prod.snd:=λt=>by
        simp only[List.mem_map]
        exact⟨λ⟨p,hp,e⟩=>⟨p,(hD' p).1 hp,e⟩,λ⟨p,hp,e⟩=>⟨p,(hD' p).2 hp,e⟩⟩
      have hlD:D'.length≠A.length:=by
        have h1:=iS D' D (hAn.filter _) (λp hp=>(hD' p).1 hp)
        omega
      have hcD:rv dep D'=true:=by
        unfold rv
        simp only[List.all_eq_true,List.contains_iff_mem]
        exact λp hp t ht=>(hD2 t).2 (hcl p ((hD' p).1 hp) t ht)
      have hr0:=List.all_eq_true.1 hrd D' (jW _ A)
      rw[decide_eq_false hlD,hcD] at hr0
      simp only[Bool.not_true,Bool.or_false,Bool.false_or,Bool.and_eq_true] at hr0
      obtain⟨hr1,hne⟩:=hr0
      have hr:=of_decide_eq_true hr1
      have em:bY l.length (D'.map Prod.fst++done)=bY l.length (D.map Prod.fst++done):=kJ λt=>by
        simp only[List.mem_append];rw[hD1 t]
      rw[em] at hr
      have hnx:∀p,p∈n8 dep A D'->p∈A/\p∉D/\∀t∈dep p.2,t∈D.map Prod.snd:=λp hp=>by
        unfold n8 at hp
        rw[List.mem_filter,Bool.and_eq_true,List.all_eq_true] at hp
        obtain⟨h1,h2,h3⟩:=hp
        refine⟨h1,λk=>?_,λt ht=>(hD2 t).1 (List.contains_iff_mem.1 (h3 t ht))⟩
        have:p.1∈D'.map Prod.fst:=List.mem_map.2 ⟨p,(hD' p).2 k,rfl⟩
        simp[this] at h2
      intro a ha
      refine⟨λh0=>?_,λk hk2=>?_⟩
      · rw[hr] at h0
        have h5:n8 dep A D'=[]:=List.map_eq_nil_iff.1 h0
        rw[h5] at hne;cases hne
      · rw[hr] at hk2
        obtain⟨p,hp0,rfl⟩:=List.mem_map.1 hk2
        obtain⟨hp,hpD,hdp⟩:=hnx p hp0
        obtain⟨hq,o,hi,hdst,hdk,ho⟩:=hop p hp
        have hlt:p.1<l.length:=(List.getElem?_eq_some_iff.1 hi).1
        have hq':decide (p.1∈qs)=false:=by simpa using hq
        have hd2:p.2∉D.map Prod.snd:=by
          intro k
          obtain⟨q,hq2,e⟩:=List.mem_map.1 k
          have:q=p:=lJ hnd (hsub q hq2) hp e
          rw[this] at hq2;exact hpD hq2
        obtain⟨hw1,hw2⟩:=ho (lH f val (D.map Prod.snd)) val (λt ht=>by
          unfold lH
          have:(D.map Prod.snd).contains t=false:=by
            cases hc2:(D.map Prod.snd).contains t with
            |false=>rfl
            |true=>
              obtain⟨q,hq2,e⟩:=List.mem_map.1 (List.contains_iff_mem.1 hc2)
              have:(A.map Prod.snd).contains t=true:=List.contains_iff_mem.2 (List.mem_map.2 ⟨q,hsub q hq2,e⟩)
              rw[this] at ht;cases ht
          rw[this];rfl) (λt ht=>by
          unfold lH
          rw[List.contains_iff_mem.2 (hdp t ht)];rfl)
        simp only[hq',Bool.false_eq_true,if_false]
        refine fc ha hi hw1 (hw2 γ' w' (λt ht=>?_)) λv w2 ⟨γ2,c2,h2⟩=>?_
        · obtain⟨q,hq2,e⟩:=List.mem_map.1 (hdp t ht)
          rw[<-e];exact hF q hq2
        rw[cX _ hlt]
        have hc2:bv no γ w γ2 w2:=hc.trans c2 (λ_ _ h=>h.elim id id)
        have hval:∀q:Nat×Nat,(∀t∈dep q.2,t∈D.map Prod.snd)->(dep q.2).map (λt=>if t=p.2 then v else val t)=(dep q.2).map val:=λq hq2=>List.map_congr_left λt ht=>by
          rw[if_neg]
          intro e
          exact hd2 (by rw[<-e];exact hq2 t ht)
        have hnext:=ih (p::D) (λt=>if t=p.2 then v else val t) γ2 w2 (List.nodup_cons.2 ⟨hpD,hD⟩) (λq hq2=>(List.mem_cons.1 hq2).elim (λe=>by rw[e];exact hp) (hsub q)) (λq hq2 t ht=>by
          rw[List.map_cons]
          rcases List.mem_cons.1 hq2 with e|e
          · rw[e] at ht;exact List.mem_cons_of_mem _ (hdp t ht)
          · exact List.mem_cons_of_mem _ (hcl q e t ht)) (by rw[List.length_cons];omega) hc2 (λq hq2=>by
          rcases List.mem_cons.1 hq2 with e|e
          · rw[e,if_pos rfl,hval p hdp];exact h2
          · have hne:q.2≠p.2:=λk=>hd2 (by rw[<-k];exact List.mem_map.2 ⟨q,e,rfl⟩)
            rw[if_neg hne,hval q (hcl q e)]
            exact hst q (hsub q e) _ _ _ _ _ _ c2 (hF q e))
        have ef:fM (lH f val (D.map Prod.snd)) o.dst v=lH f (λt=>if t=p.2 then v else val t) ((p::D).map Prod.snd):=by
          rw[hdst,vf hd2];rfl
        have:=hnext (a.put o.dst v) (by rw[<-ef];exact ha.put hdk v)
        exact this
  have h0:=main A.length [] (λ_=>undef) γ w List.nodup_nil (λp hp=>absurd hp List.not_mem_nil) (λp hp=>absurd hp List.not_mem_nil) (by simp) (bv.refl _ _ _) (λp hp=>absurd hp List.not_mem_nil)
  have e0:lH f (λ_=>undef) (([]:List (Nat×Nat)).map Prod.snd)=f:=by
    funext t;rfl
  rw[e0] at h0
  exact h0
end
end TL
namespace TL
open Go
structure Mk where
  op:Nat
  slot:Nat
  dep:List Nat
  ok:List Value->aG->World->Value->Prop
def uT:List Mk->Prop
 |[]=>True
 |p::r=>(∀vs γ w γ' w' v,bv no γ w γ' w'->p.ok vs γ w v->p.ok vs γ' w' v)/\uT r
def gk:List Mk->Nat->List Nat
 |[],_=>[]
 |p::r,t=>bif Nat.beq t p.slot then p.dep else gk r t
def kd:List Mk->Nat->List Value->aG->World->Value->Prop
 |[],_=>λ_ _ _ _=>False
 |p::r,t=>bif Nat.beq t p.slot then p.ok else kd r t
def vm(P:Program)(n:Nat)(l:List Oper)(qs:List Nat)(f:Fr)(L:List Mk)(S:List Nat):List Mk->Prop
  |[]=>True
  |p::r=>(qs.contains p.op=false/\∃o,l[p.op]? =some o/\o.dst=some p.slot/\jY n o=true/\∀(f':Fr) (val:Nat->Value),(∀t,S.contains t=false->f' t=f t)->(∀t∈p.dep,f' t=val t)->cM l o f'=true/\∀γ w,(∀t∈p.dep,kd L t ((gk L t).map val) γ w (val t))->eZ P o f' w λv w'=>∃γ',bv no γ w γ' w'/\p.ok (p.dep.map val) γ' w' v)/\vm P n l qs f L S r
theorem uT.mem{L:List Mk}(h:uT L):∀p∈L,∀vs γ w γ' w' v,bv no γ w γ' w'->p.ok vs γ w v->p.ok vs γ' w' v:=by
 induction L with
 |nil=>intro p hp;exact absurd hp List.not_mem_nil
 |cons a L ih=>
   intro p hp
   rcases List.mem_cons.1 hp with e|e
   · rw[e];exact h.1
   · exact ih h.2 p e
theorem lZ{a b:Nat}(h:a≠b):Nat.beq a b=false:=by
 cases k:Nat.beq a b with
 |false=>rfl
 |true=>exact absurd (Nat.eq_of_beq_eq_true k) h
theorem jn:∀{L:List Mk},(L.map Mk.slot).Nodup->∀p∈L,gk L p.slot=p.dep/\kd L p.slot=p.ok
 |[],_,p,hp=>absurd hp List.not_mem_nil
 |a::L,h,p,hp=>by
   rw[List.map_cons,List.nodup_cons] at h
   rcases List.mem_cons.1 hp with e|e
   · rw[e];unfold gk kd;rw[Nat.beq_refl];exact⟨rfl,rfl⟩
   · have hne:p.slot≠a.slot:=λk=>h.1 (by rw[<-k];exact List.mem_map.2 ⟨p,e,rfl⟩)
     unfold gk kd
     rw[lZ hne];exact jn h.2 p e
def kD(K:Fr->Prop)(γ:aG)(w:World):List Mk->List (Nat×Value)->Fr->Prop
  |[],_,f=>K f
  |p::r,env,f=>∀v,p.ok (p.dep.map λt=>(env.lookup t).getD undef) γ w v->kD K γ w r ((p.slot,v)::env) (fM f (some p.slot) v)
def pO:List Mk->List Nat->Bool
 |[],_=>true
 |p::r,S=>(p.dep.all λt=>S.contains t)&&pO r (p.slot::S)
theorem rV{f:Fr}{val:Nat->Value}{d:Nat}{S:List Nat}:lH (fM f (some d) (val d)) val S=lH f val (d::S):=by
 funext t
 unfold lH fM
 simp only
 by_cases c:t=d
 · subst c
   have e1:(t::S).contains t=true:=by simp
   rw[e1,Nat.beq_refl];cases S.contains t<;>rfl
 · have e1:Nat.beq t d=false:=lZ c
   have e2:(d::S).contains t=S.contains t:=by
     rw[Bool.eq_iff_iff]
     simp[c]
   rw[e1,e2];rfl
theorem kD.use{K:Fr->Prop}{γ:aG}{w:World}{val:Nat->Value}:∀{L:List Mk} {env:List (Nat×Value)} {f:Fr},kD K γ w L env f->(∀t∈env.map Prod.fst,(env.lookup t).getD undef=val t)->pO L (env.map Prod.fst)=true->(∀p∈L,p.ok (p.dep.map val) γ w (val p.slot))->K (lH f val (L.map Mk.slot))
 |[],_,f,h,_,_,_=>by
   have:lH f val (([]:List Mk).map Mk.slot)=f:=by funext t;rfl
   rw[this];exact h
 |p::L,env,f,h,he,ht,hF=>by
   unfold pO at ht
   rw[Bool.and_eq_true,List.all_eq_true] at ht
   have e1:p.dep.map (λt=>(env.lookup t).getD undef)=p.dep.map val:=List.map_congr_left λt h1=>he t (List.contains_iff_mem.1 (ht.1 t h1))
   have h2:=h (val p.slot) (by rw[e1];exact hF p (List.mem_cons_self ..))
   have:=kD.use h2 (λt h3=>by
     rw[List.lookup_cons]
     by_cases c:t=p.slot
     · rw[c];simp
     · have:(t==p.slot)=false:=by simpa using c
       rw[this]
       exact he t ((List.mem_cons.1 h3).resolve_left c)) ht.2 (λq hq=>hF q (List.mem_cons_of_mem _ hq))
   rw[rV] at this;exact this
section
variable{P:Program}{n:Nat}{l:List Oper}{qs:List Nat}{K:Fr->World->Prop}{f:Fr}{w:World}{done:List Nat}{fuel:Nat}{S:List Nat}
theorem vm.mem{L M:List Mk}(h:vm P n l qs f M S L):∀p∈L,qs.contains p.op=false/\∃o,l[p.op]? =some o/\o.dst=some p.slot/\jY n o=true/\∀(f':Fr) (val:Nat->Value),(∀t,S.contains t=false->f' t=f t)->(∀t∈p.dep,f' t=val t)->cM l o f'=true/\∀γ w,(∀t∈p.dep,kd M t ((gk M t).map val) γ w (val t))->eZ P o f' w λv w'=>∃γ',bv no γ w γ' w'/\p.ok (p.dep.map val) γ' w' v:=by
 induction L with
 |nil=>intro p hp;exact absurd hp List.not_mem_nil
 |cons a L ih=>
   intro p hp
   rcases List.mem_cons.1 hp with e|e
   · rw[e];exact h.1
   · exact ih h.2 p e
theorem eZ.mono{o:Oper}{N N':Value->World->Prop}(h:eZ P o f w N)(hN:∀v w,N v w->N' v w):eZ P o f w N':=by
 unfold eZ at*
 generalize(execOp (ev f) o).run P w=r at*
 cases r with
 |halt x w'=>exact h.elim
 |ok nx w'=>
   cases nx<;>simp only[px] at h ⊢
   case value v=>exact hN _ _ h
   case skip=>exact hN _ _ h
   case enter g args=>
     refine h.mono λe w'' he=>?_
     cases e with
     |returned v=>exact hN _ _ he
     |panicked c=>exact he.elim
     |outgrown=>exact he.elim
theorem u6(γ:aG)(L:List Mk)(A:List (Nat×Nat))(fu:Nat)(hA:L.map (λp=>(p.op,p.slot))=A)(hst:uT L)(hnd0:(A.map Prod.snd).Nodup)(hnf:(A.map Prod.fst).Nodup)
    (hrd:xE l done (gk L) A=true)(htp:pO L []=true)
    (hfu:fu=fuel+A.length)(hop:vm P n l qs f L (A.map Prod.snd) L)
    (hk:∀γ' w',bv no γ w γ' w'->kD (λf'=>iW P n l qs K fuel (A.map Prod.fst++done) f' w') γ' w' L [] f):iW P n l qs K fu done f w:=by
  subst hfu
  have e1:A.map Prod.snd=L.map Mk.slot:=by rw[<-hA,List.map_map];rfl
  have hnd:(L.map Mk.slot).Nodup:=by rw[<-e1];exact hnd0
  refine wc A (gk L) (kd L) γ (λq hq=>?_) hnd0 hnf hrd (λq hq=>?_) (λval γ' w' hc hF=>?_)
  · rw[<-hA] at hq
    obtain⟨p,hp,rfl⟩:=List.mem_map.1 hq
    intro vs γ w γ' w' v hc
    show kd L p.slot vs γ w v->kd L p.slot vs γ' w' v
    rw[(jn hnd p hp).2];exact hst.mem p hp vs γ w γ' w' v hc
  · rw[<-hA] at hq
    obtain⟨p,hp,rfl⟩:=List.mem_map.1 hq
    obtain⟨a,o,b,c,d,e⟩:=hop.mem p hp
    show qs.contains p.op=false/\∃o,l[p.op]? =some o/\o.dst=some p.slot/\jY n o=true/\∀(f':Fr) (val:Nat->Value),(∀t,(A.map Prod.snd).contains t=false->f' t=f t)->(∀t∈gk L p.slot,f' t=val t)->cM l o f'=true/\∀γ w,(∀t∈gk L p.slot,kd L t ((gk L t).map val) γ w (val t))->eZ P o f' w λv w'=>∃γ',bv no γ w γ' w'/\kd L p.slot ((gk L p.slot).map val) γ' w' v
    rw[(jn hnd p hp).1,(jn hnd p hp).2]
    exact⟨a,o,b,c,d,e⟩
  · have h1:=(hk γ' w' hc).use (val:=val) (λt ht=>absurd ht List.not_mem_nil) htp (λp hp=>by
      have:=hF (p.op,p.slot) (by rw[<-hA];exact List.mem_map.2 ⟨p,hp,rfl⟩)
      have h2:kd L p.slot ((gk L p.slot).map val) γ' w' (val p.slot):=this
      rw[(jn hnd p hp).1,(jn hnd p hp).2] at h2;exact h2)
    rw[e1];exact h1
theorem tq{o:Oper}{v:Value}{N:Value->World->Prop}(h:(execOp (ev f) o).run P w= .ok (.value v) w)(hk:N v w):eZ P o f w N:=by unfold eZ;rw[h];exact hk
end
theorem iB{t:Nat}{l:List Nat}(h:l.contains t=true):t∈l:=List.contains_iff_mem.1 h
theorem n9{f:Fr}{i:Nat}{x:Operand}{xs:List (Nat×Operand)}{v:Value}{vs:List (Nat×Value)}(h:ev f x=v)(h2:xs.map (λx=>(x.1,ev f x.2))=vs):((i,x)::xs).map (λx=>(x.1,ev f x.2))=(i,v)::vs:=by subst h h2;rfl
end TL
/-
  TlPost: what is owed behind a law that returns true and writes nothing of the caller's.
  By an AI agent.
-/
namespace TL
open Go Go.Proofs Go.ChangeShapes Go.WideShapes Go.RowKit
def pK(P:Program)(ts:List TypeId):Bool:=ts.all λt=>P.readableRec t&&decide (t<P.types.size)
theorem m6{H:Type}{enc:TypeId×Value->H}{P:Program}(hl:laidOutB P=true){W W':World}(hb:Below W.heap.size W W')(sp:Nat->Bool):
   ∀{ts:List TypeId} {vs:List Value} {ds:List (DataW H)} {ps:List MemPlace},pK P ts=true->DataW.TrodAll enc P W 0 (λ_=>true) true ts vs ds ps->(∀p∈ps,p.block<W.heap.size)->(∀p∈ps,sp p.block=true)->DataW.TrodAll enc P W' 0 sp true ts vs ds ps
 |[],[],[],_,_,h,_,_=>h
 |[],[],_::_,_,_,h,_,_=>h.elim
 |[],_::_,_,_,_,h,_,_=>by cases‹List (DataW H)›<;>exact h.elim
 |_::_,[],_,_,_,h,_,_=>by cases‹List (DataW H)›<;>exact h.elim
 |_::_,_::_,[],_,_,h,_,_=>h.elim
 |t::ts,v::vs,d::ds,ps,hr,h,hlt,hsp=>by
   obtain⟨p,q,h1,h2,rfl⟩:=h
   simp only[pK,List.all_cons,Bool.and_eq_true,decide_eq_true_eq] at hr
   exact⟨p,q,WideElems.Trod_stays hl hr.1.1 hr.1.2 h1 (λx hx=>hb.same (hlt x (by simp[hx]))) (λx hx=>hsp x (by simp[hx])),
     m6 hl hb sp hr.2 h2 (λx hx=>hlt x (by simp[hx])) (λx hx=>hsp x (by simp[hx])),rfl⟩
theorem sI{H:Type}{enc:TypeId×Value->H}{P:Program}{f:Func}{s:ChangeSpec}{W W':World}{args:Array Value}{ds gs:List (DataW H)}{before:List MemPlace}{tb:TypeId}
   (hl:laidOutB P=true)(hr:pK P f.params.toList=true)(hv:s.vars=[])(hrt:f.resultTypes= #[tb])(htb:P.underlying tb=some .bool)
   (hW:DataW.Whole enc P f.params.toList s.vars false W args.toList ds gs before)(hfn:s.fn H (ds++gs)={results:=[.lit (.bool true)],args:=ds})(hB:Below W.heap.size W W'):
   s.post enc P f false true false false W args (.bool true) W':=by
 have hlt:=hW.lt
 have hW0:=hW
 obtain⟨p,q,hA,hV,rfl,hfz,_⟩:=hW
 rw[hv] at hV
 obtain⟨rfl,rfl⟩:=trodVars_none hV
 simp only[List.append_nil] at hlt hfz hW0 hfn
 have hres:∀(b:Nat) (sp:Nat->Bool) (hd:Bool),DataW.TrodAll enc P W' b sp hd f.resultTypes.toList ((Value.bool true).resultList f.resultTypes.size) (s.fn H (ds++[])).results []:=λb sp hd=>by
   rw[hrt,List.append_nil,hfn]
   exact trodAll_cons_mk (shut_bool htb true) trodAll_mk0
 have hargs:∀sp:Nat->Bool,(∀x∈p,sp x.block=true)->DataW.TrodAll enc P W' 0 sp true f.params.toList args.toList (s.fn H (ds++[])).args p:=λsp hsp=>by
   rw[List.append_nil,hfn]
   exact m6 hl hB sp hr hA hlt hsp
 have hvars:∀sp:Nat->Bool,DataW.TrodVars enc P W' sp s.vars (s.fn H (ds++[])).vars []:=λsp=>by
   rw[List.append_nil,hfn,hv]
   rfl
 refine⟨ds,[],p,[],p,[],hW0,hres _ _ _,hargs _ (λx hx=>by simpa using hlt x hx),hvars _,World.keptBut_mono (λx hx=>⟨hx,Or.inr (by simpa using hx)⟩) (hB.frame _),λ_=>?_⟩
 refine⟨?_,_,_,([]++p)++[],⟨[]++p,[],trodAll_append (hargs _ (λ_ _=>rfl)) (hres _ _ _),hvars _,rfl,?_,?_⟩,?_⟩
 · exact ok_one hrt rfl (okWide_bool_mk htb true)
 · intro b off hp
   have hp':MemPlace.cell b off∈p:=by simpa using hp
   rw[hB.frozen (p:=⟨b,off,none⟩) (hlt _ hp')]
   exact hfz b off hp'
 · intro ha;cases ha
 · intro x hx _
   simpa using hx
end TL
